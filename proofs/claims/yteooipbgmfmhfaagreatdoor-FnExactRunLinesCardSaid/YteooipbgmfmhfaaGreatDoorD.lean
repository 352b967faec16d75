/- An evaluator of Go functions on plain data, its soundness, and plain laws on what the functions compute, part 4 (conditions: as each lemma tells). -/
import Derived.Test.YteooipbgmfmhfaaGreatDoorC
set_option linter.unusedSimpArgs false
set_option linter.unusedVariables false
namespace KF
open Go
open List renaming length → ja, getElem?_eq_getElem → je, append → jf, mem_append → jl, mem_cons → jp, mem_cons_of_mem → jr, length_cons → jw, set → j5, length_nil → j6, mem_singleton → qb, length_append → qc, getD_eq_getElem?_getD → qe, getElem_mem → qi, getElem_of_mem → qj, mem_map → qk, length_drop → ql, ext_getElem? → qp, drop_drop → qq, toArray → qr, getD → qs, getElem?_eq_none → qt, mem_append_left → qu, mem_append_right → qv, any_eq_true → qy, append_assoc → q0, eq_nil_of_length_eq_zero → q7, getElem?_eq_some_iff → q8, length_eq_one_iff → q9, replicate → yd, nil_append → yg, cons_append → yh, map_cons → yk, nodup_cons → ym, nodup_append → yn, size_toArray → yo, flatten_cons → yp, length_map → yr, mem_map_of_mem → yv, map_append → yw, all_eq_true → yx, append_nil → yy, range → y3, map → zd, append_eq → ze, not_mem_nil → zf
open Option renaming bind_some → jb, bind → jz, map_some → qa, bind_eq_some_iff → qd, getD_some → qz, map_eq_some_iff → yz
open Option.some renaming injEq → jc, inj → zb
open Bool renaming and_eq_true → jd, not_true → jg, true_and → jk, false_eq_true → jq, not_false → j7, not_eq_true → j8, false_and → qh, eq_iff_iff → qm, or_eq_true → qx, not_eq_true' → yl, or_eq_false_iff → yt, false_or → yu
open Prod.mk renaming injEq → jh
open Nat renaming ble_eq_true_of_le → ji, mul_le_mul_right → jm, le_refl → jo, zero_add → js, add_assoc → jt, eq_of_beq_eq_true → ju, ble → jx, le_trans → j9, lt_of_lt_of_le → qg, beq → qw, le_of_ble_eq_true → q6, add_zero → ya, blt → yb, blt_eq → ye, add_mul → yf, beq_refl → yj, succ_mul → yq
open Int renaming toNat_natCast → jn, eq_ofNat_of_zero_le → jv, toNat → jy, tmod → yc
open Go.IntKind renaming wrap → j4
open Sum renaming elim_inl → qf
open Result renaming andThen_ok → qn
open Sem renaming run_bind → qo
open List.cons renaming injEq → yi
open Sum.inl renaming injEq → za
abbrev int:Ty:=.i .i64
abbrev ZO:Ty:=.i .u8
abbrev Sh:Ty:=(.p int (.p int .u))
abbrev Lc:Type:=(Int×(Int×Unit))
abbrev Lb:Ty:=(.p int (.p (.sl int) .u))
abbrev Ca:Type:=(Int×((List Int)×Unit))
abbrev Pm:Ty:=(.p int (.p int (.p .b .u)))
abbrev Xa:Type:=(Int×(Int×(Bool×Unit)))
abbrev Qd:Ty:=(.p int Sh)
abbrev Ta:Type:=(Int×Lc)
abbrev Xar:Type:=((List Int)×Lc)
abbrev Bc:Ty:=(.p int Qd)
abbrev Ia:Type:=(Int×Ta)
abbrev Wg:Ty:=(.p int (.p Lb .u))
abbrev Qc:Type:=(Int×(Ca×Unit))
abbrev Gl:Ty:=(.p int (.p Bc .u))
abbrev La:Type:=(Int×(Ia×Unit))
abbrev Bb:Ty:=(.p int (.p (.sl (.sl Bc)) .u))
abbrev Ea:Type:=(Int×((List (List Ia))×Unit))
abbrev Rb:Ty:=(.p Bb (.p (.sl (.sl Qd)) (.p int (.p (.sl Gl) (.p int (.p .b .u))))))
abbrev Gb:Type:=(Ea×((List (List Ta))×(Int×((List La)×(Int×(Bool×Unit))))))
abbrev Cd:Ty:=(.p Rb (.p Qd (.p (.sl Pm) Bc)))
abbrev Cb:Type:=(Gb×(Ta×((List Xa)×Ia)))
abbrev Zc:Ty:=(.p Cd (.p (.sl Wg) .u))
abbrev Oa:Type:=(Cb×((List Qc)×Unit))
abbrev AI:Type:=Ta
def HH:List UInt8:=[97,32,98,32,99,32,100,32,101,32,102,32,103,32,104,32,105,32,106,32,107,32,108,32,109,32,110,32,111,32,112,32,113,32,114,32,115,32,116,32,117,32,118,32,119,32,120,32,121,32,122,32,49,32,50,32,51,32,52,32,53,32,54,32,55,32,56,32,57,32,48,32,101,110,116,101,114,32,101,115,99,32,98,97,99,107,32,116,97,98,32,115,112,97,99,101,32,109,105,110,117,115,32,101,113,117,97,108,32,108,101,102,116,32,114,105,103,104,116,32,117,112,32,100,111,119,110,32,102,49,32,102,50,32,102,51,32,102,52,32,102,53,32,102,54,32,102,55,32,102,56,32,102,57]
def MN:List UInt8:=[67,83,65,71]
def Lp:List UInt8:=[109,97,99,114,111]
def Ek:List UInt8:=[110,111,110,101]
def Dk:List UInt8:=[112,97,115,115]
def Hg:List UInt8:=[111,110,99,101,58]
def Vi:List UInt8:=[109,97,99,114,111,58]
def Ui:List UInt8:=[99,97,112,115]
def Gm:List UInt8:=[115,112,97,99,101]
def Em:List UInt8:=[109,105,110,117,115]
def Dm:List UInt8:=[101,113,117,97,108]
def Fm:List UInt8:=[101,110,116,101,114]
def Wi:List UInt8:=[33,64,35,36,37,94,38,42,40,41]
def Lk:List UInt8:=[97,32,98,32,109,111,58,49,32,83,47,99,32,50,47,100,32,111,110,99,101,58,83,32,124,32,49,32,112,97,115,115,32,112,97,115,115,32,50,32,116,103,58,50,32,99,97,112,115,32,124,32,102,49,32,116,111,58,48,32,112,97,115,115,32,112,97,115,115,32,108,101,102,116,32,116,103,58,50]
def Od:List UInt8:=[48,49,50,51,52,53,54,55,56,57,97,98,99,100,101,102]
def NE:List UInt8:=[107,101,121,109,97,112]
def VA:List UInt8:=[108,97,121,101,114,115]
def WA:List UInt8:=[114,101,112,111,114,116]
def UA:List UInt8:=[113,117,101,117,101]
def TA:List UInt8:=[116,121,112,101,100]
def Kk:List UInt8:=[107,101,121,115,32]
def Ua:List UInt8:=[119,104,97,116]
def Gc:List UInt8:=[119,97,105,116]
def Mk:List UInt8:=[109,97,99,114,111,32]
def Uc:List UInt8:=[100,111,119,110]
def Ad:List UInt8:=[116,105,109,105,110,103]
def Vb:List UInt8:=[119,97,121,32]
def LJ:List UInt8:=[107,101,121,115]
noncomputable section
open Option renaming bind→ob
open Go.IntKind renaming wrap→wr
open Int renaming toNat→tn
open List renaming length→ln,append→ap,set→ls
open Sum renaming elim→se
open Nat renaming ble→bl
abbrev Sb:Type:=List UInt8
abbrev Oh:Type:=Int×Unit
abbrev Be:Type:=Bool×Unit
abbrev Ge:Type:=List Int
abbrev Wf:Type:=Unit×Unit
abbrev Im:Type:=Ea×Unit
abbrev Vn:Type:=List Xa
abbrev Eh:Type:=List Ca
abbrev VN:Type:=List Lc
abbrev Fe:Type:=List La
abbrev Cl:Type:=List Ia
abbrev Bg:Type:=List Ta
abbrev Ai:Type:=List Qc
abbrev Xp:Type:=Gb×Unit
abbrev Hd:Type:=List Sb
abbrev Ns:Type:=Unit×Oh
abbrev RY:Type:=Ge×Lc
abbrev Mh:Type:=Sb×Unit
abbrev UB:Type:=Be×Unit
abbrev SY:Type:=Unit×Lc
abbrev Ei:Type:=Ca×Unit
abbrev Gv:Type:=Ca×Ei
abbrev EL:Type:=Ge×Unit
abbrev VB:Type:=Ea×Im
abbrev Zab:Type:=(Oh×Unit)⊕Wf
abbrev TY:Type:=Int×(Vn×Lc)
abbrev WN:Type:=Ge×Oh
abbrev Aac:Type:=VN×Lc
abbrev UY:Type:=List Ge
abbrev FL:Type:=Wf⊕(Oh×Unit)
abbrev Bac:Type:=(List Cl)×(Int×(Int×(Cl×Lc)))
abbrev GL:Type:=Unit×Wf
abbrev IQ:Type:=Cb×Unit
abbrev QG:Type:=Sb×Oh
abbrev Cac:Type:=Unit×Ns
abbrev XN:Type:=Wf⊕UB
abbrev Py:Type:=Hd×Lc
abbrev RG:Type:=Hd×Oh
abbrev SaT:Type:=Vn×Unit
abbrev Aap:Type:=(Fe×(Unit×(Unit×(Ge×(Int×(Bool×Oh))))))×Gv
abbrev GI:Type:=Ta×Unit
abbrev YN:Type:=List (Int×Ge)
abbrev Bw:Type:=Ia×Unit
abbrev VY:Type:=Int×Be
abbrev KQ:Type:=(List Cl)×Lc
abbrev HL:Type:=Hd×Unit
abbrev SG:Type:=Oa×Unit
abbrev Oy:Type:=Oa×SG
abbrev FaD:Type:=Unit×Ta
abbrev A4:Type:=Lc×Unit
abbrev WY:Type:=(EL×Unit)⊕Wf
abbrev Cw:Type:=List Bg
abbrev Bap:Type:=Int×Ns
abbrev B4:Type:=Unit×(Ai×Unit)
abbrev XY:Type:=Unit×Cac
abbrev UT:Type:=(Fe×Cac)×Gv
abbrev YY:Type:=(HL×Unit)⊕Wf
abbrev Dac:Type:=Unit×RY
abbrev ZN:Type:=Eh×Unit
abbrev ZY:Type:=Cb×(Ai×Be)
abbrev Cap:Type:=Gb×Xp
abbrev Eac:Type:=(Int×Bap)×Im
abbrev Dap:Type:=Int×RY
abbrev GaD:Type:=(Hd×(Unit×QG))×SG
abbrev Eap:Type:=(Unit×(UY×((List Bool)×WN)))×Im
abbrev HaD:Type:=Gb×(Eh×Be)
abbrev AO:Type:=Fe×Lc
abbrev JQ:Type:=(Int×AO)×Unit
abbrev LQ:Type:=Ai×Lc
abbrev Fac:Type:=(Sb×(Int×Py))×Unit
abbrev VT:Type:=Oa×Mh
abbrev Gac:Type:=Ge×Be
abbrev C4:Type:=(ZN×Unit)⊕Wf
abbrev Fap:Type:=((Unit×(Unit×EL))×Gv)⊕Wf
abbrev IaD:Type:=(Sb×(Unit×(Unit×(Cl×(Hd×(Int×(Int×Py)))))))×VB
abbrev PS:Type:=Ge×RY
abbrev U3:Type:=Unit×WN
abbrev UaJ:Type:=Unit×GL
abbrev V3:Type:=Unit×RG
abbrev Yar:Type:=Aap⊕(((Fe×(Unit×(Unit×(Ge×VY))))×Gv)⊕Wf)
abbrev Wac:Type:=(Unit×B4)×(Cb×IQ)
abbrev W3:Type:=VN×(Bg×Lc)
abbrev X3:Type:=(Mh×Unit)⊕Wf
abbrev VaJ:Type:=(EL×Unit)⊕(Gac×Unit)
abbrev Zar:Type:=(Ge×Xar)×Unit
abbrev Aas:Type:=VY×Unit
abbrev Y3:Type:=Unit×(Hd×RY)
abbrev Xac:Type:=(Eh×(Unit×QG))×Ei
abbrev Yac:Type:=(Unit×(YN×EL))×Im
abbrev Bas:Type:=(Ge×WN)×Unit
abbrev Z3:Type:=(Int×QG)×Unit
abbrev Cas:Type:=(Unit×(Sb×(Unit×(Eh×(Int×Dap)))))×Gv
abbrev Das:Type:=(Unit×(Ai×(Int×((Eh×Int)×Oh))))×IQ
abbrev Eas:Type:=(Unit×(UY×((List Bool)×(Ge×Ta))))×Im
abbrev Lf:Oa:=((((0,[],()),[],0,[],0,false,()),(0,0,0,()),[],0,0,0,0,()),[],())
abbrev Cg:Cb:=(((0,[],()),[],0,[],0,false,()),(0,0,0,()),[],0,0,0,0,())
abbrev Hy:Gb:=((0,[],()),[],0,[],0,false,())
def Sc(a0:Int)(a1:Int)(a2:Int):Option Be:=
 (cond (decide (a0≥a1))
 (some ((decide (a0≤a2)),()))
 (some (false,())))
def EB(a0:Ca):Option Ei:=
 (cond (bl (ln ([]:List Int)+ln a0.2.1) Sa)
 (some ((a0.1,(ap [] a0.2.1),()),()))
 none)
def Wu(t0:Ai)(t3:Eh)(t4:Int):Option (((Ai×(Eh×Oh))×Unit)⊕C4):=
 (cond (decide (t4<((ln t0:Nat):Int)))
 (ob (Wb t0 t4) fun x5=>
 (ob (EB x5.2.1) fun r6=>
 (cond (bl (ln t3+ln ([r6.1]:List Ca)) Sa)
 (some (.inl ((t0,(ap t3 ([r6.1]:List Ca)),(wr .i64 (t4+1)),()),())))
 none)))
 (some (.inr (.inl ((t3,()),())))))
def Xx:=Eb fun x:((Ai×(Eh×Oh))×Unit)=>Wu x.1.1 x.1.2.1 x.1.2.2.1
def CF(a0:Ai):Option ZN:=
 (ob (Xx ((a0,[],0,()),())) (se (fun y7=>(some (y7.1.1,()))) (fun z8=>none)))
def Gk(a0:Ge):Option EL:=
 (cond (bl (ln ([]:List Int)+ln a0) Sa)
 (some ((ap [] a0),()))
 none)
def Hu(a0:Ca):Option Ei:=
 (ob (Gk a0.2.1) fun r1=>
 (some ((a0.1,r1.1,()),())))
def Zt(t3:Eh)(t6:Ai)(t7:Int)(t8:Int):Option (((Eh×LQ)×Unit)⊕C4):=
 (cond (decide (t8<t7))
 (ob (Wb t6 t8) fun x7=>
 (ob (Hu x7.2.1) fun r8=>
 (cond (bl (ln t3+ln ([r8.1]:List Ca)) Sa)
 (some (.inl (((ap t3 ([r8.1]:List Ca)),t6,t7,(wr .i64 (t8+1)),()),())))
 none)))
 (some (.inr (.inl ((t3,()),())))))
def Bx:=Eb fun x:((Eh×LQ)×Unit)=>Zt x.1.1 x.1.2.1 x.1.2.2.1 x.1.2.2.2.1
def SE(a0:Ai):Option ZN:=
 (ob (Bx (([],a0,((ln a0:Nat):Int),0,()),())) (se (fun y9=>(some (y9.1.1,()))) (fun z10=>none)))
def Ik(a0:Ia):Option Be:=
 (ob (Sc a0.2.1 1 56) fun r1=>
 (ob (Sc a0.2.2.1 1 15) fun r2=>
 (ob (Sc a0.2.2.2.1 1 3) fun r3=>
 (cond (a0.1==0)
 (cond (a0.2.1==0)
 (cond (a0.2.2.1==0)
 (some ((a0.2.2.2.1==0),()))
 (some (false,())))
 (some (false,())))
 (cond (a0.1==1)
 (cond (a0.2.1==0)
 (cond (a0.2.2.1==0)
 (some ((a0.2.2.2.1==0),()))
 (some (false,())))
 (some (false,())))
 (cond (a0.1==10)
 (cond (a0.2.1==0)
 (cond (a0.2.2.1==0)
 (some ((a0.2.2.2.1==0),()))
 (some (false,())))
 (some (false,())))
 (cond (a0.1==2)
 (cond (a0.2.2.2.1==0)
 (cond r1.1
 (cond r2.1
 (some (true,()))
 (some ((a0.2.2.1==0),())))
 (cond (a0.2.1==0)
 (cond r2.1
 (cond r2.1
 (some (true,()))
 (some ((a0.2.2.1==0),())))
 (some (false,())))
 (some (false,()))))
 (some (false,())))
 (cond (a0.1==3)
 (cond r3.1
 (cond (a0.2.1==0)
 (some ((a0.2.2.1==0),()))
 (some (false,())))
 (some (false,())))
 (cond (a0.1==4)
 (cond r3.1
 (cond (a0.2.1==0)
 (some ((a0.2.2.1==0),()))
 (some (false,())))
 (some (false,())))
 (cond (a0.1==5)
 (ob (Sc a0.2.2.2.1 0 3) fun r4=>
 (cond r4.1
 (cond (a0.2.1==0)
 (some ((a0.2.2.1==0),()))
 (some (false,())))
 (some (false,()))))
 (cond (a0.1==9)
 (ob (Sc a0.2.2.2.1 0 3) fun r5=>
 (cond r5.1
 (cond (a0.2.1==0)
 (some ((a0.2.2.1==0),()))
 (some (false,())))
 (some (false,()))))
 (cond (a0.1==6)
 (cond r1.1
 (cond r2.1
 (some ((a0.2.2.2.1==0),()))
 (some (false,())))
 (some (false,())))
 (cond (a0.1==7)
 (cond r1.1
 (cond r3.1
 (some ((a0.2.2.1==0),()))
 (some (false,())))
 (some (false,())))
 (cond (a0.1==8)
 (cond r2.1
 (cond (a0.2.1==0)
 (some ((a0.2.2.2.1==0),()))
 (some (false,())))
 (some (false,())))
 (some (false,()))))))))))))))))
def ZF(t1:Unit)(t3:Int)(t4:Int)(b1:Ea):Option ((SY×Im)⊕((Ns×Im)⊕UB)):=
 (ob (Wb b1.2.1 t3) fun x40=>
 (cond (decide (t4<((ln x40:Nat):Int)))
 (ob (Wb b1.2.1 t3) fun x41=>
 (ob (Wb x41 t4) fun x42=>
 (ob (Ik x42) fun r43=>
 (cond (!r43.1)
 (some (.inr (.inr ((false,()),()))))
 (cond (x42.1==1)
 (cond (t3==0)
 (some (.inr (.inr ((false,()),()))))
 (cond (x42.1 !=9)
 (cond (decide (x42.2.2.2.1≥((ln b1.2.1:Nat):Int)))
 (some (.inr (.inr ((false,()),()))))
 (some (.inl (((),t3,(wr .i64 (t4+1)),()),(b1,())))))
 (some (.inl (((),t3,(wr .i64 (t4+1)),()),(b1,()))))))
 (cond (x42.1 !=9)
 (cond (decide (x42.2.2.2.1≥((ln b1.2.1:Nat):Int)))
 (some (.inr (.inr ((false,()),()))))
 (some (.inl (((),t3,(wr .i64 (t4+1)),()),(b1,())))))
 (some (.inl (((),t3,(wr .i64 (t4+1)),()),(b1,()))))))))))
 (some (.inr (.inl (((),t3,()),(b1,())))))))
def Oq:=Eb fun x:(SY×Im)=>ZF x.1.1 x.1.2.1 x.1.2.2.1 x.2.1
def YF(t1:Unit)(t3:Int)(b1:Ea):Option ((Ns×Im)⊕((Wf×Im)⊕UB)):=
 (cond (decide (t3<((ln b1.2.1:Nat):Int)))
 (ob (Wb b1.2.1 t3) fun x31=>
 (cond (((ln x31:Nat):Int) !=b1.1)
 (some (.inr (.inr ((false,()),()))))
 (ob (Oq (((),t3,0,()),(b1,()))) (se (fun y44=>(some (.inl (((),(wr .i64 (y44.1.2.1+1)),()),(y44.2.1,()))))) (fun z45=>(some (.inr (.inr ((z45.1.1,()),())))))))))
 (some (.inr (.inl (((),()),(b1,()))))))
def Nq:=Eb fun x:(Ns×Im)=>YF x.1.1 x.1.2.1 x.2.1
def Cm(a0:Ea):Option Be:=
 (ob (Nq (((),0,()),(a0,()))) (se (fun y46=>(ob (Sc y46.2.1.1 1 32) fun r48=>
 (cond r48.1
 (ob (Sc ((ln y46.2.1.2.1:Nat):Int) 1 4) fun r49=>
 (some (r49.1,())))
 (some (false,()))))) (fun z47=>(some (z47.1.1,())))))
def Fo(a0:Ea)(a1:Int):Option Be:=
 (ob (Cm a0) fun r1=>
 (cond r1.1
 (cond (decide (0≤((ln a0.2.1:Nat):Int)))
 (ob (Sc a1 0 (wr .i64 ((Ke .i64 1 ((ln a0.2.1:Nat):Int))-1))) fun r2=>
 (cond r2.1
 (cond ((2:Int)==0)
 none
 (some (((yc a1 2)==0),())))
 (some (false,()))))
 none)
 (some (false,()))))
def Tq(a0:Int):Option Be:=
 (cond (decide (a0≥1))
 (some ((decide (a0≤56)),()))
 (some (false,())))
def Qv(a0:Int):Option Be:=
 (cond (decide (a0≥1))
 (some ((decide (a0≤15)),()))
 (some (false,())))
def Hx(a0:Int):Option Be:=
 (cond (decide (a0≥1))
 (some ((decide (a0≤3)),()))
 (some (false,())))
def Ri(a0:Ia):Option Be:=
 (cond (a0.1==0)
 (cond (a0.2.1==0)
 (cond (a0.2.2.1==0)
 (some ((a0.2.2.2.1==0),()))
 (some (false,())))
 (some (false,())))
 (cond (a0.1==1)
 (cond (a0.2.1==0)
 (cond (a0.2.2.1==0)
 (some ((a0.2.2.2.1==0),()))
 (some (false,())))
 (some (false,())))
 (cond (a0.1==10)
 (cond (a0.2.1==0)
 (cond (a0.2.2.1==0)
 (some ((a0.2.2.2.1==0),()))
 (some (false,())))
 (some (false,())))
 (cond (a0.1==2)
 (cond (a0.2.2.2.1==0)
 (cond (a0.2.1==0)
 (cond (a0.2.2.1==0)
 (cond (a0.2.1 !=0)
 (some (true,()))
 (some ((a0.2.2.1 !=0),())))
 (ob (Qv a0.2.2.1) fun r1=>
 (cond r1.1
 (cond (a0.2.1 !=0)
 (some (true,()))
 (some ((a0.2.2.1 !=0),())))
 (some (false,())))))
 (ob (Tq a0.2.1) fun r2=>
 (cond r2.1
 (cond (a0.2.2.1==0)
 (cond (a0.2.1 !=0)
 (some (true,()))
 (some ((a0.2.2.1 !=0),())))
 (ob (Qv a0.2.2.1) fun r3=>
 (cond r3.1
 (cond (a0.2.1 !=0)
 (some (true,()))
 (some ((a0.2.2.1 !=0),())))
 (some (false,())))))
 (some (false,())))))
 (some (false,())))
 (cond (a0.1==3)
 (cond (a0.2.1==0)
 (cond (a0.2.2.1==0)
 (ob (Hx a0.2.2.2.1) fun r4=>
 (some (r4.1,())))
 (some (false,())))
 (some (false,())))
 (cond (a0.1==4)
 (cond (a0.2.1==0)
 (cond (a0.2.2.1==0)
 (ob (Hx a0.2.2.2.1) fun r5=>
 (some (r5.1,())))
 (some (false,())))
 (some (false,())))
 (cond (a0.1==5)
 (cond (a0.2.1==0)
 (cond (a0.2.2.1==0)
 (cond (decide (a0.2.2.2.1≥0))
 (some ((decide (a0.2.2.2.1≤3)),()))
 (some (false,())))
 (some (false,())))
 (some (false,())))
 (cond (a0.1==9)
 (cond (a0.2.1==0)
 (cond (a0.2.2.1==0)
 (cond (decide (a0.2.2.2.1≥0))
 (some ((decide (a0.2.2.2.1≤3)),()))
 (some (false,())))
 (some (false,())))
 (some (false,())))
 (cond (a0.1==6)
 (ob (Tq a0.2.1) fun r6=>
 (cond r6.1
 (ob (Qv a0.2.2.1) fun r7=>
 (cond r7.1
 (some ((a0.2.2.2.1==0),()))
 (some (false,()))))
 (some (false,()))))
 (cond (a0.1==7)
 (ob (Tq a0.2.1) fun r8=>
 (cond r8.1
 (cond (a0.2.2.1==0)
 (ob (Hx a0.2.2.2.1) fun r9=>
 (some (r9.1,())))
 (some (false,())))
 (some (false,()))))
 (cond (a0.1==8)
 (cond (a0.2.1==0)
 (ob (Qv a0.2.2.1) fun r10=>
 (cond r10.1
 (some ((a0.2.2.2.1==0),()))
 (some (false,()))))
 (some (false,())))
 (some (false,())))))))))))))
def SF(t1:Unit)(t3:Int)(t28:(List Cl))(t29:Int)(t30:Int)(t40:Cl)(t41:Int)(t42:Int)(b1:Ea):Option (((Unit×(Int×Bac))×Im)⊕(((Unit×KQ)×Im)⊕UB)):=
 (cond (decide (t42<t41))
 (ob (Wb t40 t42) fun x24=>
 (ob (Ri x24) fun r25=>
 (cond (!r25.1)
 (some (.inr (.inr ((false,()),()))))
 (cond (t3==0)
 (cond (x24.1==1)
 (some (.inr (.inr ((false,()),()))))
 (cond (x24.1 !=9)
 (cond (decide (x24.2.2.2.1≥((ln b1.2.1:Nat):Int)))
 (some (.inr (.inr ((false,()),()))))
 (some (.inl (((),t3,t28,t29,t30,t40,t41,(wr .i64 (t42+1)),()),(b1,())))))
 (some (.inl (((),t3,t28,t29,t30,t40,t41,(wr .i64 (t42+1)),()),(b1,()))))))
 (cond (x24.1 !=9)
 (cond (decide (x24.2.2.2.1≥((ln b1.2.1:Nat):Int)))
 (some (.inr (.inr ((false,()),()))))
 (some (.inl (((),t3,t28,t29,t30,t40,t41,(wr .i64 (t42+1)),()),(b1,())))))
 (some (.inl (((),t3,t28,t29,t30,t40,t41,(wr .i64 (t42+1)),()),(b1,())))))))))
 (some (.inr (.inl (((),t28,t29,t30,()),(b1,()))))))
def Bq:=Eb fun x:((Unit×(Int×Bac))×Im)=>SF x.1.1 x.1.2.1 x.1.2.2.1 x.1.2.2.2.1 x.1.2.2.2.2.1 x.1.2.2.2.2.2.1 x.1.2.2.2.2.2.2.1 x.1.2.2.2.2.2.2.2.1 x.2.1
def RF(t1:Unit)(t28:(List Cl))(t29:Int)(t30:Int)(b1:Ea):Option (((Unit×KQ)×Im)⊕XN):=
 (cond (decide (t30<t29))
 (ob (Wb t28 t30) fun x19=>
 (cond (((ln x19:Nat):Int) !=b1.1)
 (some (.inr (.inr ((false,()),()))))
 (ob (Bq (((),t30,t28,t29,t30,x19,((ln x19:Nat):Int),0,()),(b1,()))) (se (fun y26=>(some (.inl (((),y26.1.2.1,y26.1.2.2.1,(wr .i64 (y26.1.2.2.2.1+1)),()),(y26.2.1,()))))) (fun z27=>(some (.inr (.inr ((z27.1.1,()),())))))))))
 (some (.inr (.inl ((),())))))
def Aq:=Eb fun x:((Unit×KQ)×Im)=>RF x.1.1 x.1.2.1 x.1.2.2.1 x.1.2.2.2.1 x.2.1
def Zl(a0:Ea):Option Be:=
 (cond (decide (a0.1<1))
 (some (false,()))
 (cond (decide (a0.1>32))
 (some (false,()))
 (cond (decide (((ln a0.2.1:Nat):Int)<1))
 (some (false,()))
 (cond (decide (((ln a0.2.1:Nat):Int)>4))
 (some (false,()))
 (ob (Aq (((),a0.2.1,((ln a0.2.1:Nat):Int),0,()),(a0,()))) (se (fun y28=>(some (true,()))) (fun z29=>(some (z29.1.1,())))))))))
def Xh(a0:Ea)(a1:Int):Option Be:=
 (ob (Zl a0) fun r1=>
 (cond r1.1
 (cond (decide (a1≥0))
 (cond ((2:Int)==0)
 none
 (cond ((yc a1 2)==0)
 (cond (decide (0≤((ln a0.2.1:Nat):Int)))
 (some ((decide (a1<(Ke .i64 1 ((ln a0.2.1:Nat):Int)))),()))
 none)
 (some (false,()))))
 (some (false,())))
 (some (false,()))))
def Up(t0:Hd)(t1:Sb)(t5:Ge)(t6:Int):Option (((Hd×(Sb×WN))×Unit)⊕WY):=
 (cond (decide (t6<((ln t0:Nat):Int)))
 (cond (decide (t6>0))
 (cond (bl (ln t5+ln (Nc t1)) Sa)
 (ob (Wb t0 t6) fun x5=>
 (cond (bl (ln (ap t5 (Nc t1))+ln (Nc x5)) Sa)
 (some (.inl ((t0,t1,(ap (ap t5 (Nc t1)) (Nc x5)),(wr .i64 (t6+1)),()),())))
 none))
 none)
 (ob (Wb t0 t6) fun x6=>
 (cond (bl (ln t5+ln (Nc x6)) Sa)
 (some (.inl ((t0,t1,(ap t5 (Nc x6)),(wr .i64 (t6+1)),()),())))
 none)))
 (some (.inr (.inl ((t5,()),())))))
def Pq:=Eb fun x:((Hd×(Sb×WN))×Unit)=>Up x.1.1 x.1.2.1 x.1.2.2.1 x.1.2.2.2.1
def Nd(a0:Hd)(a1:Sb):Option Mh:=
 (ob (Pq ((a0,a1,[],0,()),())) (se (fun y7=>(some ((Ap y7.1.1),()))) (fun z8=>none)))
def Ho(t0:Sb)(t1:Int)(t5:Hd)(t6:Int)(t7:Int):Option (Fac⊕YY):=
 (cond (decide (t7≤((ln t0:Nat):Int)))
 (cond (t7==((ln t0:Nat):Int))
 (cond (Bd (ln t0) t6 t7)
 (cond (bl (ln t5+ln ([(Ya t0 (tn t6) (tn t7))]:List Sb)) Sa)
 (some (.inl ((t0,t1,(ap t5 ([(Ya t0 (tn t6) (tn t7))]:List Sb)),(wr .i64 (t7+1)),(wr .i64 (t7+1)),()),())))
 none)
 none)
 (ob (Wb t0 t7) fun c3=>
 (cond (((UInt8.toNat c3:Nat):Int)==t1)
 (cond (Bd (ln t0) t6 t7)
 (cond (bl (ln t5+ln ([(Ya t0 (tn t6) (tn t7))]:List Sb)) Sa)
 (some (.inl ((t0,t1,(ap t5 ([(Ya t0 (tn t6) (tn t7))]:List Sb)),(wr .i64 (t7+1)),(wr .i64 (t7+1)),()),())))
 none)
 none)
 (some (.inl ((t0,t1,t5,t6,(wr .i64 (t7+1)),()),()))))))
 (some (.inr (.inl ((t5,()),())))))
def Gi:=Eb fun x:Fac=>Ho x.1.1 x.1.2.1 x.1.2.2.1 x.1.2.2.2.1 x.1.2.2.2.2.1
def Og(a0:Sb)(a1:Int):Option HL:=
 (ob (Gi ((a0,a1,[],0,0,()),())) (se (fun y4=>(some (y4.1.1,()))) (fun z5=>none)))
def HJ:Option HL:=
 (ob (Og HH 32) fun r1=>
 (some (r1.1,())))
def Ng(a0:Int):Option Mh:=
 (ob (Sc a0 1 56) fun r1=>
 (cond (!r1.1)
 (some ([],()))
 (ob HJ fun r2=>
 (cond (Ac (ln r2.1) (wr .i64 (a0-1)))
 (ob r2.1[(tn (wr .i64 (a0-1)))]? fun x3=>
 (some (x3,())))
 none))))
def MC(t0:Sb)(t3:Int):Option ((QG×Unit)⊕FL):=
 (cond (decide (t3≤56))
 (ob (Ng t3) fun r3=>
 (cond (r3.1==t0)
 (some (.inr (.inr ((t3,()),()))))
 (some (.inl ((t0,(wr .i64 (t3+1)),()),())))))
 (some (.inr (.inl ((),())))))
def Eo:=Eb fun x:(QG×Unit)=>MC x.1.1 x.1.2.1
def Vv(a0:Sb):Option Oh:=
 (ob (Eo ((a0,1,()),())) (se (fun y4=>(some (0,()))) (fun z5=>(some (z5.1.1,())))))
def Ou(t0:Int)(t3:Sb)(t4:Int):Option (Z3⊕(((Int×Mh)×Unit)⊕Wf)):=
 (cond (t4 !=0)
 (cond ((10:Int)==0)
 none
 (cond (decide ((yc t4 10)<0))
 (cond (bl (ln (Ap ([(wr .u8 (wr .i64 (48+(wr .i64 (0-(yc t4 10))))))]:List Int))+ln t3) Sa)
 (cond ((10:Int)==0)
 none
 (some (.inl ((t0,(ap (Ap ([(wr .u8 (wr .i64 (48+(wr .i64 (0-(yc t4 10))))))]:List Int)) t3),(wr .i64 (Int.tdiv t4 10)),()),()))))
 none)
 (cond (bl (ln (Ap ([(wr .u8 (wr .i64 (48+(yc t4 10))))]:List Int))+ln t3) Sa)
 (cond ((10:Int)==0)
 none
 (some (.inl ((t0,(ap (Ap ([(wr .u8 (wr .i64 (48+(yc t4 10))))]:List Int)) t3),(wr .i64 (Int.tdiv t4 10)),()),()))))
 none)))
 (some (.inr (.inl ((t0,t3,()),())))))
def Fi:=Eb fun x:Z3=>Ou x.1.1 x.1.2.1 x.1.2.2.1
def Sd(a0:Int):Option Mh:=
 (cond (a0==0)
 (some (([48]:List UInt8),()))
 (ob (Fi ((a0,[],a0,()),())) (se (fun y1=>(cond (decide (y1.1.1<0))
 (cond (bl (ln ([45]:List UInt8)+ln y1.1.2.1) Sa)
 (some ((ap ([45]:List UInt8) y1.1.2.1),()))
 none)
 (some (y1.1.2.1,())))) (fun z2=>none))))
def Vp(t0:Sb)(t4:Sb)(t5:Int)(t6:Int):Option (((Sb×(Sb×Lc))×Unit)⊕(((Sb×QG)×Unit)⊕Aas)):=
 (cond (decide (t6<((ln t4:Nat):Int)))
 (ob (Wb t4 t6) fun c34=>
 (cond (decide (((UInt8.toNat c34:Nat):Int)<48))
 (some (.inr (.inr ((0,false,()),()))))
 (ob (Wb t4 t6) fun c35=>
 (cond (decide (((UInt8.toNat c35:Nat):Int)>57))
 (some (.inr (.inr ((0,false,()),()))))
 (ob (Wb t4 t6) fun c36=>
 (some (.inl ((t0,t4,(wr .i64 ((wr .i64 ((wr .i64 (10*t5))+(wr .i64 ((UInt8.toNat c36:Nat):Int))))-48)),(wr .i64 (t6+1)),()),()))))))))
 (some (.inr (.inl ((t0,t4,t5,()),())))))
def Vg:=Eb fun x:((Sb×(Sb×Lc))×Unit)=>Vp x.1.1 x.1.2.1 x.1.2.2.1 x.1.2.2.2.1
def Ot(a0:Sb):Option VY:=
 (cond (decide (((ln a0:Nat):Int)>0))
 (ob (Wb a0 0) fun c1=>
 (cond (((UInt8.toNat c1:Nat):Int)==45)
 (cond (Bd (ln a0) 1 ((ln a0:Nat):Int))
 (cond (decide (((ln (Ya a0 (tn 1) (tn ((ln a0:Nat):Int))):Nat):Int)<1))
 (some (0,false,()))
 (cond (decide (((ln (Ya a0 (tn 1) (tn ((ln a0:Nat):Int))):Nat):Int)>9))
 (some (0,false,()))
 (ob (Vg ((a0,(Ya a0 (tn 1) (tn ((ln a0:Nat):Int))),0,0,()),())) (se (fun y11=>(cond (decide (((ln y11.1.2.1:Nat):Int)<((ln y11.1.1:Nat):Int)))
 (ob (Sd (wr .i64 (0-y11.1.2.2.1))) fun r13=>
 (cond (r13.1 !=y11.1.1)
 (some (0,false,()))
 (some ((wr .i64 (0-y11.1.2.2.1)),true,()))))
 (ob (Sd y11.1.2.2.1) fun r14=>
 (cond (r14.1 !=y11.1.1)
 (some (0,false,()))
 (some (y11.1.2.2.1,true,())))))) (fun z12=>(some z12.1))))))
 none)
 (cond (decide (((ln a0:Nat):Int)<1))
 (some (0,false,()))
 (cond (decide (((ln a0:Nat):Int)>9))
 (some (0,false,()))
 (ob (Vg ((a0,a0,0,0,()),())) (se (fun y24=>(cond (decide (((ln y24.1.2.1:Nat):Int)<((ln y24.1.1:Nat):Int)))
 (ob (Sd (wr .i64 (0-y24.1.2.2.1))) fun r26=>
 (cond (r26.1 !=y24.1.1)
 (some (0,false,()))
 (some ((wr .i64 (0-y24.1.2.2.1)),true,()))))
 (ob (Sd y24.1.2.2.1) fun r27=>
 (cond (r27.1 !=y24.1.1)
 (some (0,false,()))
 (some (y24.1.2.2.1,true,())))))) (fun z25=>(some z25.1))))))))
 (cond (decide (((ln a0:Nat):Int)<1))
 (some (0,false,()))
 (cond (decide (((ln a0:Nat):Int)>9))
 (some (0,false,()))
 (ob (Vg ((a0,a0,0,0,()),())) (se (fun y37=>(cond (decide (((ln y37.1.2.1:Nat):Int)<((ln y37.1.1:Nat):Int)))
 (ob (Sd (wr .i64 (0-y37.1.2.2.1))) fun r39=>
 (cond (r39.1 !=y37.1.1)
 (some (0,false,()))
 (some ((wr .i64 (0-y37.1.2.2.1)),true,()))))
 (ob (Sd y37.1.2.2.1) fun r40=>
 (cond (r40.1 !=y37.1.1)
 (some (0,false,()))
 (some (y37.1.2.2.1,true,())))))) (fun z38=>(some z38.1)))))))
def Vs(t0:Int)(t3:Sb)(t4:Int):Option (Z3⊕X3):=
 (cond (decide (t4<4))
 (ob (Sc t0 1 15) fun r3=>
 (cond r3.1
 (cond (decide (0≤t4))
 (cond ((Fh .i64 (Mx .i64 t0 t4) 1)==1)
 (cond (Bd (ln MN) t4 (wr .i64 (t4+1)))
 (cond (bl (ln t3+ln (Ya MN (tn t4) (tn (wr .i64 (t4+1))))) Sa)
 (some (.inl ((t0,(ap t3 (Ya MN (tn t4) (tn (wr .i64 (t4+1))))),(wr .i64 (t4+1)),()),())))
 none)
 none)
 (some (.inl ((t0,t3,(wr .i64 (t4+1)),()),()))))
 none)
 (some (.inr (.inl ((t3,()),()))))))
 (some (.inr (.inl ((t3,()),())))))
def Wv:=Eb fun x:Z3=>Vs x.1.1 x.1.2.1 x.1.2.2.1
def Rj(a0:Int):Option Mh:=
 (ob (Wv ((a0,[],0,()),())) (se (fun y4=>(some (y4.1.1,()))) (fun z5=>none)))
def Su(t0:Sb)(t3:Int):Option ((QG×Unit)⊕FL):=
 (cond (decide (t3≤15))
 (ob (Rj t3) fun r3=>
 (cond (r3.1==t0)
 (some (.inr (.inr ((t3,()),()))))
 (some (.inl ((t0,(wr .i64 (t3+1)),()),())))))
 (some (.inr (.inl ((),())))))
def Zk:=Eb fun x:(QG×Unit)=>Su x.1.1 x.1.2.1
def Ir(a0:Sb):Option Oh:=
 (ob (Zk ((a0,1,()),())) (se (fun y4=>(some (0,()))) (fun z5=>(some (z5.1.1,())))))
def CM(a0:Int)(a1:Sb)(a2:Sb):Option Bw:=
 (ob (Ot a2) fun r1=>
 (cond (a1==([109,111]:List UInt8))
 (some ((3,0,0,r1.1,()),()))
 (cond (a1==([116,103]:List UInt8))
 (some ((4,0,0,r1.1,()),()))
 (cond (a1==([116,111]:List UInt8))
 (some ((5,0,0,r1.1,()),()))
 (cond (a1==Lp)
 (some ((9,0,0,r1.1,()),()))
 (ob (Ir a2) fun r2=>
 (some ((a0,0,r2.1,0,()),()))))))))
def Xe(a0:Ia):Option Mh:=
 (ob (Ik a0) fun r1=>
 (cond (!r1.1)
 (some ([],()))
 (cond (a0.1==0)
 (some (Ek,()))
 (cond (a0.1==1)
 (some (Dk,()))
 (cond (a0.1==3)
 (ob (Sd a0.2.2.2.1) fun r2=>
 (cond (bl (ln ([109,111,58]:List UInt8)+ln r2.1) Sa)
 (some ((ap ([109,111,58]:List UInt8) r2.1),()))
 none))
 (cond (a0.1==4)
 (ob (Sd a0.2.2.2.1) fun r3=>
 (cond (bl (ln ([116,103,58]:List UInt8)+ln r3.1) Sa)
 (some ((ap ([116,103,58]:List UInt8) r3.1),()))
 none))
 (cond (a0.1==5)
 (ob (Sd a0.2.2.2.1) fun r4=>
 (cond (bl (ln ([116,111,58]:List UInt8)+ln r4.1) Sa)
 (some ((ap ([116,111,58]:List UInt8) r4.1),()))
 none))
 (cond (a0.1==6)
 (ob (Rj a0.2.2.1) fun r5=>
 (cond (bl (ln r5.1+ln ([47]:List UInt8)) Sa)
 (ob (Ng a0.2.1) fun r6=>
 (cond (bl (ln (ap r5.1 ([47]:List UInt8))+ln r6.1) Sa)
 (some ((ap (ap r5.1 ([47]:List UInt8)) r6.1),()))
 none))
 none))
 (cond (a0.1==7)
 (ob (Sd a0.2.2.2.1) fun r7=>
 (cond (bl (ln r7.1+ln ([47]:List UInt8)) Sa)
 (ob (Ng a0.2.1) fun r8=>
 (cond (bl (ln (ap r7.1 ([47]:List UInt8))+ln r8.1) Sa)
 (some ((ap (ap r7.1 ([47]:List UInt8)) r8.1),()))
 none))
 none))
 (cond (a0.1==8)
 (ob (Rj a0.2.2.1) fun r9=>
 (cond (bl (ln Hg+ln r9.1) Sa)
 (some ((ap Hg r9.1),()))
 none))
 (cond (a0.1==9)
 (ob (Sd a0.2.2.2.1) fun r10=>
 (cond (bl (ln Vi+ln r10.1) Sa)
 (some ((ap Vi r10.1),()))
 none))
 (cond (a0.1==10)
 (some (Ui,()))
 (cond (a0.2.2.1==0)
 (ob (Ng a0.2.1) fun r11=>
 (some (r11.1,())))
 (ob (Rj a0.2.2.1) fun r12=>
 (cond (bl (ln r12.1+ln ([45]:List UInt8)) Sa)
 (ob (Ng a0.2.1) fun r13=>
 (cond (bl (ln (ap r12.1 ([45]:List UInt8))+ln r13.1) Sa)
 (some ((ap (ap r12.1 ([45]:List UInt8)) r13.1),()))
 none))
 none)))))))))))))))
def Is(a0:Sb):Option (Ia×Be):=
 (ob (Vv a0) fun r1=>
 (ob (Og a0 58) fun r2=>
 (ob (Og a0 47) fun r3=>
 (ob (Og a0 45) fun r4=>
 (cond (a0==Ek)
 (cond (a0==[])
 (some ((0,0,0,0,()),false,()))
 (ob (Xe (0,0,0,0,())) fun r5=>
 (cond (r5.1 !=a0)
 (some ((0,0,0,0,()),false,()))
 (some ((0,0,0,0,()),true,())))))
 (cond (a0==Dk)
 (cond (a0==[])
 (some ((0,0,0,0,()),false,()))
 (ob (Xe (1,0,0,0,())) fun r6=>
 (cond (r6.1 !=a0)
 (some ((0,0,0,0,()),false,()))
 (some ((1,0,0,0,()),true,())))))
 (cond (a0==Ui)
 (cond (a0==[])
 (some ((0,0,0,0,()),false,()))
 (ob (Xe (10,0,0,0,())) fun r7=>
 (cond (r7.1 !=a0)
 (some ((0,0,0,0,()),false,()))
 (some ((10,0,0,0,()),true,())))))
 (cond (((ln r2.1:Nat):Int)==2)
 (cond (Ac (ln r2.1) 0)
 (ob r2.1[(tn 0)]? fun x8=>
 (cond (Ac (ln r2.1) 1)
 (ob r2.1[(tn 1)]? fun x9=>
 (ob (CM 8 x8 x9) fun r10=>
 (cond (a0==[])
 (some ((0,0,0,0,()),false,()))
 (ob (Xe r10.1) fun r11=>
 (cond (r11.1 !=a0)
 (some ((0,0,0,0,()),false,()))
 (some (r10.1,true,())))))))
 none))
 none)
 (cond (((ln r3.1:Nat):Int)==2)
 (cond (Ac (ln r3.1) 0)
 (ob r3.1[(tn 0)]? fun x12=>
 (ob (Ot x12) fun r13=>
 (cond (Ac (ln r3.1) 1)
 (ob r3.1[(tn 1)]? fun x14=>
 (ob (Vv x14) fun r15=>
 (cond (Ac (ln r3.1) 0)
 (ob r3.1[(tn 0)]? fun x16=>
 (ob (Ir x16) fun r17=>
 (cond r13.2.1
 (cond (Ac (ln r3.1) 1)
 (ob r3.1[(tn 1)]? fun x18=>
 (ob (Vv x18) fun r19=>
 (cond (a0==[])
 (some ((0,0,0,0,()),false,()))
 (ob (Xe (7,r19.1,0,r13.1,())) fun r20=>
 (cond (r20.1 !=a0)
 (some ((0,0,0,0,()),false,()))
 (some ((7,r19.1,0,r13.1,()),true,())))))))
 none)
 (cond (a0==[])
 (some ((0,0,0,0,()),false,()))
 (ob (Xe (6,r15.1,r17.1,0,())) fun r21=>
 (cond (r21.1 !=a0)
 (some ((0,0,0,0,()),false,()))
 (some ((6,r15.1,r17.1,0,()),true,()))))))))
 none)))
 none)))
 none)
 (cond (((ln r4.1:Nat):Int)==2)
 (cond (Ac (ln r4.1) 1)
 (ob r4.1[(tn 1)]? fun x22=>
 (ob (Vv x22) fun r23=>
 (cond (Ac (ln r4.1) 0)
 (ob r4.1[(tn 0)]? fun x24=>
 (ob (Ir x24) fun r25=>
 (cond (a0==[])
 (some ((0,0,0,0,()),false,()))
 (ob (Xe (2,r23.1,r25.1,0,())) fun r26=>
 (cond (r26.1 !=a0)
 (some ((0,0,0,0,()),false,()))
 (some ((2,r23.1,r25.1,0,()),true,())))))))
 none)))
 none)
 (cond (a0==[])
 (some ((0,0,0,0,()),false,()))
 (ob (Xe (2,r1.1,0,0,())) fun r27=>
 (cond (r27.1 !=a0)
 (some ((0,0,0,0,()),false,()))
 (some ((2,r1.1,0,0,()),true,())))))))))))))))
def Rq(t2:Unit)(t4:Unit)(t5:Cl)(t6:Hd)(t7:Int)(b2:Ea)(b4:Ea):Option (((Unit×(Unit×(Cl×RG)))×VB)⊕((GL×VB)⊕((Unit×Be)×Im))):=
 (cond (decide (t7<((ln t6:Nat):Int)))
 (cond (Ac (ln t6) t7)
 (ob t6[(tn t7)]? fun x11=>
 (cond (x11==([124]:List UInt8))
 (cond (bl (ln b4.2.1+ln ([t5]:List Cl)) Sa)
 (some (.inl (((),(),[],t6,(wr .i64 (t7+1)),()),(b2,(((ln t5:Nat):Int),(ap b4.2.1 ([t5]:List Cl)),()),()))))
 none)
 (cond (Ac (ln t6) t7)
 (ob t6[(tn t7)]? fun x12=>
 (ob (Is x12) fun r13=>
 (cond (!r13.2.1)
 (some (.inr (.inr (((),false,()),((0,[],()),())))))
 (cond (bl (ln t5+ln ([r13.1]:List Ia)) Sa)
 (some (.inl (((),(),(ap t5 ([r13.1]:List Ia)),t6,(wr .i64 (t7+1)),()),(b2,b4,()))))
 none))))
 none)))
 none)
 (some (.inr (.inl (((),(),()),(b2,b4,()))))))
def Gt:=Eb fun x:((Unit×(Unit×(Cl×RG)))×VB)=>Rq x.1.1 x.1.2.1 x.1.2.2.1 x.1.2.2.2.1 x.1.2.2.2.2.1 x.2.1 x.2.2.1
def Js(a0:Sb):Option (Ea×Be):=
 (ob (Og a0 32) fun r1=>
 (cond (bl (ln r1.1+ln ([([124]:List UInt8)]:List Sb)) Sa)
 (ob (Gt (((),(),[],(ap r1.1 ([([124]:List UInt8)]:List Sb)),0,()),((0,[],()),(0,[],()),()))) (se (fun y14=>(ob (Cm y14.2.2.1) fun r16=>
 (cond (!r16.1)
 (some ((0,[],()),false,()))
 (some (y14.2.2.1,true,()))))) (fun z15=>(some (z15.2.1,z15.1.2.1,())))))
 none))
def Qn(a0:Int)(a1:Int):Option Mh:=
 (ob (Sc a0 1 56) fun r1=>
 (cond (!r1.1)
 (some ([],()))
 (ob (Sc a1 0 15) fun r2=>
 (cond (!r2.1)
 (some ([],()))
 (cond ((Aj .i64 a1 2) !=0)
 (some ([],()))
 (cond (decide (a0≤26))
 (cond (decide ((Fh .i64 a1 2)>0))
 (some ((Ap ([(wr .u8 (wr .i64 (64+a0)))]:List Int)),()))
 (cond (decide (a0≤36))
 (cond (decide ((Fh .i64 a1 2)>0))
 (cond (Bd (ln Wi) (wr .i64 (a0-27)) (wr .i64 (a0-26)))
 (some ((Ya Wi (tn (wr .i64 (a0-27))) (tn (wr .i64 (a0-26)))),()))
 none)
 (cond (decide (a0≤36))
 (ob (Ng a0) fun r3=>
 (some (r3.1,())))
 (cond (a0==37)
 (some (([10]:List UInt8),()))
 (cond (a0==40)
 (some (([9]:List UInt8),()))
 (cond (a0==41)
 (some (([32]:List UInt8),()))
 (cond (a0==42)
 (cond (decide ((Fh .i64 a1 2)>0))
 (some (([95]:List UInt8),()))
 (cond (a0==42)
 (some (([45]:List UInt8),()))
 (cond (a0==43)
 (cond (decide ((Fh .i64 a1 2)>0))
 (some (([43]:List UInt8),()))
 (cond (a0==43)
 (some (([61]:List UInt8),()))
 (some ([],()))))
 (cond (a0==43)
 (some (([61]:List UInt8),()))
 (some ([],()))))))
 (cond (a0==42)
 (some (([45]:List UInt8),()))
 (cond (a0==43)
 (cond (decide ((Fh .i64 a1 2)>0))
 (some (([43]:List UInt8),()))
 (cond (a0==43)
 (some (([61]:List UInt8),()))
 (some ([],()))))
 (cond (a0==43)
 (some (([61]:List UInt8),()))
 (some ([],())))))))))))
 (cond (decide (a0≤36))
 (ob (Ng a0) fun r4=>
 (some (r4.1,())))
 (cond (a0==37)
 (some (([10]:List UInt8),()))
 (cond (a0==40)
 (some (([9]:List UInt8),()))
 (cond (a0==41)
 (some (([32]:List UInt8),()))
 (cond (a0==42)
 (cond (decide ((Fh .i64 a1 2)>0))
 (some (([95]:List UInt8),()))
 (cond (a0==42)
 (some (([45]:List UInt8),()))
 (cond (a0==43)
 (cond (decide ((Fh .i64 a1 2)>0))
 (some (([43]:List UInt8),()))
 (cond (a0==43)
 (some (([61]:List UInt8),()))
 (some ([],()))))
 (cond (a0==43)
 (some (([61]:List UInt8),()))
 (some ([],()))))))
 (cond (a0==42)
 (some (([45]:List UInt8),()))
 (cond (a0==43)
 (cond (decide ((Fh .i64 a1 2)>0))
 (some (([43]:List UInt8),()))
 (cond (a0==43)
 (some (([61]:List UInt8),()))
 (some ([],()))))
 (cond (a0==43)
 (some (([61]:List UInt8),()))
 (some ([],()))))))))))))
 (cond (decide (a0≤36))
 (cond (decide ((Fh .i64 a1 2)>0))
 (cond (Bd (ln Wi) (wr .i64 (a0-27)) (wr .i64 (a0-26)))
 (some ((Ya Wi (tn (wr .i64 (a0-27))) (tn (wr .i64 (a0-26)))),()))
 none)
 (cond (decide (a0≤36))
 (ob (Ng a0) fun r5=>
 (some (r5.1,())))
 (cond (a0==37)
 (some (([10]:List UInt8),()))
 (cond (a0==40)
 (some (([9]:List UInt8),()))
 (cond (a0==41)
 (some (([32]:List UInt8),()))
 (cond (a0==42)
 (cond (decide ((Fh .i64 a1 2)>0))
 (some (([95]:List UInt8),()))
 (cond (a0==42)
 (some (([45]:List UInt8),()))
 (cond (a0==43)
 (cond (decide ((Fh .i64 a1 2)>0))
 (some (([43]:List UInt8),()))
 (cond (a0==43)
 (some (([61]:List UInt8),()))
 (some ([],()))))
 (cond (a0==43)
 (some (([61]:List UInt8),()))
 (some ([],()))))))
 (cond (a0==42)
 (some (([45]:List UInt8),()))
 (cond (a0==43)
 (cond (decide ((Fh .i64 a1 2)>0))
 (some (([43]:List UInt8),()))
 (cond (a0==43)
 (some (([61]:List UInt8),()))
 (some ([],()))))
 (cond (a0==43)
 (some (([61]:List UInt8),()))
 (some ([],())))))))))))
 (cond (decide (a0≤36))
 (ob (Ng a0) fun r6=>
 (some (r6.1,())))
 (cond (a0==37)
 (some (([10]:List UInt8),()))
 (cond (a0==40)
 (some (([9]:List UInt8),()))
 (cond (a0==41)
 (some (([32]:List UInt8),()))
 (cond (a0==42)
 (cond (decide ((Fh .i64 a1 2)>0))
 (some (([95]:List UInt8),()))
 (cond (a0==42)
 (some (([45]:List UInt8),()))
 (cond (a0==43)
 (cond (decide ((Fh .i64 a1 2)>0))
 (some (([43]:List UInt8),()))
 (cond (a0==43)
 (some (([61]:List UInt8),()))
 (some ([],()))))
 (cond (a0==43)
 (some (([61]:List UInt8),()))
 (some ([],()))))))
 (cond (a0==42)
 (some (([45]:List UInt8),()))
 (cond (a0==43)
 (cond (decide ((Fh .i64 a1 2)>0))
 (some (([43]:List UInt8),()))
 (cond (a0==43)
 (some (([61]:List UInt8),()))
 (some ([],()))))
 (cond (a0==43)
 (some (([61]:List UInt8),()))
 (some ([],())))))))))))))))))
def Cn(a0:Ia):Option Be:=
 (ob (Ik a0) fun r1=>
 (cond r1.1
 (cond (a0.1==6)
 (some (true,()))
 (some ((a0.1==7),())))
 (some (false,()))))
def JO(a0:Ia):Option Bw:=
 (ob (Cn a0) fun r1=>
 (cond (!r1.1)
 (some (a0,()))
 (some ((2,a0.2.1,0,0,()),()))))
def strings_Split(a b:List UInt8):Option (List Sb×Unit):=B6 a b
def Tc(a0:Int):Option Mh:=
 (cond (decide (a0<1))
 (some ([],()))
 (cond (decide (a0>56))
 (some ([],()))
 (ob (strings_Split HH ([32]:List UInt8)) fun r1=>
 (cond (Ac (ln r1.1) (wr .i64 (a0-1)))
 (ob r1.1[(tn (wr .i64 (a0-1)))]? fun x2=>
 (some (x2,())))
 none))))
def Mn(a0:Int)(a1:Int):Option Mh:=
 (ob (Tq a0) fun r1=>
 (cond (!r1.1)
 (some ([],()))
 (cond (a1 !=0)
 (cond (a1 !=2)
 (some ([],()))
 (cond (decide (a0≤26))
 (cond (a1==2)
 (some ((Ap ([(wr .u8 (wr .i64 ((wr .i64 (65+a0))-1)))]:List Int)),()))
 (cond (decide (a0≤26))
 (ob (Tc a0) fun r2=>
 (some (r2.1,())))
 (cond (decide (a0≤36))
 (cond (a1==2)
 (cond (Bd (ln Wi) (wr .i64 (a0-27)) (wr .i64 (a0-26)))
 (some ((Ya Wi (tn (wr .i64 (a0-27))) (tn (wr .i64 (a0-26)))),()))
 none)
 (cond (decide (a0≤36))
 (ob (Tc a0) fun r3=>
 (some (r3.1,())))
 (ob (Tc a0) fun r4=>
 (cond (r4.1==Fm)
 (some (([10]:List UInt8),()))
 (cond (r4.1==([116,97,98]:List UInt8))
 (some (([9]:List UInt8),()))
 (cond (r4.1==Gm)
 (some (([32]:List UInt8),()))
 (cond (r4.1==Em)
 (cond (a1==2)
 (some (([95]:List UInt8),()))
 (some (([45]:List UInt8),())))
 (cond (r4.1==Dm)
 (cond (a1==2)
 (some (([43]:List UInt8),()))
 (some (([61]:List UInt8),())))
 (some ([],()))))))))))
 (cond (decide (a0≤36))
 (ob (Tc a0) fun r5=>
 (some (r5.1,())))
 (ob (Tc a0) fun r6=>
 (cond (r6.1==Fm)
 (some (([10]:List UInt8),()))
 (cond (r6.1==([116,97,98]:List UInt8))
 (some (([9]:List UInt8),()))
 (cond (r6.1==Gm)
 (some (([32]:List UInt8),()))
 (cond (r6.1==Em)
 (cond (a1==2)
 (some (([95]:List UInt8),()))
 (some (([45]:List UInt8),())))
 (cond (r6.1==Dm)
 (cond (a1==2)
 (some (([43]:List UInt8),()))
 (some (([61]:List UInt8),())))
 (some ([],()))))))))))))
 (cond (decide (a0≤26))
 (ob (Tc a0) fun r7=>
 (some (r7.1,())))
 (cond (decide (a0≤36))
 (cond (a1==2)
 (cond (Bd (ln Wi) (wr .i64 (a0-27)) (wr .i64 (a0-26)))
 (some ((Ya Wi (tn (wr .i64 (a0-27))) (tn (wr .i64 (a0-26)))),()))
 none)
 (cond (decide (a0≤36))
 (ob (Tc a0) fun r8=>
 (some (r8.1,())))
 (ob (Tc a0) fun r9=>
 (cond (r9.1==Fm)
 (some (([10]:List UInt8),()))
 (cond (r9.1==([116,97,98]:List UInt8))
 (some (([9]:List UInt8),()))
 (cond (r9.1==Gm)
 (some (([32]:List UInt8),()))
 (cond (r9.1==Em)
 (cond (a1==2)
 (some (([95]:List UInt8),()))
 (some (([45]:List UInt8),())))
 (cond (r9.1==Dm)
 (cond (a1==2)
 (some (([43]:List UInt8),()))
 (some (([61]:List UInt8),())))
 (some ([],()))))))))))
 (cond (decide (a0≤36))
 (ob (Tc a0) fun r10=>
 (some (r10.1,())))
 (ob (Tc a0) fun r11=>
 (cond (r11.1==Fm)
 (some (([10]:List UInt8),()))
 (cond (r11.1==([116,97,98]:List UInt8))
 (some (([9]:List UInt8),()))
 (cond (r11.1==Gm)
 (some (([32]:List UInt8),()))
 (cond (r11.1==Em)
 (cond (a1==2)
 (some (([95]:List UInt8),()))
 (some (([45]:List UInt8),())))
 (cond (r11.1==Dm)
 (cond (a1==2)
 (some (([43]:List UInt8),()))
 (some (([61]:List UInt8),())))
 (some ([],())))))))))))))
 (cond (decide (a0≤26))
 (cond (a1==2)
 (some ((Ap ([(wr .u8 (wr .i64 ((wr .i64 (65+a0))-1)))]:List Int)),()))
 (cond (decide (a0≤26))
 (ob (Tc a0) fun r12=>
 (some (r12.1,())))
 (cond (decide (a0≤36))
 (cond (a1==2)
 (cond (Bd (ln Wi) (wr .i64 (a0-27)) (wr .i64 (a0-26)))
 (some ((Ya Wi (tn (wr .i64 (a0-27))) (tn (wr .i64 (a0-26)))),()))
 none)
 (cond (decide (a0≤36))
 (ob (Tc a0) fun r13=>
 (some (r13.1,())))
 (ob (Tc a0) fun r14=>
 (cond (r14.1==Fm)
 (some (([10]:List UInt8),()))
 (cond (r14.1==([116,97,98]:List UInt8))
 (some (([9]:List UInt8),()))
 (cond (r14.1==Gm)
 (some (([32]:List UInt8),()))
 (cond (r14.1==Em)
 (cond (a1==2)
 (some (([95]:List UInt8),()))
 (some (([45]:List UInt8),())))
 (cond (r14.1==Dm)
 (cond (a1==2)
 (some (([43]:List UInt8),()))
 (some (([61]:List UInt8),())))
 (some ([],()))))))))))
 (cond (decide (a0≤36))
 (ob (Tc a0) fun r15=>
 (some (r15.1,())))
 (ob (Tc a0) fun r16=>
 (cond (r16.1==Fm)
 (some (([10]:List UInt8),()))
 (cond (r16.1==([116,97,98]:List UInt8))
 (some (([9]:List UInt8),()))
 (cond (r16.1==Gm)
 (some (([32]:List UInt8),()))
 (cond (r16.1==Em)
 (cond (a1==2)
 (some (([95]:List UInt8),()))
 (some (([45]:List UInt8),())))
 (cond (r16.1==Dm)
 (cond (a1==2)
 (some (([43]:List UInt8),()))
 (some (([61]:List UInt8),())))
 (some ([],()))))))))))))
 (cond (decide (a0≤26))
 (ob (Tc a0) fun r17=>
 (some (r17.1,())))
 (cond (decide (a0≤36))
 (cond (a1==2)
 (cond (Bd (ln Wi) (wr .i64 (a0-27)) (wr .i64 (a0-26)))
 (some ((Ya Wi (tn (wr .i64 (a0-27))) (tn (wr .i64 (a0-26)))),()))
 none)
 (cond (decide (a0≤36))
 (ob (Tc a0) fun r18=>
 (some (r18.1,())))
 (ob (Tc a0) fun r19=>
 (cond (r19.1==Fm)
 (some (([10]:List UInt8),()))
 (cond (r19.1==([116,97,98]:List UInt8))
 (some (([9]:List UInt8),()))
 (cond (r19.1==Gm)
 (some (([32]:List UInt8),()))
 (cond (r19.1==Em)
 (cond (a1==2)
 (some (([95]:List UInt8),()))
 (some (([45]:List UInt8),())))
 (cond (r19.1==Dm)
 (cond (a1==2)
 (some (([43]:List UInt8),()))
 (some (([61]:List UInt8),())))
 (some ([],()))))))))))
 (cond (decide (a0≤36))
 (ob (Tc a0) fun r20=>
 (some (r20.1,())))
 (ob (Tc a0) fun r21=>
 (cond (r21.1==Fm)
 (some (([10]:List UInt8),()))
 (cond (r21.1==([116,97,98]:List UInt8))
 (some (([9]:List UInt8),()))
 (cond (r21.1==Gm)
 (some (([32]:List UInt8),()))
 (cond (r21.1==Em)
 (cond (a1==2)
 (some (([95]:List UInt8),()))
 (some (([45]:List UInt8),())))
 (cond (r21.1==Dm)
 (cond (a1==2)
 (some (([43]:List UInt8),()))
 (some (([61]:List UInt8),())))
 (some ([],())))))))))))))))
def Ar(a0:Ia):Option Be:=
 (ob (Ri a0) fun r1=>
 (cond r1.1
 (cond (a0.1==6)
 (some (true,()))
 (some ((a0.1==7),())))
 (some (false,()))))
def CO(a0:Ia):Option Bw:=
 (ob (Ar a0) fun r1=>
 (cond (!r1.1)
 (some (a0,()))
 (some ((2,a0.2.1,0,0,()),()))))
def Ss(t2:Unit)(t3:Unit)(t10:(List Cl))(t11:Int)(t12:Int)(b2:Ea)(b3:Ea):Option (((Unit×(Unit×KQ))×VB)⊕((GL×VB)⊕Wf)):=
 (cond (decide (t12<t11))
 (ob (Wb t10 t12) fun x4=>
 (cond (bl (ln ([]:List Ia)+ln x4) Sa)
 (cond (bl (ln b3.2.1+ln ([(ap [] x4)]:List Cl)) Sa)
 (some (.inl (((),(),t10,t11,(wr .i64 (t12+1)),()),(b2,(b3.1,(ap b3.2.1 ([(ap [] x4)]:List Cl)),()),()))))
 none)
 none))
 (some (.inr (.inl (((),(),()),(b2,b3,()))))))
def Ov:=Eb fun x:((Unit×(Unit×KQ))×VB)=>Ss x.1.1 x.1.2.1 x.1.2.2.1 x.1.2.2.2.1 x.1.2.2.2.2.1 x.2.1 x.2.2.1
def Fu(a0:Ea):Option Im:=
 (ob (Ov (((),(),a0.2.1,((ln a0.2.1:Nat):Int),0,()),((0,[],()),(a0.1,[],()),()))) (se (fun y5=>(some (y5.2.2.1,()))) (fun z6=>none)))
def Ts(t3:Cw)(t6:Cw)(t7:Int)(t8:Int):Option (((Cw×(Cw×Lc))×Unit)⊕(((Cw×Unit)×Unit)⊕Wf)):=
 (cond (decide (t8<t7))
 (ob (Wb t6 t8) fun x4=>
 (cond (bl (ln ([]:List Ta)+ln x4) Sa)
 (cond (bl (ln t3+ln ([(ap [] x4)]:List Bg)) Sa)
 (some (.inl (((ap t3 ([(ap [] x4)]:List Bg)),t6,t7,(wr .i64 (t8+1)),()),())))
 none)
 none))
 (some (.inr (.inl ((t3,()),())))))
def Pv:=Eb fun x:((Cw×(Cw×Lc))×Unit)=>Ts x.1.1 x.1.2.1 x.1.2.2.1 x.1.2.2.2.1
def Po(a0:Cw):Option (Cw×Unit):=
 (ob (Pv (([],a0,((ln a0:Nat):Int),0,()),())) (se (fun y5=>(some (y5.1.1,()))) (fun z6=>none)))
def Nv(a0:Int)(a1:Int):Option Oh:=
 (cond (decide (0≤a1))
 (some ((Fh .i64 (Mx .i64 a0 a1) 1),()))
 none)
def DC(t3:Int)(t6:Fe)(t7:Int)(t8:Int):Option (JQ⊕XN):=
 (cond (decide (t8<t7))
 (ob (Wb t6 t8) fun x7=>
 (cond (decide (x7.1<0))
 (some (.inr (.inr ((false,()),()))))
 (cond (decide (x7.1>31))
 (some (.inr (.inr ((false,()),()))))
 (ob (Nv t3 x7.1) fun r8=>
 (cond (r8.1==1)
 (some (.inr (.inr ((false,()),()))))
 (ob (Ri x7.2.1) fun r9=>
 (cond (!r9.1)
 (some (.inr (.inr ((false,()),()))))
 (cond (x7.2.1.1==1)
 (some (.inr (.inr ((false,()),()))))
 (cond (x7.2.1.1==6)
 (some (.inr (.inr ((false,()),()))))
 (cond (x7.2.1.1==7)
 (some (.inr (.inr ((false,()),()))))
 (cond (decide (0≤x7.1))
 (some (.inl (((Xd .i64 t3 (Ke .i64 1 x7.1)),t6,t7,(wr .i64 (t8+1)),()),())))
 none)))))))))))
 (some (.inr (.inl ((),())))))
def MD:=Eb fun x:JQ=>DC x.1.1 x.1.2.1 x.1.2.2.1 x.1.2.2.2.1
def Nn(a0:Fe):Option Be:=
 (ob (MD ((0,a0,((ln a0:Nat):Int),0,()),())) (se (fun y10=>(some (true,()))) (fun z11=>(some (z11.1.1,())))))
def KC(t3:Unit)(t7:VN)(t8:Int)(t9:Int)(b3:Lc):Option (((Unit×Aac)×A4)⊕FL):=
 (cond (decide (t9<t8))
 (ob (Wb t7 t9) fun x3=>
 (cond (YB Sh x3 b3)
 (some (.inr (.inr ((t9,()),()))))
 (some (.inl (((),t7,t8,(wr .i64 (t9+1)),()),(b3,()))))))
 (some (.inr (.inl ((),())))))
def PD:=Eb fun x:((Unit×Aac)×A4)=>KC x.1.1 x.1.2.1 x.1.2.2.1 x.1.2.2.2.1 x.2.1
def IG(a0:VN)(a1:Lc):Option Oh:=
 (ob (PD (((),a0,((ln a0:Nat):Int),0,()),(a1,()))) (se (fun y4=>(some ((-1),()))) (fun z5=>(some (z5.1.1,())))))
def Sr(t3:VN)(t11:Bg)(t12:Int)(t13:Int):Option ((W3×Unit)⊕(((VN×Unit)×Unit)⊕UB)):=
 (cond (decide (t13<t12))
 (ob (Wb t11 t13) fun x10=>
 (ob (IG t3 x10.2) fun r11=>
 (ob (Ri (2,x10.2.1,x10.2.2.1,0,())) fun r12=>
 (cond (!r12.1)
 (some (.inr (.inr ((false,()),()))))
 (cond (x10.1==0)
 (cond (decide (r11.1≥0))
 (some (.inr (.inr ((false,()),()))))
 (cond (x10.1==1)
 (cond (bl (ln t3+ln ([x10.2]:List Lc)) Sa)
 (some (.inl (((ap t3 ([x10.2]:List Lc)),t11,t12,(wr .i64 (t13+1)),()),())))
 none)
 (some (.inl ((t3,t11,t12,(wr .i64 (t13+1)),()),())))))
 (cond (x10.1==1)
 (cond (decide (r11.1≥0))
 (some (.inr (.inr ((false,()),()))))
 (cond (x10.1==1)
 (cond (bl (ln t3+ln ([x10.2]:List Lc)) Sa)
 (some (.inl (((ap t3 ([x10.2]:List Lc)),t11,t12,(wr .i64 (t13+1)),()),())))
 none)
 (some (.inl ((t3,t11,t12,(wr .i64 (t13+1)),()),())))))
 (cond (x10.1==2)
 (cond (decide (r11.1<0))
 (some (.inr (.inr ((false,()),()))))
 (cond (Bd (ln t3) 0 r11.1)
 (cond (Bd (ln t3) (wr .i64 (r11.1+1)) ((ln t3:Nat):Int))
 (cond (bl (ln (Ya t3 (tn 0) (tn r11.1))+ln (Ya t3 (tn (wr .i64 (r11.1+1))) (tn ((ln t3:Nat):Int)))) Sa)
 (some (.inl (((ap (Ya t3 (tn 0) (tn r11.1)) (Ya t3 (tn (wr .i64 (r11.1+1))) (tn ((ln t3:Nat):Int)))),t11,t12,(wr .i64 (t13+1)),()),())))
 none)
 none)
 none))
 (some (.inr (.inr ((false,()),())))))))))))
 (some (.inr (.inl ((t3,()),())))))
def JB:=Eb fun x:(W3×Unit)=>Sr x.1.1 x.1.2.1 x.1.2.2.1 x.1.2.2.2.1
def Rr(a0:Bg):Option Be:=
 (cond (decide (((ln a0:Nat):Int)>8))
 (some (false,()))
 (ob (JB (([],a0,((ln a0:Nat):Int),0,()),())) (se (fun y13=>(some ((((ln y13.1.1:Nat):Int)==0),()))) (fun z14=>(some (z14.1.1,()))))))
def Ew(t1:Unit)(t35:Cw)(t36:Int)(t37:Int)(b1:Gb):Option (((Unit×(Cw×Lc))×Xp)⊕((Wf×Xp)⊕UB)):=
 (cond (decide (t37<t36))
 (ob (Wb t35 t37) fun x7=>
 (ob (Rr x7) fun r8=>
 (cond (!r8.1)
 (some (.inr (.inr ((false,()),()))))
 (some (.inl (((),t35,t36,(wr .i64 (t37+1)),()),(b1,())))))))
 (some (.inr (.inl (((),()),(b1,()))))))
def Zp:=Eb fun x:((Unit×(Cw×Lc))×Xp)=>Ew x.1.1 x.1.2.1 x.1.2.2.1 x.1.2.2.2.1 x.2.1
def Vt(t1:Unit)(t5:Int)(t50:Fe)(t51:Int)(t52:Int)(b1:Gb):Option (((Unit×(Int×AO))×Xp)⊕((Ns×Xp)⊕UB)):=
 (cond (decide (t52<t51))
 (ob (Wb t50 t52) fun x13=>
 (cond (decide (x13.1≥b1.1.1))
 (some (.inr (.inr ((false,()),()))))
 (cond (x13.2.1.1 !=9)
 (cond (decide (x13.2.1.2.2.2.1≥t5))
 (some (.inr (.inr ((false,()),()))))
 (some (.inl (((),t5,t50,t51,(wr .i64 (t52+1)),()),(b1,())))))
 (some (.inl (((),t5,t50,t51,(wr .i64 (t52+1)),()),(b1,())))))))
 (some (.inr (.inl (((),t5,()),(b1,()))))))
def No:=Eb fun x:((Unit×(Int×AO))×Xp)=>Vt x.1.1 x.1.2.1 x.1.2.2.1 x.1.2.2.2.1 x.1.2.2.2.2.1 x.2.1
def Dp(a0:Gb):Option Be:=
 (ob (Zl a0.1) fun r1=>
 (cond (!r1.1)
 (some (false,()))
 (cond (decide (((ln a0.2.1:Nat):Int)>4))
 (some (false,()))
 (ob (Nn a0.2.2.2.1) fun r2=>
 (cond (!r2.1)
 (some (false,()))
 (cond (decide (a0.2.2.2.2.1<0))
 (some (false,()))
 (cond (decide (a0.2.2.2.2.1>15))
 (some (false,()))
 (ob (Zp (((),a0.2.1,((ln a0.2.1:Nat):Int),0,()),(a0,()))) (se (fun y9=>(ob (No (((),((ln y9.2.1.1.2.1:Nat):Int),y9.2.1.2.2.2.1,((ln y9.2.1.2.2.2.1:Nat):Int),0,()),(y9.2.1,()))) (se (fun y14=>(cond (decide (y14.2.1.2.2.1≥0))
 (cond ((2:Int)==0)
 none
 (cond ((yc y14.2.1.2.2.1 2)==0)
 (cond (decide (0≤y14.1.2.1))
 (some ((decide (y14.2.1.2.2.1<(Ke .i64 1 y14.1.2.1))),()))
 none)
 (some (false,()))))
 (some (false,())))) (fun z15=>(some (z15.1.1,())))))) (fun z10=>(some (z10.1.1,()))))))))))))
def Tk(a0:Ea)(a1:Cw):Option (Gb×Be):=
 (ob (Fu a0) fun r1=>
 (ob (Po a1) fun r2=>
 (ob (Dp (r1.1,r2.1,0,[],0,false,())) fun r3=>
 (cond (!r3.1)
 (some (Hy,false,()))
 (some ((r1.1,r2.1,0,[],0,false,()),true,()))))))
def Ql(a0:Gb):Option Xp:=
 (ob (Fu a0.1) fun r1=>
 (ob (Po a0.2.1) fun r2=>
 (cond (bl (ln ([]:List La)+ln a0.2.2.2.1) Sa)
 (some ((r1.1,r2.1,a0.2.2.1,(ap [] a0.2.2.2.1),a0.2.2.2.2),()))
 none)))
def NA(a0:Ta):Option Be:=
 (cond (decide (a0.1≥1))
 (cond (decide (a0.1≤1000))
 (cond (decide (a0.2.1≥0))
 (cond (decide (a0.2.1≤1000))
 (cond (decide (a0.2.2.1≥0))
 (some ((decide (a0.2.2.1≤2)),()))
 (some (false,())))
 (some (false,())))
 (some (false,())))
 (some (false,())))
 (some (false,())))
def Jw(t3:Int)(t6:Fe)(t7:Int)(t8:Int):Option (JQ⊕Zab):=
 (cond (decide (t8<t7))
 (ob (Wb t6 t8) fun x3=>
 (cond (decide (0≤x3.1))
 (some (.inl (((Xd .i64 t3 (Ke .i64 1 x3.1)),t6,t7,(wr .i64 (t8+1)),()),())))
 none))
 (some (.inr (.inl ((t3,()),())))))
def Nz:=Eb fun x:JQ=>Jw x.1.1 x.1.2.1 x.1.2.2.1 x.1.2.2.2.1
def Kt(a0:Fe):Option Oh:=
 (ob (Nz ((0,a0,((ln a0:Nat):Int),0,()),())) (se (fun y4=>(some (y4.1.1,()))) (fun z5=>none)))
def LD(a0:Xa):Option Be:=
 (cond (decide (a0.1≥0))
 (cond (decide (a0.1≤1000000))
 (cond (decide (a0.2.1≥0))
 (some ((decide (a0.2.1≤31)),()))
 (some (false,())))
 (some (false,())))
 (some (false,())))
def IC(t0:Vn)(t1:Int)(t11:Vn)(t12:Int)(t13:Int):Option (((Vn×TY)×Unit)⊕((Oh×Unit)⊕Aas)):=
 (cond (decide (t13<t12))
 (ob (Wb t11 t13) fun x11=>
 (ob (LD x11) fun r12=>
 (cond (!r12.1)
 (some (.inr (.inr ((0,false,()),()))))
 (cond (decide (t13>0))
 (ob (Wb t0 (wr .i64 (t13-1))) fun x13=>
 (cond (decide (x13.1>x11.1))
 (some (.inr (.inr ((0,false,()),()))))
 (ob (Nv t1 x11.2.1) fun r14=>
 (cond (x11.2.2.1==(r14.1==1))
 (some (.inr (.inr ((0,false,()),()))))
 (cond (decide (0≤x11.2.1))
 (some (.inl ((t0,(Ft .i64 t1 (Ke .i64 1 x11.2.1)),t11,t12,(wr .i64 (t13+1)),()),())))
 none)))))
 (ob (Nv t1 x11.2.1) fun r15=>
 (cond (x11.2.2.1==(r15.1==1))
 (some (.inr (.inr ((0,false,()),()))))
 (cond (decide (0≤x11.2.1))
 (some (.inl ((t0,(Ft .i64 t1 (Ke .i64 1 x11.2.1)),t11,t12,(wr .i64 (t13+1)),()),())))
 none)))))))
 (some (.inr (.inl ((t1,()),())))))
def ND:=Eb fun x:((Vn×TY)×Unit)=>IC x.1.1 x.1.2.1 x.1.2.2.1 x.1.2.2.2.1 x.1.2.2.2.2.1
def SL(a0:Vn)(a1:Int):Option VY:=
 (cond (decide (((ln a0:Nat):Int)>64))
 (some (0,false,()))
 (ob (ND ((a0,a1,a0,((ln a0:Nat):Int),0,()),())) (se (fun y16=>(some (y16.1.1,true,()))) (fun z17=>(some z17.1)))))
def Ju(t0:Vn)(t1:Int)(t2:Int)(t11:Vn)(t12:Int)(t13:Int):Option (((Vn×(Int×TY))×Unit)⊕(((Vn×Oh)×Unit)⊕UB)):=
 (cond (decide (t13<t12))
 (ob (Wb t11 t13) fun x3=>
 (cond (decide (x3.2.1≥t2))
 (some (.inr (.inr ((false,()),()))))
 (some (.inl ((t0,t1,t2,t11,t12,(wr .i64 (t13+1)),()),())))))
 (some (.inr (.inl ((t0,t1,()),())))))
def Jx:=Eb fun x:((Vn×(Int×TY))×Unit)=>Ju x.1.1 x.1.2.1 x.1.2.2.1 x.1.2.2.2.1 x.1.2.2.2.2.1 x.1.2.2.2.2.2.1
def Dr(a0:Vn)(a1:Int)(a2:Int):Option Be:=
 (ob (Jx ((a0,a1,a2,a0,((ln a0:Nat):Int),0,()),())) (se (fun y4=>(ob (SL y4.1.1 y4.1.2.1) fun r6=>
 (some (r6.2.1,())))) (fun z5=>(some (z5.1.1,())))))
def Cr(a0:Vn)(a1:Int):Option Be:=
 (cond (((ln a0:Nat):Int)==0)
 (some (true,()))
 (ob (Wb a0 (wr .i64 (((ln a0:Nat):Int)-1))) fun x1=>
 (some ((decide (x1.1≤a1)),()))))
def Zq(a0:Cb):Option Be:=
 (ob (Dp a0.1) fun r1=>
 (cond (!r1.1)
 (some (false,()))
 (ob (NA a0.2.1) fun r2=>
 (cond (!r2.1)
 (some (false,()))
 (cond (decide (a0.2.2.2.1<0))
 (some (false,()))
 (cond (decide (a0.2.2.2.1>1000000))
 (some (false,()))
 (cond (decide (a0.2.2.2.2.1<0))
 (some (false,()))
 (cond (decide (a0.2.2.2.2.1>a0.2.2.2.1))
 (some (false,()))
 (ob (Kt a0.1.2.2.2.1) fun r3=>
 (ob (Dr a0.2.2.1 r3.1 a0.1.1.1) fun r4=>
 (cond (!r4.1)
 (some (false,()))
 (ob (Cr a0.2.2.1 a0.2.2.2.1) fun r5=>
 (cond (!r5.1)
 (some (false,()))
 (cond (decide (a0.2.2.2.2.2.1≥0))
 (cond (decide (a0.2.2.2.2.2.1≤a0.1.1.1))
 (cond (decide (a0.2.2.2.2.2.2.1≥0))
 (some ((decide (a0.2.2.2.2.2.2.1≤a0.2.2.2.1)),()))
 (some (false,())))
 (some (false,())))
 (some (false,()))))))))))))))))
def GC(a0:Gb)(a1:Ta):Option (Cb×Be):=
 (ob (Ql a0) fun r1=>
 (ob (Zq (r1.1,a1,[],0,0,0,0,())) fun r2=>
 (cond (!r2.1)
 (some (Cg,false,()))
 (some ((r1.1,a1,[],0,0,0,0,()),true,())))))
def Um(a0:Cb):Option IQ:=
 (ob (Ql a0.1) fun r1=>
 (cond (bl (ln ([]:List Xa)+ln a0.2.2.1) Sa)
 (some ((r1.1,a0.2.1,(ap [] a0.2.2.1),a0.2.2.2),()))
 none))
def CC(t1:Int)(t8:Fe)(t9:Int)(t10:Int):Option (JQ⊕FL):=
 (cond (decide (t10<t9))
 (ob (Wb t8 t10) fun x3=>
 (cond (x3.1==t1)
 (some (.inr (.inr ((t10,()),()))))
 (some (.inl ((t1,t8,t9,(wr .i64 (t10+1)),()),())))))
 (some (.inr (.inl ((),())))))
def KD:=Eb fun x:JQ=>CC x.1.1 x.1.2.1 x.1.2.2.1 x.1.2.2.2.1
def PL(a0:Gb)(a1:Int):Option Oh:=
 (ob (KD ((a1,a0.2.2.2.1,((ln a0.2.2.2.1:Nat):Int),0,()),())) (se (fun y4=>(some ((-1),()))) (fun z5=>(some (z5.1.1,())))))
def sort_Ints(x0:Ge):Option EL:=srt x0
def JC(t1:Int)(t7:Ge)(t8:Int)(t9:Int):Option ((Dap×Unit)⊕XN):=
 (cond (decide (t9<t8))
 (ob (Wb t7 t9) fun x3=>
 (cond (x3==t1)
 (some (.inr (.inr ((true,()),()))))
 (some (.inl ((t1,t7,t8,(wr .i64 (t9+1)),()),())))))
 (some (.inr (.inl ((),())))))
def OD:=Eb fun x:(Dap×Unit)=>JC x.1.1 x.1.2.1 x.1.2.2.1 x.1.2.2.2.1
def HG(a0:Ge)(a1:Int):Option Be:=
 (ob (OD ((a1,a0,((ln a0:Nat):Int),0,()),())) (se (fun y4=>(some (false,()))) (fun z5=>(some (z5.1.1,())))))
def Lz(t4:Ge)(t11:Ge)(t12:Int)(t13:Int):Option ((PS×Unit)⊕WY):=
 (cond (decide (t13<t12))
 (cond (Ac (ln t11) t13)
 (ob t11[(tn t13)]? fun x9=>
 (cond (x9 !=0)
 (ob (HG t4 x9) fun r10=>
 (cond (!r10.1)
 (cond (bl (ln t4+ln ([x9]:List Int)) Sa)
 (some (.inl (((ap t4 ([x9]:List Int)),t11,t12,(wr .i64 (t13+1)),()),())))
 none)
 (some (.inl ((t4,t11,t12,(wr .i64 (t13+1)),()),())))))
 (some (.inl ((t4,t11,t12,(wr .i64 (t13+1)),()),())))))
 none)
 (some (.inr (.inl ((t4,()),())))))
def MB:=Eb fun x:(PS×Unit)=>Lz x.1.1 x.1.2.1 x.1.2.2.1 x.1.2.2.2.1
def Gx(a0:Ge):Option EL:=
 (ob (Gk a0) fun r1=>
 (ob (sort_Ints r1.1) fun r2=>
 (ob (MB (([],r2.1,((ln r2.1:Nat):Int),0,()),())) (se (fun y11=>(some (y11.1.1,()))) (fun z12=>none)))))
def Hw(t2:Unit)(t3:Unit)(t4:Ge)(t11:Fe)(t12:Int)(t13:Int)(b2:Ca)(b3:Ca):Option (((Unit×(Unit×(Ge×AO)))×Gv)⊕Fap):=
 (cond (decide (t13<t12))
 (ob (Wb t11 t13) fun x5=>
 (cond (x5.2.1.1==2)
 (cond (bl (ln t4+ln ([x5.2.1.2.1]:List Int)) Sa)
 (some (.inl (((),(),(ap t4 ([x5.2.1.2.1]:List Int)),t11,t12,(wr .i64 (t13+1)),()),(b2,((Xd .i64 b3.1 x5.2.1.2.2.1),b3.2.1,()),()))))
 none)
 (cond (x5.2.1.1==8)
 (cond (bl (ln t4+ln ([x5.2.1.2.1]:List Int)) Sa)
 (some (.inl (((),(),(ap t4 ([x5.2.1.2.1]:List Int)),t11,t12,(wr .i64 (t13+1)),()),(b2,((Xd .i64 b3.1 x5.2.1.2.2.1),b3.2.1,()),()))))
 none)
 (cond (bl (ln t4+ln ([x5.2.1.2.1]:List Int)) Sa)
 (some (.inl (((),(),(ap t4 ([x5.2.1.2.1]:List Int)),t11,t12,(wr .i64 (t13+1)),()),(b2,b3,()))))
 none))))
 (some (.inr (.inl (((),(),t4,()),(b2,b3,()))))))
def Kz:=Eb fun x:((Unit×(Unit×(Ge×AO)))×Gv)=>Hw x.1.1 x.1.2.1 x.1.2.2.1 x.1.2.2.2.1 x.1.2.2.2.2.1 x.1.2.2.2.2.2.1 x.2.1 x.2.2.1
def Wd(a0:Fe):Option Ei:=
 (ob (Nn a0) fun r1=>
 (cond (!r1.1)
 (some ((0,[],()),()))
 (ob (Kz (((),(),[],a0,((ln a0:Nat):Int),0,()),((0,[],()),(0,[],()),()))) (se (fun y6=>(ob (Gx y6.1.2.2.1) fun r8=>
 (some ((y6.2.2.1.1,r8.1,()),())))) (fun z7=>none)))))
def Kw(t0:Ge)(t1:Ge)(t12:Int)(t13:Int):Option ((PS×Unit)⊕XN):=
 (cond (decide (t13<t12))
 (ob (Wb t0 t13) fun x5=>
 (ob (Wb t1 t13) fun x6=>
 (cond (x5 !=x6)
 (some (.inr (.inr ((false,()),()))))
 (some (.inl ((t0,t1,t12,(wr .i64 (t13+1)),()),()))))))
 (some (.inr (.inl ((),())))))
def Pz:=Eb fun x:(PS×Unit)=>Kw x.1.1 x.1.2.1 x.1.2.2.1 x.1.2.2.2.1
def VG(a0:Ge)(a1:Ge):Option Be:=
 (cond (((ln a0:Nat):Int) !=((ln a1:Nat):Int))
 (some (false,()))
 (ob (Pz ((a0,a1,((ln a0:Nat):Int),0,()),())) (se (fun y7=>(some (true,()))) (fun z8=>(some (z8.1.1,()))))))
def Au(a0:Ca)(a1:Ca):Option Be:=
 (cond (a0.1==a1.1)
 (ob (VG a0.2.1 a1.2.1) fun r1=>
 (some (r1.1,())))
 (some (false,())))
def Lm(a b:Ca):Bool:=(a.1==b.1)&&(a.2.1==b.2.1)
def EaD(c:T Ze→T Ze→Option Bool)(a b:T Ze):Option Be:=ob (c a b) fun x=>some (x,())
def EK(c:T Ze→T Ze→Option Bool)(t2:Unit)(t5:(List (Int×((T .o)×Unit))))(t8:(List (Int×((T .o)×Unit))))(t9:Int)(t10:Int)(b2:(Int×((T .o)×Unit))):Option (((Unit×((List (Int×((T .o)×Unit)))×((List (Int×((T .o)×Unit)))×Lc)))×((Int×((T .o)×Unit))×Unit))⊕((((List (Int×((T .o)×Unit)))×Unit)×Unit)⊕Wf)):=
 (cond (decide (t10<t9))
 (ob (Wb t8 t10) fun x7=>
 (ob (EaD c b2 x7) fun r8=>
 (cond (!r8.1)
 (cond (bl (ln t5+ln ([x7]:List (Int×((T .o)×Unit)))) Sa)
 (some (.inl (((),(ap t5 ([x7]:List (Int×((T .o)×Unit)))),t8,t9,(wr .i64 (t10+1)),()),(x7,()))))
 none)
 (some (.inl (((),t5,t8,t9,(wr .i64 (t10+1)),()),(x7,())))))))
 (some (.inr (.inl ((t5,()),())))))
def ZA(c:T Ze→T Ze→Option Bool)(x:((Unit×((List (Int×((T .o)×Unit)))×((List (Int×((T .o)×Unit)))×Lc)))×((Int×((T .o)×Unit))×Unit))):Option ((((List (Int×((T .o)×Unit)))×Unit)×Unit)⊕Wf):=Eb (fun x:((Unit×((List (Int×((T .o)×Unit)))×((List (Int×((T .o)×Unit)))×Lc)))×((Int×((T .o)×Unit))×Unit))=>EK c x.1.1 x.1.2.1 x.1.2.2.1 x.1.2.2.2.1 x.1.2.2.2.2.1 x.2.1) x
def Oap(c:T Ze→T Ze→Option Bool)(a0:(Int×((T .o)×Unit)))(a1:(List (Int×((T .o)×Unit)))):Option ((List (Int×((T .o)×Unit)))×Unit):=
 (ob (ZA c (((),([]:List (Int×((T .o)×Unit))),a1,((ln a1:Nat):Int),0,()),(a0,()))) (se (fun y9=>(some (y9.1.1,()))) (fun z10=>none)))
def Gf(a0:Ca)(a1:List Ca):Option ZN:=Nap Lm a0 a1
def QD(a0:Gb)(a1:Int):Option (Gb×ZN):=
 (ob (Ql a0) fun r1=>
 (ob (PL a0 a1) fun r2=>
 (cond (Bd (ln r1.1.2.2.2.1) 0 r2.1)
 (cond (Bd (ln r1.1.2.2.2.1) (wr .i64 (r2.1+1)) ((ln r1.1.2.2.2.1:Nat):Int))
 (cond (bl (ln (Ya r1.1.2.2.2.1 (tn 0) (tn r2.1))+ln (Ya r1.1.2.2.2.1 (tn (wr .i64 (r2.1+1))) (tn ((ln r1.1.2.2.2.1:Nat):Int)))) Sa)
 (ob (Wd a0.2.2.2.1) fun r3=>
 (ob (Wd (ap (Ya r1.1.2.2.2.1 (tn 0) (tn r2.1)) (Ya r1.1.2.2.2.1 (tn (wr .i64 (r2.1+1))) (tn ((ln r1.1.2.2.2.1:Nat):Int))))) fun r4=>
 (ob (Gf r3.1 ([r4.1]:List Ca)) fun r5=>
 (some ((r1.1.1,r1.1.2.1,r1.1.2.2.1,(ap (Ya r1.1.2.2.2.1 (tn 0) (tn r2.1)) (Ya r1.1.2.2.2.1 (tn (wr .i64 (r2.1+1))) (tn ((ln r1.1.2.2.2.1:Nat):Int)))),r1.1.2.2.2.2),r5.1,())))))
 none)
 none)
 none)))
def Gw(t5:Int)(t21:Fe)(t22:Int)(t23:Int):Option (JQ⊕Zab):=
 (cond (decide (t23<t22))
 (ob (Wb t21 t23) fun x16=>
 (cond (x16.2.1.1==3)
 (cond (decide (0≤x16.2.1.2.2.2.1))
 (some (.inl (((Xd .i64 t5 (Ke .i64 1 x16.2.1.2.2.2.1)),t21,t22,(wr .i64 (t23+1)),()),())))
 none)
 (some (.inl ((t5,t21,t22,(wr .i64 (t23+1)),()),())))))
 (some (.inr (.inl ((t5,()),())))))
def Pl:=Eb fun x:JQ=>Gw x.1.1 x.1.2.1 x.1.2.2.1 x.1.2.2.2.1
def It(a0:Int)(a1:Fe):Option Oh:=
 (cond (decide (a0≥0))
 (cond (decide (a0≤15))
 (ob (Nn a1) fun r1=>
 (cond (!r1.1)
 (some ((Xd .i64 1 a0),()))
 (ob (Pl (((Xd .i64 1 a0),a1,((ln a1:Nat):Int),0,()),())) (se (fun y5=>(some (y5.1.1,()))) (fun z6=>none)))))
 (ob (Nn a1) fun r7=>
 (cond (!r7.1)
 (some (1,()))
 (ob (Pl ((1,a1,((ln a1:Nat):Int),0,()),())) (se (fun y11=>(some (y11.1.1,()))) (fun z12=>none))))))
 (ob (Nn a1) fun r13=>
 (cond (!r13.1)
 (some (1,()))
 (ob (Pl ((1,a1,((ln a1:Nat):Int),0,()),())) (se (fun y17=>(some (y17.1.1,()))) (fun z18=>none))))))
def NP(t1:Int)(t2:Int)(t3:Unit)(t7:Int)(b3:Ea):Option (Eac⊕FL):=
 (cond (decide (t7>0))
 (ob (Nv t1 t7) fun r7=>
 (cond (r7.1==1)
 (ob (Wb b3.2.1 t7) fun x8=>
 (ob (Wb x8 t2) fun x9=>
 (cond (x9.1 !=1)
 (some (.inr (.inr ((t7,()),()))))
 (some (.inl ((t1,t2,(),(wr .i64 (t7-1)),()),(b3,())))))))
 (some (.inl ((t1,t2,(),(wr .i64 (t7-1)),()),(b3,()))))))
 (some (.inr (.inl ((),())))))
def Vj:=Eb fun x:Eac=>NP x.1.1 x.1.2.1 x.1.2.2.1 x.1.2.2.2.1 x.2.1
def Ix(a0:Ea)(a1:Int)(a2:Int):Option Oh:=
 (ob (Vj ((a1,a2,(),(wr .i64 (((ln a0.2.1:Nat):Int)-1)),()),(a0,()))) (se (fun y10=>(some (0,()))) (fun z11=>(some (z11.1.1,())))))
def LP(a0:Ea)(a1:Int)(a2:Int):Option Oh:=
 (ob (Zl a0) fun r1=>
 (cond (!r1.1)
 (some ((-1),()))
 (cond (decide (a2<0))
 (some ((-1),()))
 (cond (decide (a2≥a0.1))
 (some ((-1),()))
 (ob (Ix a0 a1 a2) fun r2=>
 (some (r2.1,())))))))
def TG(a0:Ea)(a1:Int)(a2:Int):Option Bw:=
 (ob (LP a0 a1 a2) fun r1=>
 (cond (decide (r1.1<0))
 (some ((0,0,0,0,()),()))
 (ob (Wb a0.2.1 r1.1) fun x2=>
 (ob (Wb x2 a2) fun x3=>
 (some (x3,()))))))
def Dw(t1:Int)(t2:Int)(t4:Int)(t5:Unit)(t12:Int)(t26:Vn)(t27:Int)(t28:Int)(b5:Ta):Option (((Int×(Int×(Int×(Unit×TY))))×GI)⊕(((Int×(Int×Wf))×GI)⊕A4)):=
 (cond (decide (t28<t27))
 (ob (Wb t26 t28) fun x10=>
 (ob (LD x10) fun r11=>
 (cond (!r11.1)
 (some (.inr (.inr ((0,0,()),()))))
 (cond (decide (x10.1≥(wr .i64 (t2+b5.1))))
 (some (.inr (.inr ((2,(wr .i64 (t2+b5.1)),()),()))))
 (cond (x10.2.1==t1)
 (cond (!x10.2.2.1)
 (some (.inr (.inr ((1,x10.1,()),()))))
 (cond (x10.2.1==t1)
 (some (.inl ((t1,t2,t4,(),t12,t26,t27,(wr .i64 (t28+1)),()),(b5,()))))
 (cond x10.2.2.1
 (cond (b5.2.2.1==1)
 (some (.inr (.inr ((2,x10.1,()),()))))
 (cond (decide (0≤x10.2.1))
 (some (.inl ((t1,t2,t4,(),(Xd .i64 t12 (Ke .i64 1 x10.2.1)),t26,t27,(wr .i64 (t28+1)),()),(b5,()))))
 none))
 (cond (b5.2.2.1==2)
 (ob (Nv t12 x10.2.1) fun r12=>
 (cond (r12.1==1)
 (some (.inr (.inr ((2,x10.1,()),()))))
 (some (.inl ((t1,t2,t4,(),t12,t26,t27,(wr .i64 (t28+1)),()),(b5,()))))))
 (some (.inl ((t1,t2,t4,(),t12,t26,t27,(wr .i64 (t28+1)),()),(b5,()))))))))
 (cond (x10.2.1==t1)
 (some (.inl ((t1,t2,t4,(),t12,t26,t27,(wr .i64 (t28+1)),()),(b5,()))))
 (cond x10.2.2.1
 (cond (b5.2.2.1==1)
 (some (.inr (.inr ((2,x10.1,()),()))))
 (cond (decide (0≤x10.2.1))
 (some (.inl ((t1,t2,t4,(),(Xd .i64 t12 (Ke .i64 1 x10.2.1)),t26,t27,(wr .i64 (t28+1)),()),(b5,()))))
 none))
 (cond (b5.2.2.1==2)
 (ob (Nv t12 x10.2.1) fun r13=>
 (cond (r13.1==1)
 (some (.inr (.inr ((2,x10.1,()),()))))
 (some (.inl ((t1,t2,t4,(),t12,t26,t27,(wr .i64 (t28+1)),()),(b5,()))))))
 (some (.inl ((t1,t2,t4,(),t12,t26,t27,(wr .i64 (t28+1)),()),(b5,()))))))))))))
 (some (.inr (.inl ((t2,t4,(),()),(b5,()))))))
def Az:=Eb fun x:((Int×(Int×(Int×(Unit×TY))))×GI)=>Dw x.1.1 x.1.2.1 x.1.2.2.1 x.1.2.2.2.1 x.1.2.2.2.2.1 x.1.2.2.2.2.2.1 x.1.2.2.2.2.2.2.1 x.1.2.2.2.2.2.2.2.1 x.2.1
def MA(a0:Ta)(a1:Int)(a2:Int)(a3:Vn)(a4:Int):Option Lc:=
 (ob (NA a0) fun r1=>
 (cond (!r1.1)
 (some (0,0,()))
 (cond (decide (a2<0))
 (some (0,0,()))
 (cond (decide (a2>1000000))
 (some (0,0,()))
 (ob (Az ((a1,a2,a4,(),0,a3,((ln a3:Nat):Int),0,()),(a0,()))) (se (fun y14=>(cond (decide (y14.1.2.1≥(wr .i64 (y14.1.1+y14.2.1.1))))
 (some (2,(wr .i64 (y14.1.1+y14.2.1.1)),()))
 (some (0,0,())))) (fun z15=>(some z15.1))))))))
def QL(a0:Ia):Option Bw:=
 (ob (Ar a0) fun r1=>
 (cond (!r1.1)
 (some (a0,()))
 (cond (a0.1==6)
 (some ((2,0,a0.2.2.1,0,()),()))
 (some ((3,0,0,a0.2.2.2.1,()),())))))
def FC(a0:Int):Option Be:=
 (cond (decide (a0≥1))
 (cond (decide (a0≤36))
 (some (true,()))
 (cond (a0==39)
 (some (true,()))
 (some ((a0==42),()))))
 (cond (a0==39)
 (some (true,()))
 (some ((a0==42),()))))
def Rv(a0:Gb)(a1:Ia):Option (Gb×Bw):=
 (cond (a1.1==2)
 (cond (a1.2.1==0)
 (some (a0,(a1,())))
 (cond a0.2.2.2.2.2.1
 (ob (FC a1.2.1) fun r1=>
 (cond r1.1
 (cond (decide (a1.2.1≤26))
 (cond ((Aj .i64 (Xd .i64 a1.2.2.1 a0.2.2.2.2.1) 2)==0)
 (some ((a0.1,a0.2.1,a0.2.2.1,a0.2.2.2.1,0,r1.1,a0.2.2.2.2.2.2),((a1.1,a1.2.1,2,a1.2.2.2),())))
 (some ((a0.1,a0.2.1,a0.2.2.1,a0.2.2.2.1,0,r1.1,a0.2.2.2.2.2.2),((a1.1,a1.2.1,(Xd .i64 a1.2.2.1 a0.2.2.2.2.1),a1.2.2.2),()))))
 (some ((a0.1,a0.2.1,a0.2.2.1,a0.2.2.2.1,0,r1.1,a0.2.2.2.2.2.2),((a1.1,a1.2.1,(Xd .i64 a1.2.2.1 a0.2.2.2.2.1),a1.2.2.2),()))))
 (some ((a0.1,a0.2.1,a0.2.2.1,a0.2.2.2.1,0,r1.1,a0.2.2.2.2.2.2),((a1.1,a1.2.1,(Xd .i64 a1.2.2.1 a0.2.2.2.2.1),a1.2.2.2),())))))
 (some ((a0.1,a0.2.1,a0.2.2.1,a0.2.2.2.1,0,false,a0.2.2.2.2.2.2),((a1.1,a1.2.1,(Xd .i64 a1.2.2.1 a0.2.2.2.2.1),a1.2.2.2),())))))
 (cond (a1.1==4)
 (cond (decide (0≤a1.2.2.2.1))
 (some ((a0.1,a0.2.1,(Ft .i64 a0.2.2.1 (Ke .i64 1 a1.2.2.2.1)),a0.2.2.2),(a1,())))
 none)
 (cond (a1.1==5)
 (cond (decide (0≤a1.2.2.2.1))
 (some ((a0.1,a0.2.1,(Aj .i64 (Ke .i64 1 a1.2.2.2.1) 1),a0.2.2.2),(a1,())))
 none)
 (cond (a1.1==8)
 (cond ((Fh .i64 a0.2.2.2.2.1 a1.2.2.1)==a1.2.2.1)
 (some ((a0.1,a0.2.1,a0.2.2.1,a0.2.2.2.1,(Aj .i64 a0.2.2.2.2.1 a1.2.2.1),a0.2.2.2.2.2),(a1,())))
 (some ((a0.1,a0.2.1,a0.2.2.1,a0.2.2.2.1,(Xd .i64 a0.2.2.2.2.1 a1.2.2.1),a0.2.2.2.2.2),(a1,()))))
 (cond (a1.1==10)
 (some ((a0.1,a0.2.1,a0.2.2.1,a0.2.2.2.1,a0.2.2.2.2.1,(!a0.2.2.2.2.2.1),a0.2.2.2.2.2.2),(a1,())))
 (some (a0,(a1,()))))))))
def Ku(t4:Unit)(t5:Unit)(t6:Ge)(t15:VN)(t16:Int)(t17:Int)(b4:Ca)(b5:Ca):Option (((Unit×(Unit×(Ge×Aac)))×Gv)⊕Fap):=
 (cond (decide (t17<t16))
 (ob (Wb t15 t17) fun x4=>
 (cond (bl (ln t6+ln ([x4.1]:List Int)) Sa)
 (some (.inl (((),(),(ap t6 ([x4.1]:List Int)),t15,t16,(wr .i64 (t17+1)),()),(b4,((Xd .i64 b5.1 x4.2.1),b5.2.1,()),()))))
 none))
 (some (.inr (.inl (((),(),t6,()),(b4,b5,()))))))
def Kx:=Eb fun x:((Unit×(Unit×(Ge×Aac)))×Gv)=>Ku x.1.1 x.1.2.1 x.1.2.2.1 x.1.2.2.2.1 x.1.2.2.2.2.1 x.1.2.2.2.2.2.1 x.2.1 x.2.2.1
def Fg(a0:Ca)(a1:VN):Option Ei:=
 (ob (Gk a0.2.1) fun r1=>
 (ob (Kx (((),(),r1.1,a1,((ln a1:Nat):Int),0,()),((0,[],()),(a0.1,[],()),()))) (se (fun y5=>(ob (Gx y5.1.2.2.1) fun r7=>
 (some ((y5.2.2.1.1,r7.1,()),())))) (fun z6=>none))))
def Oo(t5:Unit)(t6:Eh)(t7:VN)(t22:Bg)(t23:Int)(t24:Int)(b5:Ca):Option (((Unit×(Eh×W3))×Ei)⊕C4):=
 (cond (decide (t24<t23))
 (ob (Wb t22 t24) fun x25=>
 (cond (x25.1==0)
 (cond (bl (ln ([]:List Lc)+ln t7) Sa)
 (cond (bl (ln (ap [] t7)+ln ([x25.2]:List Lc)) Sa)
 (ob (Fg b5 (ap (ap [] t7) ([x25.2]:List Lc))) fun r26=>
 (cond (bl (ln t6+ln ([r26.1]:List Ca)) Sa)
 (ob (Fg b5 t7) fun r27=>
 (cond (bl (ln (ap t6 ([r26.1]:List Ca))+ln ([r27.1]:List Ca)) Sa)
 (some (.inl (((),(ap (ap t6 ([r26.1]:List Ca)) ([r27.1]:List Ca)),t7,t22,t23,(wr .i64 (t24+1)),()),(b5,()))))
 none))
 none))
 none)
 none)
 (cond (x25.1==1)
 (cond (bl (ln t7+ln ([x25.2]:List Lc)) Sa)
 (ob (Fg b5 (ap t7 ([x25.2]:List Lc))) fun r28=>
 (cond (bl (ln t6+ln ([r28.1]:List Ca)) Sa)
 (some (.inl (((),(ap t6 ([r28.1]:List Ca)),(ap t7 ([x25.2]:List Lc)),t22,t23,(wr .i64 (t24+1)),()),(b5,()))))
 none))
 none)
 (cond (x25.1==2)
 (ob (IG t7 x25.2) fun r29=>
 (cond (Bd (ln t7) 0 r29.1)
 (cond (Bd (ln t7) (wr .i64 (r29.1+1)) ((ln t7:Nat):Int))
 (cond (bl (ln (Ya t7 (tn 0) (tn r29.1))+ln (Ya t7 (tn (wr .i64 (r29.1+1))) (tn ((ln t7:Nat):Int)))) Sa)
 (ob (Fg b5 (ap (Ya t7 (tn 0) (tn r29.1)) (Ya t7 (tn (wr .i64 (r29.1+1))) (tn ((ln t7:Nat):Int))))) fun r30=>
 (cond (bl (ln t6+ln ([r30.1]:List Ca)) Sa)
 (some (.inl (((),(ap t6 ([r30.1]:List Ca)),(ap (Ya t7 (tn 0) (tn r29.1)) (Ya t7 (tn (wr .i64 (r29.1+1))) (tn ((ln t7:Nat):Int)))),t22,t23,(wr .i64 (t24+1)),()),(b5,()))))
 none))
 none)
 none)
 none))
 (ob (Fg b5 t7) fun r31=>
 (cond (bl (ln t6+ln ([r31.1]:List Ca)) Sa)
 (some (.inl (((),(ap t6 ([r31.1]:List Ca)),t7,t22,t23,(wr .i64 (t24+1)),()),(b5,()))))
 none))))))
 (some (.inr (.inl ((t6,()),())))))
def Tr:=Eb fun x:((Unit×(Eh×W3))×Ei)=>Oo x.1.1 x.1.2.1 x.1.2.2.1 x.1.2.2.2.1 x.1.2.2.2.2.1 x.1.2.2.2.2.2.1 x.2.1
def Wl(a0:Fe)(a1:Bg):Option ZN:=
 (ob (Nn a0) fun r1=>
 (cond (!r1.1)
 (some ([],()))
 (ob (Rr a1) fun r2=>
 (cond (!r2.1)
 (some ([],()))
 (ob (Wd a0) fun r3=>
 (ob (Tr (((),[],[],a1,((ln a1:Nat):Int),0,()),(r3.1,()))) (se (fun y32=>(some (y32.1.1,()))) (fun z33=>none))))))))
def Dj(a0:Gb)(a1:Int)(a2:Bool):Option (Gb×ZN):=
 (ob (Ql a0) fun r1=>
 (ob (It a0.2.2.1 a0.2.2.2.1) fun r2=>
 (ob (Ix a0.1 r2.1 a1) fun r3=>
 (ob (Wb a0.1.2.1 r3.1) fun x4=>
 (ob (Wb x4 a1) fun x5=>
 (cond a2
 (ob (QL x5) fun r6=>
 (ob (Rv r1.1 r6.1) fun r7=>
 (cond (bl (ln r7.1.2.2.2.1+ln ([(a1,r7.2.1,())]:List La)) Sa)
 (cond (r7.2.1.1==9)
 (cond (decide (r7.2.1.2.2.2.1<((ln a0.2.1:Nat):Int)))
 (ob (Wb a0.2.1 r7.2.1.2.2.2.1) fun x8=>
 (ob (Wl (ap r7.1.2.2.2.1 ([(a1,r7.2.1,())]:List La)) x8) fun r9=>
 (ob (Wd (ap r7.1.2.2.2.1 ([(a1,r7.2.1,())]:List La))) fun r10=>
 (cond (bl (ln r9.1+ln ([r10.1]:List Ca)) Sa)
 (ob (Wd a0.2.2.2.1) fun r11=>
 (ob (Gf r11.1 (ap r9.1 ([r10.1]:List Ca))) fun r12=>
 (some ((r7.1.1,r7.1.2.1,r7.1.2.2.1,(ap r7.1.2.2.2.1 ([(a1,r7.2.1,())]:List La)),r7.1.2.2.2.2),r12.1,()))))
 none))))
 (ob (Wd (ap r7.1.2.2.2.1 ([(a1,r7.2.1,())]:List La))) fun r13=>
 (cond (bl (ln ([]:List Ca)+ln ([r13.1]:List Ca)) Sa)
 (ob (Wd a0.2.2.2.1) fun r14=>
 (ob (Gf r14.1 (ap [] ([r13.1]:List Ca))) fun r15=>
 (some ((r7.1.1,r7.1.2.1,r7.1.2.2.1,(ap r7.1.2.2.2.1 ([(a1,r7.2.1,())]:List La)),r7.1.2.2.2.2),r15.1,()))))
 none)))
 (ob (Wd (ap r7.1.2.2.2.1 ([(a1,r7.2.1,())]:List La))) fun r16=>
 (cond (bl (ln ([]:List Ca)+ln ([r16.1]:List Ca)) Sa)
 (ob (Wd a0.2.2.2.1) fun r17=>
 (ob (Gf r17.1 (ap [] ([r16.1]:List Ca))) fun r18=>
 (some ((r7.1.1,r7.1.2.1,r7.1.2.2.1,(ap r7.1.2.2.2.1 ([(a1,r7.2.1,())]:List La)),r7.1.2.2.2.2),r18.1,()))))
 none)))
 none)))
 (ob (CO x5) fun r19=>
 (ob (Rv r1.1 r19.1) fun r20=>
 (cond (bl (ln r20.1.2.2.2.1+ln ([(a1,r20.2.1,())]:List La)) Sa)
 (cond (r20.2.1.1==9)
 (cond (decide (r20.2.1.2.2.2.1<((ln a0.2.1:Nat):Int)))
 (ob (Wb a0.2.1 r20.2.1.2.2.2.1) fun x21=>
 (ob (Wl (ap r20.1.2.2.2.1 ([(a1,r20.2.1,())]:List La)) x21) fun r22=>
 (ob (Wd (ap r20.1.2.2.2.1 ([(a1,r20.2.1,())]:List La))) fun r23=>
 (cond (bl (ln r22.1+ln ([r23.1]:List Ca)) Sa)
 (ob (Wd a0.2.2.2.1) fun r24=>
 (ob (Gf r24.1 (ap r22.1 ([r23.1]:List Ca))) fun r25=>
 (some ((r20.1.1,r20.1.2.1,r20.1.2.2.1,(ap r20.1.2.2.2.1 ([(a1,r20.2.1,())]:List La)),r20.1.2.2.2.2),r25.1,()))))
 none))))
 (ob (Wd (ap r20.1.2.2.2.1 ([(a1,r20.2.1,())]:List La))) fun r26=>
 (cond (bl (ln ([]:List Ca)+ln ([r26.1]:List Ca)) Sa)
 (ob (Wd a0.2.2.2.1) fun r27=>
 (ob (Gf r27.1 (ap [] ([r26.1]:List Ca))) fun r28=>
 (some ((r20.1.1,r20.1.2.1,r20.1.2.2.1,(ap r20.1.2.2.2.1 ([(a1,r20.2.1,())]:List La)),r20.1.2.2.2.2),r28.1,()))))
 none)))
 (ob (Wd (ap r20.1.2.2.2.1 ([(a1,r20.2.1,())]:List La))) fun r29=>
 (cond (bl (ln ([]:List Ca)+ln ([r29.1]:List Ca)) Sa)
 (ob (Wd a0.2.2.2.1) fun r30=>
 (ob (Gf r30.1 (ap [] ([r29.1]:List Ca))) fun r31=>
 (some ((r20.1.1,r20.1.2.1,r20.1.2.2.1,(ap r20.1.2.2.2.1 ([(a1,r20.2.1,())]:List La)),r20.1.2.2.2.2),r31.1,()))))
 none)))
 none)))))))))
def Bj(a0:Cb):Option (Cb×(Eh×Be)):=
 (cond (Ac (ln a0.2.2.1) 0)
 (ob a0.2.2.1[(tn 0)]? fun x1=>
 (cond (Bd (ln a0.2.2.1) 1 ((ln a0.2.2.1:Nat):Int))
 (cond (!x1.2.2.1)
 (cond (a0.2.2.2.2.2.1==(wr .i64 (x1.2.1+1)))
 (ob (QD a0.1 x1.2.1) fun r2=>
 (cond (bl (ln ([]:List Xa)+ln (Ya a0.2.2.1 (tn 1) (tn ((ln a0.2.2.1:Nat):Int)))) Sa)
 (some ((r2.1,a0.2.1,(ap [] (Ya a0.2.2.1 (tn 1) (tn ((ln a0.2.2.1:Nat):Int)))),a0.2.2.2.1,(max a0.2.2.2.2.1 x1.1),a0.2.2.2.2.2.1,x1.1,a0.2.2.2.2.2.2.2),(r2.2.1,true,())))
 none))
 (ob (QD a0.1 x1.2.1) fun r3=>
 (cond (bl (ln ([]:List Xa)+ln (Ya a0.2.2.1 (tn 1) (tn ((ln a0.2.2.1:Nat):Int)))) Sa)
 (some ((r3.1,a0.2.1,(ap [] (Ya a0.2.2.1 (tn 1) (tn ((ln a0.2.2.1:Nat):Int)))),a0.2.2.2.1,(max a0.2.2.2.2.1 x1.1),a0.2.2.2.2.2),(r3.2.1,true,())))
 none)))
 (ob (It a0.1.2.2.1 a0.1.2.2.2.1) fun r4=>
 (ob (TG a0.1.1 r4.1 x1.2.1) fun r5=>
 (ob (Ar r5.1) fun r6=>
 (cond r6.1
 (cond (a0.2.2.2.2.2.1 !=(wr .i64 (x1.2.1+1)))
 (ob (MA a0.2.1 x1.2.1 x1.1 (Ya a0.2.2.1 (tn 1) (tn ((ln a0.2.2.1:Nat):Int))) a0.2.2.2.1) fun r7=>
 (cond (r7.1==0)
 (some (a0,([],false,())))
 (cond (r7.1==1)
 (ob (Dj a0.1 x1.2.1 false) fun r8=>
 (cond (bl (ln ([]:List Xa)+ln (Ya a0.2.2.1 (tn 1) (tn ((ln a0.2.2.1:Nat):Int)))) Sa)
 (some ((r8.1,a0.2.1,(ap [] (Ya a0.2.2.1 (tn 1) (tn ((ln a0.2.2.1:Nat):Int)))),a0.2.2.2.1,(max (max a0.2.2.2.2.1 x1.1) r7.2.1),(wr .i64 (x1.2.1+1)),x1.1,a0.2.2.2.2.2.2.2),(r8.2.1,true,())))
 none))
 (cond (r7.1==2)
 (ob (Dj a0.1 x1.2.1 true) fun r9=>
 (cond (bl (ln ([]:List Xa)+ln (Ya a0.2.2.1 (tn 1) (tn ((ln a0.2.2.1:Nat):Int)))) Sa)
 (some ((r9.1,a0.2.1,(ap [] (Ya a0.2.2.1 (tn 1) (tn ((ln a0.2.2.1:Nat):Int)))),a0.2.2.2.1,(max (max a0.2.2.2.2.1 x1.1) r7.2.1),0,a0.2.2.2.2.2.2),(r9.2.1,true,())))
 none))
 (ob (Dj a0.1 x1.2.1 false) fun r10=>
 (cond (bl (ln ([]:List Xa)+ln (Ya a0.2.2.1 (tn 1) (tn ((ln a0.2.2.1:Nat):Int)))) Sa)
 (some ((r10.1,a0.2.1,(ap [] (Ya a0.2.2.1 (tn 1) (tn ((ln a0.2.2.1:Nat):Int)))),a0.2.2.2.1,(max (max a0.2.2.2.2.1 x1.1) r7.2.1),a0.2.2.2.2.2),(r10.2.1,true,())))
 none))))))
 (cond (decide ((wr .i64 (x1.1-a0.2.2.2.2.2.2.1))≥a0.2.1.2.1))
 (ob (MA a0.2.1 x1.2.1 x1.1 (Ya a0.2.2.1 (tn 1) (tn ((ln a0.2.2.1:Nat):Int))) a0.2.2.2.1) fun r11=>
 (cond (r11.1==0)
 (some (a0,([],false,())))
 (cond (r11.1==1)
 (ob (Dj a0.1 x1.2.1 false) fun r12=>
 (cond (bl (ln ([]:List Xa)+ln (Ya a0.2.2.1 (tn 1) (tn ((ln a0.2.2.1:Nat):Int)))) Sa)
 (some ((r12.1,a0.2.1,(ap [] (Ya a0.2.2.1 (tn 1) (tn ((ln a0.2.2.1:Nat):Int)))),a0.2.2.2.1,(max (max a0.2.2.2.2.1 x1.1) r11.2.1),(wr .i64 (x1.2.1+1)),x1.1,a0.2.2.2.2.2.2.2),(r12.2.1,true,())))
 none))
 (cond (r11.1==2)
 (ob (Dj a0.1 x1.2.1 true) fun r13=>
 (cond (bl (ln ([]:List Xa)+ln (Ya a0.2.2.1 (tn 1) (tn ((ln a0.2.2.1:Nat):Int)))) Sa)
 (some ((r13.1,a0.2.1,(ap [] (Ya a0.2.2.1 (tn 1) (tn ((ln a0.2.2.1:Nat):Int)))),a0.2.2.2.1,(max (max a0.2.2.2.2.1 x1.1) r11.2.1),0,a0.2.2.2.2.2.2),(r13.2.1,true,())))
 none))
 (ob (Dj a0.1 x1.2.1 false) fun r14=>
 (cond (bl (ln ([]:List Xa)+ln (Ya a0.2.2.1 (tn 1) (tn ((ln a0.2.2.1:Nat):Int)))) Sa)
 (some ((r14.1,a0.2.1,(ap [] (Ya a0.2.2.1 (tn 1) (tn ((ln a0.2.2.1:Nat):Int)))),a0.2.2.2.1,(max (max a0.2.2.2.2.1 x1.1) r11.2.1),a0.2.2.2.2.2),(r14.2.1,true,())))
 none))))))
 (cond ((1:Int)==0)
 (some (a0,([],false,())))
 (cond ((1:Int)==1)
 (ob (Dj a0.1 x1.2.1 false) fun r15=>
 (cond (bl (ln ([]:List Xa)+ln (Ya a0.2.2.1 (tn 1) (tn ((ln a0.2.2.1:Nat):Int)))) Sa)
 (some ((r15.1,a0.2.1,(ap [] (Ya a0.2.2.1 (tn 1) (tn ((ln a0.2.2.1:Nat):Int)))),a0.2.2.2.1,(max (max a0.2.2.2.2.1 x1.1) x1.1),(wr .i64 (x1.2.1+1)),x1.1,a0.2.2.2.2.2.2.2),(r15.2.1,true,())))
 none))
 (cond ((1:Int)==2)
 (ob (Dj a0.1 x1.2.1 true) fun r16=>
 (cond (bl (ln ([]:List Xa)+ln (Ya a0.2.2.1 (tn 1) (tn ((ln a0.2.2.1:Nat):Int)))) Sa)
 (some ((r16.1,a0.2.1,(ap [] (Ya a0.2.2.1 (tn 1) (tn ((ln a0.2.2.1:Nat):Int)))),a0.2.2.2.1,(max (max a0.2.2.2.2.1 x1.1) x1.1),0,a0.2.2.2.2.2.2),(r16.2.1,true,())))
 none))
 (ob (Dj a0.1 x1.2.1 false) fun r17=>
 (cond (bl (ln ([]:List Xa)+ln (Ya a0.2.2.1 (tn 1) (tn ((ln a0.2.2.1:Nat):Int)))) Sa)
 (some ((r17.1,a0.2.1,(ap [] (Ya a0.2.2.1 (tn 1) (tn ((ln a0.2.2.1:Nat):Int)))),a0.2.2.2.1,(max (max a0.2.2.2.2.1 x1.1) x1.1),a0.2.2.2.2.2),(r17.2.1,true,())))
 none)))))))
 (ob (Dj a0.1 x1.2.1 false) fun r18=>
 (cond (bl (ln ([]:List Xa)+ln (Ya a0.2.2.1 (tn 1) (tn ((ln a0.2.2.1:Nat):Int)))) Sa)
 (some ((r18.1,a0.2.1,(ap [] (Ya a0.2.2.1 (tn 1) (tn ((ln a0.2.2.1:Nat):Int)))),a0.2.2.2.1,(max a0.2.2.2.2.1 x1.1),a0.2.2.2.2.2),(r18.2.1,true,())))
 none)))))))
 none))
 none)
def XG(t0:Ai)(t1:Int)(t9:(Eh×Int))(t10:Int)(t11:Int):Option (((Ai×(Int×((Eh×Int)×Lc)))×Unit)⊕(((Ai×Unit)×Unit)⊕Wf)):=
 (cond (decide (t11<t10))
 (cond (Ac (ln t9.1) t11)
 (cond (qw (tn t11) (tn t9.2))
 (ob t9.1[(tn t11)]? fun x4=>
 (cond (bl (ln t0+ln ([(t1,x4,())]:List Qc)) Sa)
 (some (.inl (((ap t0 ([(t1,x4,())]:List Qc)),t1,(t9.1,((((tn t11)+1):Nat):Int)),t10,(wr .i64 (t11+1)),()),())))
 none))
 none)
 none)
 (some (.inr (.inl ((t0,()),())))))
def MH:=Eb fun x:((Ai×(Int×((Eh×Int)×Lc)))×Unit)=>XG x.1.1 x.1.2.1 x.1.2.2.1 x.1.2.2.2.1 x.1.2.2.2.2.1
def OM(a0:Ai)(a1:Int)(a2:Eh):Option (Ai×Unit):=
 (ob (MH ((a0,a1,(a2,0),((ln a2:Nat):Int),0,()),())) (se (fun y5=>(some (y5.1.1,()))) (fun z6=>none)))
def Ci(t6:Unit)(t9:Unit)(t10:Ai)(b6:Cb)(b9:Cb):Option (Wac⊕(Wac⊕Wf)):=
 (cond (decide (((ln b9.2.2.1:Nat):Int)>0))
 (ob (Bj b9) fun r25=>
 (cond (!r25.2.2.1)
 (some (.inr (.inl (((),(),t10,()),(b6,r25.1,())))))
 (ob (OM t10 r25.1.2.2.2.2.1 r25.2.1) fun r26=>
 (some (.inl (((),(),r26.1,()),(b6,r25.1,())))))))
 (some (.inr (.inl (((),(),t10,()),(b6,b9,()))))))
def Zg:=Eb fun x:Wac=>Ci x.1.1 x.1.2.1 x.1.2.2.1 x.2.1 x.2.2.1
def Yt(a0:Cb)(a1:Vn)(a2:Int):Option ZY:=
 (ob (Zq a0) fun r1=>
 (cond (!r1.1)
 (some (Cg,[],false,()))
 (cond (decide (a2<a0.2.2.2.1))
 (some (Cg,[],false,()))
 (cond (decide (a2>1000000))
 (some (Cg,[],false,()))
 (cond (decide (((ln a1:Nat):Int)>0))
 (ob (Wb a1 0) fun x2=>
 (cond (decide (x2.1<a0.2.2.2.1))
 (some (Cg,[],false,()))
 (ob (Cr a1 a2) fun r3=>
 (cond (!r3.1)
 (some (Cg,[],false,()))
 (ob (Um a0) fun r4=>
 (cond (bl (ln r4.1.2.2.1+ln a1) Sa)
 (ob (Kt a0.1.2.2.2.1) fun r5=>
 (ob (Dr (ap r4.1.2.2.1 a1) r5.1 a0.1.1.1) fun r6=>
 (cond (!r6.1)
 (some (Cg,[],false,()))
 (ob (Zg (((),(),[],()),(Cg,(r4.1.1,r4.1.2.1,(ap r4.1.2.2.1 a1),a2,r4.1.2.2.2.2),()))) (se (fun y15=>(some (y15.2.2.1,y15.1.2.2.1,true,()))) (fun z16=>none))))))
 none))))))
 (ob (Cr a1 a2) fun r17=>
 (cond (!r17.1)
 (some (Cg,[],false,()))
 (ob (Um a0) fun r18=>
 (cond (bl (ln r18.1.2.2.1+ln a1) Sa)
 (ob (Kt a0.1.2.2.2.1) fun r19=>
 (ob (Dr (ap r18.1.2.2.1 a1) r19.1 a0.1.1.1) fun r20=>
 (cond (!r20.1)
 (some (Cg,[],false,()))
 (ob (Zg (((),(),[],()),(Cg,(r18.1.1,r18.1.2.1,(ap r18.1.2.2.1 a1),a2,r18.1.2.2.2.2),()))) (se (fun y27=>(some (y27.2.2.1,y27.1.2.2.1,true,()))) (fun z28=>none))))))
 none)))))))))
def Fw(t1:Unit)(t14:Ge)(t15:Int)(t16:Int)(b1:Ca):Option ((Dac×Ei)⊕XN):=
 (cond (decide (t16<t15))
 (ob (Wb t14 t16) fun x7=>
 (ob (Tq x7) fun r8=>
 (cond (!r8.1)
 (some (.inr (.inr ((false,()),()))))
 (cond (decide (t16>0))
 (ob (Wb b1.2.1 (wr .i64 (t16-1))) fun x9=>
 (cond (decide (x9≥x7))
 (some (.inr (.inr ((false,()),()))))
 (some (.inl (((),t14,t15,(wr .i64 (t16+1)),()),(b1,()))))))
 (some (.inl (((),t14,t15,(wr .i64 (t16+1)),()),(b1,()))))))))
 (some (.inr (.inl ((),())))))
def Hz:=Eb fun x:(Dac×Ei)=>Fw x.1.1 x.1.2.1 x.1.2.2.1 x.1.2.2.2.1 x.2.1
def Ep(a0:Ca):Option Be:=
 (cond (decide (a0.1<0))
 (some (false,()))
 (cond (decide (a0.1>15))
 (some (false,()))
 (ob (Hz (((),a0.2.1,((ln a0.2.1:Nat):Int),0,()),(a0,()))) (se (fun y10=>(some (true,()))) (fun z11=>(some (z11.1.1,())))))))
def Jz(t2:Unit)(t5:Ge)(t17:Ge)(t18:Int)(t19:Int)(b2:Ca):Option (((Unit×PS)×Ei)⊕WY):=
 (cond (decide (t19<t18))
 (ob (Wb t17 t19) fun x9=>
 (ob (HG b2.2.1 x9) fun r10=>
 (cond (!r10.1)
 (cond (bl (ln t5+ln ([x9]:List Int)) Sa)
 (some (.inl (((),(ap t5 ([x9]:List Int)),t17,t18,(wr .i64 (t19+1)),()),(b2,()))))
 none)
 (some (.inl (((),t5,t17,t18,(wr .i64 (t19+1)),()),(b2,())))))))
 (some (.inr (.inl ((t5,()),())))))
def KB:=Eb fun x:((Unit×PS)×Ei)=>Jz x.1.1 x.1.2.1 x.1.2.2.1 x.1.2.2.2.1 x.1.2.2.2.2.1 x.2.1
def QI(a0:Ca)(a1:Ca):Option EL:=
 (ob (Ep a0) fun r1=>
 (cond (!r1.1)
 (some ([],()))
 (ob (Ep a1) fun r2=>
 (cond (!r2.1)
 (some ([],()))
 (ob (KB (((),[],a1.2.1,((ln a1.2.1:Nat):Int),0,()),(a0,()))) (se (fun y11=>(some (y11.1.1,()))) (fun z12=>none)))))))
def Du(t2:Unit)(t5:Sb)(t7:Unit)(t10:Eh)(t11:Int)(t12:Int)(t18:Ge)(t19:Int)(t20:Int)(b2:Ca)(b7:Ca):Option (Cas⊕(((Unit×(Sb×(Unit×(Eh×Lc))))×Gv)⊕Wf)):=
 (cond (decide (t20<t19))
 (cond (Ac (ln t18) t20)
 (ob t18[(tn t20)]? fun x27=>
 (ob (Mn x27 b7.1) fun r28=>
 (cond (bl (ln t5+ln r28.1) Sa)
 (some (.inl (((),(ap t5 r28.1),(),t10,t11,t12,t18,t19,(wr .i64 (t20+1)),()),(b2,b7,()))))
 none)))
 none)
 (some (.inr (.inl (((),t5,(),t10,t11,t12,()),(b2,b7,()))))))
def Dx:=Eb fun x:Cas=>Du x.1.1 x.1.2.1 x.1.2.2.1 x.1.2.2.2.1 x.1.2.2.2.2.1 x.1.2.2.2.2.2.1 x.1.2.2.2.2.2.2.1 x.1.2.2.2.2.2.2.2.1 x.1.2.2.2.2.2.2.2.2.1 x.2.1 x.2.2.1
def Cu(t2:Unit)(t5:Sb)(t10:Eh)(t11:Int)(t12:Int)(b2:Ca):Option (((Unit×(Sb×(Eh×Lc)))×Ei)⊕X3):=
 (cond (decide (t12<t11))
 (ob (Wb t10 t12) fun x21=>
 (ob (QI b2 x21) fun r22=>
 (ob (Dx (((),t5,(),t10,t11,t12,r22.1,((ln r22.1:Nat):Int),0,()),(b2,x21,()))) (se (fun y29=>(some (.inl (((),y29.1.2.1,y29.1.2.2.2.1,y29.1.2.2.2.2.1,(wr .i64 (y29.1.2.2.2.2.2.1+1)),()),(y29.2.2.1,()))))) (fun z30=>(some (.inr (.inr ((),())))))))))
 (some (.inr (.inl ((t5,()),())))))
def Cx:=Eb fun x:((Unit×(Sb×(Eh×Lc)))×Ei)=>Cu x.1.1 x.1.2.1 x.1.2.2.1 x.1.2.2.2.1 x.1.2.2.2.2.1 x.2.1
def TE(a0:Ca)(a1:Eh):Option Mh:=
 (ob (Cx (((),[],a1,((ln a1:Nat):Int),0,()),(a0,()))) (se (fun y31=>(some (y31.1.1,()))) (fun z32=>none)))
def AM(a0:Ia):Option Bw:=
 (ob (Cn a0) fun r1=>
 (cond (!r1.1)
 (some (a0,()))
 (cond (a0.1==6)
 (some ((2,0,a0.2.2.1,0,()),()))
 (some ((3,0,0,a0.2.2.2.1,()),())))))
def EQ(t1:Int)(t2:Int)(t3:Unit)(t7:Int)(b3:Ea):Option (Eac⊕FL):=
 (cond (decide (t7>0))
 (cond (decide (0≤t7))
 (cond ((Fh .i64 (Mx .i64 t1 t7) 1)==1)
 (ob (Wb b3.2.1 t7) fun x7=>
 (ob (Wb x7 t2) fun x8=>
 (cond (x8.1 !=1)
 (some (.inr (.inr ((t7,()),()))))
 (some (.inl ((t1,t2,(),(wr .i64 (t7-1)),()),(b3,())))))))
 (some (.inl ((t1,t2,(),(wr .i64 (t7-1)),()),(b3,())))))
 none)
 (some (.inr (.inl ((),())))))
def Wj:=Eb fun x:Eac=>EQ x.1.1 x.1.2.1 x.1.2.2.1 x.1.2.2.2.1 x.2.1
def DJ(a0:Ea)(a1:Int)(a2:Int):Option Oh:=
 (ob (Cm a0) fun r1=>
 (cond (!r1.1)
 (some ((-1),()))
 (ob (Sc a2 0 (wr .i64 (a0.1-1))) fun r2=>
 (cond (!r2.1)
 (some ((-1),()))
 (ob (Wj ((a1,a2,(),(wr .i64 (((ln a0.2.1:Nat):Int)-1)),()),(a0,()))) (se (fun y9=>(some (0,()))) (fun z10=>(some (z10.1.1,())))))))))
def Mt(a0:Ea)(a1:Int)(a2:Int):Option Bw:=
 (ob (DJ a0 a1 a2) fun r1=>
 (cond (decide (r1.1<0))
 (some ((0,0,0,0,()),()))
 (ob (Wb a0.2.1 r1.1) fun x2=>
 (ob (Wb x2 a2) fun x3=>
 (some (x3,()))))))
def NC(a0:Ea)(a1:Int)(a2:Int):Option Oh:=
 (ob (Fo a0 a1) fun r1=>
 (cond (!r1.1)
 (some ((-1),()))
 (ob (Sc a2 0 (wr .i64 (a0.1-1))) fun r2=>
 (cond (!r2.1)
 (some ((-1),()))
 (ob (Mt a0 (Xd .i64 1 a1) a2) fun r3=>
 (cond (r3.1.1==4)
 (cond (decide (0≤r3.1.2.2.2.1))
 (some ((Ft .i64 a1 (Ke .i64 1 r3.1.2.2.2.1)),()))
 none)
 (cond (r3.1.1==5)
 (cond (decide (0≤r3.1.2.2.2.1))
 (some ((Aj .i64 (Ke .i64 1 r3.1.2.2.2.1) 1),()))
 none)
 (some (a1,())))))))))
def Iu(a0:Ea)(a1:Int)(a2:Int):Option Oh:=
 (ob (Ix a0 a1 a2) fun r1=>
 (ob (Wb a0.2.1 r1.1) fun x2=>
 (ob (Wb x2 a2) fun x3=>
 (cond (x3.1==4)
 (cond (decide (0≤x3.2.2.2.1))
 (some ((Ft .i64 a1 (Ke .i64 1 x3.2.2.2.1)),()))
 none)
 (cond (x3.1==5)
 (cond (decide (0≤x3.2.2.2.1))
 (some ((Aj .i64 (Ke .i64 1 x3.2.2.2.1) 1),()))
 none)
 (some (a1,())))))))
def TQ(a0:Ea)(a1:Int)(a2:Int):Option Oh:=
 (ob (Xh a0 a1) fun r1=>
 (cond (!r1.1)
 (some ((-1),()))
 (cond (decide (a2<0))
 (some ((-1),()))
 (cond (decide (a2≥a0.1))
 (some ((-1),()))
 (ob (Iu a0 a1 a2) fun r2=>
 (some (r2.1,())))))))
def WC(t1:Unit)(t2:Unit)(t3:Unit)(t4:Int)(b1:Ea)(b2:Ea)(b3:Ea):Option ((XY×(Ea×VB))⊕((GL×VB)⊕Wf)):=
 (cond (decide (t4<((ln b1.2.1:Nat):Int)))
 (ob (Wb b1.2.1 t4) fun x4=>
 (cond (bl (ln ([]:List Ia)+ln x4) Sa)
 (cond (bl (ln b3.2.1+ln ([(ap [] x4)]:List Cl)) Sa)
 (some (.inl (((),(),(),(wr .i64 (t4+1)),()),(b1,b2,(b3.1,(ap b3.2.1 ([(ap [] x4)]:List Cl)),()),()))))
 none)
 none))
 (some (.inr (.inl (((),(),()),(b2,b3,()))))))
def JE:=Eb fun x:(XY×(Ea×VB))=>WC x.1.1 x.1.2.1 x.1.2.2.1 x.1.2.2.2.1 x.2.1 x.2.2.1 x.2.2.2.1
def DM(a0:Ea):Option Im:=
 (ob (JE (((),(),(),0,()),(a0,(0,[],()),(a0.1,[],()),()))) (se (fun y5=>(some (y5.2.2.1,()))) (fun z6=>none)))
def IB(t0:Int)(t3:Sb)(t12:Hd)(t13:Int)(t14:Int):Option (((Int×(Sb×Py))×Unit)⊕X3):=
 (cond (decide (t14<t13))
 (cond (Ac (ln t12) t14)
 (ob t12[(tn t14)]? fun x5=>
 (ob (Nv t0 t14) fun r6=>
 (cond (r6.1==1)
 (cond (bl (ln t3+ln x5) Sa)
 (some (.inl ((t0,(ap t3 x5),t12,t13,(wr .i64 (t14+1)),()),())))
 none)
 (some (.inl ((t0,t3,t12,t13,(wr .i64 (t14+1)),()),()))))))
 none)
 (some (.inr (.inl ((t3,()),())))))
def Kv:=Eb fun x:((Int×(Sb×Py))×Unit)=>IB x.1.1 x.1.2.1 x.1.2.2.1 x.1.2.2.2.1 x.1.2.2.2.2.1
def Kj(a0:Int):Option Mh:=
 (cond (decide (a0<1))
 (some ([],()))
 (cond (decide (a0>15))
 (some ([],()))
 (ob (Kv ((a0,[],([([67]:List UInt8),([83]:List UInt8),([65]:List UInt8),([71]:List UInt8)]:List Sb),((ln ([([67]:List UInt8),([83]:List UInt8),([65]:List UInt8),([71]:List UInt8)]:List Sb):Nat):Int),0,()),())) (se (fun y7=>(some (y7.1.1,()))) (fun z8=>none)))))
def strings_Join(a:List Sb)(b:List UInt8):Option (List UInt8×Unit):=Mac a b
def Hh(a0:Hd)(a1:Sb):Option Mh:=
 (ob (strings_Join a0 a1) fun r1=>
 (some (r1.1,())))
def Lo(t1:Unit)(t3:Hd)(t10:Ge)(t11:Int)(t12:Int)(b1:Ca):Option ((Y3×Ei)⊕(((Unit×HL)×Ei)⊕Wf)):=
 (cond (decide (t12<t11))
 (ob (Wb t10 t12) fun x8=>
 (ob (Tc x8) fun r9=>
 (cond (bl (ln t3+ln ([r9.1]:List Sb)) Sa)
 (some (.inl (((),(ap t3 ([r9.1]:List Sb)),t10,t11,(wr .i64 (t12+1)),()),(b1,()))))
 none)))
 (some (.inr (.inl (((),t3,()),(b1,()))))))
def Qr:=Eb fun x:(Y3×Ei)=>Lo x.1.1 x.1.2.1 x.1.2.2.1 x.1.2.2.2.1 x.1.2.2.2.2.1 x.2.1
def Qp(a0:Ca):Option Mh:=
 (ob (Ep a0) fun r1=>
 (cond (!r1.1)
 (some ([],()))
 (ob (Qr (((),[],a0.2.1,((ln a0.2.1:Nat):Int),0,()),(a0,()))) (se (fun y10=>(ob (Kj y10.2.1.1) fun r12=>
 (cond (bl (ln r12.1+ln ([58]:List UInt8)) Sa)
 (ob (Hh y10.1.2.1 ([44]:List UInt8)) fun r13=>
 (cond (bl (ln (ap r12.1 ([58]:List UInt8))+ln r13.1) Sa)
 (some ((ap (ap r12.1 ([58]:List UInt8)) r13.1),()))
 none))
 none))) (fun z11=>none)))))
def QC(t0:Fe)(t3:Int)(t4:Int):Option ((AO×Unit)⊕XN):=
 (cond (decide (t4<((ln t0:Nat):Int)))
 (ob (Wb t0 t4) fun x15=>
 (ob (Wb t0 t4) fun x16=>
 (ob (Sc x16.1 0 31) fun r17=>
 (cond (!r17.1)
 (some (.inr (.inr ((false,()),()))))
 (ob (Wb t0 t4) fun x18=>
 (cond (decide (0≤x18.1))
 (cond ((Fh .i64 (Mx .i64 t3 x18.1) 1)==1)
 (some (.inr (.inr ((false,()),()))))
 (ob (Ik x15.2.1) fun r19=>
 (cond (!r19.1)
 (some (.inr (.inr ((false,()),()))))
 (cond (x15.2.1.1==1)
 (some (.inr (.inr ((false,()),()))))
 (ob (Cn x15.2.1) fun r20=>
 (cond r20.1
 (some (.inr (.inr ((false,()),()))))
 (ob (Wb t0 t4) fun x21=>
 (cond (decide (0≤x21.1))
 (some (.inl ((t0,(Xd .i64 t3 (Ke .i64 1 x21.1)),(wr .i64 (t4+1)),()),())))
 none))))))))
 none))))))
 (some (.inr (.inl ((),())))))
def EE:=Eb fun x:(AO×Unit)=>QC x.1.1 x.1.2.1 x.1.2.2.1
def Yv(a0:Fe):Option Be:=
 (ob (EE ((a0,0,0,()),())) (se (fun y22=>(some (true,()))) (fun z23=>(some (z23.1.1,())))))
def XC(t0:Fe)(t3:Unit)(t5:Int)(b3:Ta):Option (((Fe×Ns)×GI)⊕FL):=
 (cond (decide (t5<((ln t0:Nat):Int)))
 (ob (Wb t0 t5) fun x5=>
 (cond (x5.2.1.2.1==b3.2.1)
 (ob (Wb t0 t5) fun x6=>
 (cond (x6.2.1.2.2.1==b3.2.2.1)
 (some (.inr (.inr ((t5,()),()))))
 (some (.inl ((t0,(),(wr .i64 (t5+1)),()),(b3,()))))))
 (some (.inl ((t0,(),(wr .i64 (t5+1)),()),(b3,()))))))
 (some (.inr (.inl ((),())))))
def KE:=Eb fun x:((Fe×Ns)×GI)=>XC x.1.1 x.1.2.1 x.1.2.2.1 x.2.1
def Vq(a0:Fe)(a1:Ta):Option Oh:=
 (ob (KE ((a0,(),0,()),(a1,()))) (se (fun y7=>(some ((-1),()))) (fun z8=>(some (z8.1.1,())))))
def Pt(a0:Ta):Option Bw:=
 (some ((2,a0.2.1,a0.2.2.1,0,()),()))
def Qg(a0:Fe)(a1:Int):Option (Fe×Unit):=
 (cond (Bd (ln a0) 0 a1)
 (cond (bl (ln ([]:List La)+ln (Ya a0 (tn 0) (tn a1))) Sa)
 (cond (Bd (ln a0) (wr .i64 (a1+1)) ((ln a0:Nat):Int))
 (cond (bl (ln (ap [] (Ya a0 (tn 0) (tn a1)))+ln (Ya a0 (tn (wr .i64 (a1+1))) (tn ((ln a0:Nat):Int)))) Sa)
 (some ((ap (ap [] (Ya a0 (tn 0) (tn a1))) (Ya a0 (tn (wr .i64 (a1+1))) (tn ((ln a0:Nat):Int)))),()))
 none)
 none)
 none)
 none)
def Ds(t0:Bg)(t3:Fe)(t4:Int):Option (((Bg×(Fe×Oh))×Unit)⊕(((Bg×(Fe×Unit))×Unit)⊕UB)):=
 (cond (decide (t4<((ln t0:Nat):Int)))
 (ob (Wb t0 t4) fun x15=>
 (ob (Vq t3 x15) fun r16=>
 (ob (Sc x15.1 0 2) fun r17=>
 (cond (!r17.1)
 (some (.inr (.inr ((false,()),()))))
 (ob (Pt x15) fun r18=>
 (ob (Ik r18.1) fun r19=>
 (cond (!r19.1)
 (some (.inr (.inr ((false,()),()))))
 (cond ((x15.1==2) !=(decide (r16.1≥0)))
 (some (.inr (.inr ((false,()),()))))
 (cond (x15.1==1)
 (ob (Pt x15) fun r20=>
 (cond (bl (ln t3+ln ([(0,r20.1,())]:List La)) Sa)
 (some (.inl ((t0,(ap t3 ([(0,r20.1,())]:List La)),(wr .i64 (t4+1)),()),())))
 none))
 (cond (x15.1==2)
 (ob (Qg t3 r16.1) fun r21=>
 (some (.inl ((t0,r21.1,(wr .i64 (t4+1)),()),()))))
 (some (.inl ((t0,t3,(wr .i64 (t4+1)),()),())))))))))))))
 (some (.inr (.inl ((t0,t3,()),())))))
def OB:=Eb fun x:((Bg×(Fe×Oh))×Unit)=>Ds x.1.1 x.1.2.1 x.1.2.2.1
def Ux(a0:Bg):Option Be:=
 (ob (OB ((a0,[],0,()),())) (se (fun y22=>(cond (decide (((ln y22.1.1:Nat):Int)≤8))
 (some ((((ln y22.1.2.1:Nat):Int)==0),()))
 (some (false,())))) (fun z23=>(some (z23.1.1,())))))
def Ow(t1:Unit)(t3:Int)(b1:Gb):Option ((Ns×Xp)⊕((Wf×Xp)⊕UB)):=
 (cond (decide (t3<((ln b1.2.1:Nat):Int)))
 (ob (Wb b1.2.1 t3) fun x7=>
 (ob (Ux x7) fun r8=>
 (cond (!r8.1)
 (some (.inr (.inr ((false,()),()))))
 (some (.inl (((),(wr .i64 (t3+1)),()),(b1,())))))))
 (some (.inr (.inl (((),()),(b1,()))))))
def Lq:=Eb fun x:(Ns×Xp)=>Ow x.1.1 x.1.2.1 x.2.1
def Pw(t1:Unit)(t4:Int)(b1:Gb):Option ((Ns×Xp)⊕((Wf×Xp)⊕UB)):=
 (cond (decide (t4<((ln b1.2.2.2.1:Nat):Int)))
 (ob (Wb b1.2.2.2.1 t4) fun x17=>
 (cond (decide (x17.1≥b1.1.1))
 (some (.inr (.inr ((false,()),()))))
 (ob (Wb b1.2.2.2.1 t4) fun x18=>
 (cond (x18.2.1.1 !=9)
 (ob (Wb b1.2.2.2.1 t4) fun x19=>
 (cond (decide (x19.2.1.2.2.2.1≥((ln b1.1.2.1:Nat):Int)))
 (some (.inr (.inr ((false,()),()))))
 (some (.inl (((),(wr .i64 (t4+1)),()),(b1,()))))))
 (some (.inl (((),(wr .i64 (t4+1)),()),(b1,()))))))))
 (some (.inr (.inl (((),()),(b1,()))))))
def Mq:=Eb fun x:(Ns×Xp)=>Pw x.1.1 x.1.2.1 x.2.1
def Bm(a0:Gb):Option Be:=
 (ob (Cm a0.1) fun r1=>
 (cond (!r1.1)
 (some (false,()))
 (cond (decide (((ln a0.2.1:Nat):Int)>4))
 (some (false,()))
 (ob (Yv a0.2.2.2.1) fun r2=>
 (cond (!r2.1)
 (some (false,()))
 (ob (Lq (((),0,()),(a0,()))) (se (fun y9=>(ob (Mq (((),0,()),(y9.2.1,()))) (se (fun y20=>(cond (decide (0≤((ln y20.2.1.1.2.1:Nat):Int)))
 (ob (Sc y20.2.1.2.2.1 0 (wr .i64 ((Ke .i64 1 ((ln y20.2.1.1.2.1:Nat):Int))-1))) fun r22=>
 (cond r22.1
 (cond ((2:Int)==0)
 none
 (cond ((yc y20.2.1.2.2.1 2)==0)
 (ob (Sc y20.2.1.2.2.2.2.1 0 15) fun r23=>
 (some (r23.1,())))
 (some (false,()))))
 (some (false,()))))
 none)) (fun z21=>(some (z21.1.1,())))))) (fun z10=>(some (z10.1.1,()))))))))))
def YC(t1:Unit)(t2:Unit)(t3:Unit)(t4:Int)(b1:Gb)(b2:Gb)(b3:Gb):Option ((XY×(Gb×Cap))⊕((UaJ×(Gb×Cap))⊕Wf)):=
 (cond (decide (t4<((ln b1.2.1:Nat):Int)))
 (ob (Wb b1.2.1 t4) fun x4=>
 (cond (bl (ln ([]:List Ta)+ln x4) Sa)
 (cond (bl (ln b3.2.1+ln ([(ap [] x4)]:List Bg)) Sa)
 (some (.inl (((),(),(),(wr .i64 (t4+1)),()),(b1,b2,(b3.1,(ap b3.2.1 ([(ap [] x4)]:List Bg)),b3.2.2),()))))
 none)
 none))
 (some (.inr (.inl (((),(),(),()),(b1,b2,b3,()))))))
def LE:=Eb fun x:(XY×(Gb×Cap))=>YC x.1.1 x.1.2.1 x.1.2.2.1 x.1.2.2.2.1 x.2.1 x.2.2.1 x.2.2.2.1
def Ml(a0:Gb):Option Xp:=
 (ob (DM a0.1) fun r1=>
 (ob (LE (((),(),(),0,()),(a0,Hy,(r1.1,[],a0.2.2),()))) (se (fun y5=>(cond (bl (ln ([]:List La)+ln y5.2.1.2.2.2.1) Sa)
 (some ((y5.2.2.2.1.1,y5.2.2.2.1.2.1,y5.2.2.2.1.2.2.1,(ap [] y5.2.1.2.2.2.1),y5.2.2.2.1.2.2.2.2),()))
 none)) (fun z6=>none))))
def Dn(a0:Ea)(a1:Cw):Option (Gb×Be):=
 (ob (Bm (a0,a1,0,[],0,false,())) fun r1=>
 (cond (!r1.1)
 (some (Hy,false,()))
 (ob (Ml (a0,a1,0,[],0,false,())) fun r2=>
 (some (r2.1,true,())))))
def PC(t1:Int)(t2:Unit)(t5:Int)(b2:Gb):Option ((Bap×Xp)⊕FL):=
 (cond (decide (t5<((ln b2.2.2.2.1:Nat):Int)))
 (ob (Wb b2.2.2.2.1 t5) fun x3=>
 (cond (x3.1==t1)
 (some (.inr (.inr ((t5,()),()))))
 (some (.inl ((t1,(),(wr .i64 (t5+1)),()),(b2,()))))))
 (some (.inr (.inl ((),())))))
def CE:=Eb fun x:(Bap×Xp)=>PC x.1.1 x.1.2.1 x.1.2.2.1 x.2.1
def MG(a0:Gb)(a1:Int):Option Oh:=
 (ob (CE ((a1,(),0,()),(a0,()))) (se (fun y4=>(some ((-1),()))) (fun z5=>(some (z5.1.1,())))))
def Sw(t1:Fe)(t5:Int)(t6:Int):Option ((AO×Unit)⊕Zab):=
 (cond (decide (t6<((ln t1:Nat):Int)))
 (ob (Yv t1) fun r19=>
 (cond r19.1
 (ob (Wb t1 t6) fun x20=>
 (cond (x20.2.1.1==3)
 (ob (Wb t1 t6) fun x21=>
 (cond (decide (0≤x21.2.1.2.2.2.1))
 (some (.inl ((t1,(Xd .i64 t5 (Ke .i64 1 x21.2.1.2.2.2.1)),(wr .i64 (t6+1)),()),())))
 none))
 (some (.inl ((t1,t5,(wr .i64 (t6+1)),()),())))))
 (some (.inr (.inl ((t5,()),()))))))
 (some (.inr (.inl ((t5,()),())))))
def Qq:=Eb fun x:(AO×Unit)=>Sw x.1.1 x.1.2.1 x.1.2.2.1
def Nt(a0:Int)(a1:Fe):Option Oh:=
 (ob (Sc a0 0 15) fun r1=>
 (cond r1.1
 (ob (Qq ((a1,(Xd .i64 1 a0),0,()),())) (se (fun y11=>(some (y11.1.1,()))) (fun z12=>none)))
 (ob (Qq ((a1,1,0,()),())) (se (fun y22=>(some (y22.1.1,()))) (fun z23=>none)))))
def RC(a0:Int):Option Be:=
 (ob (Sc a0 1 36) fun r1=>
 (cond r1.1
 (some (true,()))
 (cond (a0==39)
 (some (true,()))
 (some ((a0==42),())))))
def GV(a0:Gb)(a1:Ia):Option (Gb×Bw):=
 (ob (RC a1.2.1) fun r1=>
 (cond (!r1.1)
 (some ((a0.1,a0.2.1,a0.2.2.1,a0.2.2.2.1,0,false,a0.2.2.2.2.2.2),((a1.1,a1.2.1,(Xd .i64 a1.2.2.1 a0.2.2.2.2.1),a1.2.2.2),())))
 (cond a0.2.2.2.2.2.1
 (cond (decide (a1.2.1≤26))
 (cond ((Aj .i64 (Xd .i64 a1.2.2.1 a0.2.2.2.2.1) 2)==0)
 (some ((a0.1,a0.2.1,a0.2.2.1,a0.2.2.2.1,0,a0.2.2.2.2.2),((a1.1,a1.2.1,2,a1.2.2.2),())))
 (some ((a0.1,a0.2.1,a0.2.2.1,a0.2.2.2.1,0,a0.2.2.2.2.2),((a1.1,a1.2.1,(Xd .i64 a1.2.2.1 a0.2.2.2.2.1),a1.2.2.2),()))))
 (some ((a0.1,a0.2.1,a0.2.2.1,a0.2.2.2.1,0,a0.2.2.2.2.2),((a1.1,a1.2.1,(Xd .i64 a1.2.2.1 a0.2.2.2.2.1),a1.2.2.2),()))))
 (some ((a0.1,a0.2.1,a0.2.2.1,a0.2.2.2.1,0,a0.2.2.2.2.2),((a1.1,a1.2.1,(Xd .i64 a1.2.2.1 a0.2.2.2.2.1),a1.2.2.2),()))))))
def Kp(a0:Gb)(a1:Ia):Option (Gb×Bw):=
 (cond (a1.1==2)
 (cond (decide (a1.2.1>0))
 (ob (GV a0 a1) fun r1=>
 (some (r1.1,(r1.2.1,()))))
 (some (a0,(a1,()))))
 (cond (a1.1==4)
 (cond (decide (0≤a1.2.2.2.1))
 (some ((a0.1,a0.2.1,(Ft .i64 a0.2.2.1 (Ke .i64 1 a1.2.2.2.1)),a0.2.2.2),(a1,())))
 none)
 (cond (a1.1==5)
 (cond (decide (0≤a1.2.2.2.1))
 (some ((a0.1,a0.2.1,(Aj .i64 (Ke .i64 1 a1.2.2.2.1) 1),a0.2.2.2),(a1,())))
 none)
 (cond (a1.1==8)
 (cond ((Fh .i64 a0.2.2.2.2.1 a1.2.2.1)==a1.2.2.1)
 (some ((a0.1,a0.2.1,a0.2.2.1,a0.2.2.2.1,(Aj .i64 a0.2.2.2.2.1 a1.2.2.1),a0.2.2.2.2.2),(a1,())))
 (some ((a0.1,a0.2.1,a0.2.2.1,a0.2.2.2.1,(Xd .i64 a0.2.2.2.2.1 a1.2.2.1),a0.2.2.2.2.2),(a1,()))))
 (cond (a1.1==10)
 (some ((a0.1,a0.2.1,a0.2.2.1,a0.2.2.2.1,a0.2.2.2.2.1,(!a0.2.2.2.2.2.1),a0.2.2.2.2.2.2),(a1,())))
 (some (a0,(a1,()))))))))
def Tw(t0:Fe)(t2:Unit)(t3:Unit)(t4:Int)(b2:Ca)(b3:Ca):Option (UT⊕(((Fe×GL)×Gv)⊕Wf)):=
 (cond (decide (t4<((ln t0:Nat):Int)))
 (ob (Wb t0 t4) fun x10=>
 (cond (x10.2.1.1==2)
 (ob (Wb t0 t4) fun x11=>
 (some (.inl ((t0,(),(),(wr .i64 (t4+1)),()),(b2,((Xd .i64 b3.1 x11.2.1.2.2.1),b3.2.1,()),())))))
 (ob (Wb t0 t4) fun x12=>
 (cond (x12.2.1.1==8)
 (ob (Wb t0 t4) fun x13=>
 (some (.inl ((t0,(),(),(wr .i64 (t4+1)),()),(b2,((Xd .i64 b3.1 x13.2.1.2.2.1),b3.2.1,()),())))))
 (some (.inl ((t0,(),(),(wr .i64 (t4+1)),()),(b2,b3,()))))))))
 (some (.inr (.inl ((t0,(),(),()),(b2,b3,()))))))
def CA:=Eb fun x:UT=>Tw x.1.1 x.1.2.1 x.1.2.2.1 x.1.2.2.2.1 x.2.1 x.2.2.1
def Vu(t0:Fe)(t2:Unit)(t3:Unit)(t5:Int)(t6:Int)(b2:Ca)(b3:Ca):Option (((Fe×(Unit×SY))×Gv)⊕(UT⊕Wf)):=
 (cond (decide (t6<((ln t0:Nat):Int)))
 (ob (Wb t0 t6) fun x28=>
 (cond (x28.2.1.2.1==t5)
 (cond (bl (ln b3.2.1+ln ([t5]:List Int)) Sa)
 (some (.inr (.inl ((t0,(),(),t5,()),(b2,(b3.1,(ap b3.2.1 ([t5]:List Int)),()),())))))
 none)
 (some (.inl ((t0,(),(),t5,(wr .i64 (t6+1)),()),(b2,b3,()))))))
 (some (.inr (.inl ((t0,(),(),t5,()),(b2,b3,()))))))
def Wo:=Eb fun x:((Fe×(Unit×SY))×Gv)=>Vu x.1.1 x.1.2.1 x.1.2.2.1 x.1.2.2.2.1 x.1.2.2.2.2.1 x.2.1 x.2.2.1
def Uu(t0:Fe)(t2:Unit)(t3:Unit)(t5:Int)(b2:Ca)(b3:Ca):Option (UT⊕((GL×Gv)⊕Wf)):=
 (cond (decide (t5≤56))
 (ob (Wo ((t0,(),(),t5,0,()),(b2,b3,()))) (se (fun y29=>(some (.inl ((y29.1.1,(),(),(wr .i64 (y29.1.2.2.2.1+1)),()),y29.2)))) (fun z30=>(some (.inr (.inr ((),())))))))
 (some (.inr (.inl (((),(),()),(b2,b3,()))))))
def Wx:=Eb fun x:UT=>Uu x.1.1 x.1.2.1 x.1.2.2.1 x.1.2.2.2.1 x.2.1 x.2.2.1
def Ce(a0:Fe):Option Ei:=
 (ob (Yv a0) fun r1=>
 (cond (!r1.1)
 (some ((0,[],()),()))
 (ob (CA ((a0,(),(),0,()),((0,[],()),(0,[],()),()))) (se (fun y14=>(ob (Wx ((y14.1.1,(),(),1,()),y14.2)) (se (fun y31=>(some (y31.2.2.1,()))) (fun z32=>none)))) (fun z15=>none)))))
def Vw(t1:Fe)(t4:Unit)(t5:Unit)(t6:Int)(b4:Ca)(b5:Ca):Option (UT⊕(((Fe×GL)×Gv)⊕Wf)):=
 (cond (decide (t6<((ln t1:Nat):Int)))
 (ob (Wb t1 t6) fun x4=>
 (some (.inl ((t1,(),(),(wr .i64 (t6+1)),()),(b4,((Xd .i64 b5.1 x4.2.1.2.2.1),b5.2.1,()),())))))
 (some (.inr (.inl ((t1,(),(),()),(b4,b5,()))))))
def HA:=Eb fun x:UT=>Vw x.1.1 x.1.2.1 x.1.2.2.1 x.1.2.2.2.1 x.2.1 x.2.2.1
def Av(t1:Fe)(t4:Unit)(t5:Unit)(t7:Ge)(t8:Int)(t9:Bool)(t10:Int)(b4:Ca)(b5:Ca):Option Yar:=
 (cond (decide (t10<((ln b5.2.1:Nat):Int)))
 (cond t9
 (some (.inl ((t1,(),(),t7,t8,true,(wr .i64 (t10+1)),()),(b4,b5,()))))
 (cond (Ac (ln b5.2.1) t10)
 (ob b5.2.1[(tn t10)]? fun x29=>
 (some (.inl ((t1,(),(),t7,t8,(x29==t8),(wr .i64 (t10+1)),()),(b4,b5,())))))
 none))
 (some (.inr (.inl ((t1,(),(),t7,t8,t9,()),(b4,b5,()))))))
def Xo:=Eb fun x:Aap=>Av x.1.1 x.1.2.1 x.1.2.2.1 x.1.2.2.2.1 x.1.2.2.2.2.1 x.1.2.2.2.2.2.1 x.1.2.2.2.2.2.2.1 x.2.1 x.2.2.1
def Bv(t1:Fe)(t4:Unit)(t5:Unit)(t7:Ge)(t8:Int)(t9:Bool)(t11:Int)(b4:Ca)(b5:Ca):Option Yar:=
 (cond (decide (t11<((ln t1:Nat):Int)))
 (cond t9
 (some (.inl ((t1,(),(),t7,t8,true,(wr .i64 (t11+1)),()),(b4,b5,()))))
 (ob (Wb t1 t11) fun x34=>
 (some (.inl ((t1,(),(),t7,t8,(x34.2.1.2.1==t8),(wr .i64 (t11+1)),()),(b4,b5,()))))))
 (some (.inr (.inl ((t1,(),(),t7,t8,t9,()),(b4,b5,()))))))
def Yo:=Eb fun x:Aap=>Bv x.1.1 x.1.2.1 x.1.2.2.1 x.1.2.2.2.1 x.1.2.2.2.2.1 x.1.2.2.2.2.2.1 x.1.2.2.2.2.2.2.1 x.2.1 x.2.2.1
def Ww(t1:Fe)(t4:Unit)(t5:Unit)(t7:Ge)(t8:Int)(b4:Ca)(b5:Ca):Option (((Fe×(Unit×U3))×Gv)⊕Fap):=
 (cond (decide (t8≤56))
 (ob (Xo ((t1,(),(),t7,t8,false,0,()),(b4,b5,()))) (se (fun y30=>(ob (Yo ((y30.1.1,(),(),y30.1.2.2.2.1,y30.1.2.2.2.2.1,y30.1.2.2.2.2.2.1,0,()),y30.2)) (se (fun y35=>(cond y35.1.2.2.2.2.2.1
 (cond (bl (ln y35.1.2.2.2.1+ln ([y35.1.2.2.2.2.1]:List Int)) Sa)
 (some (.inl ((y35.1.1,(),(),(ap y35.1.2.2.2.1 ([y35.1.2.2.2.2.1]:List Int)),(wr .i64 (y35.1.2.2.2.2.1+1)),()),y35.2)))
 none)
 (some (.inl ((y35.1.1,(),(),y35.1.2.2.2.1,(wr .i64 (y35.1.2.2.2.2.1+1)),()),y35.2))))) (fun z36=>(some (.inr (.inr ((),())))))))) (fun z31=>(some (.inr (.inr ((),())))))))
 (some (.inr (.inl (((),(),t7,()),(b4,b5,()))))))
def IA:=Eb fun x:((Fe×(Unit×U3))×Gv)=>Ww x.1.1 x.1.2.1 x.1.2.2.1 x.1.2.2.2.1 x.1.2.2.2.2.1 x.2.1 x.2.2.1
def Ti(a0:Fe)(a1:Fe):Option Ei:=
 (ob (Ce a0) fun r1=>
 (ob (HA ((a1,(),(),0,()),((0,[],()),r1.1,()))) (se (fun y5=>(ob (IA ((y5.1.1,(),(),[],1,()),y5.2)) (se (fun y37=>(some ((y37.2.2.1.1,y37.1.2.2.1,()),()))) (fun z38=>none)))) (fun z6=>none))))
def Vo(t0:Fe)(t1:Bg)(t5:Eh)(t6:Fe)(t7:Int):Option (((Fe×(Bg×(Eh×(Fe×Oh))))×Unit)⊕C4):=
 (cond (decide (t7<((ln t1:Nat):Int)))
 (ob (Wb t1 t7) fun x21=>
 (cond (x21.1 !=2)
 (ob (Pt x21) fun r22=>
 (cond (bl (ln t6+ln ([(0,r22.1,())]:List La)) Sa)
 (ob (Ti t0 (ap t6 ([(0,r22.1,())]:List La))) fun r23=>
 (cond (bl (ln t5+ln ([r23.1]:List Ca)) Sa)
 (cond (x21.1 !=1)
 (ob (Vq (ap t6 ([(0,r22.1,())]:List La)) x21) fun r24=>
 (ob (Qg (ap t6 ([(0,r22.1,())]:List La)) r24.1) fun r25=>
 (ob (Ti t0 r25.1) fun r26=>
 (cond (bl (ln (ap t5 ([r23.1]:List Ca))+ln ([r26.1]:List Ca)) Sa)
 (some (.inl ((t0,t1,(ap (ap t5 ([r23.1]:List Ca)) ([r26.1]:List Ca)),r25.1,(wr .i64 (t7+1)),()),())))
 none))))
 (some (.inl ((t0,t1,(ap t5 ([r23.1]:List Ca)),(ap t6 ([(0,r22.1,())]:List La)),(wr .i64 (t7+1)),()),()))))
 none))
 none))
 (cond (x21.1 !=1)
 (ob (Vq t6 x21) fun r27=>
 (ob (Qg t6 r27.1) fun r28=>
 (ob (Ti t0 r28.1) fun r29=>
 (cond (bl (ln t5+ln ([r29.1]:List Ca)) Sa)
 (some (.inl ((t0,t1,(ap t5 ([r29.1]:List Ca)),r28.1,(wr .i64 (t7+1)),()),())))
 none))))
 (some (.inl ((t0,t1,t5,t6,(wr .i64 (t7+1)),()),()))))))
 (some (.inr (.inl ((t5,()),())))))
def Es:=Eb fun x:((Fe×(Bg×(Eh×(Fe×Oh))))×Unit)=>Vo x.1.1 x.1.2.1 x.1.2.2.1 x.1.2.2.2.1 x.1.2.2.2.2.1
def Xl(a0:Fe)(a1:Bg):Option ZN:=
 (ob (Yv a0) fun r1=>
 (cond (!r1.1)
 (some ([],()))
 (ob (Ux a1) fun r2=>
 (cond (!r2.1)
 (some ([],()))
 (ob (Es ((a0,a1,[],[],0,()),())) (se (fun y30=>(some (y30.1.1,()))) (fun z31=>none)))))))
def Xs(t2:Unit)(t3:Unit)(t5:Int)(b2:Ca)(b3:Ca):Option ((Cac×Gv)⊕XN):=
 (cond (decide (t5<((ln b2.2.1:Nat):Int)))
 (ob (Wb b2.2.1 t5) fun x5=>
 (ob (Wb b3.2.1 t5) fun x6=>
 (cond (x5 !=x6)
 (some (.inr (.inr ((false,()),()))))
 (some (.inl (((),(),(wr .i64 (t5+1)),()),(b2,b3,())))))))
 (some (.inr (.inl ((),())))))
def Zv:=Eb fun x:(Cac×Gv)=>Xs x.1.1 x.1.2.1 x.1.2.2.1 x.2.1 x.2.2.1
def TC(a0:Ca)(a1:Ca):Option Be:=
 (cond (a0.1 !=a1.1)
 (some (false,()))
 (cond (((ln a0.2.1:Nat):Int) !=((ln a1.2.1:Nat):Int))
 (some (false,()))
 (ob (Zv (((),(),0,()),(a0,a1,()))) (se (fun y7=>(some (true,()))) (fun z8=>(some (z8.1.1,())))))))
def Cv(t1:Eh)(t2:Unit)(t5:Eh)(t6:Int)(b2:Ca):Option (((Eh×(Unit×(Eh×Oh)))×Ei)⊕C4):=
 (cond (decide (t6<((ln t1:Nat):Int)))
 (ob (Wb t1 t6) fun x13=>
 (ob (TC b2 x13) fun r14=>
 (cond (!r14.1)
 (ob (Wb t1 t6) fun x15=>
 (ob (EB x15) fun r16=>
 (cond (bl (ln t5+ln ([r16.1]:List Ca)) Sa)
 (ob (Wb t1 t6) fun x17=>
 (some (.inl ((t1,(),(ap t5 ([r16.1]:List Ca)),(wr .i64 (t6+1)),()),(x17,())))))
 none)))
 (ob (Wb t1 t6) fun x18=>
 (some (.inl ((t1,(),t5,(wr .i64 (t6+1)),()),(x18,()))))))))
 (some (.inr (.inl ((t5,()),())))))
def Cy:=Eb fun x:((Eh×(Unit×(Eh×Oh)))×Ei)=>Cv x.1.1 x.1.2.1 x.1.2.2.1 x.1.2.2.2.1 x.2.1
def Lh(a0:Ca)(a1:Eh):Option ZN:=
 (ob (Cy ((a1,(),[],0,()),(a0,()))) (se (fun y19=>(some (y19.1.1,()))) (fun z20=>none)))
def Rn(a0:Gb)(a1:Int)(a2:Bool):Option HaD:=
 (ob (Bm a0) fun r1=>
 (cond (!r1.1)
 (some (Hy,[],false,()))
 (ob (Sc a1 0 (wr .i64 (a0.1.1-1))) fun r2=>
 (cond (!r2.1)
 (some (Hy,[],false,()))
 (ob (MG a0 a1) fun r3=>
 (cond (decide (r3.1≥0))
 (some (Hy,[],false,()))
 (ob (Ml a0) fun r4=>
 (ob (Nt a0.2.2.1 a0.2.2.2.1) fun r5=>
 (ob (Mt a0.1 r5.1 a1) fun r6=>
 (cond a2
 (ob (AM r6.1) fun r7=>
 (ob (Kp r4.1 r7.1) fun r8=>
 (cond (bl (ln r8.1.2.2.2.1+ln ([(a1,r8.2.1,())]:List La)) Sa)
 (cond (r8.2.1.1==9)
 (cond (decide (r8.2.1.2.2.2.1<((ln a0.2.1:Nat):Int)))
 (ob (Wb a0.2.1 r8.2.1.2.2.2.1) fun x9=>
 (ob (Xl (ap r8.1.2.2.2.1 ([(a1,r8.2.1,())]:List La)) x9) fun r10=>
 (ob (Ce (ap r8.1.2.2.2.1 ([(a1,r8.2.1,())]:List La))) fun r11=>
 (cond (bl (ln r10.1+ln ([r11.1]:List Ca)) Sa)
 (ob (Ce a0.2.2.2.1) fun r12=>
 (ob (Lh r12.1 (ap r10.1 ([r11.1]:List Ca))) fun r13=>
 (some ((r8.1.1,r8.1.2.1,r8.1.2.2.1,(ap r8.1.2.2.2.1 ([(a1,r8.2.1,())]:List La)),r8.1.2.2.2.2),r13.1,true,()))))
 none))))
 (ob (Ce (ap r8.1.2.2.2.1 ([(a1,r8.2.1,())]:List La))) fun r14=>
 (cond (bl (ln ([]:List Ca)+ln ([r14.1]:List Ca)) Sa)
 (ob (Ce a0.2.2.2.1) fun r15=>
 (ob (Lh r15.1 (ap [] ([r14.1]:List Ca))) fun r16=>
 (some ((r8.1.1,r8.1.2.1,r8.1.2.2.1,(ap r8.1.2.2.2.1 ([(a1,r8.2.1,())]:List La)),r8.1.2.2.2.2),r16.1,true,()))))
 none)))
 (ob (Ce (ap r8.1.2.2.2.1 ([(a1,r8.2.1,())]:List La))) fun r17=>
 (cond (bl (ln ([]:List Ca)+ln ([r17.1]:List Ca)) Sa)
 (ob (Ce a0.2.2.2.1) fun r18=>
 (ob (Lh r18.1 (ap [] ([r17.1]:List Ca))) fun r19=>
 (some ((r8.1.1,r8.1.2.1,r8.1.2.2.1,(ap r8.1.2.2.2.1 ([(a1,r8.2.1,())]:List La)),r8.1.2.2.2.2),r19.1,true,()))))
 none)))
 none)))
 (ob (JO r6.1) fun r20=>
 (ob (Kp r4.1 r20.1) fun r21=>
 (cond (bl (ln r21.1.2.2.2.1+ln ([(a1,r21.2.1,())]:List La)) Sa)
 (cond (r21.2.1.1==9)
 (cond (decide (r21.2.1.2.2.2.1<((ln a0.2.1:Nat):Int)))
 (ob (Wb a0.2.1 r21.2.1.2.2.2.1) fun x22=>
 (ob (Xl (ap r21.1.2.2.2.1 ([(a1,r21.2.1,())]:List La)) x22) fun r23=>
 (ob (Ce (ap r21.1.2.2.2.1 ([(a1,r21.2.1,())]:List La))) fun r24=>
 (cond (bl (ln r23.1+ln ([r24.1]:List Ca)) Sa)
 (ob (Ce a0.2.2.2.1) fun r25=>
 (ob (Lh r25.1 (ap r23.1 ([r24.1]:List Ca))) fun r26=>
 (some ((r21.1.1,r21.1.2.1,r21.1.2.2.1,(ap r21.1.2.2.2.1 ([(a1,r21.2.1,())]:List La)),r21.1.2.2.2.2),r26.1,true,()))))
 none))))
 (ob (Ce (ap r21.1.2.2.2.1 ([(a1,r21.2.1,())]:List La))) fun r27=>
 (cond (bl (ln ([]:List Ca)+ln ([r27.1]:List Ca)) Sa)
 (ob (Ce a0.2.2.2.1) fun r28=>
 (ob (Lh r28.1 (ap [] ([r27.1]:List Ca))) fun r29=>
 (some ((r21.1.1,r21.1.2.1,r21.1.2.2.1,(ap r21.1.2.2.2.1 ([(a1,r21.2.1,())]:List La)),r21.1.2.2.2.2),r29.1,true,()))))
 none)))
 (ob (Ce (ap r21.1.2.2.2.1 ([(a1,r21.2.1,())]:List La))) fun r30=>
 (cond (bl (ln ([]:List Ca)+ln ([r30.1]:List Ca)) Sa)
 (ob (Ce a0.2.2.2.1) fun r31=>
 (ob (Lh r31.1 (ap [] ([r30.1]:List Ca))) fun r32=>
 (some ((r21.1.1,r21.1.2.1,r21.1.2.2.1,(ap r21.1.2.2.2.1 ([(a1,r21.2.1,())]:List La)),r21.1.2.2.2.2),r32.1,true,()))))
 none)))
 none)))))))))))))
def FE(a0:Gb)(a1:Int):Option HaD:=
 (ob (MG a0 a1) fun r1=>
 (ob (Bm a0) fun r2=>
 (cond (!r2.1)
 (some (Hy,[],false,()))
 (cond (decide (r1.1<0))
 (some (Hy,[],false,()))
 (ob (Ml a0) fun r3=>
 (ob (Qg r3.1.2.2.2.1 r1.1) fun r4=>
 (ob (Ce a0.2.2.2.1) fun r5=>
 (ob (Ce r4.1) fun r6=>
 (ob (Lh r5.1 ([r6.1]:List Ca)) fun r7=>
 (some ((r3.1.1,r3.1.2.1,r3.1.2.2.1,r4.1,r3.1.2.2.2.2),r7.1,true,())))))))))))
def Zs(t2:Unit)(t6:UY)(t7:(List Bool))(t8:Ge)(t9:Int)(t10:Int)(t11:Int)(b2:Ea):Option (Eas⊕(Eap⊕Wf)):=
 (cond (decide (t11<b2.1))
 (ob (NC b2 t10 t11) fun r49=>
 (cond (decide (r49.1≥0))
 (cond (Ac (ln t7) r49.1)
 (ob t7[(tn r49.1)]? fun x50=>
 (cond (!x50)
 (cond (Ac (ln t7) r49.1)
 (ob t7[(tn r49.1)]? fun x51=>
 (cond (Ac (ln t6) t10)
 (ob t6[(tn t10)]? fun x52=>
 (cond (bl (ln ([]:List Int)+ln x52) Sa)
 (cond (bl (ln (ap [] x52)+ln ([t11]:List Int)) Sa)
 (cond (Ac (ln t6) r49.1)
 (ob (ls t6 (tn t10) x52)[(tn r49.1)]? fun x53=>
 (cond (bl (ln t8+ln ([r49.1]:List Int)) Sa)
 (some (.inl (((),(ls (ls t6 (tn t10) x52) (tn r49.1) (ap (ap [] x52) ([t11]:List Int))),(ls t7 (tn r49.1) true),(ap t8 ([r49.1]:List Int)),t9,t10,(wr .i64 (t11+1)),()),(b2,()))))
 none))
 none)
 none)
 none))
 none))
 none)
 (some (.inl (((),t6,t7,t8,t9,t10,(wr .i64 (t11+1)),()),(b2,()))))))
 none)
 (some (.inl (((),t6,t7,t8,t9,t10,(wr .i64 (t11+1)),()),(b2,()))))))
 (some (.inr (.inl (((),t6,t7,t8,t9,()),(b2,()))))))
def Sn:=Eb fun x:Eas=>Zs x.1.1 x.1.2.1 x.1.2.2.1 x.1.2.2.2.1 x.1.2.2.2.2.1 x.1.2.2.2.2.2.1 x.1.2.2.2.2.2.2.1 x.2.1
def IE(t2:Unit)(t6:UY)(t7:(List Bool))(t8:Ge)(t9:Int)(b2:Ea):Option (Eap⊕(((UY×((List Bool)×Unit))×Unit)⊕Wf)):=
 (cond (decide (t9<((ln t8:Nat):Int)))
 (cond (Ac (ln t8) t9)
 (ob t8[(tn t9)]? fun x38=>
 (ob (Sn (((),t6,t7,t8,t9,x38,0,()),(b2,()))) (se (fun y54=>(some (.inl (((),y54.1.2.1,y54.1.2.2.1,y54.1.2.2.2.1,(wr .i64 (y54.1.2.2.2.2.1+1)),()),(y54.2.1,()))))) (fun z55=>(some (.inr (.inr ((),()))))))))
 none)
 (some (.inr (.inl ((t6,t7,()),())))))
def Bl:=Eb fun x:Eap=>IE x.1.1 x.1.2.1 x.1.2.2.1 x.1.2.2.2.1 x.1.2.2.2.2.1 x.2.1
def EF(a0:Ea)(a1:Int):Option (UY×((List Bool)×Unit)):=
 (cond (((16:Int)==16)&&(decide ((0:Int)≤16)&&decide (16≤((Sa:Nat):Int))))
 (cond (((16:Int)==16)&&(decide ((0:Int)≤16)&&decide (16≤((Sa:Nat):Int))))
 (cond (Ac (ln (yd (tn 16) false)) a1)
 (ob (yd (tn 16) false)[(tn a1)]? fun x1=>
 (ob (Bl (((),(yd (tn 16) []),(ls (yd (tn 16) false) (tn a1) true),([a1]:List Int),0,()),(a0,()))) (se (fun y56=>(some y56.1)) (fun z57=>none))))
 none)
 none)
 none)
def Vf(a0:Ea)(a1:Int)(a2:Int):Option Gac:=
 (ob (Fo a0 a1) fun r1=>
 (cond (!r1.1)
 (some ([],false,()))
 (ob (Fo a0 a2) fun r2=>
 (cond (!r2.1)
 (some ([],false,()))
 (ob (EF a0 a1) fun r3=>
 (cond (Ac (ln r3.2.1) a2)
 (ob r3.2.1[(tn a2)]? fun x4=>
 (cond (!x4)
 (some ([],false,()))
 (cond (Ac (ln r3.1) a2)
 (ob r3.1[(tn a2)]? fun x5=>
 (cond (bl (ln ([]:List Int)+ln x5) Sa)
 (some ((ap [] x5),true,()))
 none))
 none)))
 none))))))
def YG(t2:Unit)(t5:YN)(t6:Ge)(t7:Int)(t26:Int)(t27:Int)(b2:Ea):Option (((Unit×(YN×(Ge×Ta)))×Im)⊕(Yac⊕Wf)):=
 (cond (decide (t27<t26))
 (ob (Iu b2 t7 t27) fun r24=>
 (cond (!(Vd t5 r24.1).isSome)
 (ob (Gk ((Vd t5 t7).getD [])) fun r25=>
 (cond (bl (ln r25.1+ln ([t27]:List Int)) Sa)
 (cond (Option.isNone (Vd t5 r24.1))
 (cond (bl (ln t6+ln ([r24.1]:List Int)) Sa)
 (some (.inl (((),(ap t5 [(r24.1,(ap r25.1 ([t27]:List Int)))]),(ap t6 ([r24.1]:List Int)),t7,t26,(wr .i64 (t27+1)),()),(b2,()))))
 none)
 none)
 none))
 (some (.inl (((),t5,t6,t7,t26,(wr .i64 (t27+1)),()),(b2,()))))))
 (some (.inr (.inl (((),t5,t6,()),(b2,()))))))
def Qz:=Eb fun x:((Unit×(YN×(Ge×Ta)))×Im)=>YG x.1.1 x.1.2.1 x.1.2.2.1 x.1.2.2.2.1 x.1.2.2.2.2.1 x.1.2.2.2.2.2.1 x.2.1
def GN(t2:Unit)(t5:YN)(t6:Ge)(b2:Ea):Option (Yac⊕(((YN×Unit)×Unit)⊕Wf)):=
 (cond (decide (((ln t6:Nat):Int)>0))
 (cond (Ac (ln t6) 0)
 (ob t6[(tn 0)]? fun x19=>
 (cond (Bd (ln t6) 1 ((ln t6:Nat):Int))
 (ob (Qz (((),t5,(Ya t6 (tn 1) (tn ((ln t6:Nat):Int))),x19,b2.1,0,()),(b2,()))) (se (fun y26=>(some (.inl (((),y26.1.2.1,y26.1.2.2.1,()),(y26.2.1,()))))) (fun z27=>(some (.inr (.inr ((),())))))))
 none))
 none)
 (some (.inr (.inl ((t5,()),())))))
def Xr:=Eb fun x:Yac=>GN x.1.1 x.1.2.1 x.1.2.2.1 x.2.1
def YQ(a0:Ea)(a1:Int):Option (YN×Unit):=
 (cond (Option.isNone (Vd ([]:YN) a1))
 (ob (Xr (((),(ap ([]:YN) [(a1,[])]),([a1]:List Int),()),(a0,()))) (se (fun y28=>(some (y28.1.1,()))) (fun z29=>none)))
 none)
def Fk(a0:Ea)(a1:Int)(a2:Int):Option Gac:=
 (ob (Xh a0 a1) fun r1=>
 (cond (!r1.1)
 (some ([],false,()))
 (ob (Xh a0 a2) fun r2=>
 (cond (!r2.1)
 (some ([],false,()))
 (ob (YQ a0 a1) fun r3=>
 (some (((Vd r3.1 a2).getD []),(Vd r3.1 a2).isSome,())))))))
def DE(a0:Xa):Option Be:=
 (ob (Sc a0.1 0 1000000) fun r1=>
 (cond r1.1
 (ob (Sc a0.2.1 0 31) fun r2=>
 (some (r2.1,())))
 (some (false,()))))
def Ys(t0:Vn)(t1:Int)(t2:Int)(t3:Int)(t9:Int):Option (((Vn×Ia)×Unit)⊕((SaT×Unit)⊕UB)):=
 (cond (decide (t9<((ln t0:Nat):Int)))
 (ob (Wb t0 t9) fun x17=>
 (ob (DE x17) fun r18=>
 (cond (!r18.1)
 (some (.inr (.inr ((false,()),()))))
 (ob (Wb t0 t9) fun x19=>
 (cond (decide (x19.2.1≥t2))
 (some (.inr (.inr ((false,()),()))))
 (ob (Wb t0 t9) fun x20=>
 (cond (decide (x20.1<t3))
 (some (.inr (.inr ((false,()),()))))
 (ob (Wb t0 t9) fun x21=>
 (ob (Wb t0 t9) fun x22=>
 (cond (decide (0≤x22.2.1))
 (cond (x21.2.2.1==((Fh .i64 (Mx .i64 t1 x22.2.1) 1)==1))
 (some (.inr (.inr ((false,()),()))))
 (ob (Wb t0 t9) fun x23=>
 (ob (Wb t0 t9) fun x24=>
 (cond (decide (0≤x24.2.1))
 (some (.inl ((t0,(Ft .i64 t1 (Ke .i64 1 x24.2.1)),t2,x23.1,(wr .i64 (t9+1)),()),())))
 none))))
 none))))))))))
 (some (.inr (.inl ((t0,()),())))))
def Aw:=Eb fun x:((Vn×Ia)×Unit)=>Ys x.1.1 x.1.2.1 x.1.2.2.1 x.1.2.2.2.1 x.1.2.2.2.2.1
def Zu(a0:Vn)(a1:Int)(a2:Int)(a3:Int):Option Be:=
 (ob (Aw ((a0,a1,a2,a3,0,()),())) (se (fun y25=>(some ((decide (((ln y25.1.1:Nat):Int)≤64)),()))) (fun z26=>(some (z26.1.1,())))))
def RA(a0:Ta):Option Be:=
 (ob (Sc a0.1 1 1000) fun r1=>
 (cond r1.1
 (ob (Sc a0.2.1 0 1000) fun r2=>
 (cond r2.1
 (ob (Sc a0.2.2.1 0 2) fun r3=>
 (some (r3.1,())))
 (some (false,()))))
 (some (false,()))))
def KS(a0:Int):Option Oh:=
 (ob (Sc a0 0 31) fun r1=>
 (cond (!r1.1)
 (some (0,()))
 (cond (decide (0≤a0))
 (some ((Ke .i64 1 a0),()))
 none)))
def DA(t1:Unit)(t3:Int)(t4:Int)(b1:Gb):Option ((SY×Xp)⊕Zab):=
 (cond (decide (t4<((ln b1.2.2.2.1:Nat):Int)))
 (ob (Wb b1.2.2.2.1 t4) fun x5=>
 (ob (KS x5.1) fun r6=>
 (some (.inl (((),(Xd .i64 t3 r6.1),(wr .i64 (t4+1)),()),(b1,()))))))
 (some (.inr (.inl ((t3,()),())))))
def RB:=Eb fun x:(SY×Xp)=>DA x.1.1 x.1.2.1 x.1.2.2.1 x.2.1
def GE(a0:Gb):Option Oh:=
 (ob (RB (((),0,0,()),(a0,()))) (se (fun y7=>(some (y7.1.1,()))) (fun z8=>none)))
def Hr(a0:Cb):Option Be:=
 (ob (Bm a0.1) fun r1=>
 (cond (!r1.1)
 (some (false,()))
 (ob (RA a0.2.1) fun r2=>
 (cond (!r2.1)
 (some (false,()))
 (ob (Sc a0.2.2.2.1 0 1000000) fun r3=>
 (cond (!r3.1)
 (some (false,()))
 (ob (Sc a0.2.2.2.2.1 0 a0.2.2.2.1) fun r4=>
 (cond (!r4.1)
 (some (false,()))
 (ob (GE a0.1) fun r5=>
 (ob (Zu a0.2.2.1 r5.1 a0.1.1.1 0) fun r6=>
 (cond (!r6.1)
 (some (false,()))
 (cond (decide (((ln a0.2.2.1:Nat):Int)>0))
 (ob (Wb a0.2.2.1 (wr .i64 (((ln a0.2.2.1:Nat):Int)-1))) fun x7=>
 (cond (decide (x7.1>a0.2.2.2.1))
 (some (false,()))
 (ob (Sc a0.2.2.2.2.2.1 0 a0.1.1.1) fun r8=>
 (cond r8.1
 (ob (Sc a0.2.2.2.2.2.2.1 0 a0.2.2.2.1) fun r9=>
 (some (r9.1,())))
 (some (false,()))))))
 (ob (Sc a0.2.2.2.2.2.1 0 a0.1.1.1) fun r10=>
 (cond r10.1
 (ob (Sc a0.2.2.2.2.2.2.1 0 a0.2.2.2.1) fun r11=>
 (some (r11.1,())))
 (some (false,()))))))))))))))))
def Ru(a0:Gb)(a1:Ta):Option (Cb×Be):=
 (ob (Hr (a0,a1,[],0,0,0,0,())) fun r1=>
 (cond (!r1.1)
 (some (Cg,false,()))
 (ob (Ml a0) fun r2=>
 (some ((r2.1,a1,[],0,0,0,0,()),true,())))))
def Qw(t1:Unit)(t3:Int)(b1:Ca):Option ((Ns×Ei)⊕((Wf×Ei)⊕UB)):=
 (cond (decide (t3<((ln b1.2.1:Nat):Int)))
 (ob (Wb b1.2.1 t3) fun x9=>
 (ob (Sc x9 1 56) fun r10=>
 (cond (!r10.1)
 (some (.inr (.inr ((false,()),()))))
 (cond (decide (t3>0))
 (ob (Wb b1.2.1 (wr .i64 (t3-1))) fun x11=>
 (ob (Wb b1.2.1 t3) fun x12=>
 (cond (decide (x11≥x12))
 (some (.inr (.inr ((false,()),()))))
 (some (.inl (((),(wr .i64 (t3+1)),()),(b1,())))))))
 (some (.inl (((),(wr .i64 (t3+1)),()),(b1,()))))))))
 (some (.inr (.inl (((),()),(b1,()))))))
def BA:=Eb fun x:(Ns×Ei)=>Qw x.1.1 x.1.2.1 x.2.1
def Ip(a0:Ca):Option Be:=
 (ob (BA (((),0,()),(a0,()))) (se (fun y13=>(ob (Sc y13.2.1.1 0 15) fun r15=>
 (some (r15.1,())))) (fun z14=>(some (z14.1.1,())))))
def Uo(t1:Unit)(t3:Hd)(t4:Int)(b1:Ca):Option ((V3×Ei)⊕(((Unit×HL)×Ei)⊕Wf)):=
 (cond (decide (t4<((ln b1.2.1:Nat):Int)))
 (ob (Wb b1.2.1 t4) fun x6=>
 (ob (Ng x6) fun r7=>
 (cond (bl (ln t3+ln ([r7.1]:List Sb)) Sa)
 (some (.inl (((),(ap t3 ([r7.1]:List Sb)),(wr .i64 (t4+1)),()),(b1,()))))
 none)))
 (some (.inr (.inl (((),t3,()),(b1,()))))))
def As:=Eb fun x:(V3×Ei)=>Uo x.1.1 x.1.2.1 x.1.2.2.1 x.2.1
def Tp(a0:Ca):Option Mh:=
 (ob (Ip a0) fun r1=>
 (cond (!r1.1)
 (some ([],()))
 (ob (As (((),[],0,()),(a0,()))) (se (fun y8=>(ob (Rj y8.2.1.1) fun r10=>
 (cond (bl (ln r10.1+ln ([58]:List UInt8)) Sa)
 (ob (Nd y8.1.2.1 ([44]:List UInt8)) fun r11=>
 (cond (bl (ln (ap r10.1 ([58]:List UInt8))+ln r11.1) Sa)
 (some ((ap (ap r10.1 ([58]:List UInt8)) r11.1),()))
 none))
 none))) (fun z9=>none)))))
def Ws(t0:Ai)(t3:Hd)(t4:Int):Option (((Ai×RG)×Unit)⊕YY):=
 (cond (decide (t4<((ln t0:Nat):Int)))
 (ob (Wb t0 t4) fun x9=>
 (ob (Sd x9.1) fun r10=>
 (cond (bl (ln r10.1+ln ([32]:List UInt8)) Sa)
 (ob (Wb t0 t4) fun x11=>
 (ob (Tp x11.2.1) fun r12=>
 (cond (bl (ln (ap r10.1 ([32]:List UInt8))+ln r12.1) Sa)
 (cond (bl (ln t3+ln ([(ap (ap r10.1 ([32]:List UInt8)) r12.1)]:List Sb)) Sa)
 (some (.inl ((t0,(ap t3 ([(ap (ap r10.1 ([32]:List UInt8)) r12.1)]:List Sb)),(wr .i64 (t4+1)),()),())))
 none)
 none)))
 none)))
 (some (.inr (.inl ((t3,()),())))))
def Xv:=Eb fun x:((Ai×RG)×Unit)=>Ws x.1.1 x.1.2.1 x.1.2.2.1
def OC(a0:Ai):Option Mh:=
 (ob (Xv ((a0,[],0,()),())) (se (fun y13=>(cond (((ln y13.1.1:Nat):Int)==0)
 (some (([45]:List UInt8),()))
 (ob (Nd y13.1.1 ([59,32]:List UInt8)) fun r15=>
 (some (r15.1,()))))) (fun z14=>none)))
def strconv_Itoa(a:Int):Option (List UInt8×Unit):=IZ a
def Kh(a0:Int):Option Mh:=
 (ob (strconv_Itoa a0) fun r1=>
 (some (r1.1,())))
def Qs(t3:Hd)(t9:Ai)(t10:Int)(t11:Int):Option (((Hd×LQ)×Unit)⊕YY):=
 (cond (decide (t11<t10))
 (ob (Wb t9 t11) fun x10=>
 (ob (Kh x10.1) fun r11=>
 (cond (bl (ln r11.1+ln ([32]:List UInt8)) Sa)
 (ob (Qp x10.2.1) fun r12=>
 (cond (bl (ln (ap r11.1 ([32]:List UInt8))+ln r12.1) Sa)
 (cond (bl (ln t3+ln ([(ap (ap r11.1 ([32]:List UInt8)) r12.1)]:List Sb)) Sa)
 (some (.inl (((ap t3 ([(ap (ap r11.1 ([32]:List UInt8)) r12.1)]:List Sb)),t9,t10,(wr .i64 (t11+1)),()),())))
 none)
 none))
 none)))
 (some (.inr (.inl ((t3,()),())))))
def Lv:=Eb fun x:((Hd×LQ)×Unit)=>Qs x.1.1 x.1.2.1 x.1.2.2.1 x.1.2.2.2.1
def Mo(a0:Ai):Option Mh:=
 (cond (((ln a0:Nat):Int)==0)
 (some (([45]:List UInt8),()))
 (ob (Lv (([],a0,((ln a0:Nat):Int),0,()),())) (se (fun y13=>(ob (Hh y13.1.1 ([59,32]:List UInt8)) fun r15=>
 (some (r15.1,())))) (fun z14=>none))))
def Qu(t1:Unit)(t3:Int)(b1:Oa):Option ((Ns×SG)⊕((Wf×SG)⊕UB)):=
 (cond (decide (t3<((ln b1.2.1:Nat):Int)))
 (ob (Wb b1.2.1 t3) fun x9=>
 (ob (Sc x9.1 0 1000000) fun r10=>
 (cond (!r10.1)
 (some (.inr (.inr ((false,()),()))))
 (ob (Wb b1.2.1 t3) fun x11=>
 (ob (Ip x11.2.1) fun r12=>
 (cond (!r12.1)
 (some (.inr (.inr ((false,()),()))))
 (some (.inl (((),(wr .i64 (t3+1)),()),(b1,()))))))))))
 (some (.inr (.inl (((),()),(b1,()))))))
def Vx:=Eb fun x:(Ns×SG)=>Qu x.1.1 x.1.2.1 x.2.1
def BF(a0:Oa):Option Be:=
 (ob (Vx (((),0,()),(a0,()))) (se (fun y13=>(ob (Hr y13.2.1.1) fun r15=>
 (cond r15.1
 (some ((decide (((ln y13.2.1.2.1:Nat):Int)≤200)),()))
 (some (false,()))))) (fun z14=>(some (z14.1.1,())))))
def Wt(t16:Ai)(t17:Int)(t18:Int):Option ((LQ×Unit)⊕XN):=
 (cond (decide (t18<t17))
 (ob (Wb t16 t18) fun x6=>
 (cond (decide (x6.1<0))
 (some (.inr (.inr ((false,()),()))))
 (cond (decide (x6.1>1000000))
 (some (.inr (.inr ((false,()),()))))
 (ob (Ep x6.2.1) fun r7=>
 (cond (!r7.1)
 (some (.inr (.inr ((false,()),()))))
 (some (.inl ((t16,t17,(wr .i64 (t18+1)),()),()))))))))
 (some (.inr (.inl ((),())))))
def Ax:=Eb fun x:(LQ×Unit)=>Wt x.1.1 x.1.2.1 x.1.2.2.1
def RE(a0:Oa):Option Be:=
 (ob (Zq a0.1) fun r1=>
 (cond (!r1.1)
 (some (false,()))
 (cond (decide (((ln a0.2.1:Nat):Int)>200))
 (some (false,()))
 (ob (Ax ((a0.2.1,((ln a0.2.1:Nat):Int),0,()),())) (se (fun y8=>(some (true,()))) (fun z9=>(some (z9.1.1,()))))))))
def PE(a0:Cb)(a1:Xa):Option ZY:=
 (ob (Yt a0 ([a1]:List Xa) a1.1) fun r1=>
 (some r1))
def UE(a0:Cb)(a1:Int):Option ZY:=
 (ob (Yt a0 [] a1) fun r1=>
 (some r1))
def Mw(t1:Int)(t3:Vn)(t4:Int)(t5:Unit)(t12:Int)(t13:Int)(t14:Int)(b5:Ta):Option (((Int×(Vn×(Int×FaD)))×GI)⊕(A4⊕A4)):=
 (cond (decide (t14<((ln t3:Nat):Int)))
 (ob (Wb t3 t14) fun x7=>
 (ob (DE x7) fun r8=>
 (cond (!r8.1)
 (some (.inr (.inr ((0,0,()),()))))
 (cond (decide (x7.1≥t12))
 (some (.inr (.inr ((2,t12,()),()))))
 (cond (x7.2.1==t1)
 (cond (!x7.2.2.1)
 (some (.inr (.inr ((1,x7.1,()),()))))
 (cond (x7.2.1==t1)
 (some (.inl ((t1,t3,t4,(),t12,t13,(wr .i64 (t14+1)),()),(b5,()))))
 (cond x7.2.2.1
 (cond (b5.2.2.1==1)
 (some (.inr (.inr ((2,x7.1,()),()))))
 (cond x7.2.2.1
 (cond (decide (0≤x7.2.1))
 (some (.inl ((t1,t3,t4,(),t12,(Xd .i64 t13 (Ke .i64 1 x7.2.1)),(wr .i64 (t14+1)),()),(b5,()))))
 none)
 (cond (b5.2.2.1==2)
 (cond (decide (0≤x7.2.1))
 (cond ((Fh .i64 (Mx .i64 t13 x7.2.1) 1)==1)
 (some (.inr (.inr ((2,x7.1,()),()))))
 (some (.inl ((t1,t3,t4,(),t12,t13,(wr .i64 (t14+1)),()),(b5,())))))
 none)
 (some (.inl ((t1,t3,t4,(),t12,t13,(wr .i64 (t14+1)),()),(b5,())))))))
 (cond x7.2.2.1
 (cond (decide (0≤x7.2.1))
 (some (.inl ((t1,t3,t4,(),t12,(Xd .i64 t13 (Ke .i64 1 x7.2.1)),(wr .i64 (t14+1)),()),(b5,()))))
 none)
 (cond (b5.2.2.1==2)
 (cond (decide (0≤x7.2.1))
 (cond ((Fh .i64 (Mx .i64 t13 x7.2.1) 1)==1)
 (some (.inr (.inr ((2,x7.1,()),()))))
 (some (.inl ((t1,t3,t4,(),t12,t13,(wr .i64 (t14+1)),()),(b5,())))))
 none)
 (some (.inl ((t1,t3,t4,(),t12,t13,(wr .i64 (t14+1)),()),(b5,())))))))))
 (cond (x7.2.1==t1)
 (some (.inl ((t1,t3,t4,(),t12,t13,(wr .i64 (t14+1)),()),(b5,()))))
 (cond x7.2.2.1
 (cond (b5.2.2.1==1)
 (some (.inr (.inr ((2,x7.1,()),()))))
 (cond x7.2.2.1
 (cond (decide (0≤x7.2.1))
 (some (.inl ((t1,t3,t4,(),t12,(Xd .i64 t13 (Ke .i64 1 x7.2.1)),(wr .i64 (t14+1)),()),(b5,()))))
 none)
 (cond (b5.2.2.1==2)
 (cond (decide (0≤x7.2.1))
 (cond ((Fh .i64 (Mx .i64 t13 x7.2.1) 1)==1)
 (some (.inr (.inr ((2,x7.1,()),()))))
 (some (.inl ((t1,t3,t4,(),t12,t13,(wr .i64 (t14+1)),()),(b5,())))))
 none)
 (some (.inl ((t1,t3,t4,(),t12,t13,(wr .i64 (t14+1)),()),(b5,())))))))
 (cond x7.2.2.1
 (cond (decide (0≤x7.2.1))
 (some (.inl ((t1,t3,t4,(),t12,(Xd .i64 t13 (Ke .i64 1 x7.2.1)),(wr .i64 (t14+1)),()),(b5,()))))
 none)
 (cond (b5.2.2.1==2)
 (cond (decide (0≤x7.2.1))
 (cond ((Fh .i64 (Mx .i64 t13 x7.2.1) 1)==1)
 (some (.inr (.inr ((2,x7.1,()),()))))
 (some (.inl ((t1,t3,t4,(),t12,t13,(wr .i64 (t14+1)),()),(b5,())))))
 none)
 (some (.inl ((t1,t3,t4,(),t12,t13,(wr .i64 (t14+1)),()),(b5,())))))))))))))
 (some (.inr (.inl ((t4,t12,()),())))))
def Zz:=Eb fun x:((Int×(Vn×(Int×FaD)))×GI)=>Mw x.1.1 x.1.2.1 x.1.2.2.1 x.1.2.2.2.1 x.1.2.2.2.2.1 x.1.2.2.2.2.2.1 x.1.2.2.2.2.2.2.1 x.2.1
def EH(a0:Ta)(a1:Int)(a2:Int)(a3:Vn)(a4:Int):Option Lc:=
 (ob (RA a0) fun r1=>
 (cond (!r1.1)
 (some (0,0,()))
 (ob (Sc a2 0 1000000) fun r2=>
 (cond (!r2.1)
 (some (0,0,()))
 (ob (Zz ((a1,a3,a4,(),(wr .i64 (a2+a0.1)),0,0,()),(a0,()))) (se (fun y9=>(cond (decide (y9.1.1≥y9.1.2.1))
 (some (2,y9.1.2.1,()))
 (some (0,0,())))) (fun z10=>(some z10.1))))))))
def Ay(a0:Cb)(a1:Xa)(a2:Int):Option (Cb×(Eh×VY)):=
 (ob (Nt a0.1.2.2.1 a0.1.2.2.2.1) fun r1=>
 (ob (Mt a0.1.1 r1.1 a1.2.1) fun r2=>
 (ob (Cn r2.1) fun r3=>
 (cond r3.1
 (cond (Bd (ln a0.2.2.1) 1 ((ln a0.2.2.1:Nat):Int))
 (ob (EH a0.2.1 a1.2.1 a1.1 (Ya a0.2.2.1 (tn 1) (tn ((ln a0.2.2.1:Nat):Int))) a0.2.2.2.1) fun r4=>
 (cond (a0.2.2.2.2.2.1==(wr .i64 (a1.2.1+1)))
 (cond (decide ((wr .i64 (a1.1-a0.2.2.2.2.2.2.1))<a0.2.1.2.1))
 (cond ((1:Int)==0)
 (some (a0,([],a2,false,())))
 (cond (!((1:Int)==2))
 (ob (Rn a0.1 a1.2.1 ((1:Int)==2)) fun r5=>
 (some ((r5.1,a0.2.1,a0.2.2.1,a0.2.2.2.1,a0.2.2.2.2.1,(wr .i64 (a1.2.1+1)),a1.1,a0.2.2.2.2.2.2.2),(r5.2.1,(max a2 a1.1),true,()))))
 (ob (Rn a0.1 a1.2.1 ((1:Int)==2)) fun r6=>
 (some ((r6.1,a0.2.1,a0.2.2.1,a0.2.2.2.1,a0.2.2.2.2.1,0,a0.2.2.2.2.2.2),(r6.2.1,(max a2 a1.1),true,()))))))
 (cond (r4.1==0)
 (some (a0,([],a2,false,())))
 (cond (!(r4.1==2))
 (ob (Rn a0.1 a1.2.1 (r4.1==2)) fun r7=>
 (some ((r7.1,a0.2.1,a0.2.2.1,a0.2.2.2.1,a0.2.2.2.2.1,(wr .i64 (a1.2.1+1)),a1.1,a0.2.2.2.2.2.2.2),(r7.2.1,(max a2 r4.2.1),true,()))))
 (ob (Rn a0.1 a1.2.1 (r4.1==2)) fun r8=>
 (some ((r8.1,a0.2.1,a0.2.2.1,a0.2.2.2.1,a0.2.2.2.2.1,0,a0.2.2.2.2.2.2),(r8.2.1,(max a2 r4.2.1),true,())))))))
 (cond (r4.1==0)
 (some (a0,([],a2,false,())))
 (cond (!(r4.1==2))
 (ob (Rn a0.1 a1.2.1 (r4.1==2)) fun r9=>
 (some ((r9.1,a0.2.1,a0.2.2.1,a0.2.2.2.1,a0.2.2.2.2.1,(wr .i64 (a1.2.1+1)),a1.1,a0.2.2.2.2.2.2.2),(r9.2.1,(max a2 r4.2.1),true,()))))
 (ob (Rn a0.1 a1.2.1 (r4.1==2)) fun r10=>
 (some ((r10.1,a0.2.1,a0.2.2.1,a0.2.2.2.1,a0.2.2.2.2.1,0,a0.2.2.2.2.2.2),(r10.2.1,(max a2 r4.2.1),true,()))))))))
 none)
 (ob (Rn a0.1 a1.2.1 false) fun r11=>
 (some ((r11.1,a0.2),(r11.2.1,a2,true,()))))))))
def EA(t0:Unit)(t3:Ai)(t5:Int)(t6:(Eh×Int))(t13:Int)(b500000:Cb):Option (Das⊕(((Unit×(Ai×Oh))×IQ)⊕Wf)):=
 (cond (decide (t13<((ln t6.1:Nat):Int)))
 (cond (Ac (ln t6.1) t13)
 (cond (qw (tn t13) (tn t6.2))
 (ob t6.1[(tn t13)]? fun x53=>
 (cond (bl (ln t3+ln ([(t5,x53,())]:List Qc)) Sa)
 (some (.inl (((),(ap t3 ([(t5,x53,())]:List Qc)),t5,(t6.1,((((tn t13)+1):Nat):Int)),(wr .i64 (t13+1)),()),(b500000,()))))
 none))
 none)
 none)
 (some (.inr (.inl (((),t3,t5,()),(b500000,()))))))
def Xj:=Eb fun x:Das=>EA x.1.1 x.1.2.1 x.1.2.2.1 x.1.2.2.2.1 x.1.2.2.2.2.1 x.2.1
def Sj(t0:Unit)(t3:Ai)(b500000:Cb):Option ((B4×IQ)⊕((B4×IQ)⊕(B4×IQ))):=
 (cond (decide (((ln b500000.2.2.1:Nat):Int)>0))
 (cond (Ac (ln b500000.2.2.1) 0)
 (ob b500000.2.2.1[(tn 0)]? fun x38=>
 (cond x38.2.2.1
 (ob (Ay b500000 x38 (max b500000.2.2.2.2.1 x38.1)) fun r39=>
 (cond (!r39.2.2.2.1)
 (some (.inr (.inr (((),t3,()),(r39.1,())))))
 (ob (Xj (((),t3,r39.2.2.1,(r39.2.1,0),0,()),(r39.1,()))) (se (fun y43=>(cond (Bd (ln y43.2.1.2.2.1) 1 ((ln y43.2.1.2.2.1:Nat):Int))
 (cond (bl (ln ([]:List Xa)+ln (Ya y43.2.1.2.2.1 (tn 1) (tn ((ln y43.2.1.2.2.1:Nat):Int)))) Sa)
 (some (.inl (((),y43.1.2.1,()),((y43.2.1.1,y43.2.1.2.1,(ap [] (Ya y43.2.1.2.2.1 (tn 1) (tn ((ln y43.2.1.2.2.1:Nat):Int)))),y43.2.1.2.2.2.1,y43.1.2.2.1,y43.2.1.2.2.2.2.2),()))))
 none)
 none)) (fun z44=>none)))))
 (ob (FE b500000.1 x38.2.1) fun r45=>
 (cond (b500000.2.2.2.2.2.1==(wr .i64 (x38.2.1+1)))
 (ob (Xj (((),t3,(max b500000.2.2.2.2.1 x38.1),(r45.2.1,0),0,()),((r45.1,b500000.2.1,b500000.2.2.1,b500000.2.2.2.1,b500000.2.2.2.2.1,b500000.2.2.2.2.2.1,x38.1,b500000.2.2.2.2.2.2.2),()))) (se (fun y49=>(cond (Bd (ln y49.2.1.2.2.1) 1 ((ln y49.2.1.2.2.1:Nat):Int))
 (cond (bl (ln ([]:List Xa)+ln (Ya y49.2.1.2.2.1 (tn 1) (tn ((ln y49.2.1.2.2.1:Nat):Int)))) Sa)
 (some (.inl (((),y49.1.2.1,()),((y49.2.1.1,y49.2.1.2.1,(ap [] (Ya y49.2.1.2.2.1 (tn 1) (tn ((ln y49.2.1.2.2.1:Nat):Int)))),y49.2.1.2.2.2.1,y49.1.2.2.1,y49.2.1.2.2.2.2.2),()))))
 none)
 none)) (fun z50=>none)))
 (ob (Xj (((),t3,(max b500000.2.2.2.2.1 x38.1),(r45.2.1,0),0,()),((r45.1,b500000.2),()))) (se (fun y54=>(cond (Bd (ln y54.2.1.2.2.1) 1 ((ln y54.2.1.2.2.1:Nat):Int))
 (cond (bl (ln ([]:List Xa)+ln (Ya y54.2.1.2.2.1 (tn 1) (tn ((ln y54.2.1.2.2.1:Nat):Int)))) Sa)
 (some (.inl (((),y54.1.2.1,()),((y54.2.1.1,y54.2.1.2.1,(ap [] (Ya y54.2.1.2.2.1 (tn 1) (tn ((ln y54.2.1.2.2.1:Nat):Int)))),y54.2.1.2.2.2.1,y54.1.2.2.1,y54.2.1.2.2.2.2.2),()))))
 none)
 none)) (fun z55=>none)))))))
 none)
 (some (.inr (.inl (((),t3,()),(b500000,()))))))
def Al:=Eb fun x:(B4×IQ)=>Sj x.1.1 x.1.2.1 x.2.1
def DB(a0:Cb):Option (Cb×(Ai×Unit)):=
 (ob (Al (((),[],()),(a0,()))) (se (fun y56=>(some (y56.2.1,(y56.1.2.1,())))) (fun z57=>(some (z57.2.1,(z57.1.2.1,()))))))
def Tu(a0:Cb)(a1:Vn)(a2:Int):Option ZY:=
 (cond (bl (ln ([]:List Xa)+ln a0.2.2.1) Sa)
 (cond (bl (ln (ap [] a0.2.2.1)+ln a1) Sa)
 (ob (Hr a0) fun r1=>
 (cond (!r1.1)
 (some (Cg,[],false,()))
 (ob (Sc a2 a0.2.2.2.1 1000000) fun r2=>
 (cond (!r2.1)
 (some (Cg,[],false,()))
 (ob (GE a0.1) fun r3=>
 (ob (Zu (ap (ap [] a0.2.2.1) a1) r3.1 a0.1.1.1 0) fun r4=>
 (cond (!r4.1)
 (some (Cg,[],false,()))
 (cond (decide (((ln a1:Nat):Int)>0))
 (ob (Wb a1 0) fun x5=>
 (cond (decide (x5.1<a0.2.2.2.1))
 (some (Cg,[],false,()))
 (ob (Wb a1 (wr .i64 (((ln a1:Nat):Int)-1))) fun x6=>
 (cond (decide (x6.1>a2))
 (some (Cg,[],false,()))
 (ob (Ml a0.1) fun r7=>
 (ob (DB (r7.1,a0.2.1,(ap (ap [] a0.2.2.1) a1),a2,a0.2.2.2.2)) fun r8=>
 (some (r8.1,r8.2.1,true,()))))))))
 (ob (Ml a0.1) fun r9=>
 (ob (DB (r9.1,a0.2.1,(ap (ap [] a0.2.2.1) a1),a2,a0.2.2.2.2)) fun r10=>
 (some (r10.1,r10.2.1,true,()))))))))))))
 none)
 none)
def UC(t0:Ge)(t1:Int)(t5:Int):Option ((RY×Unit)⊕XN):=
 (cond (decide (t5<((ln t0:Nat):Int)))
 (ob (Wb t0 t5) fun x3=>
 (cond (x3==t1)
 (some (.inr (.inr ((true,()),()))))
 (some (.inl ((t0,t1,(wr .i64 (t5+1)),()),())))))
 (some (.inr (.inl ((),())))))
def HE:=Eb fun x:(RY×Unit)=>UC x.1.1 x.1.2.1 x.1.2.2.1
def BM(a0:Ge)(a1:Int):Option Be:=
 (ob (HE ((a0,a1,0,()),())) (se (fun y4=>(some (false,()))) (fun z5=>(some (z5.1.1,())))))
def Hs(t2:Unit)(t3:Unit)(t5:Ge)(t6:Int)(b2:Ca)(b3:Ca):Option (((Unit×U3)×Gv)⊕WY):=
 (cond (decide (t6<((ln b3.2.1:Nat):Int)))
 (ob (Ip b2) fun r11=>
 (cond r11.1
 (ob (Ip b3) fun r12=>
 (cond r12.1
 (ob (Wb b3.2.1 t6) fun x13=>
 (ob (BM b2.2.1 x13) fun r14=>
 (cond (!r14.1)
 (ob (Wb b3.2.1 t6) fun x15=>
 (cond (bl (ln t5+ln ([x15]:List Int)) Sa)
 (some (.inl (((),(),(ap t5 ([x15]:List Int)),(wr .i64 (t6+1)),()),(b2,b3,()))))
 none))
 (some (.inl (((),(),t5,(wr .i64 (t6+1)),()),(b2,b3,())))))))
 (some (.inr (.inl ((t5,()),()))))))
 (some (.inr (.inl ((t5,()),()))))))
 (some (.inr (.inl ((t5,()),())))))
def QB:=Eb fun x:((Unit×U3)×Gv)=>Hs x.1.1 x.1.2.1 x.1.2.2.1 x.1.2.2.2.1 x.2.1 x.2.2.1
def EJ(a0:Ca)(a1:Ca):Option EL:=
 (ob (QB (((),(),[],0,()),(a0,a1,()))) (se (fun y16=>(some (y16.1.1,()))) (fun z17=>none)))
def Yu(t1:Eh)(t2:Unit)(t5:Sb)(t6:Int)(t7:Ge)(t8:Int)(b2:Ca):Option (((Eh×(Unit×(Sb×(Int×WN))))×Ei)⊕(Xac⊕Wf)):=
 (cond (decide (t8<((ln t7:Nat):Int)))
 (cond (Ac (ln t7) t8)
 (ob t7[(tn t8)]? fun x37=>
 (ob (Wb t1 t6) fun x38=>
 (ob (Qn x37 x38.1) fun r39=>
 (cond (bl (ln t5+ln r39.1) Sa)
 (some (.inl ((t1,(),(ap t5 r39.1),t6,t7,(wr .i64 (t8+1)),()),(b2,()))))
 none))))
 none)
 (some (.inr (.inl ((t1,(),t5,t6,()),(b2,()))))))
def Zx:=Eb fun x:((Eh×(Unit×(Sb×(Int×WN))))×Ei)=>Yu x.1.1 x.1.2.1 x.1.2.2.1 x.1.2.2.2.1 x.1.2.2.2.2.1 x.1.2.2.2.2.2.1 x.2.1
def Xu(t1:Eh)(t2:Unit)(t5:Sb)(t6:Int)(b2:Ca):Option (Xac⊕X3):=
 (cond (decide (t6<((ln t1:Nat):Int)))
 (ob (Wb t1 t6) fun x29=>
 (ob (EJ b2 x29) fun r30=>
 (ob (Zx ((t1,(),t5,t6,r30.1,0,()),(b2,()))) (se (fun y40=>(ob (Wb y40.1.1 y40.1.2.2.2.1) fun x42=>
 (some (.inl ((y40.1.1,(),y40.1.2.2.1,(wr .i64 (y40.1.2.2.2.1+1)),()),(x42,())))))) (fun z41=>(some (.inr (.inr ((),())))))))))
 (some (.inr (.inl ((t5,()),())))))
def Yx:=Eb fun x:Xac=>Xu x.1.1 x.1.2.1 x.1.2.2.1 x.1.2.2.2.1 x.2.1
def DF(a0:Ca)(a1:Eh):Option Mh:=
 (ob (Yx ((a1,(),[],0,()),(a0,()))) (se (fun y43=>(some (y43.1.1,()))) (fun z44=>none)))
def Ul:Option SG:=
 (ob (Js Lk) fun r1=>
 (ob (Dn r1.1 []) fun r2=>
 (ob (Ru r2.1 (200,0,0,())) fun r3=>
 (some ((r3.1,[],()),())))))
def Bu(t0:Sb)(t1:Int)(t5:Hd)(t6:Int)(t7:Int):Option (Fac⊕(((Sb×RG)×Unit)⊕Wf)):=
 (cond (decide (t7<((ln t0:Nat):Int)))
 (ob (Wb t0 t7) fun c4=>
 (cond (((UInt8.toNat c4:Nat):Int)==t1)
 (cond (Bd (ln t0) t6 t7)
 (cond (bl (ln t5+ln ([(Ya t0 (tn t6) (tn t7))]:List Sb)) Sa)
 (some (.inl ((t0,t1,(ap t5 ([(Ya t0 (tn t6) (tn t7))]:List Sb)),(wr .i64 (t7+1)),(wr .i64 (t7+1)),()),())))
 none)
 none)
 (some (.inl ((t0,t1,t5,t6,(wr .i64 (t7+1)),()),())))))
 (some (.inr (.inl ((t0,t5,t6,()),())))))
def Vk:=Eb fun x:Fac=>Bu x.1.1 x.1.2.1 x.1.2.2.1 x.1.2.2.2.1 x.1.2.2.2.2.1
def Tm(a0:Sb)(a1:Int):Option HL:=
 (ob (Vk ((a0,a1,[],0,0,()),())) (se (fun y5=>(cond (Bd (ln y5.1.1) y5.1.2.2.1 ((ln y5.1.1:Nat):Int))
 (cond (bl (ln y5.1.2.1+ln ([(Ya y5.1.1 (tn y5.1.2.2.1) (tn ((ln y5.1.1:Nat):Int)))]:List Sb)) Sa)
 (some ((ap y5.1.2.1 ([(Ya y5.1.1 (tn y5.1.2.2.1) (tn ((ln y5.1.1:Nat):Int)))]:List Sb)),()))
 none)
 none)) (fun z6=>none)))
def On(a0:Int):Option Mh:=
 (cond (a0==3)
 (some (([109,111,58]:List UInt8),()))
 (cond (a0==4)
 (some (([116,103,58]:List UInt8),()))
 (cond (a0==5)
 (some (([116,111,58]:List UInt8),()))
 (cond (a0==9)
 (some (Vi,()))
 (some ([],()))))))
def Ey(a0:Sb)(a1:Sb):Option Be:=
 (cond (decide (((ln a0:Nat):Int)≥((ln a1:Nat):Int)))
 (cond (Bd (ln a0) 0 ((ln a1:Nat):Int))
 (some (((Ya a0 (tn 0) (tn ((ln a1:Nat):Int)))==a1),()))
 none)
 (some (false,())))
def Dy(a0:Sb)(a1:Sb):Option (Sb×Be):=
 (ob (Ey a0 a1) fun r1=>
 (cond (!r1.1)
 (some (a0,false,()))
 (cond (Bd (ln a0) ((ln a1:Nat):Int) ((ln a0:Nat):Int))
 (some ((Ya a0 (tn ((ln a1:Nat):Int)) (tn ((ln a0:Nat):Int))),true,()))
 none)))
def Jj(a0:Sb)(a1:Sb):Option (Sb×Be):=
 (ob (Dy a0 a1) fun r1=>
 (some r1))
def Jt(a:List UInt8):Option VY:=Xaq a
def Xt(t0:Sb)(t3:Int):Option ((QG×Unit)⊕FL):=
 (cond (decide (t3≤15))
 (ob (Kj t3) fun r3=>
 (cond (r3.1==t0)
 (some (.inr (.inr ((t3,()),()))))
 (some (.inl ((t0,(wr .i64 (t3+1)),()),())))))
 (some (.inr (.inl ((),())))))
def Uk:=Eb fun x:(QG×Unit)=>Xt x.1.1 x.1.2.1
def Br(a0:Sb):Option Oh:=
 (ob (Uk ((a0,1,()),())) (se (fun y4=>(some (0,()))) (fun z5=>(some (z5.1.1,())))))
def strings_Cut(a b:List UInt8):Option (List UInt8×(List UInt8×Be)):=Rap a b
def BC(t0:Sb)(t5:Hd)(t6:Int)(t7:Int):Option (((Sb×Py)×Unit)⊕FL):=
 (cond (decide (t7<t6))
 (cond (Ac (ln t5) t7)
 (ob t5[(tn t7)]? fun x4=>
 (cond (x4==t0)
 (some (.inr (.inr (((wr .i64 (t7+1)),()),()))))
 (some (.inl ((t0,t5,t6,(wr .i64 (t7+1)),()),())))))
 none)
 (some (.inr (.inl ((),())))))
def Ao:=Eb fun x:((Sb×Py)×Unit)=>BC x.1.1 x.1.2.1 x.1.2.2.1 x.1.2.2.2.1
def Jv(a0:Sb):Option Oh:=
 (ob (strings_Split HH ([32]:List UInt8)) fun r1=>
 (ob (Ao ((a0,r1.1,((ln r1.1:Nat):Int),0,()),())) (se (fun y5=>(some (0,()))) (fun z6=>(some (z6.1.1,()))))))
def Gq(t0:Sb)(t2:Unit)(t29:Ge)(t30:Int)(t31:Int)(b2:Ia):Option (((Sb×Dac)×Bw)⊕(((Sb×Wf)×Bw)⊕(Wf×Bw))):=
 (cond (decide (t31<t30))
 (cond (Ac (ln t29) t31)
 (ob t29[(tn t31)]? fun x9=>
 (ob (On x9) fun r10=>
 (ob (Jj t0 r10.1) fun r11=>
 (cond r11.2.1
 (ob (Jt r11.1) fun r12=>
 (some (.inr (.inr (((),()),((x9,0,0,r12.1,()),()))))))
 (some (.inl ((t0,(),t29,t30,(wr .i64 (t31+1)),()),(b2,()))))))))
 none)
 (some (.inr (.inl ((t0,(),()),(b2,()))))))
def Et:=Eb fun x:((Sb×Dac)×Bw)=>Gq x.1.1 x.1.2.1 x.1.2.2.1 x.1.2.2.2.1 x.1.2.2.2.2.1 x.2.1
def Mz(a0:Sb):Option Bw:=
 (cond (a0==Ek)
 (some ((0,0,0,0,()),()))
 (cond (a0==Dk)
 (some ((1,0,0,0,()),()))
 (cond (a0==Ui)
 (some ((10,0,0,0,()),()))
 (ob (Et ((a0,(),([3,4,5,9]:List Int),((ln ([3,4,5,9]:List Int):Nat):Int),0,()),((0,0,0,0,()),()))) (se (fun y13=>(ob (Jj y13.1.1 Hg) fun r15=>
 (cond r15.2.1
 (ob (Br r15.1) fun r16=>
 (some ((8,0,r16.1,0,()),())))
 (ob (strings_Cut y13.1.1 ([47]:List UInt8)) fun r17=>
 (cond r17.2.2.1
 (ob (Jt r17.1) fun r18=>
 (cond r18.2.1
 (ob (Jv r17.2.1) fun r19=>
 (some ((7,r19.1,0,r18.1,()),())))
 (ob (Br r17.1) fun r20=>
 (ob (Jv r17.2.1) fun r21=>
 (some ((6,r21.1,r20.1,0,()),()))))))
 (ob (strings_Cut y13.1.1 ([45]:List UInt8)) fun r22=>
 (cond r22.2.2.1
 (ob (Br r22.1) fun r23=>
 (ob (Jv r22.2.1) fun r24=>
 (some ((2,r24.1,r23.1,0,()),()))))
 (ob (Jv y13.1.1) fun r25=>
 (some ((2,r25.1,0,0,()),())))))))))) (fun z14=>(some (z14.2.1,()))))))))
def Vl(a0:Ia):Option Mh:=
 (ob (Ri a0) fun r1=>
 (cond (!r1.1)
 (some ([],()))
 (cond (a0.1==0)
 (some (Ek,()))
 (cond (a0.1==1)
 (some (Dk,()))
 (cond (a0.1==10)
 (some (Ui,()))
 (cond (a0.1==2)
 (cond (a0.2.2.1 !=0)
 (ob (Kj a0.2.2.1) fun r2=>
 (cond (bl (ln r2.1+ln ([45]:List UInt8)) Sa)
 (ob (Tc a0.2.1) fun r3=>
 (cond (bl (ln (ap r2.1 ([45]:List UInt8))+ln r3.1) Sa)
 (some ((ap (ap r2.1 ([45]:List UInt8)) r3.1),()))
 none))
 none))
 (ob (Tc a0.2.1) fun r4=>
 (some (r4.1,()))))
 (cond (a0.1==6)
 (ob (Kj a0.2.2.1) fun r5=>
 (cond (bl (ln r5.1+ln ([47]:List UInt8)) Sa)
 (ob (Tc a0.2.1) fun r6=>
 (cond (bl (ln (ap r5.1 ([47]:List UInt8))+ln r6.1) Sa)
 (some ((ap (ap r5.1 ([47]:List UInt8)) r6.1),()))
 none))
 none))
 (cond (a0.1==7)
 (ob (Kh a0.2.2.2.1) fun r7=>
 (cond (bl (ln r7.1+ln ([47]:List UInt8)) Sa)
 (ob (Tc a0.2.1) fun r8=>
 (cond (bl (ln (ap r7.1 ([47]:List UInt8))+ln r8.1) Sa)
 (some ((ap (ap r7.1 ([47]:List UInt8)) r8.1),()))
 none))
 none))
 (cond (a0.1==8)
 (ob (Kj a0.2.2.1) fun r9=>
 (cond (bl (ln Hg+ln r9.1) Sa)
 (some ((ap Hg r9.1),()))
 none))
 (ob (On a0.1) fun r10=>
 (ob (Kh a0.2.2.2.1) fun r11=>
 (cond (bl (ln r10.1+ln r11.1) Sa)
 (some ((ap r10.1 r11.1),()))
 none))))))))))))
def Ur(a0:Sb):Option (Ia×Be):=
 (ob (Mz a0) fun r1=>
 (ob (Ri r1.1) fun r2=>
 (cond (!r2.1)
 (some ((0,0,0,0,()),false,()))
 (ob (Vl r1.1) fun r3=>
 (cond (r3.1 !=a0)
 (some ((0,0,0,0,()),false,()))
 (some (r1.1,true,())))))))
def Ko(t3:Hd)(t6:Hd)(t13:(List Cl))(t14:Int)(t15:Int)(t19:Cl)(t20:Int)(t21:Int):Option (((Hd×(Hd×Bac))×Unit)⊕(((Hd×(Hd×KQ))×Unit)⊕Wf)):=
 (cond (decide (t21<t20))
 (ob (Wb t19 t21) fun x39=>
 (ob (Vl x39) fun r40=>
 (cond (bl (ln t6+ln ([r40.1]:List Sb)) Sa)
 (some (.inl ((t3,(ap t6 ([r40.1]:List Sb)),t13,t14,t15,t19,t20,(wr .i64 (t21+1)),()),())))
 none)))
 (some (.inr (.inl ((t3,t6,t13,t14,t15,()),())))))
def Pr:=Eb fun x:((Hd×(Hd×Bac))×Unit)=>Ko x.1.1 x.1.2.1 x.1.2.2.1 x.1.2.2.2.1 x.1.2.2.2.2.1 x.1.2.2.2.2.2.1 x.1.2.2.2.2.2.2.1 x.1.2.2.2.2.2.2.2.1
def Jo(t3:Hd)(t13:(List Cl))(t14:Int)(t15:Int):Option (((Hd×KQ)×Unit)⊕YY):=
 (cond (decide (t15<t14))
 (ob (Wb t13 t15) fun x34=>
 (ob (Pr ((t3,[],t13,t14,t15,x34,((ln x34:Nat):Int),0,()),())) (se (fun y41=>(ob (Hh y41.1.2.1 ([32]:List UInt8)) fun r43=>
 (cond (bl (ln y41.1.1+ln ([r43.1]:List Sb)) Sa)
 (some (.inl (((ap y41.1.1 ([r43.1]:List Sb)),y41.1.2.2.1,y41.1.2.2.2.1,(wr .i64 (y41.1.2.2.2.2.1+1)),()),())))
 none))) (fun z42=>(some (.inr (.inr ((),()))))))))
 (some (.inr (.inl ((t3,()),())))))
def Nr:=Eb fun x:((Hd×KQ)×Unit)=>Jo x.1.1 x.1.2.1 x.1.2.2.1 x.1.2.2.2.1
def Pp(a0:Ea):Option Mh:=
 (ob (Zl a0) fun r1=>
 (cond (!r1.1)
 (some ([],()))
 (ob (Nr (([],a0.2.1,((ln a0.2.1:Nat):Int),0,()),())) (se (fun y44=>(ob (Hh y44.1.1 ([32,124,32]:List UInt8)) fun r46=>
 (some (r46.1,())))) (fun z45=>none)))))
def Dq(t0:Sb)(t2:Unit)(t4:Unit)(t7:Cl)(t13:Hd)(t14:Int)(t15:Int)(t20:Hd)(t21:Int)(t22:Int)(b2:Ea)(b4:Ea):Option (IaD⊕(((Sb×(Unit×(Unit×(Cl×Py))))×VB)⊕((Unit×Be)×Im))):=
 (cond (decide (t22<t21))
 (cond (Ac (ln t20) t22)
 (ob t20[(tn t22)]? fun x40=>
 (ob (Ur x40) fun r41=>
 (cond (!r41.2.1)
 (some (.inr (.inr (((),false,()),((0,[],()),())))))
 (cond (decide (((ln t7:Nat):Int)≥32))
 (some (.inr (.inr (((),false,()),((0,[],()),())))))
 (cond (decide (((ln b4.2.1:Nat):Int)≥4))
 (some (.inr (.inr (((),false,()),((0,[],()),())))))
 (cond (bl (ln t7+ln ([r41.1]:List Ia)) Sa)
 (some (.inl ((t0,(),(),(ap t7 ([r41.1]:List Ia)),t13,t14,t15,t20,t21,(wr .i64 (t22+1)),()),(b2,b4,()))))
 none))))))
 none)
 (some (.inr (.inl ((t0,(),(),t7,t13,t14,t15,()),(b2,b4,()))))))
def Ct:=Eb fun x:IaD=>Dq x.1.1 x.1.2.1 x.1.2.2.1 x.1.2.2.2.1 x.1.2.2.2.2.1 x.1.2.2.2.2.2.1 x.1.2.2.2.2.2.2.1 x.1.2.2.2.2.2.2.2.1 x.1.2.2.2.2.2.2.2.2.1 x.1.2.2.2.2.2.2.2.2.2.1 x.2.1 x.2.2.1
def Cq(t0:Sb)(t2:Unit)(t4:Unit)(t13:Hd)(t14:Int)(t15:Int)(b2:Ea)(b4:Ea):Option (((Sb×(Unit×(Unit×Py)))×VB)⊕(((Sb×GL)×VB)⊕((Unit×Be)×Im))):=
 (cond (decide (t15<t14))
 (cond (Ac (ln t13) t15)
 (ob t13[(tn t15)]? fun x34=>
 (ob (Tm x34 32) fun r35=>
 (ob (Ct ((t0,(),(),[],t13,t14,t15,r35.1,((ln r35.1:Nat):Int),0,()),(b2,b4,()))) (se (fun y42=>(cond (bl (ln y42.2.2.1.2.1+ln ([y42.1.2.2.2.1]:List Cl)) Sa)
 (some (.inl ((y42.1.1,(),(),y42.1.2.2.2.2.1,y42.1.2.2.2.2.2.1,(wr .i64 (y42.1.2.2.2.2.2.2.1+1)),()),(y42.2.1,(((ln y42.1.2.2.2.1:Nat):Int),(ap y42.2.2.1.2.1 ([y42.1.2.2.2.1]:List Cl)),()),()))))
 none)) (fun z43=>(some (.inr (.inr (((),z43.1.2.1,()),(z43.2.1,()))))))))))
 none)
 (some (.inr (.inl ((t0,(),(),()),(b2,b4,()))))))
def Bt:=Eb fun x:((Sb×(Unit×(Unit×Py)))×VB)=>Cq x.1.1 x.1.2.1 x.1.2.2.1 x.1.2.2.2.1 x.1.2.2.2.2.1 x.1.2.2.2.2.2.1 x.2.1 x.2.2.1
def Vr(a0:Sb):Option (Ea×Be):=
 (ob (strings_Split a0 ([32,124,32]:List UInt8)) fun r1=>
 (ob (Bt ((a0,(),(),r1.1,((ln r1.1:Nat):Int),0,()),((0,[],()),(0,[],()),()))) (se (fun y44=>(ob (Zl y44.2.2.1) fun r46=>
 (cond (!r46.1)
 (some ((0,[],()),false,()))
 (ob (Pp y44.2.2.1) fun r47=>
 (cond (r47.1 !=y44.1.1)
 (some ((0,[],()),false,()))
 (some (y44.2.2.1,true,()))))))) (fun z45=>(some (z45.2.1,z45.1.2.1,()))))))
def Hk(a0:Ea)(a1:Cw)(a2:Ta):Option (Oa×Be):=
 (ob (Tk a0 a1) fun r1=>
 (cond (!r1.2.1)
 (some (Lf,false,()))
 (ob (GC r1.1 a2) fun r2=>
 (some ((r2.1,[],()),r2.2.1,())))))
def Lj:Option SG:=
 (ob (Vr Lk) fun r1=>
 (ob (Hk r1.1 [] (200,0,0,())) fun r2=>
 (some (r2.1,()))))
def Tt(t3:Ge)(t9:Ge)(t10:Int)(t11:Int):Option (Zar⊕WY):=
 (cond (decide (t11<t10))
 (ob (Wb t9 t11) fun x10=>
 (cond (decide ((0:Int)≤4))
 (ob (Wb Od (Mx .u8 x10 4)) fun c11=>
 (ob (Wb Od (Fh .u8 x10 15)) fun c12=>
 (cond (bl (ln t3+ln ([((UInt8.toNat c11:Nat):Int),((UInt8.toNat c12:Nat):Int)]:List Int)) Sa)
 (some (.inl (((ap t3 ([((UInt8.toNat c11:Nat):Int),((UInt8.toNat c12:Nat):Int)]:List Int)),t9,t10,(wr .i64 (t11+1)),()),())))
 none)))
 none))
 (some (.inr (.inl ((t3,()),())))))
def Zw:=Eb fun x:Zar=>Tt x.1.1 x.1.2.1 x.1.2.2.1 x.1.2.2.2.1
def Yq(a0:Ge):Option Mh:=
 (cond (decide (((ln a0:Nat):Int)>2000))
 (some ([],()))
 (ob (Zw (([],a0,((ln a0:Nat):Int),0,()),())) (se (fun y13=>(some ((Ap y13.1.1),()))) (fun z14=>none))))
def To(t1:Unit)(t3:Hd)(t4:Int)(t5:Hd)(t6:Int)(b1:Ea):Option (((Unit×(Hd×(Int×RG)))×Im)⊕(((Unit×(Hd×(Int×HL)))×Im)⊕Wf)):=
 (cond (decide (t6<b1.1))
 (ob (Wb b1.2.1 t4) fun x34=>
 (ob (Wb x34 t6) fun x35=>
 (ob (Xe x35) fun r36=>
 (cond (bl (ln t5+ln ([r36.1]:List Sb)) Sa)
 (some (.inl (((),t3,t4,(ap t5 ([r36.1]:List Sb)),(wr .i64 (t6+1)),()),(b1,()))))
 none))))
 (some (.inr (.inl (((),t3,t4,t5,()),(b1,()))))))
def Tl:=Eb fun x:((Unit×(Hd×(Int×RG)))×Im)=>To x.1.1 x.1.2.1 x.1.2.2.1 x.1.2.2.2.1 x.1.2.2.2.2.1 x.2.1
def Yk(t1:Unit)(t3:Hd)(t4:Int)(b1:Ea):Option ((V3×Im)⊕YY):=
 (cond (decide (t4<((ln b1.2.1:Nat):Int)))
 (ob (Cm b1) fun r27=>
 (cond r27.1
 (ob (Tl (((),t3,t4,[],0,()),(b1,()))) (se (fun y37=>(ob (Nd y37.1.2.2.2.1 ([32]:List UInt8)) fun r39=>
 (cond (bl (ln y37.1.2.1+ln ([r39.1]:List Sb)) Sa)
 (some (.inl (((),(ap y37.1.2.1 ([r39.1]:List Sb)),(wr .i64 (y37.1.2.2.1+1)),()),(y37.2.1,()))))
 none))) (fun z38=>(some (.inr (.inr ((),())))))))
 (some (.inr (.inl ((t3,()),()))))))
 (some (.inr (.inl ((t3,()),())))))
def Pi:=Eb fun x:(V3×Im)=>Yk x.1.1 x.1.2.1 x.1.2.2.1 x.2.1
def Nw(a0:Ea):Option Mh:=
 (ob (Pi (((),[],0,()),(a0,()))) (se (fun y40=>(ob (Nd y40.1.1 ([32,124,32]:List UInt8)) fun r42=>
 (some (r42.1,())))) (fun z41=>none)))
def Fq(t2:Unit)(t3:Unit)(t11:Ai)(t12:Int)(t13:Int)(b2:Oa)(b3:Oa):Option (((Unit×(Unit×LQ))×Oy)⊕((GL×Oy)⊕Wf)):=
 (cond (decide (t13<t12))
 (ob (Wb t11 t13) fun x8=>
 (ob (Hu x8.2.1) fun r9=>
 (cond (bl (ln b3.2.1+ln ([(x8.1,r9.1,())]:List Qc)) Sa)
 (some (.inl (((),(),t11,t12,(wr .i64 (t13+1)),()),(b2,(b3.1,(ap b3.2.1 ([(x8.1,r9.1,())]:List Qc)),()),()))))
 none)))
 (some (.inr (.inl (((),(),()),(b2,b3,()))))))
def Dt:=Eb fun x:((Unit×(Unit×LQ))×Oy)=>Fq x.1.1 x.1.2.1 x.1.2.2.1 x.1.2.2.2.1 x.1.2.2.2.2.1 x.2.1 x.2.2.1
def Nk(a0:Oa):Option SG:=
 (ob (Um a0.1) fun r1=>
 (ob (Dt (((),(),a0.2.1,((ln a0.2.1:Nat):Int),0,()),(Lf,(r1.1,[],()),()))) (se (fun y10=>(some (y10.2.2.1,()))) (fun z11=>none))))
def Zj(a0:Oa)(a1:Oa)(a2:Bool):Option VT:=
 (cond (!a2)
 (some (a0,([110,111]:List UInt8),()))
 (some (a1,([111,107]:List UInt8),())))
def strings_Index(a b:List UInt8):Option Oh:=Mae a b
def Yp(t3:Hd)(t9:Bg)(t10:Int)(t11:Int):Option (((Hd×(Bg×Lc))×Unit)⊕YY):=
 (cond (decide (t11<t10))
 (ob (Wb t9 t11) fun x8=>
 (cond (Bd (ln ([116,100,117]:List UInt8)) x8.1 (wr .i64 (x8.1+1)))
 (cond (bl (ln (Ya ([116,100,117]:List UInt8) (tn x8.1) (tn (wr .i64 (x8.1+1))))+ln ([61]:List UInt8)) Sa)
 (ob (Vl (2,x8.2.1,x8.2.2.1,0,())) fun r9=>
 (cond (bl (ln (ap (Ya ([116,100,117]:List UInt8) (tn x8.1) (tn (wr .i64 (x8.1+1)))) ([61]:List UInt8))+ln r9.1) Sa)
 (cond (bl (ln t3+ln ([(ap (ap (Ya ([116,100,117]:List UInt8) (tn x8.1) (tn (wr .i64 (x8.1+1)))) ([61]:List UInt8)) r9.1)]:List Sb)) Sa)
 (some (.inl (((ap t3 ([(ap (ap (Ya ([116,100,117]:List UInt8) (tn x8.1) (tn (wr .i64 (x8.1+1)))) ([61]:List UInt8)) r9.1)]:List Sb)),t9,t10,(wr .i64 (t11+1)),()),())))
 none)
 none))
 none)
 none))
 (some (.inr (.inl ((t3,()),())))))
def At:=Eb fun x:((Hd×(Bg×Lc))×Unit)=>Yp x.1.1 x.1.2.1 x.1.2.2.1 x.1.2.2.2.1
def Ez(a0:Bg):Option Mh:=
 (ob (Rr a0) fun r1=>
 (cond (!r1.1)
 (some ([],()))
 (ob (At (([],a0,((ln a0:Nat):Int),0,()),())) (se (fun y10=>(ob (Hh y10.1.1 ([32]:List UInt8)) fun r12=>
 (some (r12.1,())))) (fun z11=>none)))))
def Rs(t0:Sb)(t4:Bg)(t16:Hd)(t17:Int)(t18:Int):Option (((Sb×(Bg×Py))×Unit)⊕(((Sb×(Bg×Unit))×Unit)⊕((Bg×Be)×Unit))):=
 (cond (decide (t18<t17))
 (cond (Ac (ln t16) t18)
 (ob t16[(tn t18)]? fun x14=>
 (ob (strings_Cut x14 ([61]:List UInt8)) fun r15=>
 (ob (Ur r15.2.1) fun r16=>
 (ob (strings_Index ([116,100,117]:List UInt8) r15.1) fun r17=>
 (cond (!r15.2.2.1)
 (some (.inr (.inr (([],false,()),()))))
 (cond (!r16.2.1)
 (some (.inr (.inr (([],false,()),()))))
 (cond (r16.1.1 !=2)
 (some (.inr (.inr (([],false,()),()))))
 (cond (((ln r15.1:Nat):Int) !=1)
 (some (.inr (.inr (([],false,()),()))))
 (cond (decide (r17.1<0))
 (some (.inr (.inr (([],false,()),()))))
 (cond (bl (ln t4+ln ([(r17.1,r16.1.2.1,r16.1.2.2.1,())]:List Ta)) Sa)
 (some (.inl ((t0,(ap t4 ([(r17.1,r16.1.2.1,r16.1.2.2.1,())]:List Ta)),t16,t17,(wr .i64 (t18+1)),()),())))
 none))))))))))
 none)
 (some (.inr (.inl ((t0,t4,()),())))))
def Mv:=Eb fun x:((Sb×(Bg×Py))×Unit)=>Rs x.1.1 x.1.2.1 x.1.2.2.1 x.1.2.2.2.1 x.1.2.2.2.2.1
def HC(a0:Sb):Option (Bg×Be):=
 (cond (a0==[])
 (some ([],true,()))
 (ob (Tm a0 32) fun r1=>
 (ob (Mv ((a0,[],r1.1,((ln r1.1:Nat):Int),0,()),())) (se (fun y18=>(ob (Rr y18.1.2.1) fun r20=>
 (cond (!r20.1)
 (some ([],false,()))
 (ob (Ez y18.1.2.1) fun r21=>
 (cond (r21.1 !=y18.1.1)
 (some ([],false,()))
 (some (y18.1.2.1,true,()))))))) (fun z19=>(some z19.1))))))
def Oz(t6:Ge)(t17:Hd)(t18:Int)(t19:Int):Option (((Ge×Py)×Unit)⊕VaJ):=
 (cond (decide (t19<t18))
 (ob (Wb t17 t19) fun x7=>
 (ob (Jt x7) fun r8=>
 (cond (!r8.2.1)
 (some (.inr (.inr (([],false,()),()))))
 (cond (bl (ln t6+ln ([r8.1]:List Int)) Sa)
 (some (.inl (((ap t6 ([r8.1]:List Int)),t17,t18,(wr .i64 (t19+1)),()),())))
 none))))
 (some (.inr (.inl ((t6,()),())))))
def NB:=Eb fun x:((Ge×Py)×Unit)=>Oz x.1.1 x.1.2.1 x.1.2.2.1 x.1.2.2.2.1
def Jg(a0:Hd)(a1:Int):Option Gac:=
 (cond (((ln a0:Nat):Int) !=(wr .i64 (a1+1)))
 (some ([],false,()))
 (cond (Bd (ln a0) 1 ((ln a0:Nat):Int))
 (ob (NB (([],(Ya a0 (tn 1) (tn ((ln a0:Nat):Int))),((ln (Ya a0 (tn 1) (tn ((ln a0:Nat):Int))):Nat):Int),0,()),())) (se (fun y9=>(some (y9.1.1,true,()))) (fun z10=>(some z10.1))))
 none))
def Rl(a0:Oa)(a1:Sb)(a2:Ge):Option VT:=
 (cond (a1==Gc)
 (cond (Ac (ln a2) 0)
 (ob a2[(tn 0)]? fun x1=>
 (ob (UE a0.1 x1) fun r2=>
 (cond (!r2.2.2.1)
 (some (a0,([110,111]:List UInt8),()))
 (cond (decide ((wr .i64 (((ln a0.2.1:Nat):Int)+((ln r2.2.1:Nat):Int)))>200))
 (some (a0,([110,111]:List UInt8),()))
 (ob (Mo r2.2.1) fun r3=>
 (ob (Nk (Cg,r2.2.1,())) fun r4=>
 (cond (bl (ln a0.2.1+ln r4.1.2.1) Sa)
 (some ((r2.1,(ap a0.2.1 r4.1.2.1),()),r3.1,()))
 none)))))))
 none)
 (cond (Ac (ln a2) 1)
 (ob a2[(tn 1)]? fun x5=>
 (cond (Ac (ln a2) 0)
 (ob a2[(tn 0)]? fun x6=>
 (ob (PE a0.1 (x5,x6,(a1==Uc),())) fun r7=>
 (cond (!r7.2.2.1)
 (some (a0,([110,111]:List UInt8),()))
 (cond (decide ((wr .i64 (((ln a0.2.1:Nat):Int)+((ln r7.2.1:Nat):Int)))>200))
 (some (a0,([110,111]:List UInt8),()))
 (ob (Mo r7.2.1) fun r8=>
 (ob (Nk (Cg,r7.2.1,())) fun r9=>
 (cond (bl (ln a0.2.1+ln r9.1.2.1) Sa)
 (some ((r7.1,(ap a0.2.1 r9.1.2.1),()),r8.1,()))
 none)))))))
 none))
 none))
def Si(a0:Oa)(a1:Sb):Option Mh:=
 (cond (a1==NE)
 (ob (Pp a0.1.1.1) fun r1=>
 (some (r1.1,())))
 (cond (a1==VA)
 (ob (It a0.1.1.2.2.1 a0.1.1.2.2.2.1) fun r2=>
 (ob (Kh r2.1) fun r3=>
 (some (r3.1,()))))
 (cond (a1==WA)
 (ob (Wd a0.1.1.2.2.2.1) fun r4=>
 (ob (Qp r4.1) fun r5=>
 (some (r5.1,()))))
 (cond (a1==UA)
 (ob (Kh ((ln a0.1.2.2.1:Nat):Int)) fun r6=>
 (some (r6.1,())))
 (cond (a1==TA)
 (ob (SE a0.2.1) fun r7=>
 (ob (TE (0,[],()) r7.1) fun r8=>
 (cond (bl (ln r8.1) Sa)
 (ob (Yq (Nc r8.1)) fun r9=>
 (some (r9.1,())))
 none)))
 (some (Ua,())))))))
def Cz(t2:Unit)(t4:Unit)(t32:Hd)(t211:Ge)(t212:Int)(t213:Int)(b2:Oa)(b4:Oa):Option (((Unit×Y3)×Oy)⊕(((Unit×(Unit×HL))×Oy)⊕Wf)):=
 (cond (decide (t213<t212))
 (cond (Ac (ln t211) t213)
 (ob t211[(tn t213)]? fun x79=>
 (ob (Kh x79) fun r80=>
 (cond (bl (ln t32+ln ([r80.1]:List Sb)) Sa)
 (some (.inl (((),(),(ap t32 ([r80.1]:List Sb)),t211,t212,(wr .i64 (t213+1)),()),(b2,b4,()))))
 none)))
 none)
 (some (.inr (.inl (((),(),t32,()),(b2,b4,()))))))
def Uj:=Eb fun x:((Unit×Y3)×Oy)=>Cz x.1.1 x.1.2.1 x.1.2.2.1 x.1.2.2.2.1 x.1.2.2.2.2.1 x.1.2.2.2.2.2.1 x.2.1 x.2.2.1
def NL(a0:Oa)(a1:Sb):Option VT:=
 (ob (RE a0) fun r1=>
 (cond (!r1.1)
 (some (Lf,([98,97,100]:List UInt8),()))
 (ob (Nk a0) fun r2=>
 (cond (a1==[])
 (some (r2.1,[],()))
 (ob (Wb a1 0) fun c3=>
 (cond (((UInt8.toNat c3:Nat):Int)==35)
 (some (r2.1,[],()))
 (ob (Jj a1 Kk) fun r4=>
 (cond r4.2.1
 (ob (Vr r4.1) fun r5=>
 (cond (!r5.2.1)
 (some (r2.1,([110,111]:List UInt8),()))
 (ob (Hk r5.1 r2.1.1.1.2.1 r2.1.1.2.1) fun r6=>
 (ob (Zj r2.1 r6.1 r6.2.1) fun r7=>
 (some r7)))))
 (ob (Jj a1 Mk) fun r8=>
 (cond r8.2.1
 (ob (HC r8.1) fun r9=>
 (cond (!r9.2.1)
 (some (r2.1,([110,111]:List UInt8),()))
 (ob (Po r2.1.1.1.2.1) fun r10=>
 (cond (bl (ln r10.1+ln ([r9.1]:List Bg)) Sa)
 (ob (Hk r2.1.1.1.1 (ap r10.1 ([r9.1]:List Bg)) r2.1.1.2.1) fun r11=>
 (ob (Zj r2.1 r11.1 r11.2.1) fun r12=>
 (some r12)))
 none))))
 (ob (Tm a1 32) fun r13=>
 (cond (Ac (ln r13.1) 0)
 (ob r13.1[(tn 0)]? fun x14=>
 (ob (Jg r13.1 2) fun r15=>
 (cond (x14==Uc)
 (cond r15.2.1
 (ob (Rl r2.1 x14 r15.1) fun r16=>
 (some r16))
 (cond (x14==Gc)
 (ob (Jg r13.1 1) fun r17=>
 (cond r17.2.1
 (ob (Rl r2.1 x14 r17.1) fun r18=>
 (some r18))
 (some (r2.1,Ua,()))))
 (cond (x14==Ad)
 (ob (Jg r13.1 3) fun r19=>
 (cond r19.2.1
 (cond (Ac (ln r19.1) 0)
 (ob r19.1[(tn 0)]? fun x20=>
 (cond (Ac (ln r19.1) 1)
 (ob r19.1[(tn 1)]? fun x21=>
 (cond (Ac (ln r19.1) 2)
 (ob r19.1[(tn 2)]? fun x22=>
 (ob (Hk r2.1.1.1.1 r2.1.1.1.2.1 (x20,x21,x22,())) fun r23=>
 (ob (Zj r2.1 r23.1 r23.2.1) fun r24=>
 (some r24))))
 none))
 none))
 none)
 (some (r2.1,Ua,()))))
 (cond (x14==([119,97,121]:List UInt8))
 (cond r15.2.1
 (cond (Ac (ln r15.1) 0)
 (ob r15.1[(tn 0)]? fun x25=>
 (cond (Ac (ln r15.1) 1)
 (ob r15.1[(tn 1)]? fun x26=>
 (ob (Fk r2.1.1.1.1 x25 x26) fun r27=>
 (cond (!r27.2.1)
 (some (r2.1,([110,111]:List UInt8),()))
 (ob (Uj (((),(),[],r27.1,((ln r27.1:Nat):Int),0,()),(r2.1,Lf,()))) (se (fun y36=>(ob (Hh y36.1.2.2.1 ([32]:List UInt8)) fun r38=>
 (cond (bl (ln Vb+ln r38.1) Sa)
 (some (y36.2.1,(ap Vb r38.1),()))
 none))) (fun z37=>none))))))
 none))
 none)
 (cond (((ln r13.1:Nat):Int)==1)
 (ob (Si r2.1 x14) fun r39=>
 (some (r2.1,r39.1,())))
 (some (r2.1,Ua,()))))
 (cond (((ln r13.1:Nat):Int)==1)
 (ob (Si r2.1 x14) fun r40=>
 (some (r2.1,r40.1,())))
 (some (r2.1,Ua,())))))))
 (cond (x14==([117,112]:List UInt8))
 (cond r15.2.1
 (ob (Rl r2.1 x14 r15.1) fun r41=>
 (some r41))
 (cond (x14==Gc)
 (ob (Jg r13.1 1) fun r42=>
 (cond r42.2.1
 (ob (Rl r2.1 x14 r42.1) fun r43=>
 (some r43))
 (some (r2.1,Ua,()))))
 (cond (x14==Ad)
 (ob (Jg r13.1 3) fun r44=>
 (cond r44.2.1
 (cond (Ac (ln r44.1) 0)
 (ob r44.1[(tn 0)]? fun x45=>
 (cond (Ac (ln r44.1) 1)
 (ob r44.1[(tn 1)]? fun x46=>
 (cond (Ac (ln r44.1) 2)
 (ob r44.1[(tn 2)]? fun x47=>
 (ob (Hk r2.1.1.1.1 r2.1.1.1.2.1 (x45,x46,x47,())) fun r48=>
 (ob (Zj r2.1 r48.1 r48.2.1) fun r49=>
 (some r49))))
 none))
 none))
 none)
 (some (r2.1,Ua,()))))
 (cond (x14==([119,97,121]:List UInt8))
 (cond r15.2.1
 (cond (Ac (ln r15.1) 0)
 (ob r15.1[(tn 0)]? fun x50=>
 (cond (Ac (ln r15.1) 1)
 (ob r15.1[(tn 1)]? fun x51=>
 (ob (Fk r2.1.1.1.1 x50 x51) fun r52=>
 (cond (!r52.2.1)
 (some (r2.1,([110,111]:List UInt8),()))
 (ob (Uj (((),(),[],r52.1,((ln r52.1:Nat):Int),0,()),(r2.1,Lf,()))) (se (fun y59=>(ob (Hh y59.1.2.2.1 ([32]:List UInt8)) fun r61=>
 (cond (bl (ln Vb+ln r61.1) Sa)
 (some (y59.2.1,(ap Vb r61.1),()))
 none))) (fun z60=>none))))))
 none))
 none)
 (cond (((ln r13.1:Nat):Int)==1)
 (ob (Si r2.1 x14) fun r62=>
 (some (r2.1,r62.1,())))
 (some (r2.1,Ua,()))))
 (cond (((ln r13.1:Nat):Int)==1)
 (ob (Si r2.1 x14) fun r63=>
 (some (r2.1,r63.1,())))
 (some (r2.1,Ua,())))))))
 (cond (x14==Gc)
 (ob (Jg r13.1 1) fun r64=>
 (cond r64.2.1
 (ob (Rl r2.1 x14 r64.1) fun r65=>
 (some r65))
 (some (r2.1,Ua,()))))
 (cond (x14==Ad)
 (ob (Jg r13.1 3) fun r66=>
 (cond r66.2.1
 (cond (Ac (ln r66.1) 0)
 (ob r66.1[(tn 0)]? fun x67=>
 (cond (Ac (ln r66.1) 1)
 (ob r66.1[(tn 1)]? fun x68=>
 (cond (Ac (ln r66.1) 2)
 (ob r66.1[(tn 2)]? fun x69=>
 (ob (Hk r2.1.1.1.1 r2.1.1.1.2.1 (x67,x68,x69,())) fun r70=>
 (ob (Zj r2.1 r70.1 r70.2.1) fun r71=>
 (some r71))))
 none))
 none))
 none)
 (some (r2.1,Ua,()))))
 (cond (x14==([119,97,121]:List UInt8))
 (cond r15.2.1
 (cond (Ac (ln r15.1) 0)
 (ob r15.1[(tn 0)]? fun x72=>
 (cond (Ac (ln r15.1) 1)
 (ob r15.1[(tn 1)]? fun x73=>
 (ob (Fk r2.1.1.1.1 x72 x73) fun r74=>
 (cond (!r74.2.1)
 (some (r2.1,([110,111]:List UInt8),()))
 (ob (Uj (((),(),[],r74.1,((ln r74.1:Nat):Int),0,()),(r2.1,Lf,()))) (se (fun y81=>(ob (Hh y81.1.2.2.1 ([32]:List UInt8)) fun r83=>
 (cond (bl (ln Vb+ln r83.1) Sa)
 (some (y81.2.1,(ap Vb r83.1),()))
 none))) (fun z82=>none))))))
 none))
 none)
 (cond (((ln r13.1:Nat):Int)==1)
 (ob (Si r2.1 x14) fun r84=>
 (some (r2.1,r84.1,())))
 (some (r2.1,Ua,()))))
 (cond (((ln r13.1:Nat):Int)==1)
 (ob (Si r2.1 x14) fun r85=>
 (some (r2.1,r85.1,())))
 (some (r2.1,Ua,()))))))))))
 none))))))))))))
def Iw(t4:Hd)(t5:Unit)(t6:Sb)(t29:Hd)(t30:Int)(t31:Int)(b5:Oa):Option (((Hd×(Unit×(Sb×Py)))×SG)⊕(((Hd×Mh)×Unit)⊕Wf)):=
 (cond (decide (t31<t30))
 (cond (Ac (ln t4) t31)
 (ob t4[(tn t31)]? fun x17=>
 (ob (NL b5 x17) fun r18=>
 (cond (r18.2.1 !=[])
 (cond (bl (ln r18.2.1+ln ([10]:List UInt8)) Sa)
 (cond (bl (ln t6+ln (ap r18.2.1 ([10]:List UInt8))) Sa)
 (some (.inl ((t4,(),(ap t6 (ap r18.2.1 ([10]:List UInt8))),t4,t30,(wr .i64 (t31+1)),()),(r18.1,()))))
 none)
 none)
 (some (.inl ((t4,(),t6,t4,t30,(wr .i64 (t31+1)),()),(r18.1,())))))))
 none)
 (some (.inr (.inl ((t4,t6,()),())))))
def Cj:=Eb fun x:((Hd×(Unit×(Sb×Py)))×SG)=>Iw x.1.1 x.1.2.1 x.1.2.2.1 x.1.2.2.2.1 x.1.2.2.2.2.1 x.1.2.2.2.2.2.1 x.2.1
def OA(a0:Sb):Option QG:=
 (ob (Tm a0 10) fun r1=>
 (cond (Ac (ln r1.1) (wr .i64 (((ln r1.1:Nat):Int)-1)))
 (ob r1.1[(tn (wr .i64 (((ln r1.1:Nat):Int)-1)))]? fun x2=>
 (cond (x2==[])
 (cond (Bd (ln r1.1) 0 (wr .i64 (((ln r1.1:Nat):Int)-1)))
 (cond (decide (((ln (Ya r1.1 (tn 0) (tn (wr .i64 (((ln r1.1:Nat):Int)-1)))):Nat):Int)>60))
 (some ([],(-1),()))
 (ob Lj fun r3=>
 (ob (Cj (((Ya r1.1 (tn 0) (tn (wr .i64 (((ln r1.1:Nat):Int)-1)))),(),[],(Ya r1.1 (tn 0) (tn (wr .i64 (((ln r1.1:Nat):Int)-1)))),((ln (Ya r1.1 (tn 0) (tn (wr .i64 (((ln r1.1:Nat):Int)-1)))):Nat):Int),0,()),(r3.1,()))) (se (fun y10=>(some (y10.1.2.1,((ln y10.1.1:Nat):Int),()))) (fun z11=>none)))))
 none)
 (cond (decide (((ln r1.1:Nat):Int)>60))
 (some ([],(-1),()))
 (ob Lj fun r12=>
 (ob (Cj ((r1.1,(),[],r1.1,((ln r1.1:Nat):Int),0,()),(r12.1,()))) (se (fun y19=>(some (y19.1.2.1,((ln y19.1.1:Nat):Int),()))) (fun z20=>none)))))))
 none))
def FA(t1:Unit)(t2:Unit)(t3:Unit)(t5:Int)(b1:Oa)(b2:Oa)(b3:Oa):Option ((XY×(Oa×Oy))⊕((GL×Oy)⊕Wf)):=
 (cond (decide (t5<((ln b1.2.1:Nat):Int)))
 (ob (Wb b1.2.1 t5) fun x8=>
 (ob (Wb b1.2.1 t5) fun x9=>
 (ob (EB x9.2.1) fun r10=>
 (cond (bl (ln b3.2.1+ln ([(x8.1,r10.1,())]:List Qc)) Sa)
 (some (.inl (((),(),(),(wr .i64 (t5+1)),()),(b1,b2,(b3.1,(ap b3.2.1 ([(x8.1,r10.1,())]:List Qc)),()),()))))
 none))))
 (some (.inr (.inl (((),(),()),(b2,b3,()))))))
def SB:=Eb fun x:(XY×(Oa×Oy))=>FA x.1.1 x.1.2.1 x.1.2.2.1 x.1.2.2.2.1 x.2.1 x.2.2.1 x.2.2.2.1
def GJ(a0:Oa):Option SG:=
 (ob (Ml a0.1.1) fun r1=>
 (cond (bl (ln ([]:List Xa)+ln a0.1.2.2.1) Sa)
 (ob (SB (((),(),(),0,()),(a0,Lf,((r1.1,a0.1.2.1,(ap [] a0.1.2.2.1),a0.1.2.2.2),[],()),()))) (se (fun y11=>(some (y11.2.2.1,()))) (fun z12=>none)))
 none))
def Oi(t0:Ge)(t3:Ge)(t4:Int):Option (Bas⊕WY):=
 (cond (decide (t4<((ln t0:Nat):Int)))
 (cond (decide (((ln t0:Nat):Int)≤2000))
 (ob (Wb t0 t4) fun x9=>
 (cond ((16:Int)==0)
 none
 (ob (Wb Od (wr .i64 (Int.tdiv (wr .i64 x9) 16))) fun c10=>
 (ob (Wb t0 t4) fun x11=>
 (cond ((16:Int)==0)
 none
 (ob (Wb Od (yc (wr .i64 x11) 16)) fun c12=>
 (cond (bl (ln t3+ln ([((UInt8.toNat c10:Nat):Int),((UInt8.toNat c12:Nat):Int)]:List Int)) Sa)
 (some (.inl ((t0,(ap t3 ([((UInt8.toNat c10:Nat):Int),((UInt8.toNat c12:Nat):Int)]:List Int)),(wr .i64 (t4+1)),()),())))
 none)))))))
 (some (.inr (.inl ((t3,()),())))))
 (some (.inr (.inl ((t3,()),())))))
def So:=Eb fun x:Bas=>Oi x.1.1 x.1.2.1 x.1.2.2.1
def Tx(a0:Ge):Option Mh:=
 (ob (So ((a0,[],0,()),())) (se (fun y13=>(some ((Ap y13.1.1),()))) (fun z14=>none)))
def FJ(a0:Oa)(a1:Sb):Option Mh:=
 (cond (a1==NE)
 (ob (Nw a0.1.1.1) fun r1=>
 (some (r1.1,())))
 (cond (a1==VA)
 (ob (Nt a0.1.1.2.2.1 a0.1.1.2.2.2.1) fun r2=>
 (ob (Sd r2.1) fun r3=>
 (some (r3.1,()))))
 (cond (a1==WA)
 (ob (Ce a0.1.1.2.2.2.1) fun r4=>
 (ob (Tp r4.1) fun r5=>
 (some (r5.1,()))))
 (cond (a1==UA)
 (ob (Sd ((ln a0.1.2.2.1:Nat):Int)) fun r6=>
 (some (r6.1,())))
 (cond (a1==TA)
 (ob (CF a0.2.1) fun r7=>
 (ob (DF (0,[],()) r7.1) fun r8=>
 (cond (bl (ln r8.1) Sa)
 (ob (Tx (Nc r8.1)) fun r9=>
 (some (r9.1,())))
 none)))
 (some (Ua,())))))))
def Pg(a0:Oa)(a1:Ea)(a2:Cw)(a3:Ta):Option VT:=
 (ob (Dn a1 a2) fun r1=>
 (ob (Ru r1.1 a3) fun r2=>
 (cond (!r1.2.1)
 (some (a0,([110,111]:List UInt8),()))
 (cond (!r2.2.1)
 (some (a0,([110,111]:List UInt8),()))
 (some ((r2.1,[],()),([111,107]:List UInt8),()))))))
def Yf(t0:Sb)(t2:Unit)(t4:Int)(b2:Ta):Option (((Sb×Ns)×GI)⊕((Wf×GI)⊕((Unit×Be)×GI))):=
 (cond (decide (t4<3))
 (ob (Wb t0 0) fun c8=>
 (ob (Wb ([116,100,117]:List UInt8) t4) fun c9=>
 (cond (((UInt8.toNat c8:Nat):Int)==((UInt8.toNat c9:Nat):Int))
 (cond (Bd (ln t0) 2 ((ln t0:Nat):Int))
 (ob (Is (Ya t0 (tn 2) (tn ((ln t0:Nat):Int)))) fun r10=>
 (cond r10.2.1
 (some (.inr (.inr (((),(r10.1.1==2),()),((t4,r10.1.2.1,r10.1.2.2.1,()),())))))
 (some (.inr (.inr (((),false,()),((t4,r10.1.2.1,r10.1.2.2.1,()),())))))))
 none)
 (some (.inl ((t0,(),(wr .i64 (t4+1)),()),(b2,())))))))
 (some (.inr (.inl (((),()),(b2,()))))))
def TB:=Eb fun x:((Sb×Ns)×GI)=>Yf x.1.1 x.1.2.1 x.1.2.2.1 x.2.1
def IJ(a0:Sb):Option (Ta×Be):=
 (cond (decide (((ln a0:Nat):Int)<3))
 (some ((0,0,0,()),false,()))
 (ob (Wb a0 1) fun c1=>
 (cond (((UInt8.toNat c1:Nat):Int) !=61)
 (some ((0,0,0,()),false,()))
 (ob (TB ((a0,(),0,()),((0,0,0,()),()))) (se (fun y11=>(some ((0,0,0,()),false,()))) (fun z12=>(some (z12.2.1,z12.1.2.1,()))))))))
def Om(t4:Bg)(t5:Hd)(t6:Int):Option (((Bg×RG)×Unit)⊕(((Bg×HL)×Unit)⊕((Bg×Be)×Unit))):=
 (cond (decide (t6<((ln t5:Nat):Int)))
 (cond (decide (((ln t5:Nat):Int)≤8))
 (cond (Ac (ln t5) t6)
 (ob t5[(tn t6)]? fun x6=>
 (ob (IJ x6) fun r7=>
 (cond (!r7.2.1)
 (some (.inr (.inr (([],false,()),()))))
 (cond (bl (ln t4+ln ([r7.1]:List Ta)) Sa)
 (some (.inl (((ap t4 ([r7.1]:List Ta)),t5,(wr .i64 (t6+1)),()),())))
 none))))
 none)
 (some (.inr (.inl ((t4,t5,()),())))))
 (some (.inr (.inl ((t4,t5,()),())))))
def Bk:=Eb fun x:((Bg×RG)×Unit)=>Om x.1.1 x.1.2.1 x.1.2.2.1
def SC(a0:Sb):Option (Bg×Be):=
 (cond (a0==[])
 (some ([],true,()))
 (ob (Og a0 32) fun r1=>
 (ob (Bk (([],r1.1,0,()),())) (se (fun y8=>(cond (decide (((ln y8.1.2.1:Nat):Int)>8))
 (some ([],false,()))
 (ob (Ux y8.1.1) fun r10=>
 (cond (!r10.1)
 (some ([],false,()))
 (some (y8.1.1,true,())))))) (fun z9=>(some z9.1))))))
def Gr(a0:Cb)(a1:Xa):Option ZY:=
 (ob (Tu a0 ([a1]:List Xa) a1.1) fun r1=>
 (some r1))
def Ck(a0:Oa)(a1:Cb)(a2:Ai)(a3:Bool):Option VT:=
 (cond (!a3)
 (some (a0,([110,111]:List UInt8),()))
 (cond (decide ((wr .i64 (((ln a0.2.1:Nat):Int)+((ln a2:Nat):Int)))>200))
 (some (a0,([110,111]:List UInt8),()))
 (cond (bl (ln a0.2.1+ln a2) Sa)
 (ob (OC a2) fun r1=>
 (some ((a1,(ap a0.2.1 a2),()),r1.1,())))
 none)))
def En(a0:Cb)(a1:Int):Option ZY:=
 (ob (Tu a0 [] a1) fun r1=>
 (some r1))
def Sq(t3:Unit)(t6:Unit)(t21:Ge)(t23:Hd)(t24:Int)(b3:Oa)(b6:Oa):Option (((Unit×(Unit×(Ge×RG)))×Oy)⊕(((Unit×(Unit×HL))×Oy)⊕Wf)):=
 (cond (decide (t24<((ln t21:Nat):Int)))
 (cond (Ac (ln t21) t24)
 (ob t21[(tn t24)]? fun x181=>
 (ob (Sd x181) fun r182=>
 (cond (bl (ln t23+ln ([r182.1]:List Sb)) Sa)
 (some (.inl (((),(),t21,(ap t23 ([r182.1]:List Sb)),(wr .i64 (t24+1)),()),(b3,b6,()))))
 none)))
 none)
 (some (.inr (.inl (((),(),t23,()),(b3,b6,()))))))
def Xc:=Eb fun x:((Unit×(Unit×(Ge×RG)))×Oy)=>Sq x.1.1 x.1.2.1 x.1.2.2.1 x.1.2.2.2.1 x.1.2.2.2.2.1 x.2.1 x.2.2.1
def VC(a0:Oa)(a1:Sb)(a2:Ge):Option VT:=
 (cond (a1==Uc)
 (cond (((ln a2:Nat):Int)==2)
 (cond (Ac (ln a2) 1)
 (ob a2[(tn 1)]? fun x1=>
 (cond (Ac (ln a2) 0)
 (ob a2[(tn 0)]? fun x2=>
 (ob (Gr a0.1 (x1,x2,(a1==Uc),())) fun r3=>
 (ob (Ck a0 r3.1 r3.2.1 r3.2.2.1) fun r4=>
 (some r4))))
 none))
 none)
 (cond (a1==Gc)
 (cond (((ln a2:Nat):Int)==1)
 (cond (Ac (ln a2) 0)
 (ob a2[(tn 0)]? fun x5=>
 (ob (En a0.1 x5) fun r6=>
 (ob (Ck a0 r6.1 r6.2.1 r6.2.2.1) fun r7=>
 (some r7))))
 none)
 (cond (a1==Ad)
 (cond (((ln a2:Nat):Int)==3)
 (cond (Ac (ln a2) 0)
 (ob a2[(tn 0)]? fun x8=>
 (cond (Ac (ln a2) 1)
 (ob a2[(tn 1)]? fun x9=>
 (cond (Ac (ln a2) 2)
 (ob a2[(tn 2)]? fun x10=>
 (ob (Pg a0 a0.1.1.1 a0.1.1.2.1 (x8,x9,x10,())) fun r11=>
 (some r11)))
 none))
 none))
 none)
 (cond (a1==([119,97,121]:List UInt8))
 (cond (((ln a2:Nat):Int)==2)
 (cond (Ac (ln a2) 0)
 (ob a2[(tn 0)]? fun x12=>
 (cond (Ac (ln a2) 1)
 (ob a2[(tn 1)]? fun x13=>
 (ob (Vf a0.1.1.1 x12 x13) fun r14=>
 (cond (!r14.2.1)
 (some (a0,([110,111]:List UInt8),()))
 (ob (Xc (((),(),r14.1,[],0,()),(a0,Lf,()))) (se (fun y21=>(ob (Nd y21.1.2.2.1 ([32]:List UInt8)) fun r23=>
 (cond (bl (ln Vb+ln r23.1) Sa)
 (some (y21.2.1,(ap Vb r23.1),()))
 none))) (fun z22=>none))))))
 none))
 none)
 (some (a0,Ua,())))
 (some (a0,Ua,()))))
 (cond (a1==([119,97,121]:List UInt8))
 (cond (((ln a2:Nat):Int)==2)
 (cond (Ac (ln a2) 0)
 (ob a2[(tn 0)]? fun x24=>
 (cond (Ac (ln a2) 1)
 (ob a2[(tn 1)]? fun x25=>
 (ob (Vf a0.1.1.1 x24 x25) fun r26=>
 (cond (!r26.2.1)
 (some (a0,([110,111]:List UInt8),()))
 (ob (Xc (((),(),r26.1,[],0,()),(a0,Lf,()))) (se (fun y33=>(ob (Nd y33.1.2.2.1 ([32]:List UInt8)) fun r35=>
 (cond (bl (ln Vb+ln r35.1) Sa)
 (some (y33.2.1,(ap Vb r35.1),()))
 none))) (fun z34=>none))))))
 none))
 none)
 (some (a0,Ua,())))
 (some (a0,Ua,())))))
 (cond (a1==Ad)
 (cond (((ln a2:Nat):Int)==3)
 (cond (Ac (ln a2) 0)
 (ob a2[(tn 0)]? fun x36=>
 (cond (Ac (ln a2) 1)
 (ob a2[(tn 1)]? fun x37=>
 (cond (Ac (ln a2) 2)
 (ob a2[(tn 2)]? fun x38=>
 (ob (Pg a0 a0.1.1.1 a0.1.1.2.1 (x36,x37,x38,())) fun r39=>
 (some r39)))
 none))
 none))
 none)
 (cond (a1==([119,97,121]:List UInt8))
 (cond (((ln a2:Nat):Int)==2)
 (cond (Ac (ln a2) 0)
 (ob a2[(tn 0)]? fun x40=>
 (cond (Ac (ln a2) 1)
 (ob a2[(tn 1)]? fun x41=>
 (ob (Vf a0.1.1.1 x40 x41) fun r42=>
 (cond (!r42.2.1)
 (some (a0,([110,111]:List UInt8),()))
 (ob (Xc (((),(),r42.1,[],0,()),(a0,Lf,()))) (se (fun y49=>(ob (Nd y49.1.2.2.1 ([32]:List UInt8)) fun r51=>
 (cond (bl (ln Vb+ln r51.1) Sa)
 (some (y49.2.1,(ap Vb r51.1),()))
 none))) (fun z50=>none))))))
 none))
 none)
 (some (a0,Ua,())))
 (some (a0,Ua,()))))
 (cond (a1==([119,97,121]:List UInt8))
 (cond (((ln a2:Nat):Int)==2)
 (cond (Ac (ln a2) 0)
 (ob a2[(tn 0)]? fun x52=>
 (cond (Ac (ln a2) 1)
 (ob a2[(tn 1)]? fun x53=>
 (ob (Vf a0.1.1.1 x52 x53) fun r54=>
 (cond (!r54.2.1)
 (some (a0,([110,111]:List UInt8),()))
 (ob (Xc (((),(),r54.1,[],0,()),(a0,Lf,()))) (se (fun y61=>(ob (Nd y61.1.2.2.1 ([32]:List UInt8)) fun r63=>
 (cond (bl (ln Vb+ln r63.1) Sa)
 (some (y61.2.1,(ap Vb r63.1),()))
 none))) (fun z62=>none))))))
 none))
 none)
 (some (a0,Ua,())))
 (some (a0,Ua,()))))))
 (cond (a1==([117,112]:List UInt8))
 (cond (((ln a2:Nat):Int)==2)
 (cond (Ac (ln a2) 1)
 (ob a2[(tn 1)]? fun x64=>
 (cond (Ac (ln a2) 0)
 (ob a2[(tn 0)]? fun x65=>
 (ob (Gr a0.1 (x64,x65,(a1==Uc),())) fun r66=>
 (ob (Ck a0 r66.1 r66.2.1 r66.2.2.1) fun r67=>
 (some r67))))
 none))
 none)
 (cond (a1==Gc)
 (cond (((ln a2:Nat):Int)==1)
 (cond (Ac (ln a2) 0)
 (ob a2[(tn 0)]? fun x68=>
 (ob (En a0.1 x68) fun r69=>
 (ob (Ck a0 r69.1 r69.2.1 r69.2.2.1) fun r70=>
 (some r70))))
 none)
 (cond (a1==Ad)
 (cond (((ln a2:Nat):Int)==3)
 (cond (Ac (ln a2) 0)
 (ob a2[(tn 0)]? fun x71=>
 (cond (Ac (ln a2) 1)
 (ob a2[(tn 1)]? fun x72=>
 (cond (Ac (ln a2) 2)
 (ob a2[(tn 2)]? fun x73=>
 (ob (Pg a0 a0.1.1.1 a0.1.1.2.1 (x71,x72,x73,())) fun r74=>
 (some r74)))
 none))
 none))
 none)
 (cond (a1==([119,97,121]:List UInt8))
 (cond (((ln a2:Nat):Int)==2)
 (cond (Ac (ln a2) 0)
 (ob a2[(tn 0)]? fun x75=>
 (cond (Ac (ln a2) 1)
 (ob a2[(tn 1)]? fun x76=>
 (ob (Vf a0.1.1.1 x75 x76) fun r77=>
 (cond (!r77.2.1)
 (some (a0,([110,111]:List UInt8),()))
 (ob (Xc (((),(),r77.1,[],0,()),(a0,Lf,()))) (se (fun y84=>(ob (Nd y84.1.2.2.1 ([32]:List UInt8)) fun r86=>
 (cond (bl (ln Vb+ln r86.1) Sa)
 (some (y84.2.1,(ap Vb r86.1),()))
 none))) (fun z85=>none))))))
 none))
 none)
 (some (a0,Ua,())))
 (some (a0,Ua,()))))
 (cond (a1==([119,97,121]:List UInt8))
 (cond (((ln a2:Nat):Int)==2)
 (cond (Ac (ln a2) 0)
 (ob a2[(tn 0)]? fun x87=>
 (cond (Ac (ln a2) 1)
 (ob a2[(tn 1)]? fun x88=>
 (ob (Vf a0.1.1.1 x87 x88) fun r89=>
 (cond (!r89.2.1)
 (some (a0,([110,111]:List UInt8),()))
 (ob (Xc (((),(),r89.1,[],0,()),(a0,Lf,()))) (se (fun y96=>(ob (Nd y96.1.2.2.1 ([32]:List UInt8)) fun r98=>
 (cond (bl (ln Vb+ln r98.1) Sa)
 (some (y96.2.1,(ap Vb r98.1),()))
 none))) (fun z97=>none))))))
 none))
 none)
 (some (a0,Ua,())))
 (some (a0,Ua,())))))
 (cond (a1==Ad)
 (cond (((ln a2:Nat):Int)==3)
 (cond (Ac (ln a2) 0)
 (ob a2[(tn 0)]? fun x99=>
 (cond (Ac (ln a2) 1)
 (ob a2[(tn 1)]? fun x100=>
 (cond (Ac (ln a2) 2)
 (ob a2[(tn 2)]? fun x101=>
 (ob (Pg a0 a0.1.1.1 a0.1.1.2.1 (x99,x100,x101,())) fun r102=>
 (some r102)))
 none))
 none))
 none)
 (cond (a1==([119,97,121]:List UInt8))
 (cond (((ln a2:Nat):Int)==2)
 (cond (Ac (ln a2) 0)
 (ob a2[(tn 0)]? fun x103=>
 (cond (Ac (ln a2) 1)
 (ob a2[(tn 1)]? fun x104=>
 (ob (Vf a0.1.1.1 x103 x104) fun r105=>
 (cond (!r105.2.1)
 (some (a0,([110,111]:List UInt8),()))
 (ob (Xc (((),(),r105.1,[],0,()),(a0,Lf,()))) (se (fun y112=>(ob (Nd y112.1.2.2.1 ([32]:List UInt8)) fun r114=>
 (cond (bl (ln Vb+ln r114.1) Sa)
 (some (y112.2.1,(ap Vb r114.1),()))
 none))) (fun z113=>none))))))
 none))
 none)
 (some (a0,Ua,())))
 (some (a0,Ua,()))))
 (cond (a1==([119,97,121]:List UInt8))
 (cond (((ln a2:Nat):Int)==2)
 (cond (Ac (ln a2) 0)
 (ob a2[(tn 0)]? fun x115=>
 (cond (Ac (ln a2) 1)
 (ob a2[(tn 1)]? fun x116=>
 (ob (Vf a0.1.1.1 x115 x116) fun r117=>
 (cond (!r117.2.1)
 (some (a0,([110,111]:List UInt8),()))
 (ob (Xc (((),(),r117.1,[],0,()),(a0,Lf,()))) (se (fun y124=>(ob (Nd y124.1.2.2.1 ([32]:List UInt8)) fun r126=>
 (cond (bl (ln Vb+ln r126.1) Sa)
 (some (y124.2.1,(ap Vb r126.1),()))
 none))) (fun z125=>none))))))
 none))
 none)
 (some (a0,Ua,())))
 (some (a0,Ua,()))))))
 (cond (a1==Gc)
 (cond (((ln a2:Nat):Int)==1)
 (cond (Ac (ln a2) 0)
 (ob a2[(tn 0)]? fun x127=>
 (ob (En a0.1 x127) fun r128=>
 (ob (Ck a0 r128.1 r128.2.1 r128.2.2.1) fun r129=>
 (some r129))))
 none)
 (cond (a1==Ad)
 (cond (((ln a2:Nat):Int)==3)
 (cond (Ac (ln a2) 0)
 (ob a2[(tn 0)]? fun x130=>
 (cond (Ac (ln a2) 1)
 (ob a2[(tn 1)]? fun x131=>
 (cond (Ac (ln a2) 2)
 (ob a2[(tn 2)]? fun x132=>
 (ob (Pg a0 a0.1.1.1 a0.1.1.2.1 (x130,x131,x132,())) fun r133=>
 (some r133)))
 none))
 none))
 none)
 (cond (a1==([119,97,121]:List UInt8))
 (cond (((ln a2:Nat):Int)==2)
 (cond (Ac (ln a2) 0)
 (ob a2[(tn 0)]? fun x134=>
 (cond (Ac (ln a2) 1)
 (ob a2[(tn 1)]? fun x135=>
 (ob (Vf a0.1.1.1 x134 x135) fun r136=>
 (cond (!r136.2.1)
 (some (a0,([110,111]:List UInt8),()))
 (ob (Xc (((),(),r136.1,[],0,()),(a0,Lf,()))) (se (fun y143=>(ob (Nd y143.1.2.2.1 ([32]:List UInt8)) fun r145=>
 (cond (bl (ln Vb+ln r145.1) Sa)
 (some (y143.2.1,(ap Vb r145.1),()))
 none))) (fun z144=>none))))))
 none))
 none)
 (some (a0,Ua,())))
 (some (a0,Ua,()))))
 (cond (a1==([119,97,121]:List UInt8))
 (cond (((ln a2:Nat):Int)==2)
 (cond (Ac (ln a2) 0)
 (ob a2[(tn 0)]? fun x146=>
 (cond (Ac (ln a2) 1)
 (ob a2[(tn 1)]? fun x147=>
 (ob (Vf a0.1.1.1 x146 x147) fun r148=>
 (cond (!r148.2.1)
 (some (a0,([110,111]:List UInt8),()))
 (ob (Xc (((),(),r148.1,[],0,()),(a0,Lf,()))) (se (fun y155=>(ob (Nd y155.1.2.2.1 ([32]:List UInt8)) fun r157=>
 (cond (bl (ln Vb+ln r157.1) Sa)
 (some (y155.2.1,(ap Vb r157.1),()))
 none))) (fun z156=>none))))))
 none))
 none)
 (some (a0,Ua,())))
 (some (a0,Ua,())))))
 (cond (a1==Ad)
 (cond (((ln a2:Nat):Int)==3)
 (cond (Ac (ln a2) 0)
 (ob a2[(tn 0)]? fun x158=>
 (cond (Ac (ln a2) 1)
 (ob a2[(tn 1)]? fun x159=>
 (cond (Ac (ln a2) 2)
 (ob a2[(tn 2)]? fun x160=>
 (ob (Pg a0 a0.1.1.1 a0.1.1.2.1 (x158,x159,x160,())) fun r161=>
 (some r161)))
 none))
 none))
 none)
 (cond (a1==([119,97,121]:List UInt8))
 (cond (((ln a2:Nat):Int)==2)
 (cond (Ac (ln a2) 0)
 (ob a2[(tn 0)]? fun x162=>
 (cond (Ac (ln a2) 1)
 (ob a2[(tn 1)]? fun x163=>
 (ob (Vf a0.1.1.1 x162 x163) fun r164=>
 (cond (!r164.2.1)
 (some (a0,([110,111]:List UInt8),()))
 (ob (Xc (((),(),r164.1,[],0,()),(a0,Lf,()))) (se (fun y171=>(ob (Nd y171.1.2.2.1 ([32]:List UInt8)) fun r173=>
 (cond (bl (ln Vb+ln r173.1) Sa)
 (some (y171.2.1,(ap Vb r173.1),()))
 none))) (fun z172=>none))))))
 none))
 none)
 (some (a0,Ua,())))
 (some (a0,Ua,()))))
 (cond (a1==([119,97,121]:List UInt8))
 (cond (((ln a2:Nat):Int)==2)
 (cond (Ac (ln a2) 0)
 (ob a2[(tn 0)]? fun x174=>
 (cond (Ac (ln a2) 1)
 (ob a2[(tn 1)]? fun x175=>
 (ob (Vf a0.1.1.1 x174 x175) fun r176=>
 (cond (!r176.2.1)
 (some (a0,([110,111]:List UInt8),()))
 (ob (Xc (((),(),r176.1,[],0,()),(a0,Lf,()))) (se (fun y183=>(ob (Nd y183.1.2.2.1 ([32]:List UInt8)) fun r185=>
 (cond (bl (ln Vb+ln r185.1) Sa)
 (some (y183.2.1,(ap Vb r185.1),()))
 none))) (fun z184=>none))))))
 none))
 none)
 (some (a0,Ua,())))
 (some (a0,Ua,())))))))
def AA(t4:Unit)(t6:Unit)(t7:Hd)(t18:Ge)(t19:Int)(b4:Oa)(b6:Oa):Option (((Unit×(Unit×(Hd×WN)))×Oy)⊕(((Unit×(Unit×(Hd×EL)))×Oy)⊕((Unit×Mh)×SG))):=
 (cond (decide (t19<((ln t7:Nat):Int)))
 (cond (Ac (ln t7) t19)
 (ob t7[(tn t19)]? fun x16=>
 (ob (Ot x16) fun r17=>
 (cond (!r17.2.1)
 (some (.inr (.inr (((),Ua,()),(b6,())))))
 (cond (bl (ln t18+ln ([r17.1]:List Int)) Sa)
 (some (.inl (((),(),t7,(ap t18 ([r17.1]:List Int)),(wr .i64 (t19+1)),()),(b4,b6,()))))
 none))))
 none)
 (some (.inr (.inl (((),(),t7,t18,()),(b4,b6,()))))))
def Us:=Eb fun x:((Unit×(Unit×(Hd×WN)))×Oy)=>AA x.1.1 x.1.2.1 x.1.2.2.1 x.1.2.2.2.1 x.1.2.2.2.2.1 x.2.1 x.2.2.1
def ZL(a0:Oa)(a1:Sb):Option VT:=
 (ob (BF a0) fun r1=>
 (cond (!r1.1)
 (some (Lf,([98,97,100]:List UInt8),()))
 (ob (GJ a0) fun r2=>
 (ob (Og a1 32) fun r3=>
 (cond (Bd (ln r3.1) 1 ((ln r3.1:Nat):Int))
 (ob (Nd (Ya r3.1 (tn 1) (tn ((ln r3.1:Nat):Int))) ([32]:List UInt8)) fun r4=>
 (cond (a1==[])
 (some (r2.1,[],()))
 (ob (Wb a1 0) fun c5=>
 (cond (((UInt8.toNat c5:Nat):Int)==35)
 (some (r2.1,[],()))
 (cond (((ln r3.1:Nat):Int)==1)
 (ob (FJ r2.1 a1) fun r6=>
 (some (r2.1,r6.1,())))
 (cond (Ac (ln r3.1) 0)
 (ob r3.1[(tn 0)]? fun x7=>
 (cond (x7==LJ)
 (ob (Js r4.1) fun r8=>
 (cond (!r8.2.1)
 (some (r2.1,([110,111]:List UInt8),()))
 (ob (Pg r2.1 r8.1 r2.1.1.1.2.1 r2.1.1.2.1) fun r9=>
 (some r9))))
 (cond (x7==Lp)
 (ob (SC r4.1) fun r10=>
 (cond (!r10.2.1)
 (some (r2.1,([110,111]:List UInt8),()))
 (cond (bl (ln r2.1.1.1.2.1+ln ([r10.1]:List Bg)) Sa)
 (ob (Pg r2.1 r2.1.1.1.1 (ap r2.1.1.1.2.1 ([r10.1]:List Bg)) r2.1.1.2.1) fun r11=>
 (some r11))
 none)))
 (ob (Us (((),(),r3.1,[],1,()),(Lf,r2.1,()))) (se (fun y18=>(cond (Ac (ln y18.1.2.2.1) 0)
 (ob y18.1.2.2.1[(tn 0)]? fun x20=>
 (ob (VC y18.2.2.1 x20 y18.1.2.2.2.1) fun r21=>
 (some r21)))
 none)) (fun z19=>(some (z19.2.1,z19.1.2.1,()))))))))
 none))))))
 none)))))
def Uw(t4:Hd)(t5:Unit)(t6:Sb)(t7:Int)(b5:Oa):Option (GaD⊕(((Hd×Mh)×Unit)⊕Wf)):=
 (cond (decide (t7<((ln t4:Nat):Int)))
 (cond (Ac (ln t4) t7)
 (ob t4[(tn t7)]? fun x19=>
 (ob (ZL b5 x19) fun r20=>
 (cond (r20.2.1 !=[])
 (cond (bl (ln t6+ln r20.2.1) Sa)
 (cond (bl (ln (ap t6 r20.2.1)+ln ([10]:List UInt8)) Sa)
 (some (.inl ((t4,(),(ap (ap t6 r20.2.1) ([10]:List UInt8)),(wr .i64 (t7+1)),()),(r20.1,()))))
 none)
 none)
 (some (.inl ((t4,(),t6,(wr .i64 (t7+1)),()),(r20.1,())))))))
 none)
 (some (.inr (.inl ((t4,t6,()),())))))
def Gj:=Eb fun x:GaD=>Uw x.1.1 x.1.2.1 x.1.2.2.1 x.1.2.2.2.1 x.2.1
def SA(a0:Sb):Option QG:=
 (ob (Og a0 10) fun r1=>
 (cond (Ac (ln r1.1) (wr .i64 (((ln r1.1:Nat):Int)-1)))
 (ob r1.1[(tn (wr .i64 (((ln r1.1:Nat):Int)-1)))]? fun x2=>
 (cond (x2==[])
 (cond (Bd (ln r1.1) 0 (wr .i64 (((ln r1.1:Nat):Int)-1)))
 (cond (decide (((ln (Ya r1.1 (tn 0) (tn (wr .i64 (((ln r1.1:Nat):Int)-1)))):Nat):Int)>60))
 (some ([],(-1),()))
 (ob Ul fun r3=>
 (ob (Gj (((Ya r1.1 (tn 0) (tn (wr .i64 (((ln r1.1:Nat):Int)-1)))),(),[],0,()),(r3.1,()))) (se (fun y12=>(some (y12.1.2.1,((ln y12.1.1:Nat):Int),()))) (fun z13=>none)))))
 none)
 (cond (decide (((ln r1.1:Nat):Int)>60))
 (some ([],(-1),()))
 (ob Ul fun r14=>
 (ob (Gj ((r1.1,(),[],0,()),(r14.1,()))) (se (fun y21=>(some (y21.1.2.1,((ln y21.1.1:Nat):Int),()))) (fun z22=>none)))))))
 none))
def Hq(a0:Sb):Option Be:=
 (cond (decide (((ln a0:Nat):Int)>1048576))
 (some (true,()))
 (ob (SA a0) fun r1=>
 (ob (OA a0) fun r2=>
 (cond (r2.1 !=r1.1)
 (some (false,()))
 (cond (r2.2.1 !=r1.2.1)
 (some (false,()))
 (some (true,())))))))
end

def Wc(k c m n:Int):Prop:=
 ((k=0∨k=1∨k=10)∧c=0∧m=0∧n=0)∨
 (k=2∧n=0∧(c=0∨1≤c∧c≤56)∧(m=0∨1≤m∧m≤15)∧(c≠0∨m≠0))∨
 ((k=3∨k=4)∧c=0∧m=0∧1≤n∧n≤3)∨
 ((k=5∨k=9)∧c=0∧m=0∧0≤n∧n≤3)∨
 (k=6∧1≤c∧c≤56∧1≤m∧m≤15∧n=0)∨
 (k=7∧1≤c∧c≤56∧m=0∧1≤n∧n≤3)∨
 (k=8∧c=0∧1≤m∧m≤15∧n=0)
noncomputable def Nb(a:Ia):Bool:=open Classical in decide (Wc a.1 a.2.1 a.2.2.1 a.2.2.2.1)
theorem Qb(a:Ia):Nb a=true↔Wc a.1 a.2.1 a.2.2.1 a.2.2.2.1:=by simp[Nb]
theorem Vm(c:Int):Tq c=some (decide (1≤c∧c≤56),()):=by
 simp only[Tq,Qk,Rk]
 apply Dd;simp only[Ud,decide_eq_true_eq,UO,AU,jq,and_false,false_and,or_false,false_or,and_true,true_and,not_true_eq_false,not_false_eq_true];try omega
theorem DT(c:Int):Qv c=some (decide (1≤c∧c≤15),()):=by
 simp only[Qv,Qk,Rk]
 apply Dd;simp only[Ud,decide_eq_true_eq,UO,AU,jq,and_false,false_and,or_false,false_or,and_true,true_and,not_true_eq_false,not_false_eq_true];try omega
theorem WQ(c:Int):Hx c=some (decide (1≤c∧c≤3),()):=by
 simp only[Hx,Qk,Rk]
 apply Dd;simp only[Ud,decide_eq_true_eq,UO,AU,jq,and_false,false_and,or_false,false_or,and_true,true_and,not_true_eq_false,not_false_eq_true];try omega
theorem Vc(c a b:Int):Sc c a b=some (decide (a≤c∧c≤b),()):=by
 simp only[Sc,Qk,Rk]
 apply Dd;simp only[Ud,decide_eq_true_eq,UO,AU,jq,and_false,false_and,or_false,false_or,and_true,true_and,not_true_eq_false,not_false_eq_true];try omega
theorem Rm(a:Ia):Ri a=some (Nb a,()):=by
 obtain⟨k,c,m,n,u⟩:=a
 have key:∀k c m n:Int,Ri (k,c,m,n,u)=some (Nb (k,c,m,n,u),()):=by
  intro k c m n
  simp only[Ri,Vm,DT,WQ,Vc,jb,Qk,Rk]
  by_cases h0:k=0
  ·subst h0;apply Dd;rw[Qb];simp[Wc,Ud];try omega
  by_cases h1:k=1
  ·subst h1;apply Dd;rw[Qb];simp[Wc,Ud];try omega
  by_cases h2:k=2
  ·subst h2;apply Dd;rw[Qb];simp[Wc,Ud];intro hn;(repeat' split)<;>omega
  by_cases h3:k=3
  ·subst h3;apply Dd;rw[Qb];simp[Wc,Ud];try omega
  by_cases h4:k=4
  ·subst h4;apply Dd;rw[Qb];simp[Wc,Ud];try omega
  by_cases h5:k=5
  ·subst h5;apply Dd;rw[Qb];simp[Wc,Ud];try omega
  by_cases h6:k=6
  ·subst h6;apply Dd;rw[Qb];simp[Wc,Ud];try omega
  by_cases h7:k=7
  ·subst h7;apply Dd;rw[Qb];simp[Wc,Ud];try omega
  by_cases h8:k=8
  ·subst h8;apply Dd;rw[Qb];simp[Wc,Ud];try omega
  by_cases h9:k=9
  ·subst h9;apply Dd;rw[Qb];simp[Wc,Ud];try omega
  by_cases h10:k=10
  ·subst h10;apply Dd;rw[Qb];simp[Wc,Ud];try omega
  have g:∀j:Int,(k==j)=decide (k=j):=fun j=>by rw[qm];simp
  apply Dd;rw[Qb];simp[Wc,Ud,h0,h1,h2,h3,h4,h5,h6,h7,h8,h9,h10]
 exact key k c m n
theorem Bs(a:Ia):Ik a=some (Nb a,()):=by
 obtain⟨k,c,m,n,u⟩:=a
 have key:∀k c m n:Int,Ik (k,c,m,n,u)=some (Nb (k,c,m,n,u),()):=by
  intro k c m n
  simp only[Ik,Vm,DT,WQ,Vc,jb,Qk,Rk]
  by_cases h0:k=0
  ·subst h0;apply Dd;rw[Qb];simp[Wc,Ud];try omega
  by_cases h1:k=1
  ·subst h1;apply Dd;rw[Qb];simp[Wc,Ud];try omega
  by_cases h2:k=2
  ·subst h2;apply Dd;rw[Qb];simp[Wc,Ud];intro hn;(repeat' split)<;>omega
  by_cases h3:k=3
  ·subst h3;apply Dd;rw[Qb];simp[Wc,Ud];try omega
  by_cases h4:k=4
  ·subst h4;apply Dd;rw[Qb];simp[Wc,Ud];try omega
  by_cases h5:k=5
  ·subst h5;apply Dd;rw[Qb];simp[Wc,Ud];try omega
  by_cases h6:k=6
  ·subst h6;apply Dd;rw[Qb];simp[Wc,Ud];try omega
  by_cases h7:k=7
  ·subst h7;apply Dd;rw[Qb];simp[Wc,Ud];try omega
  by_cases h8:k=8
  ·subst h8;apply Dd;rw[Qb];simp[Wc,Ud];try omega
  by_cases h9:k=9
  ·subst h9;apply Dd;rw[Qb];simp[Wc,Ud];try omega
  by_cases h10:k=10
  ·subst h10;apply Dd;rw[Qb];simp[Wc,Ud];try omega
  have g:∀j:Int,(k==j)=decide (k=j):=fun j=>by rw[qm];simp
  apply Dd;rw[Qb];simp[Wc,Ud,h0,h1,h2,h3,h4,h5,h6,h7,h8,h9,h10]
 exact key k c m n
noncomputable def Wk(nl:Nat)(i:Nat)(a:Ia):Bool:=Nb a&&!(((i:Int)==0)&&(a.1==1))&&!((a.1 !=9)&&decide (a.2.2.2.1≥(nl:Int)))
noncomputable def Gp(keys:Int)(nl:Nat)(i:Nat)(l:List Ia):Bool:=((ja l:Int)==keys)&&Tf (fun _ a=>Wk nl i a) 0 l
noncomputable def Tb(m:Ea):Bool:=
 decide (1≤m.1∧m.1≤32)&&decide (1≤m.2.1.length∧m.2.1.length≤4)&&Tf (fun i l=>Gp m.1 m.2.1.length i l) 0 m.2.1
theorem A2(m:Ea)(i:Nat)(l:List Ia)(L:List (List Ia))(n:Int)(t:Int)(hl:l.length<9223372036854775807):
 Bq (((),(i:Int),L,n,t,l,(l.length:Int),(0:Int),()),(m,()))=
  some (cond (Tf (fun _ a=>Wk m.2.1.length i a) 0 l) (.inl (((),L,n,t,()),(m,()))) (.inr ((false,()),()))):=by
 unfold Bq
 refine Gh (step:=_) l (fun _ a=>Wk m.2.1.length i a) (fun j=>(((),(i:Int),L,n,t,l,(l.length:Int),j,()),(m,()))) _ _ ?_ ?_ hl
 ·intro k hk
  simp only[SF]
  rw[Aa (show(k:Int)<(l.length:Int) by omega),Ub hk]
  simp only[zg,jb,Wk,Rm]
  cases Nb l[k]<;>cases((i:Int)==0)<;>cases(l[k].1==1)<;>cases(l[k].1 !=9)<;>cases decide (l[k].2.2.2.1≥(m.2.1.length:Int))<;>rfl
 ·simp[SF]
theorem Ji(m:Ea)(hz:Hb Bb m≤Da):Zl m=some (Tb m,()):=by
 have h20:Da=1048576:=rfl
 have hz':m.2.1.length+(zd (Hb (.sl Bc)) m.2.1).sum≤Da:=by
  have:Hb Bb m=Hb (.sl (.sl Bc)) m.2.1:=by simp only[Hb,ya,js]
  rw[this]at hz;exact hz
 have hl:∀k (hk:k<m.2.1.length),m.2.1[k].length≤Da:=by
  intro k hk
  have:=FF (f:=Hb (.sl Bc)) hk
  have h2:m.2.1[k].length≤Hb (.sl Bc) m.2.1[k]:=Nat.le_add_right _ _
  omega
 have hloop:Aq (((),m.2.1,((ja m.2.1:Nat):Int),(0:Int),()),(m,()))=
  some (cond (Tf (fun i l=>Gp m.1 m.2.1.length i l) 0 m.2.1) (.inl ((),())) (.inr ((false,()),()))):=by
  unfold Aq
  refine Gh (step:=_) m.2.1 (fun i l=>Gp m.1 m.2.1.length i l) (fun j=>(((),m.2.1,((ja m.2.1:Nat):Int),j,()),(m,()))) _ _ ?_ ?_ (by omega)
  ·intro k hk
   have:=hl k hk
   simp only[RF]
   rw[Aa (show(k:Int)<(m.2.1.length:Int) by omega),Ub hk]
   simp only[zg,jb,Gp]
   rw[A2 m k _ _ _ _ (by omega)]
   show(cond (!((m.2.1[k].length:Int)==m.1)) _ _)=_
   cases((m.2.1[k].length:Int)==m.1)<;>cases Tf (fun _ a=>Wk m.2.1.length k a) 0 m.2.1[k]<;>rfl
  ·simp[RF]
 unfold Zl
 rw[hloop]
 simp only[jb,L9,Qk,Rk]
 apply Dd
 simp only[Ud,Tb,jd,decide_eq_true_eq,jq,and_false,false_or,and_true,or_false]
 generalize Tf (fun i l=>Gp m.1 m.2.1.length i l) 0 m.2.1=b
 constructor
 ·rintro⟨h1,h2,h3,h4,h5⟩;exact⟨⟨by omega,by omega⟩,h5⟩
 ·rintro⟨⟨h1,h2⟩,h5⟩;exact⟨by omega,by omega,by omega,by omega,h5⟩
theorem A3(m:Ea)(i:Nat)(hi:i<m.2.1.length)(hl:m.2.1[i].length<9223372036854775807):
 Oq (((),(i:Int),(0:Int),()),(m,()))=
  some (cond (Tf (fun _ a=>Wk m.2.1.length i a) 0 m.2.1[i]) (.inl (((),(i:Int),()),(m,()))) (.inr ((false,()),()))):=by
 unfold Oq
 refine Gh (step:=_) m.2.1[i] (fun _ a=>Wk m.2.1.length i a) (fun j=>(((),(i:Int),j,()),(m,()))) _ _ ?_ ?_ hl
 ·intro k hk
  simp only[ZF]
  rw[Ub hi]
  simp only[jb]
  rw[Aa (show(k:Int)<(m.2.1[i].length:Int) by omega),Ub hk]
  simp only[zg,jb,Wk,Bs]
  cases Nb m.2.1[i][k]<;>cases((i:Int)==0)<;>cases(m.2.1[i][k].1==1)<;>cases(m.2.1[i][k].1 !=9)<;>cases decide (m.2.1[i][k].2.2.2.1≥(m.2.1.length:Int))<;>rfl
 ·simp[ZF,Ub hi]
theorem Ok(m:Ea)(hz:Hb Bb m≤Da):Cm m=some (Tb m,()):=by
 have h20:Da=1048576:=rfl
 have hz':m.2.1.length+(zd (Hb (.sl Bc)) m.2.1).sum≤Da:=by
  have:Hb Bb m=Hb (.sl (.sl Bc)) m.2.1:=by simp only[Hb,ya,js]
  rw[this]at hz;exact hz
 have hl:∀k (hk:k<m.2.1.length),m.2.1[k].length≤Da:=by
  intro k hk
  have:=FF (f:=Hb (.sl Bc)) hk
  have h2:m.2.1[k].length≤Hb (.sl Bc) m.2.1[k]:=Nat.le_add_right _ _
  omega
 have hloop:Nq (((),(0:Int),()),(m,()))=
  some (cond (Tf (fun i l=>Gp m.1 m.2.1.length i l) 0 m.2.1) (.inl (((),()),(m,()))) (.inr ((false,()),()))):=by
  unfold Nq
  refine Gh (step:=_) m.2.1 (fun i l=>Gp m.1 m.2.1.length i l) (fun j=>(((),j,()),(m,()))) _ _ ?_ ?_ (by omega)
  ·intro k hk
   have:=hl k hk
   simp only[YF]
   rw[Aa (show(k:Int)<(m.2.1.length:Int) by omega),Ub hk]
   simp only[zg,jb,Gp]
   rw[A3 m k hk (by omega)]
   show(cond (!((m.2.1[k].length:Int)==m.1)) _ _)=_
   cases((m.2.1[k].length:Int)==m.1)<;>cases Tf (fun _ a=>Wk m.2.1.length k a) 0 m.2.1[k]<;>rfl
  ·simp[YF]
 unfold Cm
 rw[hloop]
 simp only[jb,L9,Qk,Rk,Vc]
 apply Dd
 simp only[Ud,Tb,jd,decide_eq_true_eq,jq,and_false,false_or,and_true,or_false]
 generalize Tf (fun i l=>Gp m.1 m.2.1.length i l) 0 m.2.1=b
 constructor
 ·rintro⟨h1,h2,h3⟩;exact⟨⟨by omega,by omega⟩,h1⟩
 ·rintro⟨⟨h1,h2⟩,h5⟩;exact⟨h5,by omega,by omega⟩
theorem CB{n:Nat}(h:n≤62):Ke .i64 1 (n:Int)=((2^n:Nat):Int):=by
 unfold Ke
 have h1:min (jy (n:Int)) (IntKind.bits .i64)=n:=by
  show min (jy (n:Int)) 64=n
  rw[jn];omega
 rw[h1,Int.one_mul]
 have h2:(2:Int)^n=((2^n:Nat):Int):=by simp
 have h3:2^n≤2^62:=Nat.pow_le_pow_right (by omega) h
 rw[h2]
 clear h1 h2
 generalize 2^n=z at h3
 rw[Af (by omega) (by omega)]
structure BD(m:Ea):Prop where
 k1:1≤m.1
 k2:m.1≤32
 l1:1≤m.2.1.length
 l2:m.2.1.length≤4
 row:∀i (h:i<m.2.1.length),(m.2.1[i].length:Int)=m.1
 act:∀i (h:i<m.2.1.length) k (hk:k<m.2.1[i].length),Wk m.2.1.length i m.2.1[i][k]=true
theorem Pd{m:Ea}(h:Tb m=true):BD m:=by
 simp only[Tb,jd,decide_eq_true_eq]at h
 obtain⟨⟨h1,h2⟩,h3⟩:=h
 rw[Rt]at h3
 refine⟨h1.1,h1.2,h2.1,h2.2,fun i hi=>?_,fun i hi k hk=>?_⟩
 ·have:=h3 i hi
  simp only[js,Gp,jd,beq_iff_eq]at this
  exact this.1
 ·have:=h3 i hi
  simp only[js,Gp,jd,beq_iff_eq]at this
  have:=Rt.1 this.2 k hk
  simpa using this
theorem UD{nl i:Nat}{a:Ia}(h:Wk nl i a=true):Nb a=true:=by
 simp only[Wk,jd]at h
 exact h.1.1
theorem KT{nl i:Nat}{a:Ia}(h:Wk nl i a=true)(hk:a.1≠9):a.2.2.2.1<(nl:Int):=by
 simp only[Wk,jd,yl,Bool.and_eq_false_iff]at h
 rcases h.2 with h|h
 ·simp at h;exact absurd h hk
 ·simpa using h
def Jm(m k:Int):Int:=Fh .i64 (Mx .i64 m k) 1
theorem RL(m:Int){k:Int}(h:0≤k):Nv m k=some (Jm m k,()):=by
 unfold Nv
 rw[Aa h];rfl
def Ra3:Ia:=(0,0,0,0,())
def Hi(L:List (List Ia))(i k:Nat):Ia:=(L.getD i []).getD k Ra3
theorem VJ{L:List (List Ia)}{i k:Nat}(hi:i<L.length)(hk:k<L[i].length):Hi L i k=L[i][k]:=by
 simp[Hi,qe,hi,hk]
theorem H7{α:Type}{L:List (List Ia)}{i k:Nat}(hi:i<L.length)(hk:k<L[i].length)(K:Ia→Option α):
 (jz (Wb L (i:Int)) fun x=>jz (Wb x (k:Int)) K)=K (Hi L i k):=by
 rw[Ub hi]
 simp only[jb]
 rw[Ub hk,VJ hi hk]
 rfl
def Hf(L:List (List Ia))(on:Int)(k:Nat):Nat→Nat
 |0=>0
 |n+1=>cond ((Jm on ((n+1:Nat):Int)==1)&&((Hi L (n+1) k).1 !=1)) (n+1) (Hf L on k n)
theorem FX{L:List (List Ia)}{on:Int}{k:Nat}:∀n,Hf L on k n≤n
 |0=>jo _
 |n+1=>by
  simp only[Hf]
  cases((Jm on ((n+1:Nat):Int)==1)&&((Hi L (n+1) k).1 !=1))with
  |true=>exact jo _
  |false=>exact Nat.le_succ_of_le (FX n)
theorem XQ{m:Ea}(hm:BD m)(on:Int){k:Nat}(hk:(k:Int)<m.1):∀n:Nat,n<m.2.1.length→
 Vj ((on,(k:Int),(),(n:Int),()),(m,()))=some (cond (Hf m.2.1 on k n==0) (.inl ((),())) (.inr ((((Hf m.2.1 on k n:Nat):Int),()),())))
 |0,_=>by
  unfold Vj
  rw[VI]
  rfl
 |n+1,h=>by
  have hrow:=hm.row (n+1) h
  unfold Vj
  rw[VI]
  simp only[NP]
  rw[Aa (show(((n+1:Nat):Int))>0 by omega),RL on (show(0:Int)≤((n+1:Nat):Int) by omega)]
  simp only[zg,jb]
  rw[H7 h (by omega),Af (by have:=hm.l2;omega) (by have:=hm.l2;omega),show(((n+1:Nat):Int)-1)=(n:Int) by omega]
  have ih:=XQ hm on hk n (by omega)
  unfold Vj at ih
  simp only[Hf]
  cases h1:(Jm on ((n+1:Nat):Int)==1)with
  |false=>
   simp only[qh,zh,jb,qf]
   exact ih
  |true=>
   cases h2:((Hi m.2.1 (n+1) k).1 !=1)with
   |true=>rfl
   |false=>
    simp only[Bool.and_false,zg,zh,jb,qf]
    exact ih
theorem SI{m:Ea}(hm:BD m)(on:Int){k:Nat}(hk:(k:Int)<m.1):
 Ix m on (k:Int)=some (((Hf m.2.1 on k (m.2.1.length-1):Nat):Int),()):=by
 have h1:=hm.l1
 have h2:=hm.l2
 unfold Ix
 rw[Af (by omega) (by omega),show((m.2.1.length:Int)-1)=((m.2.1.length-1:Nat):Int) by omega,XQ hm on hk _ (by omega)]
 cases h:(Hf m.2.1 on k (m.2.1.length-1)==0)with
 |false=>rfl
 |true=>
  have h':Hf m.2.1 on k (m.2.1.length-1)=0:=by simpa using h
  rw[h'];rfl
theorem PR{m:Ea}(hm:BD m)(on:Int){k:Nat}(hk:(k:Int)<m.1):∀n:Nat,n<m.2.1.length→
 Wj ((on,(k:Int),(),(n:Int),()),(m,()))=some (cond (Hf m.2.1 on k n==0) (.inl ((),())) (.inr ((((Hf m.2.1 on k n:Nat):Int),()),())))
 |0,_=>by
  unfold Wj
  rw[VI]
  rfl
 |n+1,h=>by
  have hrow:=hm.row (n+1) h
  unfold Wj
  rw[VI]
  simp only[EQ]
  rw[Aa (show(((n+1:Nat):Int))>0 by omega),Aa (show(0:Int)≤((n+1:Nat):Int) by omega)]
  simp only[zg]
  rw[H7 h (by omega),Af (by have:=hm.l2;omega) (by have:=hm.l2;omega),show(((n+1:Nat):Int)-1)=(n:Int) by omega]
  have ih:=PR hm on hk n (by omega)
  unfold Wj at ih
  simp only[Hf]
  show jz (cond (Jm on ((n+1:Nat):Int)==1) _ _) _=_
  cases h1:(Jm on ((n+1:Nat):Int)==1)with
  |false=>
   simp only[qh,zh,jb,qf]
   exact ih
  |true=>
   cases h2:((Hi m.2.1 (n+1) k).1 !=1)with
   |true=>rfl
   |false=>
    simp only[Bool.and_false,zg,zh,jb,qf]
    exact ih
def Eg(m:Ea)(on:Int)(k:Nat):Nat:=Hf m.2.1 on k (m.2.1.length-1)
theorem RD{m:Ea}(hm:BD m)(on:Int)(k:Nat):Eg m on k<m.2.1.length:=by
 have:=FX (L:=m.2.1) (on:=on) (k:=k) (m.2.1.length-1)
 have:=hm.l1
 unfold Eg
 omega
theorem V5{m:Ea}(hz:Hb Bb m≤Da)(hv:Tb m=true)(on:Int){k:Nat}(hk:(k:Int)<m.1):
 DJ m on (k:Int)=some (((Eg m on k:Nat):Int),()):=by
 have hm:=Pd hv
 have h1:=hm.l1
 have h2:=hm.l2
 have h3:=hm.k2
 unfold DJ
 rw[Ok m hz,hv,Af (n:=m.1-1) (by omega) (by omega)]
 simp only[jb,jg,zh,Vc]
 rw[Aa (show(0:Int)≤(k:Int)∧(k:Int)≤m.1-1 by omega),Af (by omega) (by omega),show((m.2.1.length:Int)-1)=((m.2.1.length-1:Nat):Int) by omega,PR hm on hk _ (by omega)]
 simp only[jg,zh,jb]
 show _=some (((Hf m.2.1 on k (m.2.1.length-1):Nat):Int),())
 cases h:(Hf m.2.1 on k (m.2.1.length-1)==0)with
 |false=>rfl
 |true=>
  have h':Hf m.2.1 on k (m.2.1.length-1)=0:=by simpa using h
  rw[h'];rfl
theorem UH{m:Ea}(hz:Hb Bb m≤Da)(hv:Tb m=true)(on:Int){k:Nat}(hk:(k:Int)<m.1):
 Mt m on (k:Int)=some (Hi m.2.1 (Eg m on k) k,()):=by
 have hm:=Pd hv
 have hl:=RD hm on k
 have hrow:=hm.row _ hl
 unfold Mt
 rw[V5 hz hv on hk]
 simp only[jb]
 rw[Ba (by omega)]
 simp only[zh]
 rw[H7 hl (by omega)]
def HI(f:Int)(a:Ia):Int:=cond (a.1==4) (Ft .i64 f (Ke .i64 1 a.2.2.2.1)) (cond (a.1==5) (Aj .i64 (Ke .i64 1 a.2.2.2.1) 1) f)
theorem Hac{nl i:Nat}{a:Ia}(h:Wk nl i a=true)(hk:a.1=3∨a.1=4∨a.1=5∨a.1=7):0≤a.2.2.2.1∧a.2.2.2.1<(nl:Int)∧a.2.2.2.1≤3:=by
 have h1:=UD h
 rw[Qb]at h1
 have h2:=KT h (by rcases hk with hk|hk|hk|hk<;>rw[hk]<;>decide)
 unfold Wc at h1
 omega
theorem NM{m:Ea}(hm:BD m)(f:Int){k:Nat}(hk:(k:Int)<m.1):
 Iu m f (k:Int)=some (HI f (Hi m.2.1 (Eg m f k) k),()):=by
 have hl:=RD hm f k
 have hrow:=hm.row _ hl
 have hact:=hm.act _ hl k (by omega)
 rw[←VJ hl (by omega)]at hact
 unfold Iu
 rw[SI hm f hk]
 simp only[jb]
 rw[show Hf m.2.1 f k (m.2.1.length-1)=Eg m f k from rfl,H7 hl (by omega)]
 generalize Hi m.2.1 (Eg m f k) k=a at hact
 unfold HI
 cases h4:(a.1==4)with
 |true=>
  rw[Aa (Hac hact (.inr (.inl (by simpa using h4)))).1];rfl
 |false=>
  cases h5:(a.1==5)with
  |true=>rw[Aa (Hac hact (.inr (.inr (.inl (by simpa using h5))))).1];rfl
  |false=>rfl
theorem Q4{f:Int}(h0:0≤f)(h1:f<16)(h2:f.tmod 2=0):∀n:Nat,n<4→Jm (Xd .i64 1 f) ((n+1:Nat):Int)=Jm f ((n+1:Nat):Int):=by
 have:f=0∨f=1∨f=2∨f=3∨f=4∨f=5∨f=6∨f=7∨f=8∨f=9∨f=10∨f=11∨f=12∨f=13∨f=14∨f=15:=by omega
 clear h0 h1 h2
 rcases this with rfl|rfl|rfl|rfl|rfl|rfl|rfl|rfl|rfl|rfl|rfl|rfl|rfl|rfl|rfl|rfl<;>decide
theorem HS{L:List (List Ia)}{on on':Int}{k:Nat}:∀n:Nat,(∀j:Nat,j<n→Jm on ((j+1:Nat):Int)=Jm on' ((j+1:Nat):Int))→Hf L on k n=Hf L on' k n
 |0,_=>rfl
 |n+1,h=>by
  simp only[Hf]
  rw[h n (by omega),HS n fun j hj=>h j (by omega)]
theorem Dah{m:Ea}{f:Int}{b:Bool}(hz:Hb Bb m≤Da)(h:Xh m f=some (b,()))(hb:b=true):Tb m=true∧0≤f∧f<16∧f.tmod 2=0:=by
 unfold Xh at h
 rw[Ji m hz]at h
 cases hk:Tb m with
 |false=>rw[hk]at h;simp at h;rw[hb]at h;simp at h
 |true=>
  have hm:=Pd hk
  rw[hk]at h
  simp only[jb,zg,show((2:Int)==0)=false from rfl,zh]at h
  by_cases h1:f≥0
  case neg=>rw[Ba h1]at h;simp at h;rw[hb]at h;simp at h
  rw[Aa h1]at h
  cases h2:(f.tmod 2==0)with
  |false=>rw[h2]at h;simp at h;rw[hb]at h;simp at h
  |true=>
   rw[h2,Aa (show(0:Int)≤(m.2.1.length:Int) by omega),CB (by have:=hm.l2;omega)]at h
   simp only[zg,jc,jh,and_true]at h
   rw[hb,decide_eq_true_eq]at h
   have h3:=hm.l2
   have h4:2^m.2.1.length≤2^4:=Nat.pow_le_pow_right (by omega) h3
   exact⟨rfl,h1,by omega,by simpa using h2⟩
noncomputable def Df(a:Ia):Bool:=Nb a&&((a.1==6)||(a.1==7))
noncomputable def NG(a:Ia):Ia:=cond (Df a) (2,a.2.1,0,0,()) a
noncomputable def KK(a:Ia):Ia:=cond (Df a) (cond (a.1==6) (2,0,a.2.2.1,0,()) (3,0,0,a.2.2.2.1,())) a
theorem TF(a:Ia):Ar a=some (Df a,()):=by
 unfold Ar Df
 rw[Rm]
 cases Nb a<;>cases(a.1==6)<;>rfl
theorem Rw(a:Ia):Cn a=some (Df a,()):=by
 unfold Cn Df
 rw[Bs]
 cases Nb a<;>cases(a.1==6)<;>rfl
theorem Saa(a:Ia):CO a=some (NG a,()):=by
 unfold CO NG
 rw[TF]
 cases Df a<;>rfl
theorem Eab(a:Ia):JO a=some (NG a,()):=by
 unfold JO NG
 rw[Rw]
 cases Df a<;>rfl
theorem L8(a:Ia):AM a=some (KK a,()):=by
 unfold AM KK
 rw[Rw]
 cases Df a<;>cases(a.1==6)<;>rfl
def Jd{α:Type}(p:α→Bool):Nat→List α→Int
 |_,[]=>-1
 |k,x::xs=>cond (p x) (k:Int) (Jd p (k+1) xs)
def Lx{α β:Type}:α⊕β→Bool
 |.inl _=>true
 |.inr _=>false
noncomputable def Px(s:Int)(x:La):Bool:=decide (0≤x.1∧x.1≤31)&&(!(Jm s x.1==1)&&(Nb x.2.1&&(!(x.2.1.1==1)&&(!(x.2.1.1==6)&&!(x.2.1.1==7)))))
noncomputable def Zy(s:Int)(x:La):Int⊕Unit:=cond (Px s x) (.inl (Xd .i64 s (Ke .i64 1 x.1))) (.inr ())
noncomputable def Lac(l:List La):Int⊕Unit:=Va (fun _ s x=>Zy s x) 0 0 l
noncomputable def Oe(l:List La):Bool:=Lx (Lac l)
theorem QE(l:List La)(hn:l.length≤Da):Nn l=some (Oe l,()):=by
 have h20:Da=1048576:=rfl
 have hl:=Kg (step:=fun x=>DC x.1.1 x.1.2.1 x.1.2.2.1 x.1.2.2.2.1) l (fun _ s x=>Zy s x) (fun s i=>((s,l,((ja l:Nat):Int),i,()),()))
  (fun _=>.inl ((),())) (fun _=>.inr ((false,()),())) (fun _ _=>True) (by
   intro k hk s _
   refine⟨?_,fun _ _=>trivial⟩
   simp only[DC]
   rw[Aa (show(k:Int)<(ja l:Int) by omega),Ub hk]
   simp only[zg,jb]
   generalize l[k]=x
   simp only[Zy,Px,Rm,jb]
   by_cases h1:0≤x.1
   ·rw[Ba (show¬x.1<0 by omega),RL s h1]
    by_cases h2:x.1≤31
    ·rw[Ba (show¬x.1>31 by omega),Aa (show 0≤x.1∧x.1≤31 from⟨h1,h2⟩),Aa h1]
     simp only[jb,zh]
     cases Jm s x.1==1<;>cases Nb x.2.1<;>cases x.2.1.1==1<;>cases x.2.1.1==6<;>cases x.2.1.1==7<;>rfl
    ·rw[Aa (show x.1>31 by omega),Ba (show¬(0≤x.1∧x.1≤31) by omega)];rfl
   ·rw[Aa (show x.1<0 by omega),Ba (show¬(0≤x.1∧x.1≤31) by omega)];rfl)
  (by
   intro s _
   simp only[DC]
   rw[Ba (by omega)];rfl) (by omega) 0 trivial
 unfold Nn MD
 erw[hl]
 show jz (some _) _=_
 simp only[jb,Oe,Lac]
 cases Va (fun x s x=>Zy s x) 0 0 l<;>rfl
theorem AF(l:List La)(hn:l.length≤Da):Yv l=some (Oe l,()):=by
 have h20:Da=1048576:=rfl
 have hl:=Kg (step:=fun x=>QC x.1.1 x.1.2.1 x.1.2.2.1) l (fun _ s x=>Zy s x) (fun s i=>((l,s,i,()),()))
  (fun _=>.inl ((),())) (fun _=>.inr ((false,()),())) (fun _ _=>True) (by
   intro k hk s _
   refine⟨?_,fun _ _=>trivial⟩
   simp only[QC]
   rw[Aa (show(k:Int)<(ja l:Int) by omega),Ub hk]
   simp only[zg,jb]
   generalize l[k]=x
   simp only[Zy,Px,Bs,Rw,Vc,jb,Df]
   by_cases h1:0≤x.1∧x.1≤31
   ·rw[Aa h1,Aa h1.1]
    simp only[Jm]
    cases Fh .i64 (Mx .i64 s x.1) 1==1<;>cases Nb x.2.1<;>cases x.2.1.1==1<;>cases x.2.1.1==6<;>cases x.2.1.1==7<;>rfl
   ·rw[Ba h1];rfl)
  (by
   intro s _
   simp only[QC]
   rw[Ba (by omega)];rfl) (by omega) 0 trivial
 unfold Yv EE
 erw[hl]
 show jz (some _) _=_
 simp only[jb,Oe,Lac]
 cases Va (fun x s x=>Zy s x) 0 0 l<;>rfl
structure Xw(x:La):Prop where
 lo:0≤x.1
 hi:x.1≤31
 act:Nb x.2.1=true
 n1:x.2.1.1≠1
 n6:x.2.1.1≠6
 n7:x.2.1.1≠7
theorem Zau{s:Int}{x:La}(h:Px s x=true):Xw x∧Jm s x.1≠1:=by
 simp only[Px,jd,decide_eq_true_eq,yl,beq_eq_false_iff_ne]at h
 exact⟨⟨h.1.1,h.1.2,h.2.2.1,h.2.2.2.1,h.2.2.2.2.1,h.2.2.2.2.2⟩,h.2.1⟩
theorem Dae:∀{l:List La} {k:Nat} {s:Int},Lx (Va (fun _ s x=>Zy s x) k s l)=true→∀x∈l,Xw x
 |[],_,_,_,x,hx=>by simp at hx
 |y::l,k,s,h,x,hx=>by
  simp only[Va,Zy]at h
  cases hc:Px s y with
  |false=>rw[hc]at h;simp[Lx]at h
  |true=>
   rw[hc]at h
   simp only[zg]at h
   rcases jp.1 hx with rfl|hx
   ·exact(Zau hc).1
   ·exact Dae h x hx
theorem Lu{l:List La}(h:Oe l=true):∀x∈l,Xw x:=Dae h
def Sz(l:List La):Int:=Oc (fun _ s (x:La)=>Xd .i64 s (Ke .i64 1 x.1)) 0 0 l
theorem MP(l:List La)(hn:l.length≤Da)(hx:∀x∈l,Xw x):Kt l=some (Sz l,()):=by
 have h20:Da=1048576:=rfl
 have hl:=(Zd (step:=fun x=>Jw x.1.1 x.1.2.1 x.1.2.2.1 x.1.2.2.2.1) l (fun _ s (x:La)=>Xd .i64 s (Ke .i64 1 x.1)) (fun s i=>((s,l,((ja l:Nat):Int),i,()),()))
  (fun s=>.inl ((s,()),())) (fun _ _=>True) (by
   intro k hk s _
   refine⟨?_,trivial⟩
   simp only[Jw]
   rw[Aa (show(k:Int)<(ja l:Int) by omega),Ub hk]
   simp only[zg,jb]
   rw[Aa (hx _ (qi hk)).lo];rfl)
  (by
   intro s _
   simp only[Jw]
   rw[Ba (by omega)];rfl) (by omega) 0 trivial).1
 unfold Kt Nz
 erw[hl]
 rfl
theorem O4{α β:Type}(p:β→Bool)(f:α→β):∀(xs:List α) (k:Nat),Jd p k (xs.map f)=Jd (fun x=>p (f x)) k xs
 |[],_=>rfl
 |x::xs,k=>by simp only[yk,Jd,O4 p f xs]
theorem Ky{α:Type}(p:α→Bool):∀(xs:List α) (k:Nat),Jd p k xs=-1∨∃j:Nat,j<xs.length∧Jd p k xs=((k+j:Nat):Int)
 |[],_=>.inl rfl
 |x::xs,k=>by
  simp only[Jd]
  cases p x with
  |true=>exact .inr ⟨0,by simp,by simp⟩
  |false=>
   rcases Ky p xs (k+1)with h|⟨j,h1,h2⟩
   ·exact .inl h
   ·exact .inr ⟨j+1,by simp;omega,by simp only[zh];rw[h2];omega⟩
theorem SW{α:Type}(p:α→Bool):∀(xs:List α) (k:Nat),(Va (fun k (_:Unit) x=>cond (p x) (.inr (k:Int)) (.inl ())) k () xs:Unit⊕Int)=if Jd p k xs=-1 then .inl ()else .inr (Jd p k xs)
 |[],_=>rfl
 |x::xs,k=>by
  rcases Bool.eq_false_or_eq_true (p x)with hp|hp
  ·simp only[Va,Jd,hp,zg];rw[if_neg (by omega)]
  ·simp only[Va,Jd,hp,zh];exact SW p xs (k+1)
theorem UL{X R α:Type}{step:X→Option (X⊕R)}(xs:List α)(p:α→Bool)(I:Int→X)(no:R)(yes:Int→R)
 (h:∀k (hk:k<xs.length),step (I (k:Int))=some (cond (p xs[k]) (.inr (yes (k:Int))) (.inl (I (j4 .i64 ((k:Int)+1))))))
 (he:step (I (xs.length:Int))=some (.inr no)) (hn:xs.length<9223372036854775807):
 Eb step (I 0)=some (if Jd p 0 xs=-1 then no else yes (Jd p 0 xs)):=by
 have:=Kg (step:=step) xs (fun k (_:Unit) x=>cond (p x) (.inr (k:Int)) (.inl ())) (fun _ i=>I i) (fun _=>no) yes (fun _ _=>True) (fun k hk s _=>by
  refine⟨?_,fun _ _=>trivial⟩
  rw[h k hk]
  cases p xs[k]<;>rfl) (fun _ _=>he) hn () trivial
 rw[this,SW]
 by_cases hc:Jd p 0 xs=-1
 ·rw[if_pos hc,if_pos hc]
 ·rw[if_neg hc,if_neg hc]
def Rd(h:La):Lc:=(h.2.1.2.1,h.2.1.2.2.1,())
def Ki(c m:Int)(h:La):Bool:=(h.2.1.2.1==c)&&(h.2.1.2.2.1==m)
theorem ET(l:List Lc)(c:Lc)(hn:l.length≤Da):IG l c=some (Jd (fun x=>YB Sh x c) 0 l,()):=by
 have h20:Da=1048576:=rfl
 have hl:=UL (step:=fun x=>KC x.1.1 x.1.2.1 x.1.2.2.1 x.1.2.2.2.1 x.2.1) l (fun x=>YB Sh x c) (fun i=>(((),l,((ja l:Nat):Int),i,()),(c,())))
  (.inl ((),())) (fun i=>.inr ((i,()),())) (by
   intro k hk
   simp only[KC]
   rw[Aa (show(k:Int)<(ja l:Int) by omega),Ub hk]
   simp only[zg,jb]
   cases YB Sh l[k] c<;>rfl) (by
   simp only[KC]
   rw[Ba (by omega)];rfl) (by omega)
 unfold IG PD
 erw[hl]
 simp only[jb]
 by_cases hc:Jd (fun x=>YB Sh x c) 0 l=-1
 ·rw[if_pos hc,hc];rfl
 ·rw[if_neg hc];rfl
theorem WK(l:List La)(x:Ta)(hn:l.length≤Da):Vq l x=some (Jd (Ki x.2.1 x.2.2.1) 0 l,()):=by
 have h20:Da=1048576:=rfl
 have hl:=UL (step:=fun y=>XC y.1.1 y.1.2.1 y.1.2.2.1 y.2.1) l (Ki x.2.1 x.2.2.1) (fun i=>((l,(),i,()),(x,())))
  (.inl ((),())) (fun i=>.inr ((i,()),())) (by
   intro k hk
   simp only[XC]
   rw[Aa (show(k:Int)<(ja l:Int) by omega),Ub hk]
   simp only[zg,jb,Ki]
   cases l[k].2.1.2.1==x.2.1<;>cases l[k].2.1.2.2.1==x.2.2.1<;>rfl) (by
   simp only[XC]
   rw[Ba (by omega)];rfl) (by omega)
 unfold Vq KE
 erw[hl]
 simp only[jb]
 by_cases hc:Jd (Ki x.2.1 x.2.2.1) 0 l=-1
 ·rw[if_pos hc,hc];rfl
 ·rw[if_neg hc];rfl
theorem Q5(L:List La)(c m:Int):Jd (fun x=>YB Sh x (c,m,())) 0 (L.map Rd)=Jd (Ki c m) 0 L:=by
 rw[O4]
 congr 1
 funext h
 simp only[Rd,YB,Ki,Bool.and_true]
def Th{α:Type}(l:List α)(r:Nat):List α:=jf (Ya l 0 r) (Ya l (r+1) l.length)
theorem U0{α:Type}{l:List α}{r:Nat}(h:r<l.length):(Th l r).length=l.length-1:=by
 simp[Th,Ya];omega
theorem V0{α β:Type}(f:α→β)(l:List α)(r:Nat):Th (l.map f) r=(Th l r).map f:=by
 simp[Th,Ya,List.map_take,List.map_drop]
 rw[List.take_of_length_le (by simp)]
theorem KW{α:Type}{l:List α}{r:Nat}(h:r<l.length):Bd (ja l) 0 (r:Int)=true∧Bd (ja l) ((r+1:Nat):Int) ((ja l:Nat):Int)=true:=by
 simp only[Bd,jd,decide_eq_true_eq]
 omega
theorem BG(l:List La){r:Nat}(h:r<l.length)(hn:l.length≤Da):Qg l (r:Int)=some (Th l r,()):=by
 have h20:Da=1048576:=rfl
 have hc:=KW h
 unfold Qg
 rw[Ee (by omega),hc.1,hc.2]
 have e1:jx (ja ([]:List La)+ja (Ya l (jy 0) (jy (r:Int)))) Sa=true:=ji (by simp[Ya];rw[Zf];omega)
 have e2:jx (ja (jf ([]:List La) (Ya l (jy 0) (jy (r:Int))))+ja (Ya l (jy ((r+1:Nat):Int)) (jy ((ja l:Nat):Int)))) Sa=true:=
  ji (by simp[Ya];rw[Zf];omega)
 rw[e1,e2]
 simp only[zg]
 rfl
noncomputable def Zo(x:Ta)(r:Int):Bool:=Nb (2,x.2.1,x.2.2.1,0,())&&(((x.1==0)&&!decide (r≥0))||(((x.1==1)&&!decide (r≥0))||((x.1==2)&&decide (r≥0))))
def Wh(x:Ta):La:=(0,(2,x.2.1,x.2.2.1,0,()),())
def WI(x:Ta)(L:List La)(r:Int):List La:=cond (x.1==1) (jf L [Wh x]) (cond (x.1==2) (Th L r.toNat) L)
noncomputable def Co(L:List La)(x:Ta):List La⊕Unit:=cond (Zo x (Jd (Ki x.2.1 x.2.2.1) 0 L)) (.inl (WI x L (Jd (Ki x.2.1 x.2.2.1) 0 L))) (.inr ())
theorem R7{L L':List La}{x:Ta}(h:Co L x=.inl L'):L'.length≤L.length+1:=by
 unfold Co at h
 cases hc:Zo x (Jd (Ki x.2.1 x.2.2.1) 0 L)with
 |false=>rw[hc]at h;simp at h
 |true=>
  rw[hc]at h
  simp only[zg,za]at h
  rw[←h]
  unfold WI
  cases x.1==1 with
  |true=>simp
  |false=>
   cases x.1==2 with
   |true=>simp[Th,Ya];omega
   |false=>simp
theorem Jab(l:List Ta)(k:Nat)(hk:k<l.length)(L:List La)(hL:L.length≤k)(hn:l.length≤Da):
 Ds l L (k:Int)=some (match Co L l[k]with|.inl L'=>.inl ((l,L',j4 .i64 ((k:Int)+1),()),())|.inr _=>.inr (.inr ((false,()),()))):=by
 have h20:Da=1048576:=rfl
 simp only[Ds]
 rw[Aa (show(k:Int)<(ja l:Int) by omega),Ub hk]
 simp only[zg,jb]
 rw[WK L l[k] (by omega)]
 simp only[jb,Vc,Pt,Bs,Co,Zo,WI,Wh]
 generalize hx:l[k]=x
 generalize hr:Jd (Ki x.2.1 x.2.2.1) 0 L=r
 have hble:jx (ja L+ja [Wh x]) Sa=true:=ji (by simp[Zf];omega)
 have hble':jx (ja L+ja ([((0:Int),((2:Int),x.2.1,x.2.2.1,(0:Int),()),())]:List La)) Sa=true:=hble
 have hw:decide (r≥0)=true→Qg L r=some (Th L r.toNat,()):=by
  intro h
  rcases Ky (Ki x.2.1 x.2.2.1) L 0 with h1|⟨j,h1,h2⟩
  ·rw[hr]at h1;rw[h1]at h;simp at h
  ·rw[hr]at h2
   have:r=(j:Int):=by omega
   rw[this,BG L h1 (by omega)]
   simp
 by_cases k0:x.1=0
 ·simp only[k0]
  cases Nb ((2:Int),x.2.1,x.2.2.1,(0:Int),())<;>cases decide (r≥0)<;>rfl
 by_cases k1:x.1=1
 ·simp only[k1]
  rw[hble']
  cases Nb ((2:Int),x.2.1,x.2.2.1,(0:Int),())<;>cases decide (r≥0)<;>rfl
 by_cases k2:x.1=2
 ·simp only[k2]
  cases hd:decide (r≥0)with
  |false=>cases Nb ((2:Int),x.2.1,x.2.2.1,(0:Int),())<;>rfl
  |true=>
   rw[hw hd]
   cases Nb ((2:Int),x.2.1,x.2.2.1,(0:Int),())<;>rfl
 ·have e0:(x.1==0)=false:=by simpa using k0
  have e1:(x.1==1)=false:=by simpa using k1
  have e2:(x.1==2)=false:=by simpa using k2
  rw[Ba (show¬(0≤x.1∧x.1≤2) by omega),e0,e1,e2]
  cases Nb ((2:Int),x.2.1,x.2.2.1,(0:Int),())<;>rfl
theorem Yaa(l:List Ta)(k:Nat)(hk:k<l.length)(L:List La)(hL:L.length≤k)(hn:l.length≤Da):
 Sr (L.map Rd) l ((ja l:Nat):Int) (k:Int)=
  some (match Co L l[k]with|.inl L'=>.inl ((L'.map Rd,l,((ja l:Nat):Int),j4 .i64 ((k:Int)+1),()),())|.inr _=>.inr (.inr ((false,()),()))):=by
 have h20:Da=1048576:=rfl
 simp only[Sr]
 rw[Aa (show(k:Int)<(ja l:Int) by omega),Ub hk]
 simp only[zg,jb]
 rw[ET (L.map Rd) _ (by simp;omega),Q5]
 simp only[jb,Rm,Co,Zo,WI,Wh]
 generalize hx:l[k]=x
 generalize hr:Jd (Ki x.2.1 x.2.2.1) 0 L=r
 have hble:jx (ja (L.map Rd)+ja ([(x.2.1,x.2.2.1,())]:List Lc)) Sa=true:=ji (by simp[Zf];omega)
 have happ:jf (L.map Rd) ([(x.2.1,x.2.2.1,())]:List Lc)=(jf L [((0:Int),((2:Int),x.2.1,x.2.2.1,(0:Int),()),())]).map Rd:=by
  show _++_=zd Rd (_++_)
  rw[yw];rfl
 by_cases k0:x.1=0
 ·simp only[k0]
  cases Nb ((2:Int),x.2.1,x.2.2.1,(0:Int),())<;>cases decide (r≥0)<;>rfl
 by_cases k1:x.1=1
 ·simp only[k1]
  rw[hble,happ]
  cases Nb ((2:Int),x.2.1,x.2.2.1,(0:Int),())<;>cases decide (r≥0)<;>rfl
 by_cases k2:x.1=2
 ·simp only[k2]
  rcases Ky (Ki x.2.1 x.2.2.1) L 0 with h1|⟨j,h1,h2⟩
  ·rw[hr]at h1
   rw[h1]
   cases Nb ((2:Int),x.2.1,x.2.2.1,(0:Int),())<;>rfl
  ·rw[hr]at h2
   have hrj:r=(j:Int):=by omega
   rw[hrj]
   have hj:j<(L.map Rd).length:=by simpa using h1
   have hc:=KW hj
   rw[Ee (k:=j) (by omega),hc.1,hc.2,Ba (show¬(j:Int)<0 by omega),Aa (show(j:Int)≥0 by omega)]
   have e1:jx (ja (Ya (L.map Rd) (jy 0) (jy (j:Int)))+ja (Ya (L.map Rd) (jy ((j+1:Nat):Int)) (jy ((ja (L.map Rd):Nat):Int)))) Sa=true:=
    ji (by simp[Ya];rw[Zf];omega)
   have e2:jf (Ya (L.map Rd) (jy 0) (jy (j:Int))) (Ya (L.map Rd) (jy ((j+1:Nat):Int)) (jy ((ja (L.map Rd):Nat):Int)))=(Th L (jy (j:Int))).map Rd:=by
    rw[←V0]
    simp[Th]
   rw[e1,e2]
   cases Nb ((2:Int),x.2.1,x.2.2.1,(0:Int),())<;>rfl
 ·have e0:(x.1==0)=false:=by simpa using k0
  have e1:(x.1==1)=false:=by simpa using k1
  have e2:(x.1==2)=false:=by simpa using k2
  rw[e0,e1,e2]
  cases Nb ((2:Int),x.2.1,x.2.2.1,(0:Int),())<;>rfl
noncomputable def IX(l:List Ta):List La⊕Unit:=Va (fun _ L x=>Co L x) 0 [] l
noncomputable def Dc(l:List Ta):Bool:=decide (l.length≤8)&&(match IX l with|.inl L=>((L.length:Int)==0)|.inr _=>false)
theorem CJ(l:List Ta)(hn:l.length≤Da):Ux l=some (Dc l,()):=by
 have h20:Da=1048576:=rfl
 have hl:=Kg (step:=fun x=>Ds x.1.1 x.1.2.1 x.1.2.2.1) l (fun _ L x=>Co L x) (fun L i=>((l,L,i,()),()))
  (fun L=>.inl ((l,L,()),())) (fun _=>.inr ((false,()),())) (fun k L=>L.length≤k) (by
   intro k hk L hL
   refine⟨?_,fun L' h=>by have:=R7 h;omega⟩
   rw[Jab l k hk L hL hn]
   cases Co L l[k]<;>rfl) (by
   intro s _
   simp only[Ds]
   rw[Ba (by omega)];rfl) (by omega) [] (by simp)
 unfold Ux OB
 erw[hl]
 simp only[jb,Dc,IX]
 cases Va (fun x L x=>Co L x) 0 [] l with
 |inl L=>
  simp only[qf]
  by_cases h:l.length≤8
  ·rw[Aa (show((ja l:Nat):Int)≤8 by omega),Aa h];rfl
  ·rw[Ba (show¬((ja l:Nat):Int)≤8 by omega),Ba h];rfl
 |inr u=>cases decide (l.length≤8)<;>rfl
theorem EC(l:List Ta)(hn:l.length≤Da):Rr l=some (Dc l,()):=by
 have h20:Da=1048576:=rfl
 unfold Rr Dc
 by_cases h:l.length≤8
 ·rw[Ba (show¬((ja l:Nat):Int)>8 by omega),Aa h]
  have hl:=Kg (step:=fun x=>Sr x.1.1 x.1.2.1 x.1.2.2.1 x.1.2.2.2.1) l (fun _ L x=>Co L x) (fun L i=>((L.map Rd,l,((ja l:Nat):Int),i,()),()))
   (fun L=>.inl ((L.map Rd,()),())) (fun _=>.inr ((false,()),())) (fun k L=>L.length≤k) (by
    intro k hk L hL
    refine⟨?_,fun L' h=>by have:=R7 h;omega⟩
    rw[Yaa l k hk L hL hn]
    cases Co L l[k]<;>rfl) (by
    intro s _
    simp only[Sr]
    rw[Ba (by omega)];rfl) (by omega) [] (by simp)
  unfold JB
  erw[hl]
  simp only[IX]
  cases Va (fun x L x=>Co L x) 0 [] l with
  |inl L=>
   show some _=some _
   simp only[yr]
   rfl
  |inr u=>rfl
 ·rw[Aa (show((ja l:Nat):Int)>8 by omega),Ba h];rfl
noncomputable def Sk(keys:Int)(nl:Nat)(x:La):Bool:=!decide (x.1≥keys)&&!((x.2.1.1 !=9)&&decide (x.2.1.2.2.2.1≥(nl:Int)))
noncomputable def Pf(e:Gb):Bool:=
 Tb e.1&&(decide (e.2.1.length≤4)&&(Oe e.2.2.2.1&&(Tf (fun _ m=>Dc m) 0 e.2.1&&(Tf (fun _ x=>Sk e.1.1 e.1.2.1.length x) 0 e.2.2.2.1&&
  (decide (0≤e.2.2.1∧e.2.2.1<((2^e.1.2.1.length:Nat):Int))&&((yc e.2.2.1 2==0)&&decide (0≤e.2.2.2.2.1∧e.2.2.2.2.1≤15)))))))
theorem Ol(e:Gb):Hb Rb e=Hb Bb e.1+(Hb (.sl (.sl Qd)) e.2.1+Hb (.sl Gl) e.2.2.2.1):=by
 simp only[Hb,ya,js]
theorem Qt(l:List La):Hb (.sl Gl) l=l.length:=Ms (e:=Gl) rfl l
theorem W8(l:List Ta):Hb (.sl Qd) l=l.length:=Ms (e:=Qd) rfl l
theorem V8{e:Ty}(l:List (T e)):ja l≤Hb (.sl e) l:=Nat.le_add_right _ _
theorem Zav{e:Ty}{l:List (T e)}{k:Nat}(hk:k<ja l):Hb e (List.get l ⟨k,hk⟩)≤Hb (.sl e) l:=
 j9 (FF (f:=Hb e) hk) (Nat.le_add_left _ _)
theorem Y4(e:Gb)(hz:Hb Rb e≤Da):Zp (((),e.2.1,((ja e.2.1:Nat):Int),(0:Int),()),(e,()))=
 some (cond (Tf (fun _ m=>Dc m) 0 e.2.1) (.inl (((),()),(e,()))) (.inr ((false,()),()))):=by
 have h20:Da=1048576:=rfl
 rw[Ol]at hz
 have hl:=V8 (e:=.sl Qd) e.2.1
 unfold Zp
 refine Gh (step:=fun x=>Ew x.1.1 x.1.2.1 x.1.2.2.1 x.1.2.2.2.1 x.2.1) e.2.1 (fun _ m=>Dc m) (fun i=>(((),e.2.1,((ja e.2.1:Nat):Int),i,()),(e,()))) _ _ ?_ ?_ (by omega)
 ·intro k hk
  simp only[Ew]
  have hk2:(k:Int)<((ja e.2.1:Nat):Int):=by omega
  rw[Aa hk2,Ub hk]
  simp only[zg,jb]
  have he:=Zav (e:=.sl Qd) hk
  rw[W8]at he
  rw[EC e.2.1[k] (by have:(List.get e.2.1 ⟨k,hk⟩)=e.2.1[k]:=rfl;rw[this]at he;omega)]
  simp only[jb]
  cases Dc e.2.1[k]<;>rfl
 ·simp only[Ew]
  rw[Ba (by omega)];rfl
theorem Y5(e:Gb)(hz:Hb Rb e≤Da):Lq (((),(0:Int),()),(e,()))=
 some (cond (Tf (fun _ m=>Dc m) 0 e.2.1) (.inl (((),()),(e,()))) (.inr ((false,()),()))):=by
 have h20:Da=1048576:=rfl
 rw[Ol]at hz
 have hl:=V8 (e:=.sl Qd) e.2.1
 unfold Lq
 refine Gh (step:=fun x=>Ow x.1.1 x.1.2.1 x.2.1) e.2.1 (fun _ m=>Dc m) (fun i=>(((),i,()),(e,()))) _ _ ?_ ?_ (by omega)
 ·intro k hk
  simp only[Ow]
  have hk2:(k:Int)<((ja e.2.1:Nat):Int):=by omega
  rw[Aa hk2,Ub hk]
  simp only[zg,jb]
  have he:=Zav (e:=.sl Qd) hk
  rw[W8]at he
  rw[CJ e.2.1[k] (by have:(List.get e.2.1 ⟨k,hk⟩)=e.2.1[k]:=rfl;rw[this]at he;omega)]
  simp only[jb]
  cases Dc e.2.1[k]<;>rfl
 ·simp only[Ow]
  rw[Ba (by omega)];rfl
theorem Waa(e:Gb)(hz:Hb Rb e≤Da):No (((),((ja e.1.2.1:Nat):Int),e.2.2.2.1,((ja e.2.2.2.1:Nat):Int),(0:Int),()),(e,()))=
 some (cond (Tf (fun _ x=>Sk e.1.1 e.1.2.1.length x) 0 e.2.2.2.1) (.inl (((),((ja e.1.2.1:Nat):Int),()),(e,()))) (.inr ((false,()),()))):=by
 have h20:Da=1048576:=rfl
 rw[Ol,Qt]at hz
 unfold No
 refine Gh (step:=fun x=>Vt x.1.1 x.1.2.1 x.1.2.2.1 x.1.2.2.2.1 x.1.2.2.2.2.1 x.2.1) e.2.2.2.1 (fun _ x=>Sk e.1.1 e.1.2.1.length x)
  (fun i=>(((),((ja e.1.2.1:Nat):Int),e.2.2.2.1,((ja e.2.2.2.1:Nat):Int),i,()),(e,()))) _ _ ?_ ?_ (by omega)
 ·intro k hk
  simp only[Vt]
  have hk2:(k:Int)<((ja e.2.2.2.1:Nat):Int):=by omega
  rw[Aa hk2,Ub hk]
  simp only[zg,jb,Sk]
  cases decide (e.2.2.2.1[k].1≥e.1.1)<;>cases(e.2.2.2.1[k].2.1.1 !=9)<;>cases decide (e.2.2.2.1[k].2.1.2.2.2.1≥((ja e.1.2.1:Nat):Int))<;>rfl
 ·simp only[Vt]
  rw[Ba (by omega)];rfl
theorem Iab(e:Gb)(hz:Hb Rb e≤Da):Mq (((),(0:Int),()),(e,()))=
 some (cond (Tf (fun _ x=>Sk e.1.1 e.1.2.1.length x) 0 e.2.2.2.1) (.inl (((),()),(e,()))) (.inr ((false,()),()))):=by
 have h20:Da=1048576:=rfl
 rw[Ol,Qt]at hz
 unfold Mq
 refine Gh (step:=fun x=>Pw x.1.1 x.1.2.1 x.2.1) e.2.2.2.1 (fun _ x=>Sk e.1.1 e.1.2.1.length x) (fun i=>(((),i,()),(e,()))) _ _ ?_ ?_ (by omega)
 ·intro k hk
  simp only[Pw]
  have hk2:(k:Int)<((ja e.2.2.2.1:Nat):Int):=by omega
  rw[Aa hk2,Ub hk]
  simp only[zg,jb,Sk]
  cases decide (e.2.2.2.1[k].1≥e.1.1)<;>cases(e.2.2.2.1[k].2.1.1 !=9)<;>cases decide (e.2.2.2.1[k].2.1.2.2.2.1≥((ja e.1.2.1:Nat):Int))<;>rfl
 ·simp only[Pw]
  rw[Ba (by omega)];rfl
theorem Gz(e:Gb)(hz:Hb Rb e≤Da):Dp e=some (Pf e,()):=by
 have h20:Da=1048576:=rfl
 have hz':=hz
 rw[Ol,Qt]at hz'
 unfold Dp Pf
 rw[Ji e.1 (by omega)]
 cases hk:Tb e.1 with
 |false=>rfl
 |true=>
  simp only[jb,jg,zh,jk]
  by_cases h4:e.2.1.length≤4
  ·rw[Ba (show¬((ja e.2.1:Nat):Int)>4 by omega),Aa h4,QE _ (by omega)]
   simp only[jb,zh,jk]
   cases hh:Oe e.2.2.2.1 with
   |false=>rfl
   |true=>
    simp only[jg,zh,jk]
    rw[Y4 e hz]
    have hl:=(Pd hk).l2
    by_cases ho:0≤e.2.2.2.2.1∧e.2.2.2.2.1≤15
    ·rw[Ba (show¬e.2.2.2.2.1<0 by omega),Ba (show¬e.2.2.2.2.1>15 by omega),Aa ho]
     simp only[zh,jb,Bool.and_true]
     cases Tf (fun _ m=>Dc m) 0 e.2.1 with
     |false=>rfl
     |true=>
      simp only[zg,qf,jk]
      rw[Waa e hz]
      cases Tf (fun _ x=>Sk e.1.1 e.1.2.1.length x) 0 e.2.2.2.1 with
      |false=>rfl
      |true=>
       simp only[zg,jb,qf,jk]
       rw[CB (by omega),Aa (show(0:Int)≤((ja e.1.2.1:Nat):Int) by omega)]
       have e2:((2:Int)==0)=false:=rfl
       rw[e2]
       simp only[zh,zg]
       by_cases hf:0≤e.2.2.1
       ·rw[Aa (show e.2.2.1≥0 from hf)]
        by_cases hf2:e.2.2.1<((2^e.1.2.1.length:Nat):Int)
        ·rw[Aa hf2,Aa (show 0≤e.2.2.1∧e.2.2.1<((2^e.1.2.1.length:Nat):Int)from⟨hf,hf2⟩)]
         cases yc e.2.2.1 2==0<;>rfl
        ·rw[Ba hf2,Ba (show¬(0≤e.2.2.1∧e.2.2.1<((2^e.1.2.1.length:Nat):Int))from fun h=>hf2 h.2)]
         cases yc e.2.2.1 2==0<;>rfl
       ·rw[Ba (show¬e.2.2.1≥0 from hf),Ba (show¬(0≤e.2.2.1∧e.2.2.1<((2^e.1.2.1.length:Nat):Int))from fun h=>hf h.1)]
        rfl
    ·have hr:(Tf (fun _ m=>Dc m) 0 e.2.1&&(Tf (fun _ x=>Sk e.1.1 e.1.2.1.length x) 0 e.2.2.2.1&&(decide (0≤e.2.2.1∧e.2.2.1<((2^e.1.2.1.length:Nat):Int))&&((yc e.2.2.1 2==0)&&decide (0≤e.2.2.2.2.1∧e.2.2.2.2.1≤15)))))=false:=by
      rw[Ba ho];simp
     rw[hr]
     by_cases h1:e.2.2.2.2.1<0
     ·rw[Aa h1];rfl
     ·rw[Ba h1,Aa (show e.2.2.2.2.1>15 by omega)];rfl
  ·rw[Aa (show((ja e.2.1:Nat):Int)>4 by omega),Ba h4];rfl
theorem Cs(e:Gb)(hz:Hb Rb e≤Da):Bm e=some (Pf e,()):=by
 have h20:Da=1048576:=rfl
 have hz':=hz
 rw[Ol,Qt]at hz'
 unfold Bm Pf
 rw[Ok e.1 (by omega)]
 cases hk:Tb e.1 with
 |false=>rfl
 |true=>
  simp only[jb,jg,zh,jk]
  by_cases h4:e.2.1.length≤4
  ·rw[Ba (show¬((ja e.2.1:Nat):Int)>4 by omega),Aa h4,AF _ (by omega)]
   simp only[jb,zh,jk]
   cases hh:Oe e.2.2.2.1 with
   |false=>rfl
   |true=>
    simp only[jg,zh,jk]
    rw[Y5 e hz]
    have hl:=(Pd hk).l2
    cases Tf (fun _ m=>Dc m) 0 e.2.1 with
    |false=>rfl
    |true=>
     simp only[zg,jb,qf,jk]
     rw[Iab e hz]
     cases Tf (fun _ x=>Sk e.1.1 e.1.2.1.length x) 0 e.2.2.2.1 with
     |false=>rfl
     |true=>
      simp only[zg,jb,qf,jk,Vc]
      have hp:(2^e.1.2.1.length:Nat)≤16:=Nat.pow_le_pow_right (n:=2) (by omega) hl
      rw[CB (by omega),Aa (show(0:Int)≤((ja e.1.2.1:Nat):Int) by omega)]
      generalize(2^e.1.2.1.length:Nat)=P2 at hp⊢
      rw[Af (by omega) (by omega)]
      have e2:((2:Int)==0)=false:=rfl
      rw[e2]
      simp only[zh,zg,jb]
      have e3:decide (0≤e.2.2.1∧e.2.2.1≤(P2:Int)-1)=decide (0≤e.2.2.1∧e.2.2.1<(P2:Int)):=by
       rw[decide_eq_decide];omega
      rw[e3]
      cases decide (0≤e.2.2.1∧e.2.2.1<(P2:Int))<;>cases yc e.2.2.1 2==0<;>rfl
  ·rw[Aa (show((ja e.2.1:Nat):Int)>4 by omega),Ba h4];rfl
def Hj(x:Xa):Bool:=decide (0≤x.1∧x.1≤1000000)&&decide (0≤x.2.1∧x.2.1≤31)
theorem UQ(x:Xa):LD x=some (Hj x,()):=by
 unfold LD Hj
 simp only[Qk,Rk]
 apply Dd
 simp only[Ud,decide_eq_true_eq,jq,and_false,or_false,jd]
 omega
theorem NR(x:Xa):DE x=some (Hj x,()):=by
 unfold DE Hj
 simp only[Vc,jb,Qk,Rk]
 apply Dd
 simp only[Ud,decide_eq_true_eq,jq,and_false,or_false,jd]
def St(s:Int×Int)(x:Xa):Bool:=Hj x&&(!decide (s.1>x.1)&&!(x.2.2.1==(Jm s.2 x.2.1==1)))
def GD(s:Int×Int)(x:Xa):(Int×Int)⊕Unit:=cond (St s x) (.inl (x.1,Ft .i64 s.2 (Ke .i64 1 x.2.1))) (.inr ())
def Bae(l:List Xa)(d:Int):(Int×Int)⊕Unit:=Va (fun _ s x=>GD s x) 0 (0,d) l
def CI(l:List Xa)(d:Int):Int×Bool:=cond (decide (l.length≤64)) (match Bae l d with|.inl s=>(s.2,true)|.inr _=>(0,false)) (0,false)
theorem Zn{x:Xa}(h:Hj x=true):0≤x.1∧x.1≤1000000∧0≤x.2.1∧x.2.1≤31:=by
 simp only[Hj,jd,decide_eq_true_eq]at h
 omega
theorem O7(l:List Xa)(d:Int)(hn:l.length≤Da):SL l d=some ((CI l d).1,(CI l d).2,()):=by
 have h20:Da=1048576:=rfl
 unfold SL CI
 by_cases h64:l.length≤64
 ·rw[Ba (show¬((ja l:Nat):Int)>64 by omega),Aa h64]
  have hl:=Kg (step:=fun x=>IC x.1.1 x.1.2.1 x.1.2.2.1 x.1.2.2.2.1 x.1.2.2.2.2.1) l (fun _ s x=>GD s x) (fun s i=>((l,s.2,l,((ja l:Nat):Int),i,()),()))
   (fun s=>.inl ((s.2,()),())) (fun _=>.inr (((0:Int),false,()),())) (fun k s=>(k=0→s.1=0)∧∀hk:k-1<l.length,0<k→s.1=l[k-1].1) (by
    intro k hk s ⟨hs0,hs1⟩
    refine⟨?_,?_⟩
    ·simp only[IC]
     rw[Aa (show(k:Int)<((ja l:Nat):Int) by omega),Ub hk]
     simp only[zg,jb,UQ,GD,St]
     generalize hx:l[k]=x
     cases hev:Hj x with
     |false=>rfl
     |true=>
      have hkey:=Zn hev
      simp only[jg,zh,jk]
      rw[RL s.2 hkey.2.2.1,Aa hkey.2.2.1]
      simp only[jb,zg]
      by_cases h0:k=0
      ·subst h0
       rw[Ba (show¬((0:Nat):Int)>0 by omega),Ba (show¬s.1>x.1 by rw[hs0 rfl];omega)]
       cases(x.2.2.1==(Jm s.2 x.2.1==1))<;>rfl
      ·rw[Aa (show(k:Int)>0 by omega),Af (by omega) (by omega),show(k:Int)-1=((k-1:Nat):Int) by omega,Ub (show k-1<l.length by omega)]
       rw[hs1 (by omega) (by omega)]
       simp only[jb,zg]
       cases decide (l[k-1].1>x.1)<;>cases(x.2.2.1==(Jm s.2 x.2.1==1))<;>rfl
    ·intro s' h
     unfold GD at h
     cases hc:St s l[k]with
     |false=>rw[hc]at h;simp at h
     |true=>
      rw[hc]at h
      simp only[zg,za]at h
      refine⟨by omega,fun _ _=>?_⟩
      rw[←h]
      simp only[Nat.add_sub_cancel])
   (by
    intro s _
    simp only[IC]
    rw[Ba (by omega)];rfl) (by omega) (0,d) ⟨fun _=>rfl,fun _ h=>absurd h (by omega)⟩
  unfold ND
  erw[hl]
  simp only[zh,jb,Bae,zg]
  cases Va (fun x s x=>GD s x) 0 (0,d) l<;>rfl
 ·rw[Aa (show((ja l:Nat):Int)>64 by omega),Ba h64];rfl
def QP(keys:Int)(l:List Xa):Bool:=Tf (fun _ (x:Xa)=>!decide (x.2.1≥keys)) 0 l
def Le(q:List Xa)(d keys:Int):Bool:=QP keys q&&(CI q d).2
theorem TN(q:List Xa)(d keys:Int)(hn:q.length≤Da):Dr q d keys=some (Le q d keys,()):=by
 have h20:Da=1048576:=rfl
 have hl:=Gh (step:=fun x=>Ju x.1.1 x.1.2.1 x.1.2.2.1 x.1.2.2.2.1 x.1.2.2.2.2.1 x.1.2.2.2.2.2.1) q (fun _ (x:Xa)=>!decide (x.2.1≥keys)) (fun i=>((q,d,keys,q,((ja q:Nat):Int),i,()),()))
  (.inl ((q,d,()),())) (.inr ((false,()),())) (by
   intro k hk
   simp only[Ju]
   rw[Aa (show(k:Int)<((ja q:Nat):Int) by omega),Ub hk]
   simp only[zg,jb]
   cases decide (q[k].2.1≥keys)<;>rfl) (by
   simp only[Ju]
   rw[Ba (by omega)];rfl) (by omega)
 unfold Dr Jx Le QP
 erw[hl]
 simp only[jb]
 cases Tf (fun _ (x:Xa)=>!decide (x.2.1≥keys)) 0 q with
 |false=>rfl
 |true=>simp only[zg,qf,O7 q d hn,jb];rfl
def Ps(keys:Int)(s:Int×Int)(x:Xa):(Int×Int)⊕Unit:=cond (St s x&&!decide (x.2.1≥keys)) (.inl (x.1,Ft .i64 s.2 (Ke .i64 1 x.2.1))) (.inr ())
theorem ML(keys:Int):∀(l:List Xa) (k:Nat) (s:Int×Int),Lx (Va (fun _ s x=>Ps keys s x) k s l)=(Tf (fun _ (x:Xa)=>!decide (x.2.1≥keys)) k l&&Lx (Va (fun _ s x=>GD s x) k s l))
 |[],_,_=>rfl
 |x::l,k,s=>by
  simp only[Va,Tf,Ps,GD]
  cases St s x with
  |false=>simp[Lx]
  |true=>
   cases decide (x.2.1≥keys)with
   |true=>simp[Lx]
   |false=>simp only[jk,j7,zg];exact ML keys l (k+1) _
theorem XM(q:List Xa)(d keys:Int)(hn:q.length≤Da):Zu q d keys 0=some (Le q d keys,()):=by
 have h20:Da=1048576:=rfl
 have hl:=Kg (step:=fun x=>Ys x.1.1 x.1.2.1 x.1.2.2.1 x.1.2.2.2.1 x.1.2.2.2.2.1) q (fun _ s x=>Ps keys s x) (fun s i=>((q,s.2,keys,s.1,i,()),()))
  (fun s=>.inl ((q,()),())) (fun _=>.inr ((false,()),())) (fun _ _=>True) (by
   intro k hk s _
   refine⟨?_,fun _ _=>trivial⟩
   simp only[Ys]
   rw[Aa (show(k:Int)<((ja q:Nat):Int) by omega),Ub hk]
   simp only[zg,jb,NR,Ps,St]
   generalize q[k]=x
   cases hev:Hj x with
   |false=>rfl
   |true=>
    have hkey:=Zn hev
    simp only[jg,zh,jk,Jm]
    rw[Aa hkey.2.2.1]
    simp only[gt_iff_lt]
    cases decide (x.2.1≥keys)<;>cases decide (x.1<s.1)<;>cases(x.2.2.1==(Fh .i64 (Mx .i64 s.2 x.2.1) 1==1))<;>rfl)
  (by
   intro s _
   simp only[Ys]
   rw[Ba (by omega)];rfl) (by omega) (0,d) trivial
 unfold Zu Aw
 erw[hl]
 have hsp:=ML keys q 0 (0,d)
 simp only[jb,Le,QP,CI,Bae]
 by_cases h64:q.length≤64
 ·rw[Aa h64]
  cases h1:Va (fun _ s x=>Ps keys s x) 0 (0,d) q with
  |inl s=>
   rw[h1]at hsp
   simp only[Lx]at hsp
   cases h2:Va (fun _ s x=>GD s x) 0 (0,d) q with
   |inl s2=>
    rw[h2]at hsp
    simp only[Lx,Bool.and_true]at hsp
    rw[←hsp]
    simp only[qf]
    rw[Aa (show((ja q:Nat):Int)≤64 by omega)];rfl
   |inr u=>rw[h2]at hsp;simp[Lx]at hsp
  |inr u=>
   rw[h1]at hsp
   simp only[Lx]at hsp
   cases h2:Va (fun _ s x=>GD s x) 0 (0,d) q with
   |inl s2=>
    rw[h2]at hsp
    simp only[Lx,Bool.and_true]at hsp
    rw[←hsp];rfl
   |inr u=>cases Tf (fun _ (x:Xa)=>!decide (x.2.1≥keys)) 0 q<;>rfl
 ·rw[Ba h64]
  cases h1:Va (fun _ s x=>Ps keys s x) 0 (0,d) q with
  |inl s=>simp only[qf];rw[Ba (show¬((ja q:Nat):Int)≤64 by omega)];cases Tf (fun _ (x:Xa)=>!decide (x.2.1≥keys)) 0 q<;>rfl
  |inr u=>cases Tf (fun _ (x:Xa)=>!decide (x.2.1≥keys)) 0 q<;>rfl
def Mj(t:AI):Bool:=decide (1≤t.1∧t.1≤1000)&&(decide (0≤t.2.1∧t.2.1≤1000)&&decide (0≤t.2.2.1∧t.2.2.1≤2))
theorem RN(t:AI):NA t=some (Mj t,()):=by
 unfold NA Mj
 simp only[Qk,Rk]
 apply Dd
 simp only[Ud,decide_eq_true_eq,jq,and_false,or_false,jd]
 omega
theorem UN(t:AI):RA t=some (Mj t,()):=by
 unfold RA Mj
 simp only[Vc,jb,Qk,Rk]
 apply Dd
 simp only[Ud,decide_eq_true_eq,jq,and_false,or_false,jd]
theorem OR(e:Gb)(hn:e.2.2.2.1.length≤Da)(hx:∀x∈e.2.2.2.1,Xw x):GE e=some (Sz e.2.2.2.1,()):=by
 have h20:Da=1048576:=rfl
 have hl:=(Zd (step:=fun x=>DA x.1.1 x.1.2.1 x.1.2.2.1 x.2.1) e.2.2.2.1 (fun _ s (x:La)=>Xd .i64 s (Ke .i64 1 x.1)) (fun s i=>(((),s,i,()),(e,())))
  (fun s=>.inl ((s,()),())) (fun _ _=>True) (by
   intro k hk s _
   refine⟨?_,trivial⟩
   simp only[DA]
   rw[Aa (show(k:Int)<((ja e.2.2.2.1:Nat):Int) by omega),Ub hk]
   have hk':=hx _ (qi hk)
   simp only[zg,jb,KS,Vc]
   rw[Aa (show 0≤e.2.2.2.1[k].1∧e.2.2.2.1[k].1≤31 from⟨hk'.lo,hk'.hi⟩),Aa hk'.lo];rfl)
  (by
   intro s _
   simp only[DA]
   rw[Ba (by omega)];rfl) (by omega) 0 trivial).1
 unfold GE RB
 erw[hl]
 rfl
def ZG(l:List Xa):Int:=(l.getD (l.length-1) (0,0,false,())).1
def Ug(l:List Xa)(t:Int):Bool:=((l.length:Int)==0)||decide (ZG l≤t)
theorem X1{l:List Xa}(h:0<l.length)(hn:l.length≤Da):∃x,Wb l (j4 .i64 (((ja l:Nat):Int)-1))=some x∧x.1=ZG l:=by
 have h20:Da=1048576:=rfl
 refine⟨l[l.length-1],?_,?_⟩
 ·rw[Af (by omega) (by omega),show((ja l:Nat):Int)-1=((l.length-1:Nat):Int) by omega,Ub (by omega)]
 ·simp[ZG,qs,je (show l.length-1<l.length by omega)]
theorem SN(l:List Xa)(t:Int)(hn:l.length≤Da):Cr l t=some (Ug l t,()):=by
 unfold Cr Ug
 by_cases h0:l.length=0
 ·simp[h0]
 ·obtain⟨x,h1,h2⟩:=X1 (l:=l) (by omega) hn
  rw[h1,show(((l.length:Nat):Int)==0)=false by simp;intro h;rw[h]at h0;simp at h0]
  simp only[zh,jb,h2,yu]
noncomputable def Yc(d:Cb):Bool:=
 Pf d.1&&(Mj d.2.1&&(decide (0≤d.2.2.2.1∧d.2.2.2.1≤1000000)&&(decide (0≤d.2.2.2.2.1∧d.2.2.2.2.1≤d.2.2.2.1)&&(Le d.2.2.1 (Sz d.1.2.2.2.1) d.1.1.1&&(Ug d.2.2.1 d.2.2.2.1&&
  (decide (0≤d.2.2.2.2.2.1∧d.2.2.2.2.2.1≤d.1.1.1)&&decide (0≤d.2.2.2.2.2.2.1∧d.2.2.2.2.2.2.1≤d.2.2.2.1)))))))
theorem GP(d:Cb):Hb Cd d=Hb Rb d.1+Hb (.sl Pm) d.2.2.1:=by
 simp only[Hb,ya,js]
theorem YH(l:List Xa):Hb (.sl Pm) l=l.length:=Ms (e:=Pm) rfl l
theorem KL{e:Gb}(h:Pf e=true):Oe e.2.2.2.1=true:=by
 simp only[Pf,jd]at h
 exact h.2.2.1
theorem QF(d:Cb)(hz:Hb Cd d≤Da):Zq d=some (Yc d,()):=by
 have hz':=hz
 rw[GP,YH]at hz'
 have hz2:=hz'
 rw[Ol,Qt]at hz2
 unfold Zq Yc
 rw[Gz _ (by omega)]
 cases he:Pf d.1 with
 |false=>rfl
 |true=>
  have hh:=Lu (KL he)
  simp only[jb,jg,zh,jk,RN]
  cases Mj d.2.1 with
  |false=>rfl
  |true=>
   rw[MP _ (by omega) hh]
   simp only[jb,jg,zh,jk]
   rw[TN _ _ _ (by omega),SN _ _ (by omega)]
   simp only[jb]
   have key:∀a b c e f g h i j k:Bool,cond a (some (false,())) (cond b (some (false,())) (cond c (some (false,())) (cond e (some (false,())) (cond (!f) (some (false,())) (cond (!g) (some (false,())) (cond h (cond i (cond j (some (k,())) (some (false,()))) (some (false,()))) (some (false,()))))))))=
    some ((((!a&&!b)&&((!c&&!e)&&(f&&(g&&((h&&i)&&(j&&k)))))),()):Bool×Unit):=by
    intro a b c e f g h i j k
    cases a<;>cases b<;>cases c<;>cases e<;>cases f<;>cases g<;>cases h<;>cases i<;>cases j<;>cases k<;>rfl
   erw[key]
   apply Dd
   simp only[jd,yl,decide_eq_true_eq,decide_eq_false_iff_not]
   constructor
   ·rintro⟨⟨h1,h2⟩,⟨h3,h4⟩,h5,h6,⟨h7,h8⟩,h9,h10⟩
    exact⟨⟨by omega,by omega⟩,⟨by omega,by omega⟩,h5,h6,⟨h7,h8⟩,h9,h10⟩
   ·rintro⟨⟨h1,h2⟩,⟨h3,h4⟩,h5,h6,⟨h7,h8⟩,h9,h10⟩
    exact⟨⟨by omega,by omega⟩,⟨by omega,by omega⟩,h5,h6,⟨h7,h8⟩,h9,h10⟩
theorem XF(d:Cb)(hz:Hb Cd d≤Da):Hr d=some (Yc d,()):=by
 have hz':=hz
 rw[GP,YH]at hz'
 have hz2:=hz'
 rw[Ol,Qt]at hz2
 unfold Hr Yc
 rw[Cs _ (by omega)]
 cases he:Pf d.1 with
 |false=>rfl
 |true=>
  have hh:=Lu (KL he)
  simp only[jb,jg,zh,jk,UN,Vc]
  cases Mj d.2.1 with
  |false=>rfl
  |true=>
   rw[OR _ (by omega) hh]
   simp only[jb,jg,zh,jk]
   rw[XM _ _ _ (by omega)]
   simp only[jb,Ug]
   by_cases h0:d.2.2.1.length=0
   ·rw[Ba (show¬((ja d.2.2.1:Nat):Int)>0 by omega),show(((d.2.2.1.length:Nat):Int)==0)=true by simp[h0]]
    simp only[zh,Bool.true_or,jk]
    cases decide (0≤d.2.2.2.1∧d.2.2.2.1≤1000000)<;>cases decide (0≤d.2.2.2.2.1∧d.2.2.2.2.1≤d.2.2.2.1)<;>cases Le d.2.2.1 (Sz d.1.2.2.2.1) d.1.1.1<;>cases decide (0≤d.2.2.2.2.2.1∧d.2.2.2.2.2.1≤d.1.1.1)<;>rfl
   ·obtain⟨x,h1,h2⟩:=X1 (l:=d.2.2.1) (by omega) (by omega)
    rw[Aa (show((ja d.2.2.1:Nat):Int)>0 by omega),h1,show(((d.2.2.1.length:Nat):Int)==0)=false by simp;intro h;rw[h]at h0;simp at h0]
    simp only[zg,jb,yu,h2]
    have e1:decide (ZG d.2.2.1>d.2.2.2.1)=!decide (ZG d.2.2.1≤d.2.2.2.1):=by
     rw[qm];simp only[decide_eq_true_eq,yl,decide_eq_false_iff_not];omega
    rw[e1]
    cases decide (0≤d.2.2.2.1∧d.2.2.2.1≤1000000)<;>cases decide (0≤d.2.2.2.2.1∧d.2.2.2.2.1≤d.2.2.2.1)<;>cases Le d.2.2.1 (Sz d.1.2.2.2.1) d.1.1.1<;>cases decide (ZG d.2.2.1≤d.2.2.2.1)<;>cases decide (0≤d.2.2.2.2.2.1∧d.2.2.2.2.2.1≤d.1.1.1)<;>rfl

def NH{S:Type}(g:Nat→S→S):Nat→S→S
 |0,s=>s
 |n+1,s=>g n (NH g n s)
theorem G0{X R S:Type}{step:X→Option (X⊕R)}(n:Nat)(hn:n<9223372036854775807)(g:Nat→S→S)(s0:S)(I:S→Int→X)(out:S→R)
 (h:∀k,k<n→step (I (NH g k s0) (k:Int))=some (.inl (I (g k (NH g k s0)) (j4 .i64 ((k:Int)+1))))) (he:step (I (NH g n s0) (n:Int))=some (.inr (out (NH g n s0)))):
 Eb step (I s0 0)=some (out (NH g n s0)):=by
 have:=CR (step:=step) (fun k=>I (NH g k s0) (k:Int)) n (out (NH g n s0)) (fun k hk=>by
  rw[h k hk,Ee (by omega)];rfl) he
 exact this
theorem KO{e:Ty}{c:Nat}:∀{w:List (T e)},(∀x∈w,Hb e x≤c)→Hb (.sl e) w≤(c+1)*w.length
 |[],_=>by simp[Hb]
 |x::r,h=>by
  have h1:=h x (by simp)
  have h2:Hb (.sl e) r≤(c+1)*r.length:=KO fun y hy=>h y (by simp[hy])
  have h3:Hb (.sl e) r=ja r+(zd (Hb e) r).sum:=rfl
  have h4:Hb (.sl e) (x::r)=(ja r+1)+(Hb e x+(zd (Hb e) r).sum):=by simp[Hb]
  rw[h4,jw,Nat.mul_add]
  omega
theorem Jb{n:Nat}(h:n≤1073741824):jx n Sa=true:=ji h
theorem S4{α β:Type}(f:α→β):∀(xs:List α) (k:Nat) (o:List β),Oc (fun _ o x=>jf o [f x]) k o xs=o++xs.map f
 |[],_,o=>by simp[Oc]
 |x::r,k,o=>by
  simp only[Oc]
  rw[S4 f r]
  simp
theorem Rh{X R α β:Type}{step:X→Option (X⊕R)}(xs:List α)(f:α→β)(I:List β→Int→X)(out:List β→R)(hn:xs.length≤1073741824)
 (h:∀k (hk:k<xs.length) (o:List β),ja o=k→step (I o (k:Int))=some (.inl (I (jf o [f xs[k]]) (j4 .i64 ((k:Int)+1)))))
 (he:∀o:List β,step (I o (xs.length:Int))=some (.inr (out o))):Eb step (I [] 0)=some (out (xs.map f)):=by
 have:=(Zd (step:=step) xs (fun _ o x=>jf o [f x]) I out (fun k o=>ja o=k) (fun k hk o ho=>⟨h k hk o ho,by simp[ho]⟩) (fun o _=>he o) (by omega) [] rfl).1
 rw[this,S4]
 rfl
theorem AaM(a:List Int):Hb (.sl int) a=a.length:=Ms (e:=int) rfl a
theorem KY(a:List Ia):Hb (.sl Bc) a=a.length:=Ms (e:=Bc) rfl a
theorem Sag(r:Ca):Hb Lb r=r.2.1.length:=by
 show 0+(Hb (.sl int) r.2.1+0)=_
 rw[AaM];omega
theorem VK(r:Ca)(h:r.2.1.length≤Da):EB r=some (r,()):=by
 have h20:Da=1048576:=rfl
 unfold EB
 rw[Jb (by simp;omega)]
 rfl
theorem LH(l:List Int)(h:l.length≤Da):Gk l=some (l,()):=by
 have h20:Da=1048576:=rfl
 unfold Gk
 rw[Jb (by simp;omega)]
 rfl
theorem MM(r:Ca)(h:r.2.1.length≤Da):Hu r=some (r,()):=by
 unfold Hu
 rw[LH _ h]
 rfl
theorem BQ{a:List Qc}(hz:Hb (.sl Wg) a≤Da){k:Nat}(hk:k<a.length):a[k].2.1.2.1.length≤Da:=by
 have h1:Hb (.sl Wg) a=ja a+(zd (Hb Wg) a).sum:=rfl
 have h2:=FF (f:=Hb Wg) hk
 have h3:Hb Wg a[k]=Hb Lb a[k].2.1:=by
  show 0+(Hb Lb a[k].2.1+0)=_
  omega
 rw[Sag]at h3
 omega
theorem RZ(a:List Qc)(hz:Hb (.sl Wg) a≤Da):SE a=some (a.map (fun x=>x.2.1),()):=by
 have h20:Da=1048576:=rfl
 have h1:Hb (.sl Wg) a=ja a+(zd (Hb Wg) a).sum:=rfl
 have hl:=Rh (step:=fun x:(List Ca×List Qc×Int×Int×Unit)×Unit=>Zt x.1.1 x.1.2.1 x.1.2.2.1 x.1.2.2.2.1) a (fun x=>x.2.1)
  (fun o k=>((o,a,(a.length:Int),k,()),())) (fun o=>.inl ((o,()),())) (by omega) (fun k hk o ho=>by
   simp only[Zt]
   rw[Aa (by omega),Ub hk]
   simp only[zg,jb]
   rw[MM _ (BQ hz hk)]
   simp only[jb]
   rw[Jb (by simp only[jw,j6];omega)]
   rfl) (fun o=>by
   simp only[Zt]
   rw[Ba (by omega)]
   rfl)
 unfold SE Bx
 erw[hl]
 rfl
theorem TZ(a:List Qc)(hz:Hb (.sl Wg) a≤Da):CF a=some (a.map (fun x=>x.2.1),()):=by
 have h20:Da=1048576:=rfl
 have h1:Hb (.sl Wg) a=ja a+(zd (Hb Wg) a).sum:=rfl
 have hl:=Rh (step:=fun x:(List Qc×List Ca×Int×Unit)×Unit=>Wu x.1.1 x.1.2.1 x.1.2.2.1) a (fun x=>x.2.1)
  (fun o k=>((a,o,k,()),())) (fun o=>.inl ((o,()),())) (by omega) (fun k hk o ho=>by
   simp only[Wu]
   rw[Aa (by omega),Ub hk]
   simp only[zg,jb]
   rw[VK _ (BQ hz hk)]
   simp only[jb]
   rw[Jb (by simp only[jw,j6];omega)]
   rfl) (fun o=>by
   simp only[Wu]
   rw[Ba (by omega)]
   rfl)
 unfold CF Xx
 erw[hl]
 rfl
def XD(l:List Int)(k:Nat)(x:Int):Bool:=decide (1≤x∧x≤56)&&(decide (k=0)||!decide (l.getD (k-1) 0≥x))
def Rc(r:Ca):Bool:=decide (0≤r.1∧r.1≤15)&&Tf (fun k x=>XD r.2.1 k x) 0 r.2.1
theorem Zaf{l:List Int}{k:Nat}(h0:0<k)(hk:k≤l.length)(hn:l.length≤Da):Wb l (j4 .i64 ((k:Int)-1))=some (l.getD (k-1) 0):=by
 have h20:Da=1048576:=rfl
 rw[Af (by omega) (by omega),show(k:Int)-1=((k-1:Nat):Int) by omega,Ub (by omega)]
 simp[qs,je (show k-1<l.length by omega)]
theorem Iz(r:Ca)(hn:r.2.1.length≤Da):Ep r=some (Rc r,()):=by
 have h20:Da=1048576:=rfl
 have hl:=Gh (step:=fun x=>Fw x.1.1 x.1.2.1 x.1.2.2.1 x.1.2.2.2.1 x.2.1) r.2.1 (fun k x=>XD r.2.1 k x) (fun i=>(((),r.2.1,((ja r.2.1:Nat):Int),i,()),(r,())))
  (.inl ((),())) (.inr ((false,()),())) (by
   intro k hk
   simp only[Fw]
   rw[Aa (show(k:Int)<((ja r.2.1:Nat):Int) by omega),Ub hk]
   simp only[zg,jb,Vm,XD]
   by_cases h0:k=0
   ·subst h0
    rw[Ba (show¬((0:Nat):Int)>0 by omega)]
    simp only[zh]
    cases decide (1≤r.2.1[0]∧r.2.1[0]≤56)<;>rfl
   ·rw[Aa (show(k:Int)>0 by omega),Zaf (by omega) (by omega) hn,Ba h0]
    simp only[zg,jb,yu]
    cases decide (1≤r.2.1[k]∧r.2.1[k]≤56)<;>cases decide (r.2.1.getD (k-1) 0≥r.2.1[k])<;>rfl) (by
   simp only[Fw]
   rw[Ba (by omega)];rfl) (by omega)
 unfold Ep Hz Rc
 by_cases h1:0≤r.1∧r.1≤15
 ·rw[Ba (show¬r.1<0 by omega),Ba (show¬r.1>15 by omega),Aa h1]
  simp only[zh,jk]
  erw[hl]
  cases Tf (fun k x=>XD r.2.1 k x) 0 r.2.1<;>rfl
 ·rw[Ba h1]
  by_cases h2:r.1<0
  ·rw[Aa h2];rfl
  ·rw[Ba h2,Aa (show r.1>15 by omega)];rfl
theorem Bn(r:Ca)(hn:r.2.1.length≤Da):Ip r=some (Rc r,()):=by
 have h20:Da=1048576:=rfl
 have hl:=Gh (step:=fun x=>Qw x.1.1 x.1.2.1 x.2.1) r.2.1 (fun k x=>XD r.2.1 k x) (fun i=>(((),i,()),(r,())))
  (.inl (((),()),(r,()))) (.inr ((false,()),())) (by
   intro k hk
   simp only[Qw]
   rw[Aa (show(k:Int)<((ja r.2.1:Nat):Int) by omega),Ub hk]
   simp only[zg,jb,Vc,XD]
   by_cases h0:k=0
   ·subst h0
    rw[Ba (show¬((0:Nat):Int)>0 by omega)]
    simp only[zh]
    cases decide (1≤r.2.1[0]∧r.2.1[0]≤56)<;>rfl
   ·rw[Aa (show(k:Int)>0 by omega),Zaf (by omega) (by omega) hn,Ba h0]
    simp only[zg,jb,yu]
    cases decide (1≤r.2.1[k]∧r.2.1[k]≤56)<;>cases decide (r.2.1.getD (k-1) 0≥r.2.1[k])<;>rfl) (by
   simp only[Qw]
   rw[Ba (by omega)];rfl) (by omega)
 unfold Ip BA Rc
 erw[hl]
 cases Tf (fun k x=>XD r.2.1 k x) 0 r.2.1 with
 |true=>simp only[zg,jb,qf,Vc,Bool.and_true]
 |false=>cases decide (0≤r.1∧r.1≤15)<;>rfl
def Sx(x:Qc):Bool:=decide (0≤x.1∧x.1≤1000000)&&Rc x.2.1
noncomputable def VE(s:Oa):Bool:=Yc s.1&&(decide (s.2.1.length≤200)&&Tf (fun _ x=>Sx x) 0 s.2.1)
theorem Hag(s:Oa):Hb Zc s=Hb Cd s.1+Hb (.sl Wg) s.2.1:=by
 simp only[Hb,ya,js]
theorem MV(s:Oa)(hz:Hb Zc s≤Da):BF s=some (VE s,())∧RE s=some (VE s,()):=by
 have h20:Da=1048576:=rfl
 rw[Hag]at hz
 have hlen:=V8 (e:=Wg) s.2.1
 have hrep:∀k (hk:k<s.2.1.length),s.2.1[k].2.1.2.1.length≤Da:=fun k hk=>BQ (by omega) hk
 have hs:=Gh (step:=fun x=>Qu x.1.1 x.1.2.1 x.2.1) s.2.1 (fun _ x=>Sx x) (fun i=>(((),i,()),(s,())))
  (.inl (((),()),(s,()))) (.inr ((false,()),())) (by
   intro k hk
   simp only[Qu]
   rw[Aa (show(k:Int)<((ja s.2.1:Nat):Int) by omega),Ub hk]
   simp only[zg,jb,Vc,Sx]
   rw[Bn _ (hrep k hk)]
   simp only[jb]
   cases decide (0≤s.2.1[k].1∧s.2.1[k].1≤1000000)<;>cases Rc s.2.1[k].2.1<;>rfl) (by
   simp only[Qu]
   rw[Ba (by omega)];rfl) (by omega)
 have hi:=Gh (step:=fun x=>Wt x.1.1 x.1.2.1 x.1.2.2.1) s.2.1 (fun _ x=>Sx x) (fun i=>((s.2.1,((ja s.2.1:Nat):Int),i,()),()))
  (.inl ((),())) (.inr ((false,()),())) (by
   intro k hk
   simp only[Wt]
   rw[Aa (show(k:Int)<((ja s.2.1:Nat):Int) by omega),Ub hk]
   simp only[zg,jb,Sx]
   rw[Iz _ (hrep k hk)]
   simp only[jb]
   by_cases h1:0≤s.2.1[k].1∧s.2.1[k].1≤1000000
   ·rw[Ba (show¬s.2.1[k].1<0 by omega),Ba (show¬s.2.1[k].1>1000000 by omega),Aa h1]
    cases Rc s.2.1[k].2.1<;>rfl
   ·rw[Ba h1]
    by_cases h2:s.2.1[k].1<0
    ·rw[Aa h2];rfl
    ·rw[Ba h2,Aa (show s.2.1[k].1>1000000 by omega)];rfl) (by
   simp only[Wt]
   rw[Ba (by omega)];rfl) (by omega)
 refine⟨?_,?_⟩
 ·unfold BF Vx VE
  erw[hs]
  cases Tf (fun _ x=>Sx x) 0 s.2.1 with
  |false=>cases Yc s.1<;>cases decide (s.2.1.length≤200)<;>rfl
  |true=>
   simp only[zg,jb,qf]
   rw[XF _ (by omega)]
   simp only[jb,Bool.and_true]
   have e1:decide (((ja s.2.1:Nat):Int)≤200)=decide (s.2.1.length≤200):=by rw[decide_eq_decide];omega
   rw[e1]
   cases Yc s.1<;>rfl
 ·unfold RE Ax VE
  rw[QF _ (by omega)]
  cases Yc s.1 with
  |false=>rfl
  |true=>
   simp only[jb,jg,zh,jk]
   by_cases h1:s.2.1.length≤200
   ·rw[Ba (show¬((ja s.2.1:Nat):Int)>200 by omega),Aa h1]
    simp only[zh,jk]
    erw[hi]
    cases Tf (fun _ x=>Sx x) 0 s.2.1<;>rfl
   ·rw[Aa (show((ja s.2.1:Nat):Int)>200 by omega),Ba h1];rfl
theorem p63:(2:Nat)^63=9223372036854775808:=rfl
theorem US{a:Nat}(ha:a<2^63):(BitVec.ofInt 64 (a:Int)).toNat=a:=by
 rw[BitVec.ofInt_natCast,BitVec.toNat_ofNat,Nat.mod_eq_of_lt (by omega)]
theorem Yax{a b:Nat}(ha:a<2^63)(hb:b<2^63):Fh .i64 (a:Int) (b:Int)=((a&&&b:Nat):Int):=by
 have h:(BitVec.ofInt (IntKind.bits .i64) (a:Int)&&&BitVec.ofInt (IntKind.bits .i64) (b:Int)).toNat=a&&&b:=by
  rw[BitVec.toNat_and];erw[US ha,US hb]
 unfold Fh
 rw[h]
 have h2:a&&&b≤a:=Nat.and_le_left
 have h3:=p63
 exact Af (by omega) (by omega)
theorem Q7{a b:Nat}(ha:a<2^63)(hb:b<2^63):Xd .i64 (a:Int) (b:Int)=((a|||b:Nat):Int):=by
 have h:(BitVec.ofInt (IntKind.bits .i64) (a:Int)|||BitVec.ofInt (IntKind.bits .i64) (b:Int)).toNat=a|||b:=by
  rw[BitVec.toNat_or];erw[US ha,US hb]
 unfold Xd
 rw[h]
 have h2:a|||b<2^63:=Nat.or_lt_two_pow ha hb
 have h3:=p63
 exact Af (by omega) (by omega)
theorem H2{a b:Nat}(ha:a<2^63)(hb:b<2^63):Ft .i64 (a:Int) (b:Int)=((a^^^b:Nat):Int):=by
 have h:(BitVec.ofInt (IntKind.bits .i64) (a:Int)^^^BitVec.ofInt (IntKind.bits .i64) (b:Int)).toNat=a^^^b:=by
  rw[BitVec.toNat_xor];erw[US ha,US hb]
 unfold Ft
 rw[h]
 have h2:a^^^b<2^63:=Nat.xor_lt_two_pow ha hb
 have h3:=p63
 exact Af (by omega) (by omega)
theorem Day(a:Nat){k:Nat}(hk:k≤64):Mx .i64 (a:Int) (k:Int)=((a>>>k:Nat):Int):=by
 unfold Mx
 have h1:min (jy (k:Int)) (IntKind.bits .i64)=k:=by
  show min (jy (k:Int)) 64=k
  rw[jn];omega
 rw[h1,Nat.shiftRight_eq_div_pow]
 have h2:(2:Int)^k=((2^k:Nat):Int):=by simp
 rw[h2]
 exact(Int.fdiv_eq_ediv_of_nonneg _ (Int.natCast_nonneg _)).trans (by simp)
theorem Cay{a k:Nat}(h:a*2^k<2^63)(hk:k≤64):Ke .i64 (a:Int) (k:Int)=((a<<<k:Nat):Int):=by
 unfold Ke
 have h1:min (jy (k:Int)) (IntKind.bits .i64)=k:=by
  show min (jy (k:Int)) 64=k
  rw[jn];omega
 have h2:(2:Int)^k=((2^k:Nat):Int):=by simp
 have h4:(a:Int)*((2^k:Nat):Int)=((a*2^k:Nat):Int):=by simp
 rw[h1,Nat.shiftLeft_eq,h2,h4]
 have h3:=p63
 generalize a*2^k=z at*
 exact Af (by omega) (by omega)
theorem VO{a k:Nat}(ha:a<2^63)(hk:k≤64):(Jm (a:Int) (k:Int)==1)=a.testBit k:=by
 unfold Jm
 have h1:a>>>k≤a:=by rw[Nat.shiftRight_eq_div_pow];exact Nat.div_le_self _ _
 have h3:=p63
 rw[Day a hk]
 show(Fh .i64 ((a>>>k:Nat):Int) ((1:Nat):Int)==1)=_
 rw[Yax (by omega) (by omega),Nat.and_one_is_mod,Nat.testBit_eq_decide_div_mod_eq,Nat.shiftRight_eq_div_pow]
 have:a/2^k%2=0∨a/2^k%2=1:=by omega
 rcases this with h|h<;>rw[h]<;>rfl
theorem YI{k:Nat}(hk:k≤62):(2:Nat)^k<2^63:=Nat.pow_lt_pow_right (by omega) (by omega)
def cnt:Nat→Nat→Nat
 |0,_=>0
 |k+1,n=>n%2+cnt k (n/2)
def u1(a:Nat):Nat:=((a/2)&&&85)+(a&&&85)
def u2(a:Nat):Nat:=((a/4)&&&51)+(a&&&51)
theorem m3:∀a:Fin 64,∀c:Fin 4,(a.val&&&51)=(a.val+64*c.val)&&&51:=by decide+kernel
def M5:Nat:=6148914691236517205
def M3:Nat:=3689348814741910323
def MF:Nat:=1085102592571150095
def s1(n:Nat):Nat:=(n/2&&&M5)+(n&&&M5)
def s2(n:Nat):Nat:=(n/4&&&M3)+(n&&&M3)
def s3(n:Nat):Nat:=(n/16+n)&&&MF


def rowN(C m r:Nat):Nat:=(m>>>(r*C))&&&(2^C-1)
def FaZ(C a b m:Nat):Nat:=cond (rowN C m a&&&rowN C m b !=0) (m|||rowN C m b<<<(a*C)) m
def g3(C a:Nat):Nat→Nat→Nat:=fun b m=>FaZ C a b m
def g2(C R:Nat):Nat→Nat→Nat:=fun a m=>NH (g3 C a) R m
def g1(C R:Nat):Nat→Nat→Nat:=fun _ m=>NH (g2 C R) R m




theorem Wad{q:List Xa}{d keys:Int}(h:Le q d keys=true):Lx (Va (fun _ s x=>GD s x) 0 (0,d) q)=true:=by
 simp only[Le,CI,Bae,jd]at h
 have h2:=h.2
 cases hf:Va (fun _ s x=>GD s x) 0 (0,d) q with
 |inl s=>rfl
 |inr u=>rw[hf]at h2;cases hd:decide (q.length≤64)<;>rw[hd]at h2<;>simp at h2
theorem Tae{m:Ea}(hz:Hb Bb m≤Da):ja m.2.1≤Da∧∀k (hk:k<m.2.1.length),m.2.1[k].length≤Da:=by
 have h0:Hb Bb m=0+(Hb (.sl (.sl Bc)) m.2.1+0):=rfl
 have h1:Hb (.sl (.sl Bc)) m.2.1=ja m.2.1+(zd (Hb (.sl Bc)) m.2.1).sum:=rfl
 refine⟨by omega,fun k hk=>?_⟩
 have h2:=FF (f:=Hb (.sl Bc)) hk
 rw[KY]at h2
 omega
theorem Gu(m:Ea)(hz:Hb Bb m≤Da):Fu m=some (m,()):=by
 have h20:Da=1048576:=rfl
 obtain⟨h1,h2⟩:=Tae hz
 have hl:=Rh (step:=fun x:(Unit×Unit×List (List Ia)×Int×Int×Unit)×Ea×Ea×Unit=>Ss x.1.1 x.1.2.1 x.1.2.2.1 x.1.2.2.2.1 x.1.2.2.2.2.1 x.2.1 x.2.2.1) m.2.1 (fun x=>x)
  (fun o k=>(((),(),m.2.1,(m.2.1.length:Int),k,()),((0,[],()),(m.1,o,()),()))) (fun o=>.inl (((),(),()),((0,[],()),(m.1,o,()),()))) (by omega) (fun k hk o ho=>by
   have:=h2 k hk
   simp only[Ss]
   rw[Aa (by omega),Ub hk]
   simp only[zg,jb]
   rw[Jb (by simp;omega),Jb (by simp only[jw,j6];omega)]
   rfl) (fun o=>by
   simp only[Ss]
   rw[Ba (by omega)]
   rfl)
 unfold Fu Ov
 erw[hl]
 rw[List.map_id']
 rfl
theorem P8(m:Ea)(hz:Hb Bb m≤Da):DM m=some (m,()):=by
 have h20:Da=1048576:=rfl
 obtain⟨h1,h2⟩:=Tae hz
 have hl:=Rh (step:=fun x:(Unit×Unit×Unit×Int×Unit)×Ea×Ea×Ea×Unit=>WC x.1.1 x.1.2.1 x.1.2.2.1 x.1.2.2.2.1 x.2.1 x.2.2.1 x.2.2.2.1) m.2.1 (fun x=>x)
  (fun o k=>(((),(),(),k,()),(m,(0,[],()),(m.1,o,()),()))) (fun o=>.inl (((),(),()),((0,[],()),(m.1,o,()),()))) (by omega) (fun k hk o ho=>by
   have:=h2 k hk
   simp only[WC]
   rw[Aa (by omega),Ub hk]
   simp only[zg,jb]
   rw[Jb (by simp;omega),Jb (by simp only[jw,j6];omega)]
   rfl) (fun o=>by
   simp only[WC]
   rw[Ba (by omega)]
   rfl)
 unfold DM JE
 erw[hl]
 rw[List.map_id']
 rfl
theorem Jaa{L:List (List Ta)}(hz:Hb (.sl (.sl Qd)) L≤Da):ja L≤Da∧∀k (hk:k<L.length),L[k].length≤Da:=by
 have h1:Hb (.sl (.sl Qd)) L=ja L+(zd (Hb (.sl Qd)) L).sum:=rfl
 refine⟨by omega,fun k hk=>?_⟩
 have h2:=FF (f:=Hb (.sl Qd)) hk
 rw[W8]at h2
 omega
theorem Bo(L:List (List Ta))(hz:Hb (.sl (.sl Qd)) L≤Da):Po L=some (L,()):=by
 have h20:Da=1048576:=rfl
 obtain⟨h1,h2⟩:=Jaa hz
 have hl:=Rh (step:=fun x=>Ts x.1.1 x.1.2.1 x.1.2.2.1 x.1.2.2.2.1) L (fun x=>x)
  (fun o k=>((o,L,((ja L:Nat):Int),k,()),())) (fun o=>.inl ((o,()),())) (by omega) (fun k hk o ho=>by
   have:=h2 k hk
   simp only[Ts]
   rw[Aa (by omega),Ub hk]
   simp only[zg,jb]
   rw[Jb (by simp;omega),Jb (by simp only[jw,j6];omega)]
   rfl) (fun o=>by
   simp only[Ts]
   rw[Ba (by omega)]
   rfl)
 unfold Po Pv
 erw[hl]
 rw[List.map_id']
 rfl
theorem Eu(e:Gb)(hz:Hb Rb e≤Da):Ql e=some (e,()):=by
 have h20:Da=1048576:=rfl
 rw[Ol,Qt]at hz
 unfold Ql
 rw[Gu _ (by omega),Bo _ (by omega),Jb (by simp;omega)]
 rfl
theorem RJ(d:Cb)(hz:Hb Cd d≤Da):Um d=some (d,()):=by
 have h20:Da=1048576:=rfl
 rw[GP,YH]at hz
 unfold Um
 rw[Eu _ (by omega),Jb (by simp;omega)]
 rfl
theorem Gn(e:Gb)(hz:Hb Rb e≤Da):Ml e=some (e,()):=by
 have h20:Da=1048576:=rfl
 rw[Ol,Qt]at hz
 obtain⟨h1,h2⟩:=Jaa (L:=e.2.1) (by omega)
 have hl:=Rh (step:=fun x=>YC x.1.1 x.1.2.1 x.1.2.2.1 x.1.2.2.2.1 x.2.1 x.2.2.1 x.2.2.2.1) e.2.1 (fun x=>x)
  (fun o k=>(((),(),(),k,()),(e,(((0:Int),([]:List (List Ia)),()),([]:List (List Ta)),(0:Int),([]:List La),(0:Int),false,()),(e.1,o,e.2.2),())))
  (fun o=>.inl (((),(),(),()),(e,(((0:Int),([]:List (List Ia)),()),([]:List (List Ta)),(0:Int),([]:List La),(0:Int),false,()),(e.1,o,e.2.2),()))) (by omega) (fun k hk o ho=>by
   have:=h2 k hk
   simp only[YC]
   rw[Aa (by omega),Ub hk]
   simp only[zg,jb]
   rw[Jb (by simp;omega),Jb (by simp only[jw,j6];omega)]
   rfl) (fun o=>by
   simp only[YC]
   rw[Ba (by omega)]
   rfl)
 unfold Ml LE
 rw[P8 _ (by omega)]
 simp only[jb]
 erw[hl]
 rw[List.map_id']
 simp only[jb,qf]
 rw[Jb (by simp;omega)]
 rfl
theorem Nae:∀(a b:List Int),a.length=b.length→Tf (fun k x=>b.getD k 0==x) 0 a=(b==a)
 |a,b,h=>by
  rw[qm,Rt,beq_iff_eq]
  constructor
  ·intro hj
   apply List.ext_getElem h.symm
   intro i h1 h2
   have:=hj i h2
   rw[js,beq_iff_eq,qe,je h1]at this
   exact this
  ·rintro rfl i hi
   rw[js,beq_iff_eq,qe,je hi];rfl
theorem E2(a b:List Int)(hn:a.length≤Sa):VG a b=some (a==b,()):=by
 have hlim:=Zf
 unfold VG
 by_cases h:a.length=b.length
 ·have hl:=Gh (step:=fun x=>Kw x.1.1 x.1.2.1 x.1.2.2.1 x.1.2.2.2.1) a (fun k x=>b.getD k 0==x) (fun i=>((a,b,((ja a:Nat):Int),i,()),()))
   (.inl ((),())) (.inr ((false,()),())) (by
    intro k hk
    simp only[Kw]
    rw[Aa (show(k:Int)<((ja a:Nat):Int) by omega),Ub hk,Ub (show k<b.length by omega),qe,je (show k<b.length by omega)]
    simp only[zg,jb,qz,bne]
    rw[show(a[k]==b[k])=(b[k]==a[k]) by rw[qm,beq_iff_eq,beq_iff_eq];exact eq_comm]
    cases b[k]==a[k]<;>rfl) (by
    simp only[Kw]
    rw[Ba (by omega)];rfl) (by omega)
  have e:(((ja a:Nat):Int) !=((ja b:Nat):Int))=false:=by simp[h]
  rw[e]
  simp only[zh]
  unfold Pz
  erw[hl]
  rw[Nae a b h,show(b==a)=(a==b) by rw[qm,beq_iff_eq,beq_iff_eq];exact eq_comm]
  cases a==b<;>rfl
 ·have e:(((ja a:Nat):Int) !=((ja b:Nat):Int))=true:=by simp;omega
  have e2:(a==b)=false:=by rw[beq_eq_false_iff_ne];intro hh;exact h (by rw[hh])
  rw[e,e2];rfl
theorem Oaz(a b:T Dh)(h1:ja a.2.1≤Sa)(_:ja b.2.1≤Sa):(fun x:T (.p Dh (.p Dh .u))=>Au x.1 x.2.1) (a,b,())=some (Lm a b,()):=by
 show Au a b=_
 unfold Au
 rw[E2 _ _ h1]
 simp only[jb,Lm]
 cases(show Int from a.1)==(show Int from b.1)<;>rfl
theorem Ras(c:T Ze→T Ze→Option Bool)(l:List (T Ze))(hl:ja l≤Sa):∀(ys:List (T Ze)) (k:Nat) (out q:List (T Ze)) (a:T Ze),l.drop k=ys→k≤ja l→ja out+ja ys≤Sa→
 EU c a ys=some q→ZA c (((),out,l,((ja l:Nat):Int),(k:Int),()),(a,()))=some (.inl ((jf out q,()),())):=by
 have hlim:=Zf
 intro ys
 induction ys with
 |nil=>
  intro k out q a hd hk _ hq
  have:=M1 hd hk
  subst this
  simp only[EU,jc]at hq
  subst hq
  have hs:EK c () out l ((ja l:Nat):Int) ((ja l:Nat):Int) a=some (.inr (.inl ((out,()),()))):=by
   unfold EK
   rw[Ba (by omega)];rfl
  unfold ZA
  rw[Zb hs]
  simp
 |cons y ys ih=>
  intro k out q a hd hk hlen hq
  obtain⟨hk',hy,hd'⟩:=MW hd
  simp only[EU]at hq
  cases hc:c a y with
  |none=>rw[hc]at hq;simp at hq
  |some b=>
   rw[hc]at hq
   simp only[jb]at hq
   cases hq2:EU c y ys with
   |none=>rw[hq2]at hq;simp at hq
   |some q2=>
    rw[hq2]at hq
    simp only[jb,jc]at hq
    have hlc:ja (y::ys)=ja ys+1:=rfl
    have hs:EK c () out l ((ja l:Nat):Int) (k:Int) a=some (.inl (((),cond b out (jf out [y]),l,((ja l:Nat):Int),((k+1:Nat):Int),()),(y,()))):=by
     unfold EK EaD
     rw[Aa (show(k:Int)<((ja l:Nat):Int) by omega),Ub hk',hy]
     simp only[zg,jb,hc]
     rw[Ee (by omega)]
     cases b with
     |true=>rfl
     |false=>
      rw[show jx (ja out+ja ([y]:List (Int×((T .o)×Unit)))) Sa=true from ji (by simp only[jw,j6];omega)]
      rfl
    unfold ZA
    rw[Zb hs]
    simp only[jb,qf]
    have:=ih (k+1) (cond b out (jf out [y])) q2 y hd' hk' (by cases b with
     |true=>simp only[zg];omega
     |false=>simp only[zh,ze,qc,jw,j6];omega) hq2
    unfold ZA at this
    rw[this,←hq]
    cases b with
    |true=>rfl
    |false=>simp
theorem ZaD(c:T Ze→T Ze→Option Bool):∀(a:T Ze) (l r:List (T Ze)),ja l≤Sa→EU c a l=some r→(fun x:T (.p Ze (.p (.sl Ze) .u))=>Oap c x.1 x.2.1) (a,l,())=some (r,()):=by
 intro a l r hl hq
 show Oap c a l=_
 unfold Oap
 have:=Ras c l hl l 0 [] r a rfl (Nat.zero_le _) (by simpa using hl) hq
 erw[this]
 rfl
theorem Kaa:∀{a b:List Int},a.Pairwise (·<·)→b.Pairwise (·<·)→(∀x,x∈a↔x∈b)→a=b
 |[],[],_,_,_=>rfl
 |[],y::b,_,_,h=>by have:=(h y).2 (by simp);simp at this
 |x::a,[],_,_,h=>by have:=(h x).1 (by simp);simp at this
 |x::a,y::b,ha,hb,h=>by
  rw[List.pairwise_cons]at ha hb
  have hxy:x=y:=by
   rcases jp.1 ((h x).1 (by simp))with h1|h1
   ·exact h1
   ·rcases jp.1 ((h y).2 (by simp))with h2|h2
    ·exact h2.symm
    ·have:=hb.1 x h1;have:=ha.1 y h2;omega
  subst hxy
  congr 1
  refine Kaa ha.2 hb.2 fun z=>⟨fun hz=>?_,fun hz=>?_⟩
  ·rcases jp.1 ((h z).1 (by simp[hz]))with h1|h1
   ·have:=ha.1 z hz;omega
   ·exact h1
  ·rcases jp.1 ((h z).2 (by simp[hz]))with h1|h1
   ·have:=hb.1 z hz;omega
   ·exact h1
def PV(o:List Int)(x:Int):List Int:=cond ((x !=0)&&!o.any (fun y=>y==x)) (jf o [x]) o
def ddK(k:Nat)(o l:List Int):List Int:=Oc (fun _ o x=>PV o x) k o l
theorem Xas:∀(l:List Int) (k:Nat) (o:List Int) (y:Int),y∈ddK k o l↔y∈o∨(y∈l∧y≠0)
 |[],_,o,y=>by simp[ddK,Oc]
 |x::l,k,o,y=>by
  have:=Xas l (k+1) (PV o x) y
  simp only[ddK,Oc]at this⊢
  rw[this]
  unfold PV
  by_cases h0:x=0
  ·subst h0
   simp only[bne_self_eq_false,qh,zh,jp]
   constructor
   ·rintro(h|⟨h1,h2⟩)
    ·exact .inl h
    ·exact .inr ⟨.inr h1,h2⟩
   ·rintro(h|⟨h1|h1,h2⟩)
    ·exact .inl h
    ·exact absurd h1 h2
    ·exact .inr ⟨h1,h2⟩
  ·by_cases h1:o.any (fun y=>y==x)=true
   ·rw[h1]
    simp only[jg,Bool.and_false,zh,jp]
    have hx:x∈o:=by
     obtain⟨z,hz,e⟩:=qy.1 h1
     rw[beq_iff_eq]at e;rw[←e];exact hz
    constructor
    ·rintro(h|⟨h1,h2⟩)
     ·exact .inl h
     ·exact .inr ⟨.inr h1,h2⟩
    ·rintro(h|⟨h1|h1,h2⟩)
     ·exact .inl h
     ·exact .inl (h1▸hx)
     ·exact .inr ⟨h1,h2⟩
   ·have e:((x !=0)&&!o.any (fun y=>y==x))=true:=by
     simp only[j8]at h1
     rw[h1];simp[h0]
    rw[e]
    simp only[zg,ze,jl,jp,zf,or_false]
    constructor
    ·rintro((h|h)|⟨h1,h2⟩)
     ·exact .inl h
     ·exact .inr ⟨.inl h,by rw[h];exact h0⟩
     ·exact .inr ⟨.inr h1,h2⟩
    ·rintro(h|⟨h1|h1,h2⟩)
     ·exact .inl (.inl h)
     ·exact .inl (.inr h1)
     ·exact .inr ⟨h1,h2⟩
theorem H9:∀(l:List Int) (k:Nat) (o:List Int),o.Pairwise (·<·)→l.Pairwise (·≤·)→(∀y∈o,∀x∈l,y≤x)→(ddK k o l).Pairwise (·<·)
 |[],_,o,ho,_,_=>by simpa[ddK,Oc]using ho
 |x::l,k,o,ho,hl,h=>by
  rw[List.pairwise_cons]at hl
  have key:(PV o x).Pairwise (·<·)∧∀y∈PV o x,∀z∈l,y≤z:=by
   unfold PV
   cases hc:(x !=0)&&!o.any (fun y=>y==x)with
   |false=>exact⟨ho,fun y hy z hz=>h y hy z (by simp[hz])⟩
   |true=>
    simp only[jd,yl,List.any_eq_false,beq_iff_eq]at hc
    simp only[zg,ze]
    refine⟨?_,?_⟩
    ·rw[List.pairwise_append]
     refine⟨ho,by simp,fun y hy z hz=>?_⟩
     simp only[jp,zf,or_false]at hz
     subst hz
     have h1:=h y hy z (by simp)
     have h2:=hc.2 y hy
     omega
    ·intro y hy z hz
     rcases jl.1 hy with hy|hy
     ·exact h y hy z (by simp[hz])
     ·simp only[jp,zf,or_false]at hy
      subst hy
      exact hl.1 z hz
  have:=H9 l (k+1) (PV o x) key.1 hl.2 key.2
  simpa[ddK,Oc]using this
def Mm(l:List La):Nat→List Int
 |0=>[]
 |n+1=>cond (l.any fun h=>h.2.1.2.1==((n+1:Nat):Int)) (Mm l n++[((n+1:Nat):Int)]) (Mm l n)
theorem LI(l:List La):∀(n:Nat) (x:Int),x∈Mm l n↔(1≤x∧x≤(n:Int))∧∃h∈l,h.2.1.2.1=x
 |0,x=>by simp[Mm];intro h1 h2;omega
 |n+1,x=>by
  simp only[Mm]
  cases hc:(l.any fun h=>h.2.1.2.1==((n+1:Nat):Int))with
  |true=>
   simp only[zg,jl,LI l n x,jp,zf,or_false]
   obtain⟨h,hh,e⟩:=qy.1 hc
   rw[beq_iff_eq]at e
   constructor
   ·rintro(⟨h1,h2⟩|rfl)
    ·exact⟨by omega,h2⟩
    ·exact⟨by omega,h,hh,e⟩
   ·rintro⟨h1,h2⟩
    by_cases hx:x=((n+1:Nat):Int)
    ·exact .inr hx
    ·exact .inl ⟨by omega,h2⟩
  |false=>
   simp only[zh,LI l n x]
   rw[List.any_eq_false]at hc
   constructor
   ·rintro⟨h1,h2⟩;exact⟨by omega,h2⟩
   ·rintro⟨h1,h,hh,e⟩
    refine⟨?_,h,hh,e⟩
    have:=hc h hh
    rw[beq_iff_eq]at this
    omega
theorem EN(l:List La):∀n,(Mm l n).Pairwise (·<·)
 |0=>by simp[Mm]
 |n+1=>by
  simp only[Mm]
  cases(l.any fun h=>h.2.1.2.1==((n+1:Nat):Int))with
  |true=>
   simp only[zg]
   rw[List.pairwise_append]
   refine⟨EN l n,by simp,fun y hy z hz=>?_⟩
   simp only[jp,zf,or_false]at hz
   have:=(LI l n y).1 hy
   omega
  |false=>exact EN l n
theorem FU(l:List La):∀n,(Mm l n).length≤n
 |0=>by simp[Mm]
 |n+1=>by
  have:=FU l n
  simp only[Mm]
  cases(l.any fun h=>h.2.1.2.1==((n+1:Nat):Int))<;>simp<;>omega
def Oac(l:List La):Int:=Oc (fun _ s (h:La)=>cond (h.2.1.1==2||h.2.1.1==8) (Xd .i64 s h.2.1.2.2.1) s) 0 0 l
def Kc(l:List La):Ca:=(Oac l,Mm l 56,())
theorem IL{a:Ia}(h:Nb a=true):0≤a.2.1∧a.2.1≤56:=by
 rw[Qb]at h
 unfold Wc at h
 omega
theorem CT(l:List Int)(x:Int)(hn:l.length≤Sa):HG l x=some (l.any (fun y=>y==x),()):=by
 have hlim:=Zf
 have hl:=Gh (step:=fun y=>JC y.1.1 y.1.2.1 y.1.2.2.1 y.1.2.2.2.1) l (fun _ y=>!(y==x)) (fun i=>((x,l,((ja l:Nat):Int),i,()),()))
  (.inl ((),())) (.inr ((true,()),())) (by
   intro k hk
   simp only[JC]
   rw[Aa (show(k:Int)<((ja l:Nat):Int) by omega),Ub hk]
   simp only[zg,jb]
   cases l[k]==x<;>rfl) (by
   simp only[JC]
   rw[Ba (by omega)];rfl) (by omega)
 unfold HG OD
 erw[hl]
 have:∀(l:List Int) (k:Nat),Tf (fun _ y=>!(y==x)) k l=!l.any (fun y=>y==x):=by
  intro l
  induction l with
  |nil=>intro k;rfl
  |cons y l ih=>intro k;simp only[Tf,List.any_cons,ih,Bool.not_or]
 rw[this]
 cases l.any (fun y=>y==x)<;>rfl
theorem VQ(l:List La)(hn:l.length≤Da)(hx:∀h∈l,0≤h.2.1.2.1∧h.2.1.2.1≤56):Gx (l.map fun h=>h.2.1.2.1)=some (Mm l 56,()):=by
 have h20:Da=1048576:=rfl
 have hlim:=Zf
 generalize hcs:(l.map fun h=>h.2.1.2.1)=cs
 have hcl:cs.length=l.length:=by rw[←hcs];simp
 unfold Gx
 rw[LH _ (by omega)]
 simp only[jb,sort_Ints,srt]
 rw[show jx (ja cs) Sa=true from ji (by omega)]
 simp only[zg,jb]
 generalize hss:(List.mergeSort cs fun x y=>decide (x≤y))=ss
 have hsl:ss.length=cs.length:=by rw[←hss];exact List.length_mergeSort _
 have hsm:∀x,x∈ss↔x∈cs:=fun x=>by rw[←hss];exact List.mem_mergeSort
 have hsp:ss.Pairwise (·≤·):=by
  rw[←hss]
  have:=List.pairwise_mergeSort (le:=fun x y:Int=>decide (x≤y)) (by intro a b c;simp;omega) (by intro a b;simp;omega) cs
  exact this.imp (by intro a b h;simpa using h)
 have hl:=(Zd (step:=fun x=>Lz x.1.1 x.1.2.1 x.1.2.2.1 x.1.2.2.2.1) ss (fun _ o x=>PV o x) (fun o i=>((o,ss,((ja ss:Nat):Int),i,()),())) (fun o=>.inl ((o,()),())) (fun k o=>o.length≤k) (by
  intro k hk o ho
  have hd:(PV o ss[k]).length≤k+1:=by
   unfold PV
   cases(ss[k] !=0)&&!o.any (fun y=>y==ss[k])<;>simp<;>omega
  refine⟨?_,hd⟩
  simp only[Lz]
  rw[Aa (show(k:Int)<((ja ss:Nat):Int) by omega),show Ac (ja ss) (k:Int)=true by rw[Mf];exact Aa hk,jn,je hk]
  simp only[zg,jb]
  rw[CT _ _ (by omega),show jx (ja o+ja ([ss[k]]:List Int)) Sa=true from ji (by simp only[jw,j6];omega)]
  simp only[jb,PV]
  cases ss[k] !=0<;>cases o.any (fun y=>y==ss[k])<;>rfl)
  (by
   intro o _
   simp only[Lz]
   rw[Ba (by omega)];rfl) (by omega) [] (jo _)).1
 unfold MB
 erw[hl]
 simp only[jb,qf]
 congr 2
 refine Kaa (H9 ss 0 [] (by simp) hsp (by simp)) (EN l 56) fun x=>?_
 rw[show Oc (fun _ o x=>PV o x) 0 [] ss=ddK 0 [] ss from rfl,Xas,LI,hsm,←hcs]
 simp only[zf,false_or,qk]
 constructor
 ·rintro⟨⟨h,hh,rfl⟩,h0⟩
  have:=hx h hh
  exact⟨by omega,h,hh,rfl⟩
 ·rintro⟨h1,h,hh,rfl⟩
  exact⟨⟨h,hh,rfl⟩,by omega⟩
theorem Wr(l:List La)(hn:l.length≤Da)(hv:Oe l=true):Wd l=some (Kc l,()):=by
 have h20:Da=1048576:=rfl
 have hlim:=Zf
 have hh:=Lu hv
 have hl:=(Zd (step:=fun x=>Hw x.1.1 x.1.2.1 x.1.2.2.1 x.1.2.2.2.1 x.1.2.2.2.2.1 x.1.2.2.2.2.2.1 x.2.1 x.2.2.1) l
  (fun _ (s:Int×List Int) (h:La)=>(cond (h.2.1.1==2||h.2.1.1==8) (Xd .i64 s.1 h.2.1.2.2.1) s.1,jf s.2 [h.2.1.2.1])) (fun s i=>(((),(),s.2,l,((ja l:Nat):Int),i,()),(((0:Int),([]:List Int),()),(s.1,([]:List Int),()),())))
  (fun s=>.inl (((),(),s.2,()),(((0:Int),([]:List Int),()),(s.1,([]:List Int),()),()))) (fun k s=>s.2.length=k) (by
   intro k hk s hs
   refine⟨?_,by simp[hs]⟩
   simp only[Hw]
   rw[Aa (show(k:Int)<((ja l:Nat):Int) by omega),Ub hk]
   simp only[zg,jb]
   rw[show jx (ja s.2+ja ([l[k].2.1.2.1]:List Int)) Sa=true from ji (by simp only[jw,j6];omega)]
   cases l[k].2.1.1==2<;>cases l[k].2.1.1==8<;>rfl)
  (by
   intro s _
   simp only[Hw]
   rw[Ba (by omega)];rfl) (by omega) (0,[]) rfl).1
 have key:∀(l:List La) (k:Nat) (s:Int×List Int),Oc (fun _ (s:Int×List Int) (h:La)=>(cond (h.2.1.1==2||h.2.1.1==8) (Xd .i64 s.1 h.2.1.2.2.1) s.1,jf s.2 [h.2.1.2.1])) k s l=
  (Oc (fun _ s (h:La)=>cond (h.2.1.1==2||h.2.1.1==8) (Xd .i64 s h.2.1.2.2.1) s) k s.1 l,s.2++l.map fun h=>h.2.1.2.1):=by
  intro l
  induction l with
  |nil=>intro k s;simp[Oc]
  |cons x l ih=>intro k s;simp only[Oc];rw[ih];simp
 unfold Wd Kz
 rw[QE _ hn,hv]
 simp only[jb,jg,zh]
 erw[hl]
 rw[key]
 simp only[jb,qf,yg]
 rw[VQ l hn (fun h hm=>IL (hh h hm).act)]
 rfl
theorem B3(l:List La)(hn:l.length≤Da)(c:Nat)(hc:c≤56)(m:Int)(o:List Int)(ho:o.length≤56):
 Wo ((l,(),(),(c:Int),(0:Int),()),(((0:Int),([]:List Int),()),(m,o,()),()))=
  some (.inl ((l,(),(),(c:Int),()),(((0:Int),([]:List Int),()),(m,cond (l.any fun h=>h.2.1.2.1==(c:Int)) (jf o [(c:Int)]) o,()),()))):=by
 have h20:Da=1048576:=rfl
 have hl:=Gh (step:=fun x=>Vu x.1.1 x.1.2.1 x.1.2.2.1 x.1.2.2.2.1 x.1.2.2.2.2.1 x.2.1 x.2.2.1) l (fun _ (h:La)=>!(h.2.1.2.1==(c:Int))) (fun i=>((l,(),(),(c:Int),i,()),(((0:Int),([]:List Int),()),(m,o,()),())))
  (.inl ((l,(),(),(c:Int),()),(((0:Int),([]:List Int),()),(m,o,()),()))) (.inl ((l,(),(),(c:Int),()),(((0:Int),([]:List Int),()),(m,jf o [(c:Int)],()),()))) (by
   intro k hk
   simp only[Vu]
   rw[Aa (show(k:Int)<((ja l:Nat):Int) by omega),Ub hk]
   simp only[zg,jb]
   rw[show jx (ja o+ja ([(c:Int)]:List Int)) Sa=true from ji (by simp only[jw,j6,Zf];omega)]
   cases l[k].2.1.2.1==(c:Int)<;>rfl) (by
   simp only[Vu]
   rw[Ba (by omega)];rfl) (by omega)
 have e:∀(l:List La) (k:Nat),Tf (fun _ (h:La)=>!(h.2.1.2.1==(c:Int))) k l=!l.any fun h=>h.2.1.2.1==(c:Int):=by
  intro l
  induction l with
  |nil=>intro k;rfl
  |cons y l ih=>intro k;simp only[Tf,List.any_cons,ih,Bool.not_or]
 unfold Wo
 erw[hl]
 rw[e]
 cases l.any fun h=>h.2.1.2.1==(c:Int)<;>rfl
theorem Ks(l:List La)(hn:l.length≤Da)(hv:Oe l=true):Ce l=some (Kc l,()):=by
 have h20:Da=1048576:=rfl
 have h1:=(Zd (step:=fun x=>Tw x.1.1 x.1.2.1 x.1.2.2.1 x.1.2.2.2.1 x.2.1 x.2.2.1) l
  (fun _ s (h:La)=>cond (h.2.1.1==2||h.2.1.1==8) (Xd .i64 s h.2.1.2.2.1) s) (fun s i=>((l,(),(),i,()),(((0:Int),([]:List Int),()),(s,([]:List Int),()),())))
  (fun s=>.inl ((l,(),(),()),(((0:Int),([]:List Int),()),(s,([]:List Int),()),()))) (fun _ _=>True) (by
   intro k hk s _
   refine⟨?_,trivial⟩
   simp only[Tw]
   rw[Aa (show(k:Int)<((ja l:Nat):Int) by omega),Ub hk]
   simp only[zg,jb]
   cases l[k].2.1.1==2<;>cases l[k].2.1.1==8<;>rfl)
  (by
   intro s _
   simp only[Tw]
   rw[Ba (by omega)];rfl) (by omega) 0 trivial).1
 have h2:=CR (step:=fun x=>Uu x.1.1 x.1.2.1 x.1.2.2.1 x.1.2.2.2.1 x.2.1 x.2.2.1) (fun k=>((l,(),(),((k+1:Nat):Int),()),(((0:Int),([]:List Int),()),(Oac l,Mm l k,()),()))) 56
  (.inl (((),(),()),(((0:Int),([]:List Int),()),(Oac l,Mm l 56,()),()))) (by
   intro k hk
   simp only[Uu]
   have hlen:=FU l k
   rw[Aa (show((k+1:Nat):Int)≤56 by omega),B3 l hn (k+1) (by omega) (Oac l) (Mm l k) (by omega)]
   simp only[zg,jb,qf]
   rw[Ee (by omega)]
   rfl) (by
   simp only[Uu]
   rw[Ba (by decide)];rfl)
 unfold Ce CA Wx
 rw[AF _ hn,hv]
 simp only[jb,jg,zh]
 erw[h1]
 simp only[jb,qf]
 erw[h2]
 rfl
def WE(c:Int):Bool:=decide (1≤c∧c≤36)||((c==39)||(c==42))
theorem YW(c:Int):FC c=some (WE c,()):=by
 unfold FC WE
 by_cases h1:c≥1
 ·by_cases h2:c≤36
  ·rw[Aa h1,Aa h2,Aa (show 1≤c∧c≤36 by omega)];rfl
  ·rw[Aa h1,Ba h2,Ba (show¬(1≤c∧c≤36) by omega)]
   cases c==39<;>rfl
 ·rw[Ba h1,Ba (show¬(1≤c∧c≤36) by omega)]
  cases c==39<;>rfl
theorem BY(c:Int):RC c=some (WE c,()):=by
 unfold RC WE
 rw[Vc]
 cases decide (1≤c∧c≤36)<;>cases c==39<;>rfl
def Yz(f o:Int)(c:Bool)(a:Ia):Int×Int×Bool×Ia:=
 cond (a.1==2) (cond (a.2.1==0) (f,o,c,a) (f,0,c&&WE a.2.1,a.1,a.2.1,cond ((c&&WE a.2.1)&&(decide (a.2.1≤26)&&(Aj .i64 (Xd .i64 a.2.2.1 o) 2==0))) 2 (Xd .i64 a.2.2.1 o),a.2.2.2))
  (cond (a.1==4) (Ft .i64 f (Ke .i64 1 a.2.2.2.1),o,c,a) (cond (a.1==5) (Aj .i64 (Ke .i64 1 a.2.2.2.1) 1,o,c,a)
   (cond (a.1==8) (f,cond (Fh .i64 o a.2.2.1==a.2.2.1) (Aj .i64 o a.2.2.1) (Xd .i64 o a.2.2.1),c,a) (cond (a.1==10) (f,o,!c,a) (f,o,c,a)))))
theorem XJ{a:Ia}(h:Nb a=true):0≤a.2.2.2.1:=by
 rw[Qb]at h
 unfold Wc at h
 omega
theorem FT(m:Ea)(M:List (List Ta))(f o:Int)(h:List La)(c:Bool)(a:Ia)(ha:Nb a=true):
 Rv (m,M,f,h,o,c,()) a=some ((m,M,(Yz f o c a).1,h,(Yz f o c a).2.1,(Yz f o c a).2.2.1,()),(Yz f o c a).2.2.2,()):=by
 have hn:=XJ ha
 unfold Rv Yz
 rw[Aa hn]
 cases a.1==2 with
 |true=>
  cases a.2.1==0 with
  |true=>rfl
  |false=>
   simp only[zg,zh,YW,jb]
   cases c with
   |false=>rfl
   |true=>
    cases WE a.2.1 with
    |false=>rfl
    |true=>cases decide (a.2.1≤26)<;>cases Aj .i64 (Xd .i64 a.2.2.1 o) 2==0<;>rfl
 |false=>
  cases a.1==4 with
  |true=>rfl
  |false=>
   cases a.1==5 with
   |true=>rfl
   |false=>
    cases a.1==8 with
    |true=>cases Fh .i64 o a.2.2.1==a.2.2.1<;>rfl
    |false=>cases a.1==10<;>rfl
theorem RT(m:Ea)(M:List (List Ta))(f o:Int)(h:List La)(c:Bool)(a:Ia)(ha:Nb a=true):
 Kp (m,M,f,h,o,c,()) a=some ((m,M,(Yz f o c a).1,h,(Yz f o c a).2.1,(Yz f o c a).2.2.1,()),(Yz f o c a).2.2.2,()):=by
 have hn:=XJ ha
 have hcode:=IL ha
 unfold Kp Yz GV
 rw[Aa hn]
 cases a.1==2 with
 |true=>
  by_cases h0:a.2.1=0
  ·rw[Ba (show¬a.2.1>0 by omega),show(a.2.1==0)=true by simp[h0]];rfl
  ·rw[Aa (show a.2.1>0 by omega),show(a.2.1==0)=false by simp[h0]]
   simp only[zg,zh,BY,jb]
   cases WE a.2.1 with
   |false=>cases c<;>rfl
   |true=>
    cases c with
    |false=>rfl
    |true=>cases decide (a.2.1≤26)<;>cases Aj .i64 (Xd .i64 a.2.2.1 o) 2==0<;>rfl
 |false=>
  cases a.1==4 with
  |true=>rfl
  |false=>
   cases a.1==5 with
   |true=>rfl
   |false=>
    cases a.1==8 with
    |true=>cases Fh .i64 o a.2.2.1==a.2.2.1<;>rfl
    |false=>cases a.1==10<;>rfl
theorem JaE:∀f:Fin 16,∀n:Fin 4,∀l:Fin 5,1≤n.val→n.val<l.val→f.val<2^l.val→f.val%2=0→
 0≤Ft .i64 (f.val:Int) (Ke .i64 1 (n.val:Int))∧Ft .i64 (f.val:Int) (Ke .i64 1 (n.val:Int))<((2^l.val:Nat):Int)∧(Ft .i64 (f.val:Int) (Ke .i64 1 (n.val:Int))).tmod 2=0:=by decide+kernel
theorem QaI:∀n:Fin 4,∀l:Fin 5,n.val<l.val→
 0≤Aj .i64 (Ke .i64 1 (n.val:Int)) 1∧Aj .i64 (Ke .i64 1 (n.val:Int)) 1<((2^l.val:Nat):Int)∧(Aj .i64 (Ke .i64 1 (n.val:Int)) 1).tmod 2=0:=by decide+kernel
theorem Yal:∀o m:Fin 16,(0≤Aj .i64 (o.val:Int) (m.val:Int)∧Aj .i64 (o.val:Int) (m.val:Int)≤15)∧(0≤Xd .i64 (o.val:Int) (m.val:Int)∧Xd .i64 (o.val:Int) (m.val:Int)≤15):=by decide+kernel
structure Un(nl:Nat)(f o:Int):Prop where
 f0:0≤f
 f1:f<((2^nl:Nat):Int)
 f2:f.tmod 2=0
 o0:0≤o
 o1:o≤15
structure VR(nl:Nat)(a:Ia):Prop where
 act:Nb a=true
 n1:a.1≠1
 n6:a.1≠6
 n7:a.1≠7
 n:a.1≠9→a.2.2.2.1<(nl:Int)
theorem TaL{a b:Int}(ha:0≤a∧a≤15)(hb:0≤b∧b≤15):0≤Xd .i64 a b∧Xd .i64 a b≤15:=by
 obtain⟨n,rfl⟩:=jv ha.1
 obtain⟨m,rfl⟩:=jv hb.1
 exact(Yal ⟨n,by omega⟩ ⟨m,by omega⟩).2
theorem AaK{a b:Int}(ha:0≤a∧a≤15)(hb:0≤b∧b≤15):0≤Aj .i64 a b∧Aj .i64 a b≤15:=by
 obtain⟨n,rfl⟩:=jv ha.1
 obtain⟨m,rfl⟩:=jv hb.1
 exact(Yal ⟨n,by omega⟩ ⟨m,by omega⟩).1
theorem VaL{nl:Nat}(h:nl≤4):2^nl≤16:=Nat.pow_le_pow_right (n:=2) (by omega) h
theorem Sav{nl:Nat}(hnl:nl≤4){f o:Int}{c:Bool}{a:Ia}(hs:Un nl f o)(ha:VR nl a):
 Un nl (Yz f o c a).1 (Yz f o c a).2.1∧VR nl (Yz f o c a).2.2.2:=by
 have hP:=ha.act
 rw[Qb]at hP
 unfold Wc at hP
 have h16:=VaL hnl
 obtain⟨k,code,mods,n,u⟩:=a
 have hn1:=ha.n1;have hn6:=ha.n6;have hn7:=ha.n7;have hnn:=ha.n
 simp only at hP hn1 hn6 hn7 hnn
 have hf1:=hs.f1
 unfold Yz
 simp only
 by_cases h2:k=2
 ·subst h2
  by_cases h0:code=0
  ·subst h0;exact⟨hs,ha⟩
  ·rw[show((2:Int)==2)=true from rfl,show(code==0)=false by simp[h0]]
   simp only[zg,zh]
   refine⟨⟨hs.f0,hs.f1,hs.f2,by decide,by decide⟩,?_⟩
   have hm:=TaL (a:=mods) (b:=o) (by omega) ⟨hs.o0,hs.o1⟩
   refine⟨?_,hn1,hn6,hn7,hnn⟩
   have hn0:n=0:=by omega
   have hcd:1≤code∧code≤56:=by omega
   rw[Qb]
   cases((c&&WE code)&&(decide (code≤26)&&(Aj .i64 (Xd .i64 mods o) 2==0)))with
   |true=>exact .inr (.inl ⟨rfl,hn0,.inr hcd,.inr ⟨by show(1:Int)≤2;decide,by show(2:Int)≤15;decide⟩,.inl (by show code≠0;omega)⟩)
   |false=>
    refine .inr (.inl ⟨rfl,hn0,.inr hcd,?_,.inl (by show code≠0;omega)⟩)
    show Xd .i64 mods o=0∨1≤Xd .i64 mods o∧Xd .i64 mods o≤15
    omega
 ·rw[show(k==2)=false by simp[h2]]
  simp only[zh]
  by_cases h4:k=4
  ·subst h4
   have hr:1≤n∧n≤3:=by omega
   have hlt:=hnn (by omega)
   obtain⟨fn,hfn⟩:=jv hs.f0
   obtain⟨nn,hnn'⟩:=jv (show 0≤n by omega)
   have hf2:=hs.f2
   rw[hfn]at hf1 hf2
   have hfl:fn<2^nl:=Int.ofNat_lt.1 hf1
   have:=JaE ⟨fn,by omega⟩ ⟨nn,by omega⟩ ⟨nl,by omega⟩ (by show 1≤nn;omega) (by show nn<nl;omega) hfl (by
    rw[Int.tmod_eq_emod_of_nonneg (by omega)]at hf2;show fn%2=0;omega)
   simp only[show((4:Int)==4)=true from rfl,zg]
   rw[hfn,hnn']
   exact⟨⟨this.1,this.2.1,this.2.2,hs.o0,hs.o1⟩,by rw[←hnn'];exact ha⟩
  ·rw[show(k==4)=false by simp[h4]]
   simp only[zh]
   by_cases h5:k=5
   ·subst h5
    have hr:0≤n∧n≤3:=by omega
    have hlt:=hnn (by omega)
    obtain⟨nn,hnn'⟩:=jv (show 0≤n by omega)
    have:=QaI ⟨nn,by omega⟩ ⟨nl,by omega⟩ (by show nn<nl;omega)
    simp only[show((5:Int)==5)=true from rfl,zg]
    rw[hnn']
    exact⟨⟨this.1,this.2.1,this.2.2,hs.o0,hs.o1⟩,by rw[←hnn'];exact ha⟩
   ·rw[show(k==5)=false by simp[h5]]
    simp only[zh]
    by_cases h8:k=8
    ·subst h8
     have hm:0≤mods∧mods≤15:=by omega
     simp only[show((8:Int)==8)=true from rfl,zg]
     cases Fh .i64 o mods==mods with
     |true=>have:=AaK ⟨hs.o0,hs.o1⟩ hm;exact⟨⟨hs.f0,hs.f1,hs.f2,this.1,this.2⟩,ha⟩
     |false=>have:=TaL ⟨hs.o0,hs.o1⟩ hm;exact⟨⟨hs.f0,hs.f1,hs.f2,this.1,this.2⟩,ha⟩
    ·rw[show(k==8)=false by simp[h8]]
     simp only[zh]
     cases k==10<;>exact⟨hs,ha⟩
theorem T9{m:Ea}(hm:BD m)(on:Int){k:Nat}(hk:(k:Int)<m.1):Wk m.2.1.length (Eg m on k) (Hi m.2.1 (Eg m on k) k)=true∧(Hi m.2.1 (Eg m on k) k).1≠1:=by
 have hl:=RD hm on k
 have hrow:=hm.row _ hl
 have hk':k<m.2.1[Eg m on k].length:=by omega
 have hact:=hm.act _ hl k hk'
 rw[VJ hl hk']
 refine⟨hact,?_⟩
 have key:∀n,Hf m.2.1 on k n=0∨(Hi m.2.1 (Hf m.2.1 on k n) k).1≠1:=by
  intro n
  induction n with
  |zero=>exact .inl rfl
  |succ n ih=>
   simp only[Hf]
   cases hc:((Jm on ((n+1:Nat):Int)==1)&&((Hi m.2.1 (n+1) k).1 !=1))with
   |true=>
    simp only[jd,bne_iff_ne]at hc
    exact .inr hc.2
   |false=>exact ih
 rcases key (m.2.1.length-1)with h0|h1
 ·have h0':Eg m on k=0:=h0
  intro h1
  simp only[Wk,jd,yl,Bool.and_eq_false_iff,beq_eq_false_iff_ne]at hact
  rcases hact.1.2 with h2|h2
  ·exact h2 (by rw[h0'];rfl)
  ·exact h2 h1
 ·have e:Hi m.2.1 (Hf m.2.1 on k (m.2.1.length-1)) k=m.2.1[Eg m on k][k]:=VJ hl hk'
  rw[e]at h1
  exact h1
theorem Qam{nl i:Nat}{a:Ia}(h:Wk nl i a=true)(h1:a.1≠1):VR nl (NG a):=by
 have ha:=UD h
 have hP:=ha
 rw[Qb]at hP
 unfold Wc at hP
 unfold NG Df
 rw[ha]
 by_cases h67:a.1=6∨a.1=7
 ·have e:(true&&((a.1==6)||(a.1==7)))=true:=by rcases h67 with h|h<;>rw[h]<;>rfl
  rw[e]
  simp only[zg]
  refine⟨?_,by show(2:Int)≠1;decide,by show(2:Int)≠6;decide,by show(2:Int)≠7;decide,fun _=>?_⟩
  ·rw[Qb]
   exact .inr (.inl ⟨rfl,rfl,.inr (by show 1≤a.2.1∧a.2.1≤56;omega),.inl rfl,.inl (by show a.2.1≠0;omega)⟩)
  ·show(0:Int)<(nl:Int)
   have:=KT h (by omega)
   omega
 ·have e:(true&&((a.1==6)||(a.1==7)))=false:=by
   rw[jk,yt,beq_eq_false_iff_ne,beq_eq_false_iff_ne];omega
  rw[e]
  exact⟨ha,h1,fun h=>h67 (.inl h),fun h=>h67 (.inr h),fun hk=>KT h hk⟩
def OF(m:Ea)(f o:Int)(c:Bool)(h:List La):Gb:=(m,[],f,h,o,c,())
theorem KaE{nl:Nat}{k:Nat}(hk:k≤31){a:Ia}(ha:VR nl a):Oe [((k:Int),a,())]=true:=by
 have e:Px 0 ((k:Int),a,())=true:=by
  simp only[Px,ha.act,jk]
  rw[Aa (show 0≤(k:Int)∧(k:Int)≤31 by omega)]
  have hb:(Jm 0 (k:Int)==1)=false:=by
   have:=VO (a:=0) (k:=k) (by decide) (by omega)
   rw[Nat.zero_testBit]at this
   exact this
  rw[hb]
  simp[ha.n1,ha.n6,ha.n7]
 show Lx (Va _ 0 0 [_])=true
 simp only[Va,Zy,e,zg,Lx]
theorem Uap{m:Ea}(hv:Tb m=true){f o:Int}(hs:Un m.2.1.length f o)(c:Bool){h:List La}(hh:Oe h=true)(hi:∀x∈h,Sk m.1 m.2.1.length x=true):Pf (OF m f o c h)=true:=by
 have hk:=Pd hv
 have e1:Tf (fun _ x=>Sk m.1 m.2.1.length x) 0 h=true:=Rt.2 fun j hj=>hi _ (qi hj)
 show(Tb m&&(decide (([]:List (List Ta)).length≤4)&&(Oe h&&(true&&(Tf (fun _ x=>Sk m.1 m.2.1.length x) 0 h&&
  (decide (0≤f∧f<((2^m.2.1.length:Nat):Int))&&((yc f 2==0)&&decide (0≤o∧o≤15))))))))=true
 rw[hv,hh,e1,Aa (⟨hs.f0,hs.f1⟩:0≤f∧f<((2^m.2.1.length:Nat):Int)),Aa (⟨hs.o0,hs.o1⟩:0≤o∧o≤15),hs.f2]
 rfl
theorem EZ(m:Ea)(f o:Int)(c:Bool)(h:List La):Hb Rb (OF m f o c h)=Hb Bb m+h.length:=by
 rw[Ol,Qt]
 have:Hb (.sl (.sl Qd)) (OF m f o c h).2.1=0:=rfl
 rw[this,js];rfl
theorem Yap{nl:Nat}(h4:nl≤4){f o:Int}(hs:Un nl f o):0≤f∧f≤15:=by
 have:=VaL h4
 have h1:=hs.f1
 have h0:=hs.f0
 omega
theorem L7(e:Gb)(k:Int)(hn:e.2.2.2.1.length≤Da):PL e k=some (Jd (fun h=>h.1==k) 0 e.2.2.2.1,()):=by
 have h20:Da=1048576:=rfl
 have hl:=UL (step:=fun x=>CC x.1.1 x.1.2.1 x.1.2.2.1 x.1.2.2.2.1) e.2.2.2.1 (fun h=>h.1==k) (fun i=>((k,e.2.2.2.1,((ja e.2.2.2.1:Nat):Int),i,()),())) (.inl ((),())) (fun i=>.inr ((i,()),()))
  (by
   intro j hj
   simp only[CC]
   rw[Aa (show(j:Int)<((ja e.2.2.2.1:Nat):Int) by omega),Ub hj]
   simp only[zg,jb]
   cases e.2.2.2.1[j].1==k<;>rfl) (by
   simp only[CC]
   rw[Ba (by omega)];rfl) (by omega)
 unfold PL KD
 erw[hl]
 simp only[jb]
 by_cases hc:Jd (fun h:La=>h.1==k) 0 e.2.2.2.1=-1
 ·rw[if_pos hc,hc];rfl
 ·rw[if_neg hc];rfl
theorem QT(e:Gb)(k:Int)(hn:e.2.2.2.1.length≤Da):MG e k=some (Jd (fun h=>h.1==k) 0 e.2.2.2.1,()):=by
 have h20:Da=1048576:=rfl
 have hl:=UL (step:=fun x=>PC x.1.1 x.1.2.1 x.1.2.2.1 x.2.1) e.2.2.2.1 (fun h=>h.1==k) (fun i=>((k,(),i,()),(e,()))) (.inl ((),())) (fun i=>.inr ((i,()),()))
  (by
   intro j hj
   simp only[PC]
   rw[Aa (show(j:Int)<((ja e.2.2.2.1:Nat):Int) by omega),Ub hj]
   simp only[zg,jb]
   cases e.2.2.2.1[j].1==k<;>rfl) (by
   simp only[PC]
   rw[Ba (by omega)];rfl) (by omega)
 unfold MG CE
 erw[hl]
 simp only[jb]
 by_cases hc:Jd (fun h:La=>h.1==k) 0 e.2.2.2.1=-1
 ·rw[if_pos hc,hc];rfl
 ·rw[if_neg hc];rfl
theorem HY(a b:Ca)(hn:a.2.1.length≤Sa):TC a b=some (Lm a b,()):=by
 have hlim:=Zf
 unfold TC Lm
 simp only[bne]
 cases(show Int from a.1)==(show Int from b.1)with
 |false=>rfl
 |true=>
  by_cases h:a.2.1.length=b.2.1.length
  ·have hl:=Gh (step:=fun x=>Xs x.1.1 x.1.2.1 x.1.2.2.1 x.2.1 x.2.2.1) a.2.1 (fun k x=>b.2.1.getD k 0==x) (fun i=>(((),(),i,()),(a,b,())))
    (.inl ((),())) (.inr ((false,()),())) (by
     intro k hk
     simp only[Xs]
     rw[Aa (show(k:Int)<((ja a.2.1:Nat):Int) by omega),Ub hk,Ub (show k<b.2.1.length by omega),qe,je (show k<b.2.1.length by omega)]
     simp only[zg,jb,qz,bne]
     rw[show(a.2.1[k]==b.2.1[k])=(b.2.1[k]==a.2.1[k]) by rw[qm,beq_iff_eq,beq_iff_eq];exact eq_comm]
     cases b.2.1[k]==a.2.1[k]<;>rfl) (by
     simp only[Xs]
     rw[Ba (by omega)];rfl) (by omega)
   have e:(((ja a.2.1:Nat):Int)==((ja b.2.1:Nat):Int))=true:=by simp[h]
   rw[e]
   simp only[jg,zh,jk]
   unfold Zv
   erw[hl]
   rw[Nae a.2.1 b.2.1 h,show(b.2.1==a.2.1)=(a.2.1==b.2.1) by rw[qm,beq_iff_eq,beq_iff_eq];exact eq_comm]
   cases a.2.1==b.2.1<;>rfl
  ·have e:(((ja a.2.1:Nat):Int)==((ja b.2.1:Nat):Int))=false:=by simp;omega
   have e2:(a.2.1==b.2.1)=false:=by rw[beq_eq_false_iff_ne];intro hh;exact h (by rw[hh])
   rw[e,e2];rfl
def chF(s:Ca×List Ca)(x:Ca):Ca×List Ca:=(x,cond (Lm s.1 x) s.2 (jf s.2 [x]))
theorem Had:∀(l:List Ca) (k:Nat) (a:Ca) (o:List Ca),(Oc (fun _ s x=>chF s x) k (a,o) l).2=jf o (Wy Lm a l)
 |[],_,_,o=>by simp[Oc,Wy]
 |x::l,k,a,o=>by
  have ih:=Had l (k+1) x (cond (Lm a x) o (jf o [x]))
  show(Oc (fun _ s x=>chF s x) (k+1) (x,cond (Lm a x) o (jf o [x])) l).2=_
  rw[ih]
  simp only[Wy]
  cases Lm a x<;>simp
theorem LR(a:Ca)(l:List Ca)(hn:l.length≤Da)(ha:a.2.1.length≤Da)(hx:∀x∈l,x.2.1.length≤Da):Lh a l=some (Wy Lm a l,()):=by
 have h20:Da=1048576:=rfl
 have hlim:=Zf
 have hl:=(Zd (step:=fun x=>Cv x.1.1 x.1.2.1 x.1.2.2.1 x.1.2.2.2.1 x.2.1) l (fun _ s x=>chF s x) (fun s i=>((l,(),s.2,i,()),(s.1,()))) (fun s=>.inl ((s.2,()),())) (fun k s=>s.2.length≤k∧s.1.2.1.length≤Da) (by
  intro k hk s ⟨hs1,hs2⟩
  have hxk:=hx _ (qi hk)
  refine⟨?_,?_,hxk⟩
  ·simp only[Cv]
   rw[Aa (show(k:Int)<((ja l:Nat):Int) by omega),Ub hk]
   simp only[zg,jb]
   rw[HY _ _ (by omega),VK _ hxk]
   simp only[jb,chF]
   rw[show jx (ja s.2+ja ([l[k]]:List Ca)) Sa=true from ji (by simp only[jw,j6];omega)]
   cases Lm s.1 l[k]<;>rfl
  ·unfold chF
   cases Lm s.1 l[k]with
   |true=>show s.2.length≤k+1;omega
   |false=>show(jf s.2 [l[k]]).length≤k+1;simp;omega)
  (by
   intro s _
   simp only[Cv]
   rw[Ba (by omega)];rfl) (by omega) (a,[]) ⟨jo _,ha⟩).1
 unfold Lh Cy
 erw[hl]
 have:=Had l 0 a []
 simp only[jb,qf]
 rw[this];simp
theorem SQ(a:Ca)(l:List Ca)(hn:l.length≤Da)(ha:a.2.1.length≤Da)(hx:∀x∈l,x.2.1.length≤Da):Gf a l=some (Wy Lm a l,()):=by
 have h20:Da=1048576:=rfl
 have hlim:=Zf
 unfold Gf Nap
 have e:(jx (ja l) Sa&&(DQ a&&l.all DQ))=true:=by
  rw[jd,jd,yx]
  refine⟨ji (by omega),ji (by show ja a.2.1≤_;omega),fun x hm=>ji ?_⟩
  have:=hx x hm
  show ja x.2.1≤_
  omega
 rw[e];rfl
theorem CP:∀(l:List Ca) (a:Ca),(Wy Lm a l).length≤l.length
 |[],_=>by simp[Wy]
 |x::l,a=>by
  have:=CP l x
  simp only[Wy]
  cases Lm a x<;>simp<;>omega
theorem ZI(l:List La):(Kc l).2.1.length≤56:=FU l 56
theorem DK:∀(l:List Ca) (a x:Ca),x∈Wy Lm a l→x∈l
 |[],_,x,h=>by simp[Wy]at h
 |y::l,a,x,h=>by
  simp only[Wy]at h
  cases hs:Lm a y with
  |true=>rw[hs]at h;exact jr _ (DK l y x h)
  |false=>
   rw[hs]at h
   rcases jp.1 h with h|h
   ·exact h▸List.mem_cons_self ..
   ·exact jr _ (DK l y x h)
noncomputable def Hax(m:Ea)(f:Int)(k:Nat):Ia:=NG (Hi m.2.1 (Eg m (Xd .i64 1 f) k) k)
noncomputable def stK(m:Ea)(f o:Int)(c:Bool)(k:Nat):Int×Int×Bool×Ia:=Yz f o c (Hax m f k)
noncomputable def hK(m:Ea)(f o:Int)(c:Bool)(k:Nat):List La:=[((k:Int),(stK m f o c k).2.2.2,())]
structure Wp(m:Ea):Prop where
 v:Tb m=true
 z:Hb Bb m≤Da-10
theorem NaH{m:Ea}(hM:Wp m){f o:Int}{c:Bool}(hs:Un m.2.1.length f o){k:Nat}(hk:(k:Int)<m.1):
 VR m.2.1.length (Hax m f k)∧Un m.2.1.length (stK m f o c k).1 (stK m f o c k).2.1∧VR m.2.1.length (stK m f o c k).2.2.2∧Oe (hK m f o c k)=true∧
  (∀x∈hK m f o c k,Sk m.1 m.2.1.length x=true):=by
 have hm:=Pd hM.v
 have h1:=T9 hm (Xd .i64 1 f) hk
 have h2:=Qam h1.1 h1.2
 have h3:=Sav (c:=c) hm.l2 hs h2
 refine⟨h2,h3.1,h3.2,KaE (by have:=hm.k2;omega) h3.2,fun x hx=>?_⟩
 simp only[hK,jp,zf,or_false]at hx
 subst hx
 simp only[Sk,jd,yl,Bool.and_eq_false_iff,decide_eq_false_iff_not]
 refine⟨by omega,?_⟩
 by_cases h9:(stK m f o c k).2.2.2.1=9
 ·exact .inl (by show((stK m f o c k).2.2.2.1 !=9)=false;simp[h9])
 ·exact .inr (Int.not_le.2 (h3.2.n h9))
theorem z20{m:Ea}(hM:Wp m)(f o:Int)(c:Bool)(h:List La)(hh:h.length≤1):Hb Rb (OF m f o c h)≤Da:=by
 have h20:Da=1048576:=rfl
 have:=hM.z
 rw[EZ];omega
theorem HR(l:List La):(Kc l).2.1.length≤Da:=by
 have h20:Da=1048576:=rfl
 have:=ZI l
 omega
theorem UaT:Oe []=true:=rfl
theorem JG{m:Ea}(hv:Tb m=true):Wp m:=by
 have hm:=Pd hv
 refine⟨hv,?_⟩
 have h20:Da=1048576:=rfl
 have h1:Hb Bb m=0+(Hb (.sl (.sl Bc)) m.2.1+0):=rfl
 have h2:Hb (.sl (.sl Bc)) m.2.1≤(32+1)*ja m.2.1:=KO (e:=.sl Bc) (c:=32) fun x hx=>by
  obtain⟨i,hi,rfl⟩:=qj hx
  rw[KY]
  have:=hm.row i hi
  have:=hm.k2
  omega
 have:=hm.l2
 omega


def Nj(p:Int→Bool):Nat→List Int
 |0=>[]
 |n+1=>cond (p ((n+1:Nat):Int)) (Nj p n++[((n+1:Nat):Int)]) (Nj p n)
theorem ZQ(p:Int→Bool):∀(n:Nat) (x:Int),x∈Nj p n↔(1≤x∧x≤(n:Int))∧p x=true
 |0,x=>by simp[Nj];intro h1 h2;omega
 |n+1,x=>by
  simp only[Nj]
  cases hc:p ((n+1:Nat):Int)with
  |true=>
   simp only[zg,jl,ZQ p n x,jp,zf,or_false]
   constructor
   ·rintro(⟨h1,h2⟩|rfl)
    ·exact⟨by omega,h2⟩
    ·exact⟨by omega,hc⟩
   ·rintro⟨h1,h2⟩
    by_cases hx:x=((n+1:Nat):Int)
    ·exact .inr hx
    ·exact .inl ⟨by omega,h2⟩
  |false=>
   simp only[zh,ZQ p n x]
   constructor
   ·rintro⟨h1,h2⟩;exact⟨by omega,h2⟩
   ·rintro⟨h1,h2⟩
    refine⟨?_,h2⟩
    by_cases hx:x=((n+1:Nat):Int)
    ·rw[hx,hc]at h2;simp at h2
    ·omega
theorem EX(p:Int→Bool):∀n,(Nj p n).length≤n
 |0=>by simp[Nj]
 |n+1=>by
  have:=EX p n
  simp only[Nj]
  cases p ((n+1:Nat):Int)<;>simp<;>omega
theorem EP(l:List La):∀n,Mm l n=Nj (fun c=>l.any fun h=>h.2.1.2.1==c) n
 |0=>rfl
 |n+1=>by simp only[Mm,Nj,EP l n]
theorem C2(cs:List Int)(hn:cs.length≤Da)(hx:∀c∈cs,0≤c∧c≤56):Gx cs=some (Nj (fun c=>cs.any (fun y=>y==c)) 56,()):=by
 have:=VQ (cs.map fun c=>((0,(0,c,0,0,()),()):La)) (by simpa using hn) (fun h hh=>by
  obtain⟨c,hc,rfl⟩:=qk.1 hh
  exact hx c hc)
 rw[List.map_map]at this
 have e:zd ((fun h:La=>h.2.1.2.1)∘fun c=>((0,(0,c,0,0,()),()):La)) cs=cs:=by
  rw[show((fun h:La=>h.2.1.2.1)∘fun c=>((0,(0,c,0,0,()),()):La))=id from rfl,List.map_id]
 rw[e]at this
 rw[this,EP]
 congr 3
 funext c
 rw[List.any_map]
 rfl
def Paq(s:Int)(D:List Lc):Int:=Oc (fun _ s (p:Lc)=>Xd .i64 s p.2.1) 0 s D
def IH(b:Ca)(D:List Lc):Ca:=(Paq b.1 D,Nj (fun c=>b.2.1.any (fun y=>y==c)||D.any (fun p=>p.1==c)) 56,())
theorem SZ(b:Ca)(D:List Lc)(hb:b.2.1.length≤56)(hD:D.length≤1000)(hbx:∀c∈b.2.1,0≤c∧c≤56)(hDx:∀p∈D,0≤p.1∧p.1≤56):
 Fg b D=some (IH b D,()):=by
 have h20:Da=1048576:=rfl
 have hl:=(Zd (step:=fun x=>Ku x.1.1 x.1.2.1 x.1.2.2.1 x.1.2.2.2.1 x.1.2.2.2.2.1 x.1.2.2.2.2.2.1 x.2.1 x.2.2.1) D
  (fun _ (s:Int×List Int) (p:Lc)=>(Xd .i64 s.1 p.2.1,jf s.2 [p.1])) (fun s i=>(((),(),s.2,D,((ja D:Nat):Int),i,()),(((0:Int),([]:List Int),()),(s.1,([]:List Int),()),())))
  (fun s=>.inl (((),(),s.2,()),(((0:Int),([]:List Int),()),(s.1,([]:List Int),()),()))) (fun k s=>s.2.length=b.2.1.length+k) (by
   intro k hk s hs
   refine⟨?_,by simp[hs];omega⟩
   simp only[Ku]
   rw[Aa (show(k:Int)<((ja D:Nat):Int) by omega),Ub hk]
   simp only[zg,jb]
   rw[show jx (ja s.2+ja ([D[k].1]:List Int)) Sa=true from ji (by simp only[jw,j6,Zf];omega)]
   rfl)
  (by
   intro s _
   simp only[Ku]
   rw[Ba (by omega)];rfl) (by omega) (b.1,b.2.1) (by simp)).1
 have key:∀(D:List Lc) (k:Nat) (s:Int×List Int),Oc (fun _ (s:Int×List Int) (p:Lc)=>(Xd .i64 s.1 p.2.1,jf s.2 [p.1])) k s D=
  (Oc (fun _ s (p:Lc)=>Xd .i64 s p.2.1) k s.1 D,s.2++D.map fun p=>p.1):=by
  intro D
  induction D with
  |nil=>intro k s;simp[Oc]
  |cons x D ih=>intro k s;simp only[Oc];rw[ih];simp
 unfold Fg Kx
 rw[LH _ (by omega)]
 simp only[jb]
 erw[hl]
 rw[key]
 simp only[jb,qf]
 rw[C2 _ (by simp;omega) (fun c hc=>by
  rcases jl.1 hc with h|h
  ·exact hbx c h
  ·obtain⟨p,hp,rfl⟩:=qk.1 h
   exact hDx p hp)]
 simp only[jb,IH,Paq]
 congr 4
 apply congrArg (fun p=>Nj p 56)
 funext c
 rw[List.any_append,List.any_map]
 rfl
end KF
