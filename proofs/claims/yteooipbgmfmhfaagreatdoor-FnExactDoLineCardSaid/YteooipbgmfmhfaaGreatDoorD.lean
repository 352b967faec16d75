/- An evaluator of Go functions on plain data, its soundness, and plain laws on what the functions compute, part 4 (conditions: as each lemma tells). -/
import Derived.Test.YteooipbgmfmhfaaGreatDoorC
set_option linter.unusedSimpArgs false
set_option linter.unusedVariables false
namespace KF
open Go
open List renaming length → ja, getElem?_eq_getElem → je, append → jf, mem_append → jl, mem_cons → jp, mem_cons_of_mem → jr, length_cons → jw, set → j5, length_nil → j6, length_set → j7, mem_singleton → qc, length_append → qd, getD_eq_getElem?_getD → qf, getElem_mem → qj, getElem_of_mem → qk, mem_map → ql, getElem?_set_self → qm, length_drop → qn, ext_getElem? → qr, drop_drop → qs, toArray → qt, getD → qu, getElem?_eq_none → qv, mem_append_left → qw, mem_append_right → qx, any_eq_true → q0, append_assoc → q7, eq_nil_of_length_eq_zero → q9, getElem?_eq_some_iff → ya, length_eq_one_iff → yb, replicate → yf, nil_append → yi, cons_append → yj, map_cons → ym, nodup_cons → yo, nodup_append → yp, size_toArray → yq, flatten_cons → yr, length_map → yu, mem_map_of_mem → yx, map_append → yy, all_eq_true → yz, append_nil → y3, range → zb, map → zg, append_eq → zh, not_mem_nil → zi
open Option renaming bind_some → jb, bind → jz, map_some → qb, bind_eq_some_iff → qe, getD_some → q6, map_eq_some_iff → za
open Option.some renaming injEq → jc, inj → zf
open Bool renaming and_eq_true → jd, not_true → jg, true_and → jk, false_eq_true → jq, not_false → j8, not_eq_true → j9, false_and → qi, eq_iff_iff → qo, or_eq_true → qz, not_eq_true' → yn, or_eq_false_iff → yv, false_or → yw
open Prod.mk renaming injEq → jh
open Nat renaming ble_eq_true_of_le → ji, mul_le_mul_right → jm, le_refl → jo, zero_add → js, add_assoc → jt, eq_of_beq_eq_true → ju, ble → jx, le_trans → qa, lt_of_lt_of_le → qh, beq → qy, le_of_ble_eq_true → q8, add_zero → yc, blt → yd, blt_eq → yg, add_mul → yh, beq_refl → yl, succ_mul → yt, zero_le → zd
open Int renaming toNat_natCast → jn, eq_ofNat_of_zero_le → jv, toNat → jy, tmod → ye
open Go.IntKind renaming wrap → j4
open Sum renaming elim_inl → qg
open Result renaming andThen_ok → qp
open Sem renaming run_bind → qq
open List.cons renaming injEq → yk
open Sum.inl renaming injEq → ze
abbrev int:Ty:=.i .i64
abbrev OU:Ty:=.i .u8
abbrev Zh:Ty:=(.p int (.p int .u))
abbrev Rc:Type:=(Int×(Int×Unit))
abbrev Jb:Ty:=(.p int (.p (.sl int) .u))
abbrev Ca:Type:=(Int×((List Int)×Unit))
abbrev De:Ty:=(.p int (.p int (.p .b .u)))
abbrev Ya:Type:=(Int×(Int×(Bool×Unit)))
abbrev Xb:Ty:=(.p int Zh)
abbrev Ua:Type:=(Int×Rc)
abbrev ZaB:Type:=((List Int)×Rc)
abbrev Db:Ty:=(.p int Xb)
abbrev Ma:Type:=(Int×Ua)
abbrev Fd:Ty:=(.p int (.p Jb .u))
abbrev Lc:Type:=(Int×(Ca×Unit))
abbrev Jf:Ty:=(.p int (.p Db .u))
abbrev Pa:Type:=(Int×(Ma×Unit))
abbrev Xa:Ty:=(.p int (.p (.sl (.sl Db)) .u))
abbrev Ia:Type:=(Int×((List (List Ma))×Unit))
abbrev Vbh:Ty:=(.p De (.p De .u))
abbrev Mb:Ty:=(.p Xa (.p (.sl (.sl Xb)) (.p int (.p (.sl Jf) (.p int (.p .b .u))))))
abbrev Gb:Type:=(Ia×((List (List Ua))×(Int×((List Pa)×(Int×(Bool×Unit))))))
abbrev Ac:Ty:=(.p Mb (.p Xb (.p (.sl De) Db)))
abbrev Ab:Type:=(Gb×(Ua×((List Ya)×Ma)))
abbrev Bc:Ty:=(.p Ac (.p (.sl Fd) .u))
abbrev Qa:Type:=(Ab×((List Lc)×Unit))
abbrev DL:Type:=Ua
def GK:List UInt8:=[97,32,98,32,99,32,100,32,101,32,102,32,103,32,104,32,105,32,106,32,107,32,108,32,109,32,110,32,111,32,112,32,113,32,114,32,115,32,116,32,117,32,118,32,119,32,120,32,121,32,122,32,49,32,50,32,51,32,52,32,53,32,54,32,55,32,56,32,57,32,48,32,101,110,116,101,114,32,101,115,99,32,98,97,99,107,32,116,97,98,32,115,112,97,99,101,32,109,105,110,117,115,32,101,113,117,97,108,32,108,101,102,116,32,114,105,103,104,116,32,117,112,32,100,111,119,110,32,102,49,32,102,50,32,102,51,32,102,52,32,102,53,32,102,54,32,102,55,32,102,56,32,102,57]
def JT:List UInt8:=[67,83,65,71]
def Kp:List UInt8:=[109,97,99,114,111]
def Jk:List UInt8:=[110,111,110,101]
def Ik:List UInt8:=[112,97,115,115]
def Pg:List UInt8:=[111,110,99,101,58]
def Gj:List UInt8:=[109,97,99,114,111,58]
def Fj:List UInt8:=[99,97,112,115]
def Gm:List UInt8:=[115,112,97,99,101]
def Em:List UInt8:=[109,105,110,117,115]
def Dm:List UInt8:=[101,113,117,97,108]
def Fm:List UInt8:=[101,110,116,101,114]
def Hj:List UInt8:=[33,64,35,36,37,94,38,42,40,41]
def Wd:List UInt8:=[48,49,50,51,52,53,54,55,56,57,97,98,99,100,101,102]
def CG:List UInt8:=[107,101,121,109,97,112]
def PB:List UInt8:=[108,97,121,101,114,115]
def QB:List UInt8:=[114,101,112,111,114,116]
def OB:List UInt8:=[113,117,101,117,101]
def NB:List UInt8:=[116,121,112,101,100]
def Pk:List UInt8:=[107,101,121,115,32]
def Za:List UInt8:=[119,104,97,116]
def Jc:List UInt8:=[119,97,105,116]
def Qk:List UInt8:=[109,97,99,114,111,32]
def Ad:List UInt8:=[100,111,119,110]
def Ed:List UInt8:=[116,105,109,105,110,103]
def Zb:List UInt8:=[119,97,121,32]
def ZN:List UInt8:=[107,101,121,115]
noncomputable section
open Option renaming bind→ob
open Go.IntKind renaming wrap→wr
open Int renaming toNat→tn
open List renaming length→ln,append→ap,set→ls
open Sum renaming elim→se
open Nat renaming ble→bl
abbrev Gd:Type:=Int×Unit
abbrev Cc:Type:=List UInt8
abbrev Id:Type:=Bool×Unit
abbrev Re:Type:=Unit×Unit
abbrev Rd:Type:=List Int
abbrev Nl:Type:=Ia×Unit
abbrev Wh:Type:=List Ya
abbrev Li:Type:=List Ma
abbrev Uf:Type:=List Ua
abbrev He:Type:=List Pa
abbrev Eg:Type:=List Ca
abbrev Xe:Type:=List Lc
abbrev FJ:Type:=List Rc
abbrev Ke:Type:=List Cc
abbrev Ns:Type:=Unit×Gd
abbrev Haa:Type:=Rd×Rc
abbrev Iaa:Type:=Gd×Unit
abbrev Hi:Type:=Cc×Unit
abbrev Ho:Type:=Gb×Unit
abbrev Mba:Type:=Ya×Unit
abbrev C5:Type:=Unit×Rc
abbrev ZV:Type:=Qa×Unit
abbrev Ii:Type:=Ca×Unit
abbrev Hn:Type:=Ca×Ii
abbrev TL:Type:=Rd×Unit
abbrev Pi:Type:=List Li
abbrev LC:Type:=Ia×Nl
abbrev Uh:Type:=List Uf
abbrev UL:Type:=Rd×Gd
abbrev D5:Type:=Int×(Wh×Rc)
abbrev Nai:Type:=FJ×Rc
abbrev E5:Type:=List Rd
abbrev RT:Type:=Ab×Unit
abbrev Oai:Type:=Unit×Ns
abbrev MC:Type:=Id×Unit
abbrev Zt:Type:=Re⊕MC
abbrev Say:Type:=Wh×Unit
abbrev NQ:Type:=Unit×Re
abbrev DG:Type:=Ke×Rc
abbrev EG:Type:=Ua×Unit
abbrev ST:Type:=Cc×Gd
abbrev F5:Type:=He×Rc
abbrev Au:Type:=Ma×Unit
abbrev GJ:Type:=Ke×Gd
abbrev Tay:Type:=(He×(Unit×(Unit×(Rd×(Int×(Bool×Gd))))))×Hn
abbrev Pai:Type:=Int×(Int×(Li×Rc))
abbrev Iz:Type:=Qa×ZV
abbrev TT:Type:=List (Int×Rd)
abbrev NC:Type:=Pi×Rc
abbrev G5:Type:=Int×Id
abbrev Qai:Type:=Iaa⊕Re
abbrev OQ:Type:=Ke×Unit
abbrev MZ:Type:=(TL×Unit)⊕Re
abbrev EaP:Type:=Unit×Ua
abbrev Rai:Type:=Wh×Gd
abbrev NZ:Type:=Xe×Rc
abbrev Jaa:Type:=Rc×Unit
abbrev Sai:Type:=(He×(He×Gd))×Unit
abbrev Uay:Type:=Int×Ns
abbrev H5:Type:=(Rd×UL)×Unit
abbrev Kaa:Type:=Unit×(Xe×Unit)
abbrev PQ:Type:=Re⊕Iaa
abbrev UT:Type:=Eg×Unit
abbrev VL:Type:=Iaa⊕Iaa
abbrev I5:Type:=Unit×Oai
abbrev AW:Type:=(Int×F5)×Unit
abbrev J5:Type:=(OQ×Unit)⊕Re
abbrev OZ:Type:=(He×Oai)×Hn
abbrev Tai:Type:=Unit×Haa
abbrev K5:Type:=Ab×(Xe×Id)
abbrev QQ:Type:=Uh×Rc
abbrev Vay:Type:=Gb×Ho
abbrev RQ:Type:=Uf×Rc
abbrev Way:Type:=Int×Haa
abbrev Uai:Type:=(Int×Uay)×Nl
abbrev Xay:Type:=Eg×Id
abbrev Yay:Type:=(Unit×(E5×((List Bool)×UL)))×Nl
abbrev Vai:Type:=(Xe×(Xe×Gd))×Unit
abbrev Wai:Type:=(Pi×(Pi×Gd))×Unit
abbrev Xai:Type:=(Uh×(Uh×Gd))×Unit
abbrev Yai:Type:=(Cc×(Int×DG))×Unit
abbrev W9:Type:=(Li×(Li×Gd))×Unit
abbrev X9:Type:=(Uf×(Uf×Gd))×Unit
abbrev KU:Type:=Qa×Hi
abbrev Y9:Type:=Rd×Id
abbrev J2:Type:=(UT×Unit)⊕Re
abbrev Paj:Type:=((Unit×(Unit×TL))×Hn)⊕Re
abbrev AaC:Type:=(Cc×(Unit×(Unit×(Li×(Ke×(Int×(Int×DG)))))))×LC
abbrev HY:Type:=Haa×Unit
abbrev NR:Type:=F5×Unit
abbrev IY:Type:=Rd×Haa
abbrev OR:Type:=NZ×Unit
abbrev Z9:Type:=Unit×UL
abbrev GaX:Type:=Unit×NQ
abbrev Aaa:Type:=Unit×GJ
abbrev BaC:Type:=Tay⊕(((He×(Unit×(Unit×(Rd×G5))))×Hn)⊕Re)
abbrev Qaj:Type:=(Unit×Kaa)×(Ab×RT)
abbrev HaX:Type:=(TL×Unit)⊕(Y9×Unit)
abbrev Raj:Type:=(Eg×(Unit×ST))×Ii
abbrev Baa:Type:=(Hi×Unit)⊕Re
abbrev IaX:Type:=(UL×Unit)⊕Re
abbrev CaC:Type:=(Rd×ZaB)×Unit
abbrev Caa:Type:=(Wh×Rc)×Unit
abbrev Daa:Type:=(Li×Rc)×Unit
abbrev DaC:Type:=G5×Unit
abbrev Eaa:Type:=Unit×(Ke×Haa)
abbrev Saj:Type:=(Unit×(TT×TL))×Nl
abbrev Faa:Type:=(Wh×Rai)×Unit
abbrev EaC:Type:=(Unit×(Cc×(Unit×(Eg×(Int×Way)))))×Hn
abbrev FaC:Type:=(Unit×(Xe×(Int×((Eg×Int)×Gd))))×RT
abbrev Gaa:Type:=(Int×ST)×Unit
abbrev GaC:Type:=(Unit×(E5×((List Bool)×(Rd×Ua))))×Nl
abbrev Xf:Qa:=((((0,[],()),[],0,[],0,false,()),(0,0,0,()),[],0,0,0,0,()),[],())
abbrev Kg:Ab:=(((0,[],()),[],0,[],0,false,()),(0,0,0,()),[],0,0,0,0,())
abbrev Zy:Gb:=((0,[],()),[],0,[],0,false,())
def Yc(a0:Int)(a1:Int)(a2:Int):Option Id:=
 (cond (decide (a0≥a1))
 (some ((decide (a0≤a2)),()))
 (some (false,())))
def DR(a0:Rd)(a1:Int):Option Gd:=
 (cond (decide ((wr .i64 (a1-((ln a0:Nat):Int)))<0))
 (some ((-1),()))
 (some ((wr .i64 (a1-((ln a0:Nat):Int))),())))
def VJ(a0:Ca)(a1:Int):Option Gd:=
 (ob (DR a0.2.1 a1) fun r1=>
 (cond (decide (r1.1<0))
 (some ((-1),()))
 (some (r1.1,()))))
def UI(a0:Lc)(a1:Int):Option Gd:=
 (ob (VJ a0.2.1 a1) fun r1=>
 (cond (decide (r1.1<0))
 (some ((-1),()))
 (some (r1.1,()))))
def O8(t0:Xe)(t1:Int)(t5:Int):Option (OR⊕VL):=
 (cond (decide (t5<((ln t0:Nat):Int)))
 (ob (Ib t0 t5) fun x5=>
 (ob (UI x5 t1) fun r6=>
 (cond (decide (r6.1<0))
 (some (.inr (.inr (((-1),()),()))))
 (some (.inl ((t0,r6.1,(wr .i64 (t5+1)),()),()))))))
 (some (.inr (.inl ((t1,()),())))))
def MO:=Va fun x:OR=>O8 x.1.1 x.1.2.1 x.1.2.2.1
def CN(a0:Xe)(a1:Int):Option Gd:=
 (cond (decide ((wr .i64 (a1-((ln a0:Nat):Int)))<0))
 (some ((-1),()))
 (ob (MO ((a0,(wr .i64 (a1-((ln a0:Nat):Int))),0,()),())) (se (fun y7=>(some (y7.1.1,()))) (fun z8=>(some (z8.1.1,()))))))
def JD(t0:Rd)(t3:Rd)(t4:Int):Option (H5⊕MZ):=
 (cond (decide (t4<((ln t0:Nat):Int)))
 (ob (Ib t0 t4) fun x5=>
 (cond (Rb (ln t3) t4)
 (ob t3[(tn t4)]? fun x6=>
 (some (.inl ((t0,(ls t3 (tn t4) x5),(wr .i64 (t4+1)),()),()))))
 none))
 (some (.inr (.inl ((t3,()),())))))
def CF:=Va fun x:H5=>JD x.1.1 x.1.2.1 x.1.2.2.1
def ER(a0:Rd):Option TL:=
 (cond ((((ln a0:Nat):Int)==((ln a0:Nat):Int))&&(decide (0≤((ln a0:Nat):Int))&&decide (((ln a0:Nat):Int)≤((Wa:Nat):Int))))
 (ob (CF ((a0,(yf (tn ((ln a0:Nat):Int)) 0),0,()),())) (se (fun y7=>(some (y7.1.1,()))) (fun z8=>none)))
 none)
def ZJ(a0:Ca):Option Ii:=
 (ob (ER a0.2.1) fun r1=>
 (some ((a0.1,r1.1,()),())))
def XI(a0:Lc):Option (Lc×Unit):=
 (ob (ZJ a0.2.1) fun r1=>
 (some ((a0.1,r1.1,()),())))
def Q8(t0:Xe)(t3:Xe)(t4:Int):Option (Vai⊕(((Xe×Unit)×Unit)⊕Re)):=
 (cond (decide (t4<((ln t0:Nat):Int)))
 (ob (Ib t0 t4) fun x7=>
 (ob (XI x7) fun r8=>
 (cond (Rb (ln t3) t4)
 (ob t3[(tn t4)]? fun x9=>
 (some (.inl ((t0,(ls t3 (tn t4) r8.1),(wr .i64 (t4+1)),()),()))))
 none)))
 (some (.inr (.inl ((t3,()),())))))
def PO:=Va fun x:Vai=>Q8 x.1.1 x.1.2.1 x.1.2.2.1
def IV(a0:Xe):Option (Xe×Unit):=
 (cond ((((ln a0:Nat):Int)==((ln a0:Nat):Int))&&(decide (0≤((ln a0:Nat):Int))&&decide (((ln a0:Nat):Int)≤((Wa:Nat):Int))))
 (ob (PO ((a0,(yf (tn ((ln a0:Nat):Int)) (0,(0,[],()),())),0,()),())) (se (fun y10=>(some (y10.1.1,()))) (fun z11=>none)))
 none)
def XB(a0:Ca):Option Ii:=
 (cond (bl (ln ([]:List Int)+ln a0.2.1) Wa)
 (some ((a0.1,(ap [] a0.2.1),()),()))
 none)
def Kv(t0:Xe)(t3:Eg)(t4:Int):Option (((Xe×(Eg×Gd))×Unit)⊕J2):=
 (cond (decide (t4<((ln t0:Nat):Int)))
 (ob (Ib t0 t4) fun x5=>
 (ob (XB x5.2.1) fun r6=>
 (cond (bl (ln t3+ln ([r6.1]:List Ca)) Wa)
 (some (.inl ((t0,(ap t3 ([r6.1]:List Ca)),(wr .i64 (t4+1)),()),())))
 none)))
 (some (.inr (.inl ((t3,()),())))))
def Qy:=Va fun x:((Xe×(Eg×Gd))×Unit)=>Kv x.1.1 x.1.2.1 x.1.2.2.1
def BH(a0:Xe):Option UT:=
 (ob (Qy ((a0,[],0,()),())) (se (fun y7=>(some (y7.1.1,()))) (fun z8=>none)))
def Lk(a0:Rd):Option TL:=
 (cond (bl (ln ([]:List Int)+ln a0) Wa)
 (some ((ap [] a0),()))
 none)
def Pu(a0:Ca):Option Ii:=
 (ob (Lk a0.2.1) fun r1=>
 (some ((a0.1,r1.1,()),())))
def Iu(t3:Eg)(t6:Xe)(t7:Int)(t8:Int):Option (((Eg×NZ)×Unit)⊕J2):=
 (cond (decide (t8<t7))
 (ob (Ib t6 t8) fun x7=>
 (ob (Pu x7.2.1) fun r8=>
 (cond (bl (ln t3+ln ([r8.1]:List Ca)) Wa)
 (some (.inl (((ap t3 ([r8.1]:List Ca)),t6,t7,(wr .i64 (t8+1)),()),())))
 none)))
 (some (.inr (.inl ((t3,()),())))))
def Sx:=Va fun x:((Eg×NZ)×Unit)=>Iu x.1.1 x.1.2.1 x.1.2.2.1 x.1.2.2.2.1
def KG(a0:Xe):Option UT:=
 (ob (Sx (([],a0,((ln a0:Nat):Int),0,()),())) (se (fun y9=>(some (y9.1.1,()))) (fun z10=>none)))
def DD(t0:Rd)(t1:Rd)(t5:Int):Option (H5⊕Zt):=
 (cond (decide (t5<((ln t0:Nat):Int)))
 (ob (Ib t0 t5) fun x5=>
 (ob (Ib t1 t5) fun x6=>
 (cond (x5 !=x6)
 (some (.inr (.inr ((false,()),()))))
 (some (.inl ((t0,t1,(wr .i64 (t5+1)),()),()))))))
 (some (.inr (.inl ((),())))))
def WE:=Va fun x:H5=>DD x.1.1 x.1.2.1 x.1.2.2.1
def CR(a0:Rd)(a1:Rd):Option Id:=
 (cond (((ln a0:Nat):Int) !=((ln a1:Nat):Int))
 (some (false,()))
 (ob (WE ((a0,a1,0,()),())) (se (fun y7=>(some (true,()))) (fun z8=>(some (z8.1.1,()))))))
def PJ(a0:Ca)(a1:Ca):Option Id:=
 (cond (a0.1 !=a1.1)
 (some (false,()))
 (ob (CR a0.2.1 a1.2.1) fun r1=>
 (cond (!r1.1)
 (some (false,()))
 (some (true,())))))
def NI(a0:Lc)(a1:Lc):Option Id:=
 (cond (a0.1 !=a1.1)
 (some (false,()))
 (ob (PJ a0.2.1 a1.2.1) fun r1=>
 (cond (!r1.1)
 (some (false,()))
 (some (true,())))))
def M8(t0:Xe)(t1:Xe)(t5:Int):Option (Vai⊕Zt):=
 (cond (decide (t5<((ln t0:Nat):Int)))
 (ob (Ib t0 t5) fun x7=>
 (ob (Ib t1 t5) fun x8=>
 (ob (NI x7 x8) fun r9=>
 (cond (!r9.1)
 (some (.inr (.inr ((false,()),()))))
 (some (.inl ((t0,t1,(wr .i64 (t5+1)),()),())))))))
 (some (.inr (.inl ((),())))))
def KO:=Va fun x:Vai=>M8 x.1.1 x.1.2.1 x.1.2.2.1
def TM(a0:Xe)(a1:Xe):Option Id:=
 (cond (((ln a0:Nat):Int) !=((ln a1:Nat):Int))
 (some (false,()))
 (ob (KO ((a0,a1,0,()),())) (se (fun y10=>(some (true,()))) (fun z11=>(some (z11.1.1,()))))))
def Ax(t0:Rd)(t1:Int)(t5:Int):Option (HY⊕IaX):=
 (cond (decide (t5<((ln t0:Nat):Int)))
 (cond (Rb (ln t0) t5)
 (ob t0[(tn t5)]? fun x3=>
 (some (.inl (((ls t0 (tn t5) t1),(wr .i64 (t1+1)),(wr .i64 (t5+1)),()),()))))
 none)
 (some (.inr (.inl ((t0,t1,()),())))))
def ZM:=Va fun x:HY=>Ax x.1.1 x.1.2.1 x.1.2.2.1
def DT(a0:Rd)(a1:Int):Option UL:=
 (ob (ZM ((a0,a1,0,()),())) (se (fun y4=>(some (y4.1.1,(y4.1.2.1,())))) (fun z5=>none)))
def Zu(t0:Xe)(t1:Int)(t5:Int):Option (OR⊕(((Xe×Gd)×Unit)⊕Re)):=
 (cond (decide (t5<((ln t0:Nat):Int)))
 (cond (Rb (ln t0) t5)
 (ob t0[(tn t5)]? fun x9=>
 (cond (Rb (ln (ls t0 (tn t5) (t1,x9.2))) t5)
 (ob (ls t0 (tn t5) (t1,x9.2))[(tn t5)]? fun x10=>
 (cond (Rb (ln (ls (ls t0 (tn t5) (t1,x9.2)) (tn t5) (x10.1,((wr .i64 (t1+1)),x10.2.1.2),x10.2.2))) t5)
 (ob (ls (ls t0 (tn t5) (t1,x9.2)) (tn t5) (x10.1,((wr .i64 (t1+1)),x10.2.1.2),x10.2.2))[(tn t5)]? fun x11=>
 (ob (DT x11.2.1.2.1 (wr .i64 ((wr .i64 (t1+1))+1))) fun r12=>
 (some (.inl (((ls (ls (ls t0 (tn t5) (t1,x9.2)) (tn t5) (x10.1,((wr .i64 (t1+1)),x10.2.1.2),x10.2.2)) (tn t5) (x11.1,(x11.2.1.1,r12.1,x11.2.1.2.2),x11.2.2)),r12.2.1,(wr .i64 (t5+1)),()),())))))
 none))
 none))
 none)
 (some (.inr (.inl ((t0,t1,()),())))))
def ML:=Va fun x:OR=>Zu x.1.1 x.1.2.1 x.1.2.2.1
def TP(a0:Xe)(a1:Int):Option (Xe×Gd):=
 (ob (ML ((a0,a1,0,()),())) (se (fun y13=>(some (y13.1.1,(y13.1.2.1,())))) (fun z14=>none)))
def Zw(t0:Rd)(t1:Int)(t5:Int):Option (HY⊕VL):=
 (cond (decide (t5<((ln t0:Nat):Int)))
 (ob (Ib t0 t5) fun x3=>
 (cond (x3 !=t1)
 (some (.inr (.inr (((-1),()),()))))
 (some (.inl ((t0,(wr .i64 (t1+1)),(wr .i64 (t5+1)),()),())))))
 (some (.inr (.inl ((t1,()),())))))
def WM:=Va fun x:HY=>Zw x.1.1 x.1.2.1 x.1.2.2.1
def CT(a0:Rd)(a1:Int):Option Gd:=
 (ob (WM ((a0,a1,0,()),())) (se (fun y4=>(some (y4.1.1,()))) (fun z5=>(some (z5.1.1,())))))
def Gy(a0:Li)(a1:Int):Option Gd:=
 (cond (decide ((wr .i64 (a1-((ln a0:Nat):Int)))<0))
 (some ((-1),()))
 (some ((wr .i64 (a1-((ln a0:Nat):Int))),())))
def D2(t0:Pi)(t1:Int)(t5:Int):Option ((NC×Unit)⊕VL):=
 (cond (decide (t5<((ln t0:Nat):Int)))
 (ob (Ib t0 t5) fun x5=>
 (ob (Gy x5 t1) fun r6=>
 (cond (decide (r6.1<0))
 (some (.inr (.inr (((-1),()),()))))
 (some (.inl ((t0,r6.1,(wr .i64 (t5+1)),()),()))))))
 (some (.inr (.inl ((t1,()),())))))
def TI:=Va fun x:(NC×Unit)=>D2 x.1.1 x.1.2.1 x.1.2.2.1
def ID(a0:Pi)(a1:Int):Option Gd:=
 (cond (decide ((wr .i64 (a1-((ln a0:Nat):Int)))<0))
 (some ((-1),()))
 (ob (TI ((a0,(wr .i64 (a1-((ln a0:Nat):Int))),0,()),())) (se (fun y7=>(some (y7.1.1,()))) (fun z8=>(some (z8.1.1,()))))))
def UJ(a0:Ia)(a1:Int):Option Gd:=
 (ob (ID a0.2.1 a1) fun r1=>
 (cond (decide (r1.1<0))
 (some ((-1),()))
 (some (r1.1,()))))
def Rt(a0:Ma):Option Au:=
 (some (a0,()))
def T3(t0:Li)(t3:Li)(t4:Int):Option (W9⊕(((Li×Unit)×Unit)⊕Re)):=
 (cond (decide (t4<((ln t0:Nat):Int)))
 (ob (Ib t0 t4) fun x7=>
 (ob (Rt x7) fun r8=>
 (cond (Rb (ln t3) t4)
 (ob t3[(tn t4)]? fun x9=>
 (some (.inl ((t0,(ls t3 (tn t4) r8.1),(wr .i64 (t4+1)),()),()))))
 none)))
 (some (.inr (.inl ((t3,()),())))))
def PL:=Va fun x:W9=>T3 x.1.1 x.1.2.1 x.1.2.2.1
def RG(a0:Li):Option (Li×Unit):=
 (cond ((((ln a0:Nat):Int)==((ln a0:Nat):Int))&&(decide (0≤((ln a0:Nat):Int))&&decide (((ln a0:Nat):Int)≤((Wa:Nat):Int))))
 (ob (PL ((a0,(yf (tn ((ln a0:Nat):Int)) (0,0,0,0,())),0,()),())) (se (fun y10=>(some (y10.1.1,()))) (fun z11=>none)))
 none)
def E2(t0:Pi)(t3:Pi)(t4:Int):Option (Wai⊕(((Pi×Unit)×Unit)⊕Re)):=
 (cond (decide (t4<((ln t0:Nat):Int)))
 (ob (Ib t0 t4) fun x7=>
 (ob (RG x7) fun r8=>
 (cond (Rb (ln t3) t4)
 (ob t3[(tn t4)]? fun x9=>
 (some (.inl ((t0,(ls t3 (tn t4) r8.1),(wr .i64 (t4+1)),()),()))))
 none)))
 (some (.inr (.inl ((t3,()),())))))
def VI:=Va fun x:Wai=>E2 x.1.1 x.1.2.1 x.1.2.2.1
def EN(a0:Pi):Option (Pi×Unit):=
 (cond ((((ln a0:Nat):Int)==((ln a0:Nat):Int))&&(decide (0≤((ln a0:Nat):Int))&&decide (((ln a0:Nat):Int)≤((Wa:Nat):Int))))
 (ob (VI ((a0,(yf (tn ((ln a0:Nat):Int)) []),0,()),())) (se (fun y10=>(some (y10.1.1,()))) (fun z11=>none)))
 none)
def YJ(a0:Ia):Option Nl:=
 (ob (EN a0.2.1) fun r1=>
 (some ((a0.1,r1.1,()),())))
def Nk(a0:Ma):Option Id:=
 (ob (Yc a0.2.1 1 56) fun r1=>
 (ob (Yc a0.2.2.1 1 15) fun r2=>
 (ob (Yc a0.2.2.2.1 1 3) fun r3=>
 (cond (a0.1==0)
 (cond (a0.2.1==0)
 (cond (a0.2.2.1==0)
 (some ((a0.2.2.2.1==0),()))
 (some (false,())))
 (some (false,())))
 (cond (a0.1==1)
 (cond (a0.2.1==0)
 (cond (a0.2.2.1==0)
 (some ((a0.2.2.2.1==0),()))
 (some (false,())))
 (some (false,())))
 (cond (a0.1==10)
 (cond (a0.2.1==0)
 (cond (a0.2.2.1==0)
 (some ((a0.2.2.2.1==0),()))
 (some (false,())))
 (some (false,())))
 (cond (a0.1==2)
 (cond (a0.2.2.2.1==0)
 (cond r1.1
 (cond r2.1
 (some (true,()))
 (some ((a0.2.2.1==0),())))
 (cond (a0.2.1==0)
 (cond r2.1
 (cond r2.1
 (some (true,()))
 (some ((a0.2.2.1==0),())))
 (some (false,())))
 (some (false,()))))
 (some (false,())))
 (cond (a0.1==3)
 (cond r3.1
 (cond (a0.2.1==0)
 (some ((a0.2.2.1==0),()))
 (some (false,())))
 (some (false,())))
 (cond (a0.1==4)
 (cond r3.1
 (cond (a0.2.1==0)
 (some ((a0.2.2.1==0),()))
 (some (false,())))
 (some (false,())))
 (cond (a0.1==5)
 (ob (Yc a0.2.2.2.1 0 3) fun r4=>
 (cond r4.1
 (cond (a0.2.1==0)
 (some ((a0.2.2.1==0),()))
 (some (false,())))
 (some (false,()))))
 (cond (a0.1==9)
 (ob (Yc a0.2.2.2.1 0 3) fun r5=>
 (cond r5.1
 (cond (a0.2.1==0)
 (some ((a0.2.2.1==0),()))
 (some (false,())))
 (some (false,()))))
 (cond (a0.1==6)
 (cond r1.1
 (cond r2.1
 (some ((a0.2.2.2.1==0),()))
 (some (false,())))
 (some (false,())))
 (cond (a0.1==7)
 (cond r1.1
 (cond r3.1
 (some ((a0.2.2.1==0),()))
 (some (false,())))
 (some (false,())))
 (cond (a0.1==8)
 (cond r2.1
 (cond (a0.2.1==0)
 (some ((a0.2.2.2.1==0),()))
 (some (false,())))
 (some (false,())))
 (some (false,()))))))))))))))))
def AI(t1:Unit)(t3:Int)(t4:Int)(b1:Ia):Option ((C5×Nl)⊕((Ns×Nl)⊕MC)):=
 (ob (Ib b1.2.1 t3) fun x40=>
 (cond (decide (t4<((ln x40:Nat):Int)))
 (ob (Ib b1.2.1 t3) fun x41=>
 (ob (Ib x41 t4) fun x42=>
 (ob (Nk x42) fun r43=>
 (cond (!r43.1)
 (some (.inr (.inr ((false,()),()))))
 (cond (x42.1==1)
 (cond (t3==0)
 (some (.inr (.inr ((false,()),()))))
 (cond (x42.1 !=9)
 (cond (decide (x42.2.2.2.1≥((ln b1.2.1:Nat):Int)))
 (some (.inr (.inr ((false,()),()))))
 (some (.inl (((),t3,(wr .i64 (t4+1)),()),(b1,())))))
 (some (.inl (((),t3,(wr .i64 (t4+1)),()),(b1,()))))))
 (cond (x42.1 !=9)
 (cond (decide (x42.2.2.2.1≥((ln b1.2.1:Nat):Int)))
 (some (.inr (.inr ((false,()),()))))
 (some (.inl (((),t3,(wr .i64 (t4+1)),()),(b1,())))))
 (some (.inl (((),t3,(wr .i64 (t4+1)),()),(b1,()))))))))))
 (some (.inr (.inl (((),t3,()),(b1,())))))))
def Oq:=Va fun x:(C5×Nl)=>AI x.1.1 x.1.2.1 x.1.2.2.1 x.2.1
def ZH(t1:Unit)(t3:Int)(b1:Ia):Option ((Ns×Nl)⊕((Re×Nl)⊕MC)):=
 (cond (decide (t3<((ln b1.2.1:Nat):Int)))
 (ob (Ib b1.2.1 t3) fun x31=>
 (cond (((ln x31:Nat):Int) !=b1.1)
 (some (.inr (.inr ((false,()),()))))
 (ob (Oq (((),t3,0,()),(b1,()))) (se (fun y44=>(some (.inl (((),(wr .i64 (y44.1.2.1+1)),()),(y44.2.1,()))))) (fun z45=>(some (.inr (.inr ((z45.1.1,()),())))))))))
 (some (.inr (.inl (((),()),(b1,()))))))
def Nq:=Va fun x:(Ns×Nl)=>ZH x.1.1 x.1.2.1 x.2.1
def Cm(a0:Ia):Option Id:=
 (ob (Nq (((),0,()),(a0,()))) (se (fun y46=>(ob (Yc y46.2.1.1 1 32) fun r48=>
 (cond r48.1
 (ob (Yc ((ln y46.2.1.2.1:Nat):Int) 1 4) fun r49=>
 (some (r49.1,())))
 (some (false,()))))) (fun z47=>(some (z47.1.1,())))))
def Bo(a0:Ia)(a1:Int):Option Id:=
 (ob (Cm a0) fun r1=>
 (cond r1.1
 (cond (decide (0≤((ln a0.2.1:Nat):Int)))
 (ob (Yc a1 0 (wr .i64 ((Te .i64 1 ((ln a0.2.1:Nat):Int))-1))) fun r2=>
 (cond r2.1
 (cond ((2:Int)==0)
 none
 (some (((ye a1 2)==0),())))
 (some (false,()))))
 none)
 (some (false,()))))
def Tq(a0:Int):Option Id:=
 (cond (decide (a0≥1))
 (some ((decide (a0≤56)),()))
 (some (false,())))
def Hw(a0:Int):Option Id:=
 (cond (decide (a0≥1))
 (some ((decide (a0≤15)),()))
 (some (false,())))
def Wx(a0:Int):Option Id:=
 (cond (decide (a0≥1))
 (some ((decide (a0≤3)),()))
 (some (false,())))
def Cj(a0:Ma):Option Id:=
 (cond (a0.1==0)
 (cond (a0.2.1==0)
 (cond (a0.2.2.1==0)
 (some ((a0.2.2.2.1==0),()))
 (some (false,())))
 (some (false,())))
 (cond (a0.1==1)
 (cond (a0.2.1==0)
 (cond (a0.2.2.1==0)
 (some ((a0.2.2.2.1==0),()))
 (some (false,())))
 (some (false,())))
 (cond (a0.1==10)
 (cond (a0.2.1==0)
 (cond (a0.2.2.1==0)
 (some ((a0.2.2.2.1==0),()))
 (some (false,())))
 (some (false,())))
 (cond (a0.1==2)
 (cond (a0.2.2.2.1==0)
 (cond (a0.2.1==0)
 (cond (a0.2.2.1==0)
 (cond (a0.2.1 !=0)
 (some (true,()))
 (some ((a0.2.2.1 !=0),())))
 (ob (Hw a0.2.2.1) fun r1=>
 (cond r1.1
 (cond (a0.2.1 !=0)
 (some (true,()))
 (some ((a0.2.2.1 !=0),())))
 (some (false,())))))
 (ob (Tq a0.2.1) fun r2=>
 (cond r2.1
 (cond (a0.2.2.1==0)
 (cond (a0.2.1 !=0)
 (some (true,()))
 (some ((a0.2.2.1 !=0),())))
 (ob (Hw a0.2.2.1) fun r3=>
 (cond r3.1
 (cond (a0.2.1 !=0)
 (some (true,()))
 (some ((a0.2.2.1 !=0),())))
 (some (false,())))))
 (some (false,())))))
 (some (false,())))
 (cond (a0.1==3)
 (cond (a0.2.1==0)
 (cond (a0.2.2.1==0)
 (ob (Wx a0.2.2.2.1) fun r4=>
 (some (r4.1,())))
 (some (false,())))
 (some (false,())))
 (cond (a0.1==4)
 (cond (a0.2.1==0)
 (cond (a0.2.2.1==0)
 (ob (Wx a0.2.2.2.1) fun r5=>
 (some (r5.1,())))
 (some (false,())))
 (some (false,())))
 (cond (a0.1==5)
 (cond (a0.2.1==0)
 (cond (a0.2.2.1==0)
 (cond (decide (a0.2.2.2.1≥0))
 (some ((decide (a0.2.2.2.1≤3)),()))
 (some (false,())))
 (some (false,())))
 (some (false,())))
 (cond (a0.1==9)
 (cond (a0.2.1==0)
 (cond (a0.2.2.1==0)
 (cond (decide (a0.2.2.2.1≥0))
 (some ((decide (a0.2.2.2.1≤3)),()))
 (some (false,())))
 (some (false,())))
 (some (false,())))
 (cond (a0.1==6)
 (ob (Tq a0.2.1) fun r6=>
 (cond r6.1
 (ob (Hw a0.2.2.1) fun r7=>
 (cond r7.1
 (some ((a0.2.2.2.1==0),()))
 (some (false,()))))
 (some (false,()))))
 (cond (a0.1==7)
 (ob (Tq a0.2.1) fun r8=>
 (cond r8.1
 (cond (a0.2.2.1==0)
 (ob (Wx a0.2.2.2.1) fun r9=>
 (some (r9.1,())))
 (some (false,())))
 (some (false,()))))
 (cond (a0.1==8)
 (cond (a0.2.1==0)
 (ob (Hw a0.2.2.1) fun r10=>
 (cond r10.1
 (some ((a0.2.2.2.1==0),()))
 (some (false,()))))
 (some (false,())))
 (some (false,())))))))))))))
def SH(t1:Unit)(t3:Int)(t28:Pi)(t29:Int)(t30:Int)(t40:Li)(t41:Int)(t42:Int)(b1:Ia):Option (((Unit×(Int×(Pi×Pai)))×Nl)⊕(((Unit×NC)×Nl)⊕MC)):=
 (cond (decide (t42<t41))
 (ob (Ib t40 t42) fun x24=>
 (ob (Cj x24) fun r25=>
 (cond (!r25.1)
 (some (.inr (.inr ((false,()),()))))
 (cond (t3==0)
 (cond (x24.1==1)
 (some (.inr (.inr ((false,()),()))))
 (cond (x24.1 !=9)
 (cond (decide (x24.2.2.2.1≥((ln b1.2.1:Nat):Int)))
 (some (.inr (.inr ((false,()),()))))
 (some (.inl (((),t3,t28,t29,t30,t40,t41,(wr .i64 (t42+1)),()),(b1,())))))
 (some (.inl (((),t3,t28,t29,t30,t40,t41,(wr .i64 (t42+1)),()),(b1,()))))))
 (cond (x24.1 !=9)
 (cond (decide (x24.2.2.2.1≥((ln b1.2.1:Nat):Int)))
 (some (.inr (.inr ((false,()),()))))
 (some (.inl (((),t3,t28,t29,t30,t40,t41,(wr .i64 (t42+1)),()),(b1,())))))
 (some (.inl (((),t3,t28,t29,t30,t40,t41,(wr .i64 (t42+1)),()),(b1,())))))))))
 (some (.inr (.inl (((),t28,t29,t30,()),(b1,()))))))
def Aq:=Va fun x:((Unit×(Int×(Pi×Pai)))×Nl)=>SH x.1.1 x.1.2.1 x.1.2.2.1 x.1.2.2.2.1 x.1.2.2.2.2.1 x.1.2.2.2.2.2.1 x.1.2.2.2.2.2.2.1 x.1.2.2.2.2.2.2.2.1 x.2.1
def QH(t1:Unit)(t28:Pi)(t29:Int)(t30:Int)(b1:Ia):Option (((Unit×NC)×Nl)⊕Zt):=
 (cond (decide (t30<t29))
 (ob (Ib t28 t30) fun x19=>
 (cond (((ln x19:Nat):Int) !=b1.1)
 (some (.inr (.inr ((false,()),()))))
 (ob (Aq (((),t30,t28,t29,t30,x19,((ln x19:Nat):Int),0,()),(b1,()))) (se (fun y26=>(some (.inl (((),y26.1.2.1,y26.1.2.2.1,(wr .i64 (y26.1.2.2.2.1+1)),()),(y26.2.1,()))))) (fun z27=>(some (.inr (.inr ((z27.1.1,()),())))))))))
 (some (.inr (.inl ((),())))))
def Zp:=Va fun x:((Unit×NC)×Nl)=>QH x.1.1 x.1.2.1 x.1.2.2.1 x.1.2.2.2.1 x.2.1
def Am(a0:Ia):Option Id:=
 (cond (decide (a0.1<1))
 (some (false,()))
 (cond (decide (a0.1>32))
 (some (false,()))
 (cond (decide (((ln a0.2.1:Nat):Int)<1))
 (some (false,()))
 (cond (decide (((ln a0.2.1:Nat):Int)>4))
 (some (false,()))
 (ob (Zp (((),a0.2.1,((ln a0.2.1:Nat):Int),0,()),(a0,()))) (se (fun y28=>(some (true,()))) (fun z29=>(some (z29.1.1,())))))))))
def Ei(a0:Ia)(a1:Int):Option Id:=
 (ob (Am a0) fun r1=>
 (cond r1.1
 (cond (decide (a1≥0))
 (cond ((2:Int)==0)
 none
 (cond ((ye a1 2)==0)
 (cond (decide (0≤((ln a0.2.1:Nat):Int)))
 (some ((decide (a1<(Te .i64 1 ((ln a0.2.1:Nat):Int)))),()))
 none)
 (some (false,()))))
 (some (false,())))
 (some (false,()))))
def Qt(a0:Ma)(a1:Ma):Option Id:=
 (cond (a0.1 !=a1.1)
 (some (false,()))
 (cond (a0.2.1 !=a1.2.1)
 (some (false,()))
 (cond (a0.2.2.1 !=a1.2.2.1)
 (some (false,()))
 (cond (a0.2.2.2.1 !=a1.2.2.2.1)
 (some (false,()))
 (some (true,()))))))
def S3(t0:Li)(t1:Li)(t5:Int):Option (W9⊕Zt):=
 (cond (decide (t5<((ln t0:Nat):Int)))
 (ob (Ib t0 t5) fun x7=>
 (ob (Ib t1 t5) fun x8=>
 (ob (Qt x7 x8) fun r9=>
 (cond (!r9.1)
 (some (.inr (.inr ((false,()),()))))
 (some (.inl ((t0,t1,(wr .i64 (t5+1)),()),())))))))
 (some (.inr (.inl ((),())))))
def HL:=Va fun x:W9=>S3 x.1.1 x.1.2.1 x.1.2.2.1
def Ey(a0:Li)(a1:Li):Option Id:=
 (cond (((ln a0:Nat):Int) !=((ln a1:Nat):Int))
 (some (false,()))
 (ob (HL ((a0,a1,0,()),())) (se (fun y10=>(some (true,()))) (fun z11=>(some (z11.1.1,()))))))
def C2(t0:Pi)(t1:Pi)(t5:Int):Option (Wai⊕Zt):=
 (cond (decide (t5<((ln t0:Nat):Int)))
 (ob (Ib t0 t5) fun x7=>
 (ob (Ib t1 t5) fun x8=>
 (ob (Ey x7 x8) fun r9=>
 (cond (!r9.1)
 (some (.inr (.inr ((false,()),()))))
 (some (.inl ((t0,t1,(wr .i64 (t5+1)),()),())))))))
 (some (.inr (.inl ((),())))))
def LI:=Va fun x:Wai=>C2 x.1.1 x.1.2.1 x.1.2.2.1
def CD(a0:Pi)(a1:Pi):Option Id:=
 (cond (((ln a0:Nat):Int) !=((ln a1:Nat):Int))
 (some (false,()))
 (ob (LI ((a0,a1,0,()),())) (se (fun y10=>(some (true,()))) (fun z11=>(some (z11.1.1,()))))))
def OJ(a0:Ia)(a1:Ia):Option Id:=
 (cond (a0.1 !=a1.1)
 (some (false,()))
 (ob (CD a0.2.1 a1.2.1) fun r1=>
 (cond (!r1.1)
 (some (false,()))
 (some (true,())))))
def Tp(t0:Ke)(t1:Cc)(t5:Rd)(t6:Int):Option (((Ke×(Cc×UL))×Unit)⊕MZ):=
 (cond (decide (t6<((ln t0:Nat):Int)))
 (cond (decide (t6>0))
 (cond (bl (ln t5+ln (Sc t1)) Wa)
 (ob (Ib t0 t6) fun x5=>
 (cond (bl (ln (ap t5 (Sc t1))+ln (Sc x5)) Wa)
 (some (.inl ((t0,t1,(ap (ap t5 (Sc t1)) (Sc x5)),(wr .i64 (t6+1)),()),())))
 none))
 none)
 (ob (Ib t0 t6) fun x6=>
 (cond (bl (ln t5+ln (Sc x6)) Wa)
 (some (.inl ((t0,t1,(ap t5 (Sc x6)),(wr .i64 (t6+1)),()),())))
 none)))
 (some (.inr (.inl ((t5,()),())))))
def Pq:=Va fun x:((Ke×(Cc×UL))×Unit)=>Tp x.1.1 x.1.2.1 x.1.2.2.1 x.1.2.2.2.1
def Vd(a0:Ke)(a1:Cc):Option Hi:=
 (ob (Pq ((a0,a1,[],0,()),())) (se (fun y7=>(some ((Dp y7.1.1),()))) (fun z8=>none)))
def Co(t0:Cc)(t1:Int)(t5:Ke)(t6:Int)(t7:Int):Option (Yai⊕J5):=
 (cond (decide (t7≤((ln t0:Nat):Int)))
 (cond (t7==((ln t0:Nat):Int))
 (cond (Nd (ln t0) t6 t7)
 (cond (bl (ln t5+ln ([(Hb t0 (tn t6) (tn t7))]:List Cc)) Wa)
 (some (.inl ((t0,t1,(ap t5 ([(Hb t0 (tn t6) (tn t7))]:List Cc)),(wr .i64 (t7+1)),(wr .i64 (t7+1)),()),())))
 none)
 none)
 (ob (Ib t0 t7) fun c3=>
 (cond (((UInt8.toNat c3:Nat):Int)==t1)
 (cond (Nd (ln t0) t6 t7)
 (cond (bl (ln t5+ln ([(Hb t0 (tn t6) (tn t7))]:List Cc)) Wa)
 (some (.inl ((t0,t1,(ap t5 ([(Hb t0 (tn t6) (tn t7))]:List Cc)),(wr .i64 (t7+1)),(wr .i64 (t7+1)),()),())))
 none)
 none)
 (some (.inl ((t0,t1,t5,t6,(wr .i64 (t7+1)),()),()))))))
 (some (.inr (.inl ((t5,()),())))))
def Ti:=Va fun x:Yai=>Co x.1.1 x.1.2.1 x.1.2.2.1 x.1.2.2.2.1 x.1.2.2.2.2.1
def Rh(a0:Cc)(a1:Int):Option OQ:=
 (ob (Ti ((a0,a1,[],0,0,()),())) (se (fun y4=>(some (y4.1.1,()))) (fun z5=>none)))
def VN:Option OQ:=
 (ob (Rh GK 32) fun r1=>
 (some (r1.1,())))
def Wg(a0:Int):Option Hi:=
 (ob (Yc a0 1 56) fun r1=>
 (cond (!r1.1)
 (some ([],()))
 (ob VN fun r2=>
 (cond (Rb (ln r2.1) (wr .i64 (a0-1)))
 (ob r2.1[(tn (wr .i64 (a0-1)))]? fun x3=>
 (some (x3,())))
 none))))
def PD(t0:Cc)(t3:Int):Option ((ST×Unit)⊕PQ):=
 (cond (decide (t3≤56))
 (ob (Wg t3) fun r3=>
 (cond (r3.1==t0)
 (some (.inr (.inr ((t3,()),()))))
 (some (.inl ((t0,(wr .i64 (t3+1)),()),())))))
 (some (.inr (.inl ((),())))))
def Ao:=Va fun x:(ST×Unit)=>PD x.1.1 x.1.2.1
def Mw(a0:Cc):Option Gd:=
 (ob (Ao ((a0,1,()),())) (se (fun y4=>(some (0,()))) (fun z5=>(some (z5.1.1,())))))
def Dv(t0:Int)(t3:Cc)(t4:Int):Option (Gaa⊕(((Int×Hi)×Unit)⊕Re)):=
 (cond (t4 !=0)
 (cond ((10:Int)==0)
 none
 (cond (decide ((ye t4 10)<0))
 (cond (bl (ln (Dp ([(wr .u8 (wr .i64 (48+(wr .i64 (0-(ye t4 10))))))]:List Int))+ln t3) Wa)
 (cond ((10:Int)==0)
 none
 (some (.inl ((t0,(ap (Dp ([(wr .u8 (wr .i64 (48+(wr .i64 (0-(ye t4 10))))))]:List Int)) t3),(wr .i64 (Int.tdiv t4 10)),()),()))))
 none)
 (cond (bl (ln (Dp ([(wr .u8 (wr .i64 (48+(ye t4 10))))]:List Int))+ln t3) Wa)
 (cond ((10:Int)==0)
 none
 (some (.inl ((t0,(ap (Dp ([(wr .u8 (wr .i64 (48+(ye t4 10))))]:List Int)) t3),(wr .i64 (Int.tdiv t4 10)),()),()))))
 none)))
 (some (.inr (.inl ((t0,t3,()),())))))
def Si:=Va fun x:Gaa=>Dv x.1.1 x.1.2.1 x.1.2.2.1
def Yd(a0:Int):Option Hi:=
 (cond (a0==0)
 (some (([48]:List UInt8),()))
 (ob (Si ((a0,[],a0,()),())) (se (fun y1=>(cond (decide (y1.1.1<0))
 (cond (bl (ln ([45]:List UInt8)+ln y1.1.2.1) Wa)
 (some ((ap ([45]:List UInt8) y1.1.2.1),()))
 none)
 (some (y1.1.2.1,())))) (fun z2=>none))))
def Up(t0:Cc)(t4:Cc)(t5:Int)(t6:Int):Option (((Cc×(Cc×Rc))×Unit)⊕(((Cc×ST)×Unit)⊕DaC)):=
 (cond (decide (t6<((ln t4:Nat):Int)))
 (ob (Ib t4 t6) fun c34=>
 (cond (decide (((UInt8.toNat c34:Nat):Int)<48))
 (some (.inr (.inr ((0,false,()),()))))
 (ob (Ib t4 t6) fun c35=>
 (cond (decide (((UInt8.toNat c35:Nat):Int)>57))
 (some (.inr (.inr ((0,false,()),()))))
 (ob (Ib t4 t6) fun c36=>
 (some (.inl ((t0,t4,(wr .i64 ((wr .i64 ((wr .i64 (10*t5))+(wr .i64 ((UInt8.toNat c36:Nat):Int))))-48)),(wr .i64 (t6+1)),()),()))))))))
 (some (.inr (.inl ((t0,t4,t5,()),())))))
def Ah:=Va fun x:((Cc×(Cc×Rc))×Unit)=>Up x.1.1 x.1.2.1 x.1.2.2.1 x.1.2.2.2.1
def Vt(a0:Cc):Option G5:=
 (cond (decide (((ln a0:Nat):Int)>0))
 (ob (Ib a0 0) fun c1=>
 (cond (((UInt8.toNat c1:Nat):Int)==45)
 (cond (Nd (ln a0) 1 ((ln a0:Nat):Int))
 (cond (decide (((ln (Hb a0 (tn 1) (tn ((ln a0:Nat):Int))):Nat):Int)<1))
 (some (0,false,()))
 (cond (decide (((ln (Hb a0 (tn 1) (tn ((ln a0:Nat):Int))):Nat):Int)>9))
 (some (0,false,()))
 (ob (Ah ((a0,(Hb a0 (tn 1) (tn ((ln a0:Nat):Int))),0,0,()),())) (se (fun y11=>(cond (decide (((ln y11.1.2.1:Nat):Int)<((ln y11.1.1:Nat):Int)))
 (ob (Yd (wr .i64 (0-y11.1.2.2.1))) fun r13=>
 (cond (r13.1 !=y11.1.1)
 (some (0,false,()))
 (some ((wr .i64 (0-y11.1.2.2.1)),true,()))))
 (ob (Yd y11.1.2.2.1) fun r14=>
 (cond (r14.1 !=y11.1.1)
 (some (0,false,()))
 (some (y11.1.2.2.1,true,())))))) (fun z12=>(some z12.1))))))
 none)
 (cond (decide (((ln a0:Nat):Int)<1))
 (some (0,false,()))
 (cond (decide (((ln a0:Nat):Int)>9))
 (some (0,false,()))
 (ob (Ah ((a0,a0,0,0,()),())) (se (fun y24=>(cond (decide (((ln y24.1.2.1:Nat):Int)<((ln y24.1.1:Nat):Int)))
 (ob (Yd (wr .i64 (0-y24.1.2.2.1))) fun r26=>
 (cond (r26.1 !=y24.1.1)
 (some (0,false,()))
 (some ((wr .i64 (0-y24.1.2.2.1)),true,()))))
 (ob (Yd y24.1.2.2.1) fun r27=>
 (cond (r27.1 !=y24.1.1)
 (some (0,false,()))
 (some (y24.1.2.2.1,true,())))))) (fun z25=>(some z25.1))))))))
 (cond (decide (((ln a0:Nat):Int)<1))
 (some (0,false,()))
 (cond (decide (((ln a0:Nat):Int)>9))
 (some (0,false,()))
 (ob (Ah ((a0,a0,0,0,()),())) (se (fun y37=>(cond (decide (((ln y37.1.2.1:Nat):Int)<((ln y37.1.1:Nat):Int)))
 (ob (Yd (wr .i64 (0-y37.1.2.2.1))) fun r39=>
 (cond (r39.1 !=y37.1.1)
 (some (0,false,()))
 (some ((wr .i64 (0-y37.1.2.2.1)),true,()))))
 (ob (Yd y37.1.2.2.1) fun r40=>
 (cond (r40.1 !=y37.1.1)
 (some (0,false,()))
 (some (y37.1.2.2.1,true,())))))) (fun z38=>(some z38.1)))))))
def Zs(t0:Int)(t3:Cc)(t4:Int):Option (Gaa⊕Baa):=
 (cond (decide (t4<4))
 (ob (Yc t0 1 15) fun r3=>
 (cond r3.1
 (cond (decide (0≤t4))
 (cond ((Ih .i64 (Cy .i64 t0 t4) 1)==1)
 (cond (Nd (ln JT) t4 (wr .i64 (t4+1)))
 (cond (bl (ln t3+ln (Hb JT (tn t4) (tn (wr .i64 (t4+1))))) Wa)
 (some (.inl ((t0,(ap t3 (Hb JT (tn t4) (tn (wr .i64 (t4+1))))),(wr .i64 (t4+1)),()),())))
 none)
 none)
 (some (.inl ((t0,t3,(wr .i64 (t4+1)),()),()))))
 none)
 (some (.inr (.inl ((t3,()),()))))))
 (some (.inr (.inl ((t3,()),())))))
def Nw:=Va fun x:Gaa=>Zs x.1.1 x.1.2.1 x.1.2.2.1
def Wj(a0:Int):Option Hi:=
 (ob (Nw ((a0,[],0,()),())) (se (fun y4=>(some (y4.1.1,()))) (fun z5=>none)))
def Gv(t0:Cc)(t3:Int):Option ((ST×Unit)⊕PQ):=
 (cond (decide (t3≤15))
 (ob (Wj t3) fun r3=>
 (cond (r3.1==t0)
 (some (.inr (.inr ((t3,()),()))))
 (some (.inl ((t0,(wr .i64 (t3+1)),()),())))))
 (some (.inr (.inl ((),())))))
def Bl:=Va fun x:(ST×Unit)=>Gv x.1.1 x.1.2.1
def Hr(a0:Cc):Option Gd:=
 (ob (Bl ((a0,1,()),())) (se (fun y4=>(some (0,()))) (fun z5=>(some (z5.1.1,())))))
def JR(a0:Int)(a1:Cc)(a2:Cc):Option Au:=
 (ob (Vt a2) fun r1=>
 (cond (a1==([109,111]:List UInt8))
 (some ((3,0,0,r1.1,()),()))
 (cond (a1==([116,103]:List UInt8))
 (some ((4,0,0,r1.1,()),()))
 (cond (a1==([116,111]:List UInt8))
 (some ((5,0,0,r1.1,()),()))
 (cond (a1==Kp)
 (some ((9,0,0,r1.1,()),()))
 (ob (Hr a2) fun r2=>
 (some ((a0,0,r2.1,0,()),()))))))))
def Kf(a0:Ma):Option Hi:=
 (ob (Nk a0) fun r1=>
 (cond (!r1.1)
 (some ([],()))
 (cond (a0.1==0)
 (some (Jk,()))
 (cond (a0.1==1)
 (some (Ik,()))
 (cond (a0.1==3)
 (ob (Yd a0.2.2.2.1) fun r2=>
 (cond (bl (ln ([109,111,58]:List UInt8)+ln r2.1) Wa)
 (some ((ap ([109,111,58]:List UInt8) r2.1),()))
 none))
 (cond (a0.1==4)
 (ob (Yd a0.2.2.2.1) fun r3=>
 (cond (bl (ln ([116,103,58]:List UInt8)+ln r3.1) Wa)
 (some ((ap ([116,103,58]:List UInt8) r3.1),()))
 none))
 (cond (a0.1==5)
 (ob (Yd a0.2.2.2.1) fun r4=>
 (cond (bl (ln ([116,111,58]:List UInt8)+ln r4.1) Wa)
 (some ((ap ([116,111,58]:List UInt8) r4.1),()))
 none))
 (cond (a0.1==6)
 (ob (Wj a0.2.2.1) fun r5=>
 (cond (bl (ln r5.1+ln ([47]:List UInt8)) Wa)
 (ob (Wg a0.2.1) fun r6=>
 (cond (bl (ln (ap r5.1 ([47]:List UInt8))+ln r6.1) Wa)
 (some ((ap (ap r5.1 ([47]:List UInt8)) r6.1),()))
 none))
 none))
 (cond (a0.1==7)
 (ob (Yd a0.2.2.2.1) fun r7=>
 (cond (bl (ln r7.1+ln ([47]:List UInt8)) Wa)
 (ob (Wg a0.2.1) fun r8=>
 (cond (bl (ln (ap r7.1 ([47]:List UInt8))+ln r8.1) Wa)
 (some ((ap (ap r7.1 ([47]:List UInt8)) r8.1),()))
 none))
 none))
 (cond (a0.1==8)
 (ob (Wj a0.2.2.1) fun r9=>
 (cond (bl (ln Pg+ln r9.1) Wa)
 (some ((ap Pg r9.1),()))
 none))
 (cond (a0.1==9)
 (ob (Yd a0.2.2.2.1) fun r10=>
 (cond (bl (ln Gj+ln r10.1) Wa)
 (some ((ap Gj r10.1),()))
 none))
 (cond (a0.1==10)
 (some (Fj,()))
 (cond (a0.2.2.1==0)
 (ob (Wg a0.2.1) fun r11=>
 (some (r11.1,())))
 (ob (Wj a0.2.2.1) fun r12=>
 (cond (bl (ln r12.1+ln ([45]:List UInt8)) Wa)
 (ob (Wg a0.2.1) fun r13=>
 (cond (bl (ln (ap r12.1 ([45]:List UInt8))+ln r13.1) Wa)
 (some ((ap (ap r12.1 ([45]:List UInt8)) r13.1),()))
 none))
 none)))))))))))))))
def Js(a0:Cc):Option (Ma×Id):=
 (ob (Mw a0) fun r1=>
 (ob (Rh a0 58) fun r2=>
 (ob (Rh a0 47) fun r3=>
 (ob (Rh a0 45) fun r4=>
 (cond (a0==Jk)
 (cond (a0==[])
 (some ((0,0,0,0,()),false,()))
 (ob (Kf (0,0,0,0,())) fun r5=>
 (cond (r5.1 !=a0)
 (some ((0,0,0,0,()),false,()))
 (some ((0,0,0,0,()),true,())))))
 (cond (a0==Ik)
 (cond (a0==[])
 (some ((0,0,0,0,()),false,()))
 (ob (Kf (1,0,0,0,())) fun r6=>
 (cond (r6.1 !=a0)
 (some ((0,0,0,0,()),false,()))
 (some ((1,0,0,0,()),true,())))))
 (cond (a0==Fj)
 (cond (a0==[])
 (some ((0,0,0,0,()),false,()))
 (ob (Kf (10,0,0,0,())) fun r7=>
 (cond (r7.1 !=a0)
 (some ((0,0,0,0,()),false,()))
 (some ((10,0,0,0,()),true,())))))
 (cond (((ln r2.1:Nat):Int)==2)
 (cond (Rb (ln r2.1) 0)
 (ob r2.1[(tn 0)]? fun x8=>
 (cond (Rb (ln r2.1) 1)
 (ob r2.1[(tn 1)]? fun x9=>
 (ob (JR 8 x8 x9) fun r10=>
 (cond (a0==[])
 (some ((0,0,0,0,()),false,()))
 (ob (Kf r10.1) fun r11=>
 (cond (r11.1 !=a0)
 (some ((0,0,0,0,()),false,()))
 (some (r10.1,true,())))))))
 none))
 none)
 (cond (((ln r3.1:Nat):Int)==2)
 (cond (Rb (ln r3.1) 0)
 (ob r3.1[(tn 0)]? fun x12=>
 (ob (Vt x12) fun r13=>
 (cond (Rb (ln r3.1) 1)
 (ob r3.1[(tn 1)]? fun x14=>
 (ob (Mw x14) fun r15=>
 (cond (Rb (ln r3.1) 0)
 (ob r3.1[(tn 0)]? fun x16=>
 (ob (Hr x16) fun r17=>
 (cond r13.2.1
 (cond (Rb (ln r3.1) 1)
 (ob r3.1[(tn 1)]? fun x18=>
 (ob (Mw x18) fun r19=>
 (cond (a0==[])
 (some ((0,0,0,0,()),false,()))
 (ob (Kf (7,r19.1,0,r13.1,())) fun r20=>
 (cond (r20.1 !=a0)
 (some ((0,0,0,0,()),false,()))
 (some ((7,r19.1,0,r13.1,()),true,())))))))
 none)
 (cond (a0==[])
 (some ((0,0,0,0,()),false,()))
 (ob (Kf (6,r15.1,r17.1,0,())) fun r21=>
 (cond (r21.1 !=a0)
 (some ((0,0,0,0,()),false,()))
 (some ((6,r15.1,r17.1,0,()),true,()))))))))
 none)))
 none)))
 none)
 (cond (((ln r4.1:Nat):Int)==2)
 (cond (Rb (ln r4.1) 1)
 (ob r4.1[(tn 1)]? fun x22=>
 (ob (Mw x22) fun r23=>
 (cond (Rb (ln r4.1) 0)
 (ob r4.1[(tn 0)]? fun x24=>
 (ob (Hr x24) fun r25=>
 (cond (a0==[])
 (some ((0,0,0,0,()),false,()))
 (ob (Kf (2,r23.1,r25.1,0,())) fun r26=>
 (cond (r26.1 !=a0)
 (some ((0,0,0,0,()),false,()))
 (some ((2,r23.1,r25.1,0,()),true,())))))))
 none)))
 none)
 (cond (a0==[])
 (some ((0,0,0,0,()),false,()))
 (ob (Kf (2,r1.1,0,0,())) fun r27=>
 (cond (r27.1 !=a0)
 (some ((0,0,0,0,()),false,()))
 (some ((2,r1.1,0,0,()),true,())))))))))))))))
def Rq(t2:Unit)(t4:Unit)(t5:Li)(t6:Ke)(t7:Int)(b2:Ia)(b4:Ia):Option (((Unit×(Unit×(Li×GJ)))×LC)⊕((NQ×LC)⊕((Unit×Id)×Nl))):=
 (cond (decide (t7<((ln t6:Nat):Int)))
 (cond (Rb (ln t6) t7)
 (ob t6[(tn t7)]? fun x11=>
 (cond (x11==([124]:List UInt8))
 (cond (bl (ln b4.2.1+ln ([t5]:List Li)) Wa)
 (some (.inl (((),(),[],t6,(wr .i64 (t7+1)),()),(b2,(((ln t5:Nat):Int),(ap b4.2.1 ([t5]:List Li)),()),()))))
 none)
 (cond (Rb (ln t6) t7)
 (ob t6[(tn t7)]? fun x12=>
 (ob (Js x12) fun r13=>
 (cond (!r13.2.1)
 (some (.inr (.inr (((),false,()),((0,[],()),())))))
 (cond (bl (ln t5+ln ([r13.1]:List Ma)) Wa)
 (some (.inl (((),(),(ap t5 ([r13.1]:List Ma)),t6,(wr .i64 (t7+1)),()),(b2,b4,()))))
 none))))
 none)))
 none)
 (some (.inr (.inl (((),(),()),(b2,b4,()))))))
def Lt:=Va fun x:((Unit×(Unit×(Li×GJ)))×LC)=>Rq x.1.1 x.1.2.1 x.1.2.2.1 x.1.2.2.2.1 x.1.2.2.2.2.1 x.2.1 x.2.2.1
def WA(a0:Cc):Option (Ia×Id):=
 (ob (Rh a0 32) fun r1=>
 (cond (bl (ln r1.1+ln ([([124]:List UInt8)]:List Cc)) Wa)
 (ob (Lt (((),(),[],(ap r1.1 ([([124]:List UInt8)]:List Cc)),0,()),((0,[],()),(0,[],()),()))) (se (fun y14=>(ob (Cm y14.2.2.1) fun r16=>
 (cond (!r16.1)
 (some ((0,[],()),false,()))
 (some (y14.2.2.1,true,()))))) (fun z15=>(some (z15.2.1,z15.1.2.1,())))))
 none))
def Pn(a0:Int)(a1:Int):Option Hi:=
 (ob (Yc a0 1 56) fun r1=>
 (cond (!r1.1)
 (some ([],()))
 (ob (Yc a1 0 15) fun r2=>
 (cond (!r2.1)
 (some ([],()))
 (cond ((Kj .i64 a1 2) !=0)
 (some ([],()))
 (cond (decide (a0≤26))
 (cond (decide ((Ih .i64 a1 2)>0))
 (some ((Dp ([(wr .u8 (wr .i64 (64+a0)))]:List Int)),()))
 (cond (decide (a0≤36))
 (cond (decide ((Ih .i64 a1 2)>0))
 (cond (Nd (ln Hj) (wr .i64 (a0-27)) (wr .i64 (a0-26)))
 (some ((Hb Hj (tn (wr .i64 (a0-27))) (tn (wr .i64 (a0-26)))),()))
 none)
 (cond (decide (a0≤36))
 (ob (Wg a0) fun r3=>
 (some (r3.1,())))
 (cond (a0==37)
 (some (([10]:List UInt8),()))
 (cond (a0==40)
 (some (([9]:List UInt8),()))
 (cond (a0==41)
 (some (([32]:List UInt8),()))
 (cond (a0==42)
 (cond (decide ((Ih .i64 a1 2)>0))
 (some (([95]:List UInt8),()))
 (cond (a0==42)
 (some (([45]:List UInt8),()))
 (cond (a0==43)
 (cond (decide ((Ih .i64 a1 2)>0))
 (some (([43]:List UInt8),()))
 (cond (a0==43)
 (some (([61]:List UInt8),()))
 (some ([],()))))
 (cond (a0==43)
 (some (([61]:List UInt8),()))
 (some ([],()))))))
 (cond (a0==42)
 (some (([45]:List UInt8),()))
 (cond (a0==43)
 (cond (decide ((Ih .i64 a1 2)>0))
 (some (([43]:List UInt8),()))
 (cond (a0==43)
 (some (([61]:List UInt8),()))
 (some ([],()))))
 (cond (a0==43)
 (some (([61]:List UInt8),()))
 (some ([],())))))))))))
 (cond (decide (a0≤36))
 (ob (Wg a0) fun r4=>
 (some (r4.1,())))
 (cond (a0==37)
 (some (([10]:List UInt8),()))
 (cond (a0==40)
 (some (([9]:List UInt8),()))
 (cond (a0==41)
 (some (([32]:List UInt8),()))
 (cond (a0==42)
 (cond (decide ((Ih .i64 a1 2)>0))
 (some (([95]:List UInt8),()))
 (cond (a0==42)
 (some (([45]:List UInt8),()))
 (cond (a0==43)
 (cond (decide ((Ih .i64 a1 2)>0))
 (some (([43]:List UInt8),()))
 (cond (a0==43)
 (some (([61]:List UInt8),()))
 (some ([],()))))
 (cond (a0==43)
 (some (([61]:List UInt8),()))
 (some ([],()))))))
 (cond (a0==42)
 (some (([45]:List UInt8),()))
 (cond (a0==43)
 (cond (decide ((Ih .i64 a1 2)>0))
 (some (([43]:List UInt8),()))
 (cond (a0==43)
 (some (([61]:List UInt8),()))
 (some ([],()))))
 (cond (a0==43)
 (some (([61]:List UInt8),()))
 (some ([],()))))))))))))
 (cond (decide (a0≤36))
 (cond (decide ((Ih .i64 a1 2)>0))
 (cond (Nd (ln Hj) (wr .i64 (a0-27)) (wr .i64 (a0-26)))
 (some ((Hb Hj (tn (wr .i64 (a0-27))) (tn (wr .i64 (a0-26)))),()))
 none)
 (cond (decide (a0≤36))
 (ob (Wg a0) fun r5=>
 (some (r5.1,())))
 (cond (a0==37)
 (some (([10]:List UInt8),()))
 (cond (a0==40)
 (some (([9]:List UInt8),()))
 (cond (a0==41)
 (some (([32]:List UInt8),()))
 (cond (a0==42)
 (cond (decide ((Ih .i64 a1 2)>0))
 (some (([95]:List UInt8),()))
 (cond (a0==42)
 (some (([45]:List UInt8),()))
 (cond (a0==43)
 (cond (decide ((Ih .i64 a1 2)>0))
 (some (([43]:List UInt8),()))
 (cond (a0==43)
 (some (([61]:List UInt8),()))
 (some ([],()))))
 (cond (a0==43)
 (some (([61]:List UInt8),()))
 (some ([],()))))))
 (cond (a0==42)
 (some (([45]:List UInt8),()))
 (cond (a0==43)
 (cond (decide ((Ih .i64 a1 2)>0))
 (some (([43]:List UInt8),()))
 (cond (a0==43)
 (some (([61]:List UInt8),()))
 (some ([],()))))
 (cond (a0==43)
 (some (([61]:List UInt8),()))
 (some ([],())))))))))))
 (cond (decide (a0≤36))
 (ob (Wg a0) fun r6=>
 (some (r6.1,())))
 (cond (a0==37)
 (some (([10]:List UInt8),()))
 (cond (a0==40)
 (some (([9]:List UInt8),()))
 (cond (a0==41)
 (some (([32]:List UInt8),()))
 (cond (a0==42)
 (cond (decide ((Ih .i64 a1 2)>0))
 (some (([95]:List UInt8),()))
 (cond (a0==42)
 (some (([45]:List UInt8),()))
 (cond (a0==43)
 (cond (decide ((Ih .i64 a1 2)>0))
 (some (([43]:List UInt8),()))
 (cond (a0==43)
 (some (([61]:List UInt8),()))
 (some ([],()))))
 (cond (a0==43)
 (some (([61]:List UInt8),()))
 (some ([],()))))))
 (cond (a0==42)
 (some (([45]:List UInt8),()))
 (cond (a0==43)
 (cond (decide ((Ih .i64 a1 2)>0))
 (some (([43]:List UInt8),()))
 (cond (a0==43)
 (some (([61]:List UInt8),()))
 (some ([],()))))
 (cond (a0==43)
 (some (([61]:List UInt8),()))
 (some ([],())))))))))))))))))
def Dn(a0:Ma):Option Id:=
 (ob (Nk a0) fun r1=>
 (cond r1.1
 (cond (a0.1==6)
 (some (true,()))
 (some ((a0.1==7),())))
 (some (false,()))))
def BU(a0:Ma):Option Au:=
 (ob (Dn a0) fun r1=>
 (cond (!r1.1)
 (some (a0,()))
 (some ((2,a0.2.1,0,0,()),()))))
def strings_Split(a b:List UInt8):Option (List Cc×Unit):=Jac a b
def Zc(a0:Int):Option Hi:=
 (cond (decide (a0<1))
 (some ([],()))
 (cond (decide (a0>56))
 (some ([],()))
 (ob (strings_Split GK ([32]:List UInt8)) fun r1=>
 (cond (Rb (ln r1.1) (wr .i64 (a0-1)))
 (ob r1.1[(tn (wr .i64 (a0-1)))]? fun x2=>
 (some (x2,())))
 none))))
def Kn(a0:Int)(a1:Int):Option Hi:=
 (ob (Tq a0) fun r1=>
 (cond (!r1.1)
 (some ([],()))
 (cond (a1 !=0)
 (cond (a1 !=2)
 (some ([],()))
 (cond (decide (a0≤26))
 (cond (a1==2)
 (some ((Dp ([(wr .u8 (wr .i64 ((wr .i64 (65+a0))-1)))]:List Int)),()))
 (cond (decide (a0≤26))
 (ob (Zc a0) fun r2=>
 (some (r2.1,())))
 (cond (decide (a0≤36))
 (cond (a1==2)
 (cond (Nd (ln Hj) (wr .i64 (a0-27)) (wr .i64 (a0-26)))
 (some ((Hb Hj (tn (wr .i64 (a0-27))) (tn (wr .i64 (a0-26)))),()))
 none)
 (cond (decide (a0≤36))
 (ob (Zc a0) fun r3=>
 (some (r3.1,())))
 (ob (Zc a0) fun r4=>
 (cond (r4.1==Fm)
 (some (([10]:List UInt8),()))
 (cond (r4.1==([116,97,98]:List UInt8))
 (some (([9]:List UInt8),()))
 (cond (r4.1==Gm)
 (some (([32]:List UInt8),()))
 (cond (r4.1==Em)
 (cond (a1==2)
 (some (([95]:List UInt8),()))
 (some (([45]:List UInt8),())))
 (cond (r4.1==Dm)
 (cond (a1==2)
 (some (([43]:List UInt8),()))
 (some (([61]:List UInt8),())))
 (some ([],()))))))))))
 (cond (decide (a0≤36))
 (ob (Zc a0) fun r5=>
 (some (r5.1,())))
 (ob (Zc a0) fun r6=>
 (cond (r6.1==Fm)
 (some (([10]:List UInt8),()))
 (cond (r6.1==([116,97,98]:List UInt8))
 (some (([9]:List UInt8),()))
 (cond (r6.1==Gm)
 (some (([32]:List UInt8),()))
 (cond (r6.1==Em)
 (cond (a1==2)
 (some (([95]:List UInt8),()))
 (some (([45]:List UInt8),())))
 (cond (r6.1==Dm)
 (cond (a1==2)
 (some (([43]:List UInt8),()))
 (some (([61]:List UInt8),())))
 (some ([],()))))))))))))
 (cond (decide (a0≤26))
 (ob (Zc a0) fun r7=>
 (some (r7.1,())))
 (cond (decide (a0≤36))
 (cond (a1==2)
 (cond (Nd (ln Hj) (wr .i64 (a0-27)) (wr .i64 (a0-26)))
 (some ((Hb Hj (tn (wr .i64 (a0-27))) (tn (wr .i64 (a0-26)))),()))
 none)
 (cond (decide (a0≤36))
 (ob (Zc a0) fun r8=>
 (some (r8.1,())))
 (ob (Zc a0) fun r9=>
 (cond (r9.1==Fm)
 (some (([10]:List UInt8),()))
 (cond (r9.1==([116,97,98]:List UInt8))
 (some (([9]:List UInt8),()))
 (cond (r9.1==Gm)
 (some (([32]:List UInt8),()))
 (cond (r9.1==Em)
 (cond (a1==2)
 (some (([95]:List UInt8),()))
 (some (([45]:List UInt8),())))
 (cond (r9.1==Dm)
 (cond (a1==2)
 (some (([43]:List UInt8),()))
 (some (([61]:List UInt8),())))
 (some ([],()))))))))))
 (cond (decide (a0≤36))
 (ob (Zc a0) fun r10=>
 (some (r10.1,())))
 (ob (Zc a0) fun r11=>
 (cond (r11.1==Fm)
 (some (([10]:List UInt8),()))
 (cond (r11.1==([116,97,98]:List UInt8))
 (some (([9]:List UInt8),()))
 (cond (r11.1==Gm)
 (some (([32]:List UInt8),()))
 (cond (r11.1==Em)
 (cond (a1==2)
 (some (([95]:List UInt8),()))
 (some (([45]:List UInt8),())))
 (cond (r11.1==Dm)
 (cond (a1==2)
 (some (([43]:List UInt8),()))
 (some (([61]:List UInt8),())))
 (some ([],())))))))))))))
 (cond (decide (a0≤26))
 (cond (a1==2)
 (some ((Dp ([(wr .u8 (wr .i64 ((wr .i64 (65+a0))-1)))]:List Int)),()))
 (cond (decide (a0≤26))
 (ob (Zc a0) fun r12=>
 (some (r12.1,())))
 (cond (decide (a0≤36))
 (cond (a1==2)
 (cond (Nd (ln Hj) (wr .i64 (a0-27)) (wr .i64 (a0-26)))
 (some ((Hb Hj (tn (wr .i64 (a0-27))) (tn (wr .i64 (a0-26)))),()))
 none)
 (cond (decide (a0≤36))
 (ob (Zc a0) fun r13=>
 (some (r13.1,())))
 (ob (Zc a0) fun r14=>
 (cond (r14.1==Fm)
 (some (([10]:List UInt8),()))
 (cond (r14.1==([116,97,98]:List UInt8))
 (some (([9]:List UInt8),()))
 (cond (r14.1==Gm)
 (some (([32]:List UInt8),()))
 (cond (r14.1==Em)
 (cond (a1==2)
 (some (([95]:List UInt8),()))
 (some (([45]:List UInt8),())))
 (cond (r14.1==Dm)
 (cond (a1==2)
 (some (([43]:List UInt8),()))
 (some (([61]:List UInt8),())))
 (some ([],()))))))))))
 (cond (decide (a0≤36))
 (ob (Zc a0) fun r15=>
 (some (r15.1,())))
 (ob (Zc a0) fun r16=>
 (cond (r16.1==Fm)
 (some (([10]:List UInt8),()))
 (cond (r16.1==([116,97,98]:List UInt8))
 (some (([9]:List UInt8),()))
 (cond (r16.1==Gm)
 (some (([32]:List UInt8),()))
 (cond (r16.1==Em)
 (cond (a1==2)
 (some (([95]:List UInt8),()))
 (some (([45]:List UInt8),())))
 (cond (r16.1==Dm)
 (cond (a1==2)
 (some (([43]:List UInt8),()))
 (some (([61]:List UInt8),())))
 (some ([],()))))))))))))
 (cond (decide (a0≤26))
 (ob (Zc a0) fun r17=>
 (some (r17.1,())))
 (cond (decide (a0≤36))
 (cond (a1==2)
 (cond (Nd (ln Hj) (wr .i64 (a0-27)) (wr .i64 (a0-26)))
 (some ((Hb Hj (tn (wr .i64 (a0-27))) (tn (wr .i64 (a0-26)))),()))
 none)
 (cond (decide (a0≤36))
 (ob (Zc a0) fun r18=>
 (some (r18.1,())))
 (ob (Zc a0) fun r19=>
 (cond (r19.1==Fm)
 (some (([10]:List UInt8),()))
 (cond (r19.1==([116,97,98]:List UInt8))
 (some (([9]:List UInt8),()))
 (cond (r19.1==Gm)
 (some (([32]:List UInt8),()))
 (cond (r19.1==Em)
 (cond (a1==2)
 (some (([95]:List UInt8),()))
 (some (([45]:List UInt8),())))
 (cond (r19.1==Dm)
 (cond (a1==2)
 (some (([43]:List UInt8),()))
 (some (([61]:List UInt8),())))
 (some ([],()))))))))))
 (cond (decide (a0≤36))
 (ob (Zc a0) fun r20=>
 (some (r20.1,())))
 (ob (Zc a0) fun r21=>
 (cond (r21.1==Fm)
 (some (([10]:List UInt8),()))
 (cond (r21.1==([116,97,98]:List UInt8))
 (some (([9]:List UInt8),()))
 (cond (r21.1==Gm)
 (some (([32]:List UInt8),()))
 (cond (r21.1==Em)
 (cond (a1==2)
 (some (([95]:List UInt8),()))
 (some (([45]:List UInt8),())))
 (cond (r21.1==Dm)
 (cond (a1==2)
 (some (([43]:List UInt8),()))
 (some (([61]:List UInt8),())))
 (some ([],())))))))))))))))
def Zq(a0:Ma):Option Id:=
 (ob (Cj a0) fun r1=>
 (cond r1.1
 (cond (a0.1==6)
 (some (true,()))
 (some ((a0.1==7),())))
 (some (false,()))))
def WT(a0:Ma):Option Au:=
 (ob (Zq a0) fun r1=>
 (cond (!r1.1)
 (some (a0,()))
 (some ((2,a0.2.1,0,0,()),()))))
def Ss(t2:Unit)(t3:Unit)(t10:Pi)(t11:Int)(t12:Int)(b2:Ia)(b3:Ia):Option (((Unit×(Unit×NC))×LC)⊕((NQ×LC)⊕Re)):=
 (cond (decide (t12<t11))
 (ob (Ib t10 t12) fun x4=>
 (cond (bl (ln ([]:List Ma)+ln x4) Wa)
 (cond (bl (ln b3.2.1+ln ([(ap [] x4)]:List Li)) Wa)
 (some (.inl (((),(),t10,t11,(wr .i64 (t12+1)),()),(b2,(b3.1,(ap b3.2.1 ([(ap [] x4)]:List Li)),()),()))))
 none)
 none))
 (some (.inr (.inl (((),(),()),(b2,b3,()))))))
def Fw:=Va fun x:((Unit×(Unit×NC))×LC)=>Ss x.1.1 x.1.2.1 x.1.2.2.1 x.1.2.2.2.1 x.1.2.2.2.2.1 x.2.1 x.2.2.1
def Ou(a0:Ia):Option Nl:=
 (ob (Fw (((),(),a0.2.1,((ln a0.2.1:Nat):Int),0,()),((0,[],()),(a0.1,[],()),()))) (se (fun y5=>(some (y5.2.2.1,()))) (fun z6=>none)))
def Ts(t3:Uh)(t6:Uh)(t7:Int)(t8:Int):Option (((Uh×QQ)×Unit)⊕(((Uh×Unit)×Unit)⊕Re)):=
 (cond (decide (t8<t7))
 (ob (Ib t6 t8) fun x4=>
 (cond (bl (ln ([]:List Ua)+ln x4) Wa)
 (cond (bl (ln t3+ln ([(ap [] x4)]:List Uf)) Wa)
 (some (.inl (((ap t3 ([(ap [] x4)]:List Uf)),t6,t7,(wr .i64 (t8+1)),()),())))
 none)
 none))
 (some (.inr (.inl ((t3,()),())))))
def Gw:=Va fun x:((Uh×QQ)×Unit)=>Ts x.1.1 x.1.2.1 x.1.2.2.1 x.1.2.2.2.1
def Po(a0:Uh):Option (Uh×Unit):=
 (ob (Gw (([],a0,((ln a0:Nat):Int),0,()),())) (se (fun y5=>(some (y5.1.1,()))) (fun z6=>none)))
def Ew(a0:Int)(a1:Int):Option Gd:=
 (cond (decide (0≤a1))
 (some ((Ih .i64 (Cy .i64 a0 a1) 1),()))
 none)
def UC(t3:Int)(t6:He)(t7:Int)(t8:Int):Option (AW⊕Zt):=
 (cond (decide (t8<t7))
 (ob (Ib t6 t8) fun x7=>
 (cond (decide (x7.1<0))
 (some (.inr (.inr ((false,()),()))))
 (cond (decide (x7.1>31))
 (some (.inr (.inr ((false,()),()))))
 (ob (Ew t3 x7.1) fun r8=>
 (cond (r8.1==1)
 (some (.inr (.inr ((false,()),()))))
 (ob (Cj x7.2.1) fun r9=>
 (cond (!r9.1)
 (some (.inr (.inr ((false,()),()))))
 (cond (x7.2.1.1==1)
 (some (.inr (.inr ((false,()),()))))
 (cond (x7.2.1.1==6)
 (some (.inr (.inr ((false,()),()))))
 (cond (x7.2.1.1==7)
 (some (.inr (.inr ((false,()),()))))
 (cond (decide (0≤x7.1))
 (some (.inl (((Fe .i64 t3 (Te .i64 1 x7.1)),t6,t7,(wr .i64 (t8+1)),()),())))
 none)))))))))))
 (some (.inr (.inl ((),())))))
def PE:=Va fun x:AW=>UC x.1.1 x.1.2.1 x.1.2.2.1 x.1.2.2.2.1
def Ln(a0:He):Option Id:=
 (ob (PE ((0,a0,((ln a0:Nat):Int),0,()),())) (se (fun y10=>(some (true,()))) (fun z11=>(some (z11.1.1,())))))
def BD(t3:Unit)(t7:FJ)(t8:Int)(t9:Int)(b3:Rc):Option (((Unit×Nai)×Jaa)⊕PQ):=
 (cond (decide (t9<t8))
 (ob (Ib t7 t9) fun x3=>
 (cond (QC Zh x3 b3)
 (some (.inr (.inr ((t9,()),()))))
 (some (.inl (((),t7,t8,(wr .i64 (t9+1)),()),(b3,()))))))
 (some (.inr (.inl ((),())))))
def TE:=Va fun x:((Unit×Nai)×Jaa)=>BD x.1.1 x.1.2.1 x.1.2.2.1 x.1.2.2.2.1 x.2.1
def KI(a0:FJ)(a1:Rc):Option Gd:=
 (ob (TE (((),a0,((ln a0:Nat):Int),0,()),(a1,()))) (se (fun y4=>(some ((-1),()))) (fun z5=>(some (z5.1.1,())))))
def Rr(t3:FJ)(t11:Uf)(t12:Int)(t13:Int):Option (((FJ×RQ)×Unit)⊕(((FJ×Unit)×Unit)⊕MC)):=
 (cond (decide (t13<t12))
 (ob (Ib t11 t13) fun x10=>
 (ob (KI t3 x10.2) fun r11=>
 (ob (Cj (2,x10.2.1,x10.2.2.1,0,())) fun r12=>
 (cond (!r12.1)
 (some (.inr (.inr ((false,()),()))))
 (cond (x10.1==0)
 (cond (decide (r11.1≥0))
 (some (.inr (.inr ((false,()),()))))
 (cond (x10.1==1)
 (cond (bl (ln t3+ln ([x10.2]:List Rc)) Wa)
 (some (.inl (((ap t3 ([x10.2]:List Rc)),t11,t12,(wr .i64 (t13+1)),()),())))
 none)
 (some (.inl ((t3,t11,t12,(wr .i64 (t13+1)),()),())))))
 (cond (x10.1==1)
 (cond (decide (r11.1≥0))
 (some (.inr (.inr ((false,()),()))))
 (cond (x10.1==1)
 (cond (bl (ln t3+ln ([x10.2]:List Rc)) Wa)
 (some (.inl (((ap t3 ([x10.2]:List Rc)),t11,t12,(wr .i64 (t13+1)),()),())))
 none)
 (some (.inl ((t3,t11,t12,(wr .i64 (t13+1)),()),())))))
 (cond (x10.1==2)
 (cond (decide (r11.1<0))
 (some (.inr (.inr ((false,()),()))))
 (cond (Nd (ln t3) 0 r11.1)
 (cond (Nd (ln t3) (wr .i64 (r11.1+1)) ((ln t3:Nat):Int))
 (cond (bl (ln (Hb t3 (tn 0) (tn r11.1))+ln (Hb t3 (tn (wr .i64 (r11.1+1))) (tn ((ln t3:Nat):Int)))) Wa)
 (some (.inl (((ap (Hb t3 (tn 0) (tn r11.1)) (Hb t3 (tn (wr .i64 (r11.1+1))) (tn ((ln t3:Nat):Int)))),t11,t12,(wr .i64 (t13+1)),()),())))
 none)
 none)
 none))
 (some (.inr (.inr ((false,()),())))))))))))
 (some (.inr (.inl ((t3,()),())))))
def BC:=Va fun x:((FJ×RQ)×Unit)=>Rr x.1.1 x.1.2.1 x.1.2.2.1 x.1.2.2.2.1
def Qr(a0:Uf):Option Id:=
 (cond (decide (((ln a0:Nat):Int)>8))
 (some (false,()))
 (ob (BC (([],a0,((ln a0:Nat):Int),0,()),())) (se (fun y13=>(some ((((ln y13.1.1:Nat):Int)==0),()))) (fun z14=>(some (z14.1.1,()))))))
def Tw(t1:Unit)(t35:Uh)(t36:Int)(t37:Int)(b1:Gb):Option (((Unit×QQ)×Ho)⊕((Re×Ho)⊕MC)):=
 (cond (decide (t37<t36))
 (ob (Ib t35 t37) fun x7=>
 (ob (Qr x7) fun r8=>
 (cond (!r8.1)
 (some (.inr (.inr ((false,()),()))))
 (some (.inl (((),t35,t36,(wr .i64 (t37+1)),()),(b1,())))))))
 (some (.inr (.inl (((),()),(b1,()))))))
def Yp:=Va fun x:((Unit×QQ)×Ho)=>Tw x.1.1 x.1.2.1 x.1.2.2.1 x.1.2.2.2.1 x.2.1
def Eu(t1:Unit)(t5:Int)(t50:He)(t51:Int)(t52:Int)(b1:Gb):Option (((Unit×(Int×F5))×Ho)⊕((Ns×Ho)⊕MC)):=
 (cond (decide (t52<t51))
 (ob (Ib t50 t52) fun x13=>
 (cond (decide (x13.1≥b1.1.1))
 (some (.inr (.inr ((false,()),()))))
 (cond (x13.2.1.1 !=9)
 (cond (decide (x13.2.1.2.2.2.1≥t5))
 (some (.inr (.inr ((false,()),()))))
 (some (.inl (((),t5,t50,t51,(wr .i64 (t52+1)),()),(b1,())))))
 (some (.inl (((),t5,t50,t51,(wr .i64 (t52+1)),()),(b1,())))))))
 (some (.inr (.inl (((),t5,()),(b1,()))))))
def No:=Va fun x:((Unit×(Int×F5))×Ho)=>Eu x.1.1 x.1.2.1 x.1.2.2.1 x.1.2.2.2.1 x.1.2.2.2.2.1 x.2.1
def JB(a0:Gb):Option Id:=
 (ob (Am a0.1) fun r1=>
 (cond (!r1.1)
 (some (false,()))
 (cond (decide (((ln a0.2.1:Nat):Int)>4))
 (some (false,()))
 (ob (Ln a0.2.2.2.1) fun r2=>
 (cond (!r2.1)
 (some (false,()))
 (cond (decide (a0.2.2.2.2.1<0))
 (some (false,()))
 (cond (decide (a0.2.2.2.2.1>15))
 (some (false,()))
 (ob (Yp (((),a0.2.1,((ln a0.2.1:Nat):Int),0,()),(a0,()))) (se (fun y9=>(ob (No (((),((ln y9.2.1.1.2.1:Nat):Int),y9.2.1.2.2.2.1,((ln y9.2.1.2.2.2.1:Nat):Int),0,()),(y9.2.1,()))) (se (fun y14=>(cond (decide (y14.2.1.2.2.1≥0))
 (cond ((2:Int)==0)
 none
 (cond ((ye y14.2.1.2.2.1 2)==0)
 (cond (decide (0≤y14.1.2.1))
 (some ((decide (y14.2.1.2.2.1<(Te .i64 1 y14.1.2.1))),()))
 none)
 (some (false,()))))
 (some (false,())))) (fun z15=>(some (z15.1.1,())))))) (fun z10=>(some (z10.1.1,()))))))))))))
def JG(a0:Ia)(a1:Uh):Option (Gb×Id):=
 (ob (Ou a0) fun r1=>
 (ob (Po a1) fun r2=>
 (ob (JB (r1.1,r2.1,0,[],0,false,())) fun r3=>
 (cond (!r3.1)
 (some (Zy,false,()))
 (some ((r1.1,r2.1,0,[],0,false,()),true,()))))))
def Rl(a0:Gb):Option Ho:=
 (ob (Ou a0.1) fun r1=>
 (ob (Po a0.2.1) fun r2=>
 (cond (bl (ln ([]:List Pa)+ln a0.2.2.2.1) Wa)
 (some ((r1.1,r2.1,a0.2.2.1,(ap [] a0.2.2.2.1),a0.2.2.2.2),()))
 none)))
def KB(a0:Ua):Option Id:=
 (cond (decide (a0.1≥1))
 (cond (decide (a0.1≤1000))
 (cond (decide (a0.2.1≥0))
 (cond (decide (a0.2.1≤1000))
 (cond (decide (a0.2.2.1≥0))
 (some ((decide (a0.2.2.1≤2)),()))
 (some (false,())))
 (some (false,())))
 (some (false,())))
 (some (false,())))
 (some (false,())))
def Xw(t3:Int)(t6:He)(t7:Int)(t8:Int):Option (AW⊕Qai):=
 (cond (decide (t8<t7))
 (ob (Ib t6 t8) fun x3=>
 (cond (decide (0≤x3.1))
 (some (.inl (((Fe .i64 t3 (Te .i64 1 x3.1)),t6,t7,(wr .i64 (t8+1)),()),())))
 none))
 (some (.inr (.inl ((t3,()),())))))
def EA:=Va fun x:AW=>Xw x.1.1 x.1.2.1 x.1.2.2.1 x.1.2.2.2.1
def Pt(a0:He):Option Gd:=
 (ob (EA ((0,a0,((ln a0:Nat):Int),0,()),())) (se (fun y4=>(some (y4.1.1,()))) (fun z5=>none)))
def OE(a0:Ya):Option Id:=
 (cond (decide (a0.1≥0))
 (cond (decide (a0.1≤1000000))
 (cond (decide (a0.2.1≥0))
 (some ((decide (a0.2.1≤31)),()))
 (some (false,())))
 (some (false,())))
 (some (false,())))
def ZC(t0:Wh)(t1:Int)(t11:Wh)(t12:Int)(t13:Int):Option (((Wh×D5)×Unit)⊕(Iaa⊕DaC)):=
 (cond (decide (t13<t12))
 (ob (Ib t11 t13) fun x11=>
 (ob (OE x11) fun r12=>
 (cond (!r12.1)
 (some (.inr (.inr ((0,false,()),()))))
 (cond (decide (t13>0))
 (ob (Ib t0 (wr .i64 (t13-1))) fun x13=>
 (cond (decide (x13.1>x11.1))
 (some (.inr (.inr ((0,false,()),()))))
 (ob (Ew t1 x11.2.1) fun r14=>
 (cond (x11.2.2.1==(r14.1==1))
 (some (.inr (.inr ((0,false,()),()))))
 (cond (decide (0≤x11.2.1))
 (some (.inl ((t0,(Kt .i64 t1 (Te .i64 1 x11.2.1)),t11,t12,(wr .i64 (t13+1)),()),())))
 none)))))
 (ob (Ew t1 x11.2.1) fun r15=>
 (cond (x11.2.2.1==(r15.1==1))
 (some (.inr (.inr ((0,false,()),()))))
 (cond (decide (0≤x11.2.1))
 (some (.inl ((t0,(Kt .i64 t1 (Te .i64 1 x11.2.1)),t11,t12,(wr .i64 (t13+1)),()),())))
 none)))))))
 (some (.inr (.inl ((t1,()),())))))
def RE:=Va fun x:((Wh×D5)×Unit)=>ZC x.1.1 x.1.2.1 x.1.2.2.1 x.1.2.2.2.1 x.1.2.2.2.2.1
def AR(a0:Wh)(a1:Int):Option G5:=
 (cond (decide (((ln a0:Nat):Int)>64))
 (some (0,false,()))
 (ob (RE ((a0,a1,a0,((ln a0:Nat):Int),0,()),())) (se (fun y16=>(some (y16.1.1,true,()))) (fun z17=>(some z17.1)))))
def Ru(t0:Wh)(t1:Int)(t2:Int)(t11:Wh)(t12:Int)(t13:Int):Option (((Wh×(Int×D5))×Unit)⊕((Rai×Unit)⊕MC)):=
 (cond (decide (t13<t12))
 (ob (Ib t11 t13) fun x3=>
 (cond (decide (x3.2.1≥t2))
 (some (.inr (.inr ((false,()),()))))
 (some (.inl ((t0,t1,t2,t11,t12,(wr .i64 (t13+1)),()),())))))
 (some (.inr (.inl ((t0,t1,()),())))))
def Yx:=Va fun x:((Wh×(Int×D5))×Unit)=>Ru x.1.1 x.1.2.1 x.1.2.2.1 x.1.2.2.2.1 x.1.2.2.2.2.1 x.1.2.2.2.2.2.1
def Dr(a0:Wh)(a1:Int)(a2:Int):Option Id:=
 (ob (Yx ((a0,a1,a2,a0,((ln a0:Nat):Int),0,()),())) (se (fun y4=>(ob (AR y4.1.1 y4.1.2.1) fun r6=>
 (some (r6.2.1,())))) (fun z5=>(some (z5.1.1,())))))
def Cr(a0:Wh)(a1:Int):Option Id:=
 (cond (((ln a0:Nat):Int)==0)
 (some (true,()))
 (ob (Ib a0 (wr .i64 (((ln a0:Nat):Int)-1))) fun x1=>
 (some ((decide (x1.1≤a1)),()))))
def Yq(a0:Ab):Option Id:=
 (ob (JB a0.1) fun r1=>
 (cond (!r1.1)
 (some (false,()))
 (ob (KB a0.2.1) fun r2=>
 (cond (!r2.1)
 (some (false,()))
 (cond (decide (a0.2.2.2.1<0))
 (some (false,()))
 (cond (decide (a0.2.2.2.1>1000000))
 (some (false,()))
 (cond (decide (a0.2.2.2.2.1<0))
 (some (false,()))
 (cond (decide (a0.2.2.2.2.1>a0.2.2.2.1))
 (some (false,()))
 (ob (Pt a0.1.2.2.2.1) fun r3=>
 (ob (Dr a0.2.2.1 r3.1 a0.1.1.1) fun r4=>
 (cond (!r4.1)
 (some (false,()))
 (ob (Cr a0.2.2.1 a0.2.2.2.1) fun r5=>
 (cond (!r5.1)
 (some (false,()))
 (cond (decide (a0.2.2.2.2.2.1≥0))
 (cond (decide (a0.2.2.2.2.2.1≤a0.1.1.1))
 (cond (decide (a0.2.2.2.2.2.2.1≥0))
 (some ((decide (a0.2.2.2.2.2.2.1≤a0.2.2.2.1)),()))
 (some (false,())))
 (some (false,())))
 (some (false,()))))))))))))))))
def XC(a0:Gb)(a1:Ua):Option (Ab×Id):=
 (ob (Rl a0) fun r1=>
 (ob (Yq (r1.1,a1,[],0,0,0,0,())) fun r2=>
 (cond (!r2.1)
 (some (Kg,false,()))
 (some ((r1.1,a1,[],0,0,0,0,()),true,())))))
def Tm(a0:Ab):Option RT:=
 (ob (Rl a0.1) fun r1=>
 (cond (bl (ln ([]:List Ya)+ln a0.2.2.1) Wa)
 (some ((r1.1,a0.2.1,(ap [] a0.2.2.1),a0.2.2.2),()))
 none))
def TC(t1:Int)(t8:He)(t9:Int)(t10:Int):Option (AW⊕PQ):=
 (cond (decide (t10<t9))
 (ob (Ib t8 t10) fun x3=>
 (cond (x3.1==t1)
 (some (.inr (.inr ((t10,()),()))))
 (some (.inl ((t1,t8,t9,(wr .i64 (t10+1)),()),())))))
 (some (.inr (.inl ((),())))))
def NE:=Va fun x:AW=>TC x.1.1 x.1.2.1 x.1.2.2.1 x.1.2.2.2.1
def XQ(a0:Gb)(a1:Int):Option Gd:=
 (ob (NE ((a1,a0.2.2.2.1,((ln a0.2.2.2.1:Nat):Int),0,()),())) (se (fun y4=>(some ((-1),()))) (fun z5=>(some (z5.1.1,())))))
def sort_Ints(x0:Rd):Option TL:=srt x0
def AD(t1:Int)(t7:Rd)(t8:Int)(t9:Int):Option ((Way×Unit)⊕Zt):=
 (cond (decide (t9<t8))
 (ob (Ib t7 t9) fun x3=>
 (cond (x3==t1)
 (some (.inr (.inr ((true,()),()))))
 (some (.inl ((t1,t7,t8,(wr .i64 (t9+1)),()),())))))
 (some (.inr (.inl ((),())))))
def SE:=Va fun x:(Way×Unit)=>AD x.1.1 x.1.2.1 x.1.2.2.1 x.1.2.2.2.1
def JI(a0:Rd)(a1:Int):Option Id:=
 (ob (SE ((a1,a0,((ln a0:Nat):Int),0,()),())) (se (fun y4=>(some (false,()))) (fun z5=>(some (z5.1.1,())))))
def CA(t4:Rd)(t11:Rd)(t12:Int)(t13:Int):Option ((IY×Unit)⊕MZ):=
 (cond (decide (t13<t12))
 (cond (Rb (ln t11) t13)
 (ob t11[(tn t13)]? fun x9=>
 (cond (x9 !=0)
 (ob (JI t4 x9) fun r10=>
 (cond (!r10.1)
 (cond (bl (ln t4+ln ([x9]:List Int)) Wa)
 (some (.inl (((ap t4 ([x9]:List Int)),t11,t12,(wr .i64 (t13+1)),()),())))
 none)
 (some (.inl ((t4,t11,t12,(wr .i64 (t13+1)),()),())))))
 (some (.inl ((t4,t11,t12,(wr .i64 (t13+1)),()),())))))
 none)
 (some (.inr (.inl ((t4,()),())))))
def DC:=Va fun x:(IY×Unit)=>CA x.1.1 x.1.2.1 x.1.2.2.1 x.1.2.2.2.1
def Vx(a0:Rd):Option TL:=
 (ob (Lk a0) fun r1=>
 (ob (sort_Ints r1.1) fun r2=>
 (ob (DC (([],r2.1,((ln r2.1:Nat):Int),0,()),())) (se (fun y11=>(some (y11.1.1,()))) (fun z12=>none)))))
def Ww(t2:Unit)(t3:Unit)(t4:Rd)(t11:He)(t12:Int)(t13:Int)(b2:Ca)(b3:Ca):Option (((Unit×(Unit×(Rd×F5)))×Hn)⊕Paj):=
 (cond (decide (t13<t12))
 (ob (Ib t11 t13) fun x5=>
 (cond (x5.2.1.1==2)
 (cond (bl (ln t4+ln ([x5.2.1.2.1]:List Int)) Wa)
 (some (.inl (((),(),(ap t4 ([x5.2.1.2.1]:List Int)),t11,t12,(wr .i64 (t13+1)),()),(b2,((Fe .i64 b3.1 x5.2.1.2.2.1),b3.2.1,()),()))))
 none)
 (cond (x5.2.1.1==8)
 (cond (bl (ln t4+ln ([x5.2.1.2.1]:List Int)) Wa)
 (some (.inl (((),(),(ap t4 ([x5.2.1.2.1]:List Int)),t11,t12,(wr .i64 (t13+1)),()),(b2,((Fe .i64 b3.1 x5.2.1.2.2.1),b3.2.1,()),()))))
 none)
 (cond (bl (ln t4+ln ([x5.2.1.2.1]:List Int)) Wa)
 (some (.inl (((),(),(ap t4 ([x5.2.1.2.1]:List Int)),t11,t12,(wr .i64 (t13+1)),()),(b2,b3,()))))
 none))))
 (some (.inr (.inl (((),(),t4,()),(b2,b3,()))))))
def BA:=Va fun x:((Unit×(Unit×(Rd×F5)))×Hn)=>Ww x.1.1 x.1.2.1 x.1.2.2.1 x.1.2.2.2.1 x.1.2.2.2.2.1 x.1.2.2.2.2.2.1 x.2.1 x.2.2.1
def Ee(a0:He):Option Ii:=
 (ob (Ln a0) fun r1=>
 (cond (!r1.1)
 (some ((0,[],()),()))
 (ob (BA (((),(),[],a0,((ln a0:Nat):Int),0,()),((0,[],()),(0,[],()),()))) (se (fun y6=>(ob (Vx y6.1.2.2.1) fun r8=>
 (some ((y6.2.2.1.1,r8.1,()),())))) (fun z7=>none)))))
def Yw(t0:Rd)(t1:Rd)(t12:Int)(t13:Int):Option ((IY×Unit)⊕Zt):=
 (cond (decide (t13<t12))
 (ob (Ib t0 t13) fun x5=>
 (ob (Ib t1 t13) fun x6=>
 (cond (x5 !=x6)
 (some (.inr (.inr ((false,()),()))))
 (some (.inl ((t0,t1,t12,(wr .i64 (t13+1)),()),()))))))
 (some (.inr (.inl ((),())))))
def HA:=Va fun x:(IY×Unit)=>Yw x.1.1 x.1.2.1 x.1.2.2.1 x.1.2.2.2.1
def IJ(a0:Rd)(a1:Rd):Option Id:=
 (cond (((ln a0:Nat):Int) !=((ln a1:Nat):Int))
 (some (false,()))
 (ob (HA ((a0,a1,((ln a0:Nat):Int),0,()),())) (se (fun y7=>(some (true,()))) (fun z8=>(some (z8.1.1,()))))))
def Ju(a0:Ca)(a1:Ca):Option Id:=
 (cond (a0.1==a1.1)
 (ob (IJ a0.2.1 a1.2.1) fun r1=>
 (some (r1.1,())))
 (some (false,())))
def Mm(a b:Ca):Bool:=(a.1==b.1)&&(a.2.1==b.2.1)
def DaP(c:T Lf→T Lf→Option Bool)(a b:T Lf):Option Id:=ob (c a b) fun x=>some (x,())
def HP(c:T Lf→T Lf→Option Bool)(t2:Unit)(t5:(List (Int×((T .o)×Unit))))(t8:(List (Int×((T .o)×Unit))))(t9:Int)(t10:Int)(b2:(Int×((T .o)×Unit))):Option (((Unit×((List (Int×((T .o)×Unit)))×((List (Int×((T .o)×Unit)))×Rc)))×((Int×((T .o)×Unit))×Unit))⊕((((List (Int×((T .o)×Unit)))×Unit)×Unit)⊕Re)):=
 (cond (decide (t10<t9))
 (ob (Ib t8 t10) fun x7=>
 (ob (DaP c b2 x7) fun r8=>
 (cond (!r8.1)
 (cond (bl (ln t5+ln ([x7]:List (Int×((T .o)×Unit)))) Wa)
 (some (.inl (((),(ap t5 ([x7]:List (Int×((T .o)×Unit)))),t8,t9,(wr .i64 (t10+1)),()),(x7,()))))
 none)
 (some (.inl (((),t5,t8,t9,(wr .i64 (t10+1)),()),(x7,())))))))
 (some (.inr (.inl ((t5,()),())))))
def SB(c:T Lf→T Lf→Option Bool)(x:((Unit×((List (Int×((T .o)×Unit)))×((List (Int×((T .o)×Unit)))×Rc)))×((Int×((T .o)×Unit))×Unit))):Option ((((List (Int×((T .o)×Unit)))×Unit)×Unit)⊕Re):=Va (fun x:((Unit×((List (Int×((T .o)×Unit)))×((List (Int×((T .o)×Unit)))×Rc)))×((Int×((T .o)×Unit))×Unit))=>HP c x.1.1 x.1.2.1 x.1.2.2.1 x.1.2.2.2.1 x.1.2.2.2.2.1 x.2.1) x
def Gaz(c:T Lf→T Lf→Option Bool)(a0:(Int×((T .o)×Unit)))(a1:(List (Int×((T .o)×Unit)))):Option ((List (Int×((T .o)×Unit)))×Unit):=
 (ob (SB c (((),([]:List (Int×((T .o)×Unit))),a1,((ln a1:Nat):Int),0,()),(a0,()))) (se (fun y9=>(some (y9.1.1,()))) (fun z10=>none)))
def Sf(a0:Ca)(a1:List Ca):Option UT:=Faz Mm a0 a1
def UE(a0:Gb)(a1:Int):Option (Gb×UT):=
 (ob (Rl a0) fun r1=>
 (ob (XQ a0 a1) fun r2=>
 (cond (Nd (ln r1.1.2.2.2.1) 0 r2.1)
 (cond (Nd (ln r1.1.2.2.2.1) (wr .i64 (r2.1+1)) ((ln r1.1.2.2.2.1:Nat):Int))
 (cond (bl (ln (Hb r1.1.2.2.2.1 (tn 0) (tn r2.1))+ln (Hb r1.1.2.2.2.1 (tn (wr .i64 (r2.1+1))) (tn ((ln r1.1.2.2.2.1:Nat):Int)))) Wa)
 (ob (Ee a0.2.2.2.1) fun r3=>
 (ob (Ee (ap (Hb r1.1.2.2.2.1 (tn 0) (tn r2.1)) (Hb r1.1.2.2.2.1 (tn (wr .i64 (r2.1+1))) (tn ((ln r1.1.2.2.2.1:Nat):Int))))) fun r4=>
 (ob (Sf r3.1 ([r4.1]:List Ca)) fun r5=>
 (some ((r1.1.1,r1.1.2.1,r1.1.2.2.1,(ap (Hb r1.1.2.2.2.1 (tn 0) (tn r2.1)) (Hb r1.1.2.2.2.1 (tn (wr .i64 (r2.1+1))) (tn ((ln r1.1.2.2.2.1:Nat):Int)))),r1.1.2.2.2.2),r5.1,())))))
 none)
 none)
 none)))
def Vw(t5:Int)(t21:He)(t22:Int)(t23:Int):Option (AW⊕Qai):=
 (cond (decide (t23<t22))
 (ob (Ib t21 t23) fun x16=>
 (cond (x16.2.1.1==3)
 (cond (decide (0≤x16.2.1.2.2.2.1))
 (some (.inl (((Fe .i64 t5 (Te .i64 1 x16.2.1.2.2.2.1)),t21,t22,(wr .i64 (t23+1)),()),())))
 none)
 (some (.inl ((t5,t21,t22,(wr .i64 (t23+1)),()),())))))
 (some (.inr (.inl ((t5,()),())))))
def Ql:=Va fun x:AW=>Vw x.1.1 x.1.2.1 x.1.2.2.1 x.1.2.2.2.1
def Nt(a0:Int)(a1:He):Option Gd:=
 (cond (decide (a0≥0))
 (cond (decide (a0≤15))
 (ob (Ln a1) fun r1=>
 (cond (!r1.1)
 (some ((Fe .i64 1 a0),()))
 (ob (Ql (((Fe .i64 1 a0),a1,((ln a1:Nat):Int),0,()),())) (se (fun y5=>(some (y5.1.1,()))) (fun z6=>none)))))
 (ob (Ln a1) fun r7=>
 (cond (!r7.1)
 (some (1,()))
 (ob (Ql ((1,a1,((ln a1:Nat):Int),0,()),())) (se (fun y11=>(some (y11.1.1,()))) (fun z12=>none))))))
 (ob (Ln a1) fun r13=>
 (cond (!r13.1)
 (some (1,()))
 (ob (Ql ((1,a1,((ln a1:Nat):Int),0,()),())) (se (fun y17=>(some (y17.1.1,()))) (fun z18=>none))))))
def DV(t1:Int)(t2:Int)(t3:Unit)(t7:Int)(b3:Ia):Option (Uai⊕PQ):=
 (cond (decide (t7>0))
 (ob (Ew t1 t7) fun r7=>
 (cond (r7.1==1)
 (ob (Ib b3.2.1 t7) fun x8=>
 (ob (Ib x8 t2) fun x9=>
 (cond (x9.1 !=1)
 (some (.inr (.inr ((t7,()),()))))
 (some (.inl ((t1,t2,(),(wr .i64 (t7-1)),()),(b3,())))))))
 (some (.inl ((t1,t2,(),(wr .i64 (t7-1)),()),(b3,()))))))
 (some (.inr (.inl ((),())))))
def Ak:=Va fun x:Uai=>DV x.1.1 x.1.2.1 x.1.2.2.1 x.1.2.2.2.1 x.2.1
def Xx(a0:Ia)(a1:Int)(a2:Int):Option Gd:=
 (ob (Ak ((a1,a2,(),(wr .i64 (((ln a0.2.1:Nat):Int)-1)),()),(a0,()))) (se (fun y10=>(some (0,()))) (fun z11=>(some (z11.1.1,())))))
def BV(a0:Ia)(a1:Int)(a2:Int):Option Gd:=
 (ob (Am a0) fun r1=>
 (cond (!r1.1)
 (some ((-1),()))
 (cond (decide (a2<0))
 (some ((-1),()))
 (cond (decide (a2≥a0.1))
 (some ((-1),()))
 (ob (Xx a0 a1 a2) fun r2=>
 (some (r2.1,())))))))
def HJ(a0:Ia)(a1:Int)(a2:Int):Option Au:=
 (ob (BV a0 a1 a2) fun r1=>
 (cond (decide (r1.1<0))
 (some ((0,0,0,0,()),()))
 (ob (Ib a0.2.1 r1.1) fun x2=>
 (ob (Ib x2 a2) fun x3=>
 (some (x3,()))))))
def Sw(t1:Int)(t2:Int)(t4:Int)(t5:Unit)(t12:Int)(t26:Wh)(t27:Int)(t28:Int)(b5:Ua):Option (((Int×(Int×(Int×(Unit×D5))))×EG)⊕(((Int×(Int×Re))×EG)⊕Jaa)):=
 (cond (decide (t28<t27))
 (ob (Ib t26 t28) fun x10=>
 (ob (OE x10) fun r11=>
 (cond (!r11.1)
 (some (.inr (.inr ((0,0,()),()))))
 (cond (decide (x10.1≥(wr .i64 (t2+b5.1))))
 (some (.inr (.inr ((2,(wr .i64 (t2+b5.1)),()),()))))
 (cond (x10.2.1==t1)
 (cond (!x10.2.2.1)
 (some (.inr (.inr ((1,x10.1,()),()))))
 (cond (x10.2.1==t1)
 (some (.inl ((t1,t2,t4,(),t12,t26,t27,(wr .i64 (t28+1)),()),(b5,()))))
 (cond x10.2.2.1
 (cond (b5.2.2.1==1)
 (some (.inr (.inr ((2,x10.1,()),()))))
 (cond (decide (0≤x10.2.1))
 (some (.inl ((t1,t2,t4,(),(Fe .i64 t12 (Te .i64 1 x10.2.1)),t26,t27,(wr .i64 (t28+1)),()),(b5,()))))
 none))
 (cond (b5.2.2.1==2)
 (ob (Ew t12 x10.2.1) fun r12=>
 (cond (r12.1==1)
 (some (.inr (.inr ((2,x10.1,()),()))))
 (some (.inl ((t1,t2,t4,(),t12,t26,t27,(wr .i64 (t28+1)),()),(b5,()))))))
 (some (.inl ((t1,t2,t4,(),t12,t26,t27,(wr .i64 (t28+1)),()),(b5,()))))))))
 (cond (x10.2.1==t1)
 (some (.inl ((t1,t2,t4,(),t12,t26,t27,(wr .i64 (t28+1)),()),(b5,()))))
 (cond x10.2.2.1
 (cond (b5.2.2.1==1)
 (some (.inr (.inr ((2,x10.1,()),()))))
 (cond (decide (0≤x10.2.1))
 (some (.inl ((t1,t2,t4,(),(Fe .i64 t12 (Te .i64 1 x10.2.1)),t26,t27,(wr .i64 (t28+1)),()),(b5,()))))
 none))
 (cond (b5.2.2.1==2)
 (ob (Ew t12 x10.2.1) fun r13=>
 (cond (r13.1==1)
 (some (.inr (.inr ((2,x10.1,()),()))))
 (some (.inl ((t1,t2,t4,(),t12,t26,t27,(wr .i64 (t28+1)),()),(b5,()))))))
 (some (.inl ((t1,t2,t4,(),t12,t26,t27,(wr .i64 (t28+1)),()),(b5,()))))))))))))
 (some (.inr (.inl ((t2,t4,(),()),(b5,()))))))
def Sz:=Va fun x:((Int×(Int×(Int×(Unit×D5))))×EG)=>Sw x.1.1 x.1.2.1 x.1.2.2.1 x.1.2.2.2.1 x.1.2.2.2.2.1 x.1.2.2.2.2.2.1 x.1.2.2.2.2.2.2.1 x.1.2.2.2.2.2.2.2.1 x.2.1
def IB(a0:Ua)(a1:Int)(a2:Int)(a3:Wh)(a4:Int):Option Rc:=
 (ob (KB a0) fun r1=>
 (cond (!r1.1)
 (some (0,0,()))
 (cond (decide (a2<0))
 (some (0,0,()))
 (cond (decide (a2>1000000))
 (some (0,0,()))
 (ob (Sz ((a1,a2,a4,(),0,a3,((ln a3:Nat):Int),0,()),(a0,()))) (se (fun y14=>(cond (decide (y14.1.2.1≥(wr .i64 (y14.1.1+y14.2.1.1))))
 (some (2,(wr .i64 (y14.1.1+y14.2.1.1)),()))
 (some (0,0,())))) (fun z15=>(some z15.1))))))))
def YQ(a0:Ma):Option Au:=
 (ob (Zq a0) fun r1=>
 (cond (!r1.1)
 (some (a0,()))
 (cond (a0.1==6)
 (some ((2,0,a0.2.2.1,0,()),()))
 (some ((3,0,0,a0.2.2.2.1,()),())))))
def WC(a0:Int):Option Id:=
 (cond (decide (a0≥1))
 (cond (decide (a0≤36))
 (some (true,()))
 (cond (a0==39)
 (some (true,()))
 (some ((a0==42),()))))
 (cond (a0==39)
 (some (true,()))
 (some ((a0==42),()))))
def Iw(a0:Gb)(a1:Ma):Option (Gb×Au):=
 (cond (a1.1==2)
 (cond (a1.2.1==0)
 (some (a0,(a1,())))
 (cond a0.2.2.2.2.2.1
 (ob (WC a1.2.1) fun r1=>
 (cond r1.1
 (cond (decide (a1.2.1≤26))
 (cond ((Kj .i64 (Fe .i64 a1.2.2.1 a0.2.2.2.2.1) 2)==0)
 (some ((a0.1,a0.2.1,a0.2.2.1,a0.2.2.2.1,0,r1.1,a0.2.2.2.2.2.2),((a1.1,a1.2.1,2,a1.2.2.2),())))
 (some ((a0.1,a0.2.1,a0.2.2.1,a0.2.2.2.1,0,r1.1,a0.2.2.2.2.2.2),((a1.1,a1.2.1,(Fe .i64 a1.2.2.1 a0.2.2.2.2.1),a1.2.2.2),()))))
 (some ((a0.1,a0.2.1,a0.2.2.1,a0.2.2.2.1,0,r1.1,a0.2.2.2.2.2.2),((a1.1,a1.2.1,(Fe .i64 a1.2.2.1 a0.2.2.2.2.1),a1.2.2.2),()))))
 (some ((a0.1,a0.2.1,a0.2.2.1,a0.2.2.2.1,0,r1.1,a0.2.2.2.2.2.2),((a1.1,a1.2.1,(Fe .i64 a1.2.2.1 a0.2.2.2.2.1),a1.2.2.2),())))))
 (some ((a0.1,a0.2.1,a0.2.2.1,a0.2.2.2.1,0,false,a0.2.2.2.2.2.2),((a1.1,a1.2.1,(Fe .i64 a1.2.2.1 a0.2.2.2.2.1),a1.2.2.2),())))))
 (cond (a1.1==4)
 (cond (decide (0≤a1.2.2.2.1))
 (some ((a0.1,a0.2.1,(Kt .i64 a0.2.2.1 (Te .i64 1 a1.2.2.2.1)),a0.2.2.2),(a1,())))
 none)
 (cond (a1.1==5)
 (cond (decide (0≤a1.2.2.2.1))
 (some ((a0.1,a0.2.1,(Kj .i64 (Te .i64 1 a1.2.2.2.1) 1),a0.2.2.2),(a1,())))
 none)
 (cond (a1.1==8)
 (cond ((Ih .i64 a0.2.2.2.2.1 a1.2.2.1)==a1.2.2.1)
 (some ((a0.1,a0.2.1,a0.2.2.1,a0.2.2.2.1,(Kj .i64 a0.2.2.2.2.1 a1.2.2.1),a0.2.2.2.2.2),(a1,())))
 (some ((a0.1,a0.2.1,a0.2.2.1,a0.2.2.2.1,(Fe .i64 a0.2.2.2.2.1 a1.2.2.1),a0.2.2.2.2.2),(a1,()))))
 (cond (a1.1==10)
 (some ((a0.1,a0.2.1,a0.2.2.1,a0.2.2.2.1,a0.2.2.2.2.1,(!a0.2.2.2.2.2.1),a0.2.2.2.2.2.2),(a1,())))
 (some (a0,(a1,()))))))))
def Su(t4:Unit)(t5:Unit)(t6:Rd)(t15:FJ)(t16:Int)(t17:Int)(b4:Ca)(b5:Ca):Option (((Unit×(Unit×(Rd×Nai)))×Hn)⊕Paj):=
 (cond (decide (t17<t16))
 (ob (Ib t15 t17) fun x4=>
 (cond (bl (ln t6+ln ([x4.1]:List Int)) Wa)
 (some (.inl (((),(),(ap t6 ([x4.1]:List Int)),t15,t16,(wr .i64 (t17+1)),()),(b4,((Fe .i64 b5.1 x4.2.1),b5.2.1,()),()))))
 none))
 (some (.inr (.inl (((),(),t6,()),(b4,b5,()))))))
def Zx:=Va fun x:((Unit×(Unit×(Rd×Nai)))×Hn)=>Su x.1.1 x.1.2.1 x.1.2.2.1 x.1.2.2.2.1 x.1.2.2.2.2.1 x.1.2.2.2.2.2.1 x.2.1 x.2.2.1
def Og(a0:Ca)(a1:FJ):Option Ii:=
 (ob (Lk a0.2.1) fun r1=>
 (ob (Zx (((),(),r1.1,a1,((ln a1:Nat):Int),0,()),((0,[],()),(a0.1,[],()),()))) (se (fun y5=>(ob (Vx y5.1.2.2.1) fun r7=>
 (some ((y5.2.2.1.1,r7.1,()),())))) (fun z6=>none))))
def Oo(t5:Unit)(t6:Eg)(t7:FJ)(t22:Uf)(t23:Int)(t24:Int)(b5:Ca):Option (((Unit×(Eg×(FJ×RQ)))×Ii)⊕J2):=
 (cond (decide (t24<t23))
 (ob (Ib t22 t24) fun x25=>
 (cond (x25.1==0)
 (cond (bl (ln ([]:List Rc)+ln t7) Wa)
 (cond (bl (ln (ap [] t7)+ln ([x25.2]:List Rc)) Wa)
 (ob (Og b5 (ap (ap [] t7) ([x25.2]:List Rc))) fun r26=>
 (cond (bl (ln t6+ln ([r26.1]:List Ca)) Wa)
 (ob (Og b5 t7) fun r27=>
 (cond (bl (ln (ap t6 ([r26.1]:List Ca))+ln ([r27.1]:List Ca)) Wa)
 (some (.inl (((),(ap (ap t6 ([r26.1]:List Ca)) ([r27.1]:List Ca)),t7,t22,t23,(wr .i64 (t24+1)),()),(b5,()))))
 none))
 none))
 none)
 none)
 (cond (x25.1==1)
 (cond (bl (ln t7+ln ([x25.2]:List Rc)) Wa)
 (ob (Og b5 (ap t7 ([x25.2]:List Rc))) fun r28=>
 (cond (bl (ln t6+ln ([r28.1]:List Ca)) Wa)
 (some (.inl (((),(ap t6 ([r28.1]:List Ca)),(ap t7 ([x25.2]:List Rc)),t22,t23,(wr .i64 (t24+1)),()),(b5,()))))
 none))
 none)
 (cond (x25.1==2)
 (ob (KI t7 x25.2) fun r29=>
 (cond (Nd (ln t7) 0 r29.1)
 (cond (Nd (ln t7) (wr .i64 (r29.1+1)) ((ln t7:Nat):Int))
 (cond (bl (ln (Hb t7 (tn 0) (tn r29.1))+ln (Hb t7 (tn (wr .i64 (r29.1+1))) (tn ((ln t7:Nat):Int)))) Wa)
 (ob (Og b5 (ap (Hb t7 (tn 0) (tn r29.1)) (Hb t7 (tn (wr .i64 (r29.1+1))) (tn ((ln t7:Nat):Int))))) fun r30=>
 (cond (bl (ln t6+ln ([r30.1]:List Ca)) Wa)
 (some (.inl (((),(ap t6 ([r30.1]:List Ca)),(ap (Hb t7 (tn 0) (tn r29.1)) (Hb t7 (tn (wr .i64 (r29.1+1))) (tn ((ln t7:Nat):Int)))),t22,t23,(wr .i64 (t24+1)),()),(b5,()))))
 none))
 none)
 none)
 none))
 (ob (Og b5 t7) fun r31=>
 (cond (bl (ln t6+ln ([r31.1]:List Ca)) Wa)
 (some (.inl (((),(ap t6 ([r31.1]:List Ca)),t7,t22,t23,(wr .i64 (t24+1)),()),(b5,()))))
 none))))))
 (some (.inr (.inl ((t6,()),())))))
def Sr:=Va fun x:((Unit×(Eg×(FJ×RQ)))×Ii)=>Oo x.1.1 x.1.2.1 x.1.2.2.1 x.1.2.2.2.1 x.1.2.2.2.2.1 x.1.2.2.2.2.2.1 x.2.1
def Xl(a0:He)(a1:Uf):Option UT:=
 (ob (Ln a0) fun r1=>
 (cond (!r1.1)
 (some ([],()))
 (ob (Qr a1) fun r2=>
 (cond (!r2.1)
 (some ([],()))
 (ob (Ee a0) fun r3=>
 (ob (Sr (((),[],[],a1,((ln a1:Nat):Int),0,()),(r3.1,()))) (se (fun y32=>(some (y32.1.1,()))) (fun z33=>none))))))))
def Mj(a0:Gb)(a1:Int)(a2:Bool):Option (Gb×UT):=
 (ob (Rl a0) fun r1=>
 (ob (Nt a0.2.2.1 a0.2.2.2.1) fun r2=>
 (ob (Xx a0.1 r2.1 a1) fun r3=>
 (ob (Ib a0.1.2.1 r3.1) fun x4=>
 (ob (Ib x4 a1) fun x5=>
 (cond a2
 (ob (YQ x5) fun r6=>
 (ob (Iw r1.1 r6.1) fun r7=>
 (cond (bl (ln r7.1.2.2.2.1+ln ([(a1,r7.2.1,())]:List Pa)) Wa)
 (cond (r7.2.1.1==9)
 (cond (decide (r7.2.1.2.2.2.1<((ln a0.2.1:Nat):Int)))
 (ob (Ib a0.2.1 r7.2.1.2.2.2.1) fun x8=>
 (ob (Xl (ap r7.1.2.2.2.1 ([(a1,r7.2.1,())]:List Pa)) x8) fun r9=>
 (ob (Ee (ap r7.1.2.2.2.1 ([(a1,r7.2.1,())]:List Pa))) fun r10=>
 (cond (bl (ln r9.1+ln ([r10.1]:List Ca)) Wa)
 (ob (Ee a0.2.2.2.1) fun r11=>
 (ob (Sf r11.1 (ap r9.1 ([r10.1]:List Ca))) fun r12=>
 (some ((r7.1.1,r7.1.2.1,r7.1.2.2.1,(ap r7.1.2.2.2.1 ([(a1,r7.2.1,())]:List Pa)),r7.1.2.2.2.2),r12.1,()))))
 none))))
 (ob (Ee (ap r7.1.2.2.2.1 ([(a1,r7.2.1,())]:List Pa))) fun r13=>
 (cond (bl (ln ([]:List Ca)+ln ([r13.1]:List Ca)) Wa)
 (ob (Ee a0.2.2.2.1) fun r14=>
 (ob (Sf r14.1 (ap [] ([r13.1]:List Ca))) fun r15=>
 (some ((r7.1.1,r7.1.2.1,r7.1.2.2.1,(ap r7.1.2.2.2.1 ([(a1,r7.2.1,())]:List Pa)),r7.1.2.2.2.2),r15.1,()))))
 none)))
 (ob (Ee (ap r7.1.2.2.2.1 ([(a1,r7.2.1,())]:List Pa))) fun r16=>
 (cond (bl (ln ([]:List Ca)+ln ([r16.1]:List Ca)) Wa)
 (ob (Ee a0.2.2.2.1) fun r17=>
 (ob (Sf r17.1 (ap [] ([r16.1]:List Ca))) fun r18=>
 (some ((r7.1.1,r7.1.2.1,r7.1.2.2.1,(ap r7.1.2.2.2.1 ([(a1,r7.2.1,())]:List Pa)),r7.1.2.2.2.2),r18.1,()))))
 none)))
 none)))
 (ob (WT x5) fun r19=>
 (ob (Iw r1.1 r19.1) fun r20=>
 (cond (bl (ln r20.1.2.2.2.1+ln ([(a1,r20.2.1,())]:List Pa)) Wa)
 (cond (r20.2.1.1==9)
 (cond (decide (r20.2.1.2.2.2.1<((ln a0.2.1:Nat):Int)))
 (ob (Ib a0.2.1 r20.2.1.2.2.2.1) fun x21=>
 (ob (Xl (ap r20.1.2.2.2.1 ([(a1,r20.2.1,())]:List Pa)) x21) fun r22=>
 (ob (Ee (ap r20.1.2.2.2.1 ([(a1,r20.2.1,())]:List Pa))) fun r23=>
 (cond (bl (ln r22.1+ln ([r23.1]:List Ca)) Wa)
 (ob (Ee a0.2.2.2.1) fun r24=>
 (ob (Sf r24.1 (ap r22.1 ([r23.1]:List Ca))) fun r25=>
 (some ((r20.1.1,r20.1.2.1,r20.1.2.2.1,(ap r20.1.2.2.2.1 ([(a1,r20.2.1,())]:List Pa)),r20.1.2.2.2.2),r25.1,()))))
 none))))
 (ob (Ee (ap r20.1.2.2.2.1 ([(a1,r20.2.1,())]:List Pa))) fun r26=>
 (cond (bl (ln ([]:List Ca)+ln ([r26.1]:List Ca)) Wa)
 (ob (Ee a0.2.2.2.1) fun r27=>
 (ob (Sf r27.1 (ap [] ([r26.1]:List Ca))) fun r28=>
 (some ((r20.1.1,r20.1.2.1,r20.1.2.2.1,(ap r20.1.2.2.2.1 ([(a1,r20.2.1,())]:List Pa)),r20.1.2.2.2.2),r28.1,()))))
 none)))
 (ob (Ee (ap r20.1.2.2.2.1 ([(a1,r20.2.1,())]:List Pa))) fun r29=>
 (cond (bl (ln ([]:List Ca)+ln ([r29.1]:List Ca)) Wa)
 (ob (Ee a0.2.2.2.1) fun r30=>
 (ob (Sf r30.1 (ap [] ([r29.1]:List Ca))) fun r31=>
 (some ((r20.1.1,r20.1.2.1,r20.1.2.2.1,(ap r20.1.2.2.2.1 ([(a1,r20.2.1,())]:List Pa)),r20.1.2.2.2.2),r31.1,()))))
 none)))
 none)))))))))
def Lj(a0:Ab):Option (Ab×Xay):=
 (cond (Rb (ln a0.2.2.1) 0)
 (ob a0.2.2.1[(tn 0)]? fun x1=>
 (cond (Nd (ln a0.2.2.1) 1 ((ln a0.2.2.1:Nat):Int))
 (cond (!x1.2.2.1)
 (cond (a0.2.2.2.2.2.1==(wr .i64 (x1.2.1+1)))
 (ob (UE a0.1 x1.2.1) fun r2=>
 (cond (bl (ln ([]:List Ya)+ln (Hb a0.2.2.1 (tn 1) (tn ((ln a0.2.2.1:Nat):Int)))) Wa)
 (some ((r2.1,a0.2.1,(ap [] (Hb a0.2.2.1 (tn 1) (tn ((ln a0.2.2.1:Nat):Int)))),a0.2.2.2.1,(max a0.2.2.2.2.1 x1.1),a0.2.2.2.2.2.1,x1.1,a0.2.2.2.2.2.2.2),(r2.2.1,true,())))
 none))
 (ob (UE a0.1 x1.2.1) fun r3=>
 (cond (bl (ln ([]:List Ya)+ln (Hb a0.2.2.1 (tn 1) (tn ((ln a0.2.2.1:Nat):Int)))) Wa)
 (some ((r3.1,a0.2.1,(ap [] (Hb a0.2.2.1 (tn 1) (tn ((ln a0.2.2.1:Nat):Int)))),a0.2.2.2.1,(max a0.2.2.2.2.1 x1.1),a0.2.2.2.2.2),(r3.2.1,true,())))
 none)))
 (ob (Nt a0.1.2.2.1 a0.1.2.2.2.1) fun r4=>
 (ob (HJ a0.1.1 r4.1 x1.2.1) fun r5=>
 (ob (Zq r5.1) fun r6=>
 (cond r6.1
 (cond (a0.2.2.2.2.2.1 !=(wr .i64 (x1.2.1+1)))
 (ob (IB a0.2.1 x1.2.1 x1.1 (Hb a0.2.2.1 (tn 1) (tn ((ln a0.2.2.1:Nat):Int))) a0.2.2.2.1) fun r7=>
 (cond (r7.1==0)
 (some (a0,([],false,())))
 (cond (r7.1==1)
 (ob (Mj a0.1 x1.2.1 false) fun r8=>
 (cond (bl (ln ([]:List Ya)+ln (Hb a0.2.2.1 (tn 1) (tn ((ln a0.2.2.1:Nat):Int)))) Wa)
 (some ((r8.1,a0.2.1,(ap [] (Hb a0.2.2.1 (tn 1) (tn ((ln a0.2.2.1:Nat):Int)))),a0.2.2.2.1,(max (max a0.2.2.2.2.1 x1.1) r7.2.1),(wr .i64 (x1.2.1+1)),x1.1,a0.2.2.2.2.2.2.2),(r8.2.1,true,())))
 none))
 (cond (r7.1==2)
 (ob (Mj a0.1 x1.2.1 true) fun r9=>
 (cond (bl (ln ([]:List Ya)+ln (Hb a0.2.2.1 (tn 1) (tn ((ln a0.2.2.1:Nat):Int)))) Wa)
 (some ((r9.1,a0.2.1,(ap [] (Hb a0.2.2.1 (tn 1) (tn ((ln a0.2.2.1:Nat):Int)))),a0.2.2.2.1,(max (max a0.2.2.2.2.1 x1.1) r7.2.1),0,a0.2.2.2.2.2.2),(r9.2.1,true,())))
 none))
 (ob (Mj a0.1 x1.2.1 false) fun r10=>
 (cond (bl (ln ([]:List Ya)+ln (Hb a0.2.2.1 (tn 1) (tn ((ln a0.2.2.1:Nat):Int)))) Wa)
 (some ((r10.1,a0.2.1,(ap [] (Hb a0.2.2.1 (tn 1) (tn ((ln a0.2.2.1:Nat):Int)))),a0.2.2.2.1,(max (max a0.2.2.2.2.1 x1.1) r7.2.1),a0.2.2.2.2.2),(r10.2.1,true,())))
 none))))))
 (cond (decide ((wr .i64 (x1.1-a0.2.2.2.2.2.2.1))≥a0.2.1.2.1))
 (ob (IB a0.2.1 x1.2.1 x1.1 (Hb a0.2.2.1 (tn 1) (tn ((ln a0.2.2.1:Nat):Int))) a0.2.2.2.1) fun r11=>
 (cond (r11.1==0)
 (some (a0,([],false,())))
 (cond (r11.1==1)
 (ob (Mj a0.1 x1.2.1 false) fun r12=>
 (cond (bl (ln ([]:List Ya)+ln (Hb a0.2.2.1 (tn 1) (tn ((ln a0.2.2.1:Nat):Int)))) Wa)
 (some ((r12.1,a0.2.1,(ap [] (Hb a0.2.2.1 (tn 1) (tn ((ln a0.2.2.1:Nat):Int)))),a0.2.2.2.1,(max (max a0.2.2.2.2.1 x1.1) r11.2.1),(wr .i64 (x1.2.1+1)),x1.1,a0.2.2.2.2.2.2.2),(r12.2.1,true,())))
 none))
 (cond (r11.1==2)
 (ob (Mj a0.1 x1.2.1 true) fun r13=>
 (cond (bl (ln ([]:List Ya)+ln (Hb a0.2.2.1 (tn 1) (tn ((ln a0.2.2.1:Nat):Int)))) Wa)
 (some ((r13.1,a0.2.1,(ap [] (Hb a0.2.2.1 (tn 1) (tn ((ln a0.2.2.1:Nat):Int)))),a0.2.2.2.1,(max (max a0.2.2.2.2.1 x1.1) r11.2.1),0,a0.2.2.2.2.2.2),(r13.2.1,true,())))
 none))
 (ob (Mj a0.1 x1.2.1 false) fun r14=>
 (cond (bl (ln ([]:List Ya)+ln (Hb a0.2.2.1 (tn 1) (tn ((ln a0.2.2.1:Nat):Int)))) Wa)
 (some ((r14.1,a0.2.1,(ap [] (Hb a0.2.2.1 (tn 1) (tn ((ln a0.2.2.1:Nat):Int)))),a0.2.2.2.1,(max (max a0.2.2.2.2.1 x1.1) r11.2.1),a0.2.2.2.2.2),(r14.2.1,true,())))
 none))))))
 (cond ((1:Int)==0)
 (some (a0,([],false,())))
 (cond ((1:Int)==1)
 (ob (Mj a0.1 x1.2.1 false) fun r15=>
 (cond (bl (ln ([]:List Ya)+ln (Hb a0.2.2.1 (tn 1) (tn ((ln a0.2.2.1:Nat):Int)))) Wa)
 (some ((r15.1,a0.2.1,(ap [] (Hb a0.2.2.1 (tn 1) (tn ((ln a0.2.2.1:Nat):Int)))),a0.2.2.2.1,(max (max a0.2.2.2.2.1 x1.1) x1.1),(wr .i64 (x1.2.1+1)),x1.1,a0.2.2.2.2.2.2.2),(r15.2.1,true,())))
 none))
 (cond ((1:Int)==2)
 (ob (Mj a0.1 x1.2.1 true) fun r16=>
 (cond (bl (ln ([]:List Ya)+ln (Hb a0.2.2.1 (tn 1) (tn ((ln a0.2.2.1:Nat):Int)))) Wa)
 (some ((r16.1,a0.2.1,(ap [] (Hb a0.2.2.1 (tn 1) (tn ((ln a0.2.2.1:Nat):Int)))),a0.2.2.2.1,(max (max a0.2.2.2.2.1 x1.1) x1.1),0,a0.2.2.2.2.2.2),(r16.2.1,true,())))
 none))
 (ob (Mj a0.1 x1.2.1 false) fun r17=>
 (cond (bl (ln ([]:List Ya)+ln (Hb a0.2.2.1 (tn 1) (tn ((ln a0.2.2.1:Nat):Int)))) Wa)
 (some ((r17.1,a0.2.1,(ap [] (Hb a0.2.2.1 (tn 1) (tn ((ln a0.2.2.1:Nat):Int)))),a0.2.2.2.1,(max (max a0.2.2.2.2.1 x1.1) x1.1),a0.2.2.2.2.2),(r17.2.1,true,())))
 none)))))))
 (ob (Mj a0.1 x1.2.1 false) fun r18=>
 (cond (bl (ln ([]:List Ya)+ln (Hb a0.2.2.1 (tn 1) (tn ((ln a0.2.2.1:Nat):Int)))) Wa)
 (some ((r18.1,a0.2.1,(ap [] (Hb a0.2.2.1 (tn 1) (tn ((ln a0.2.2.1:Nat):Int)))),a0.2.2.2.1,(max a0.2.2.2.2.1 x1.1),a0.2.2.2.2.2),(r18.2.1,true,())))
 none)))))))
 none))
 none)
def JJ(t0:Xe)(t1:Int)(t9:(Eg×Int))(t10:Int)(t11:Int):Option (((Xe×(Int×((Eg×Int)×Rc)))×Unit)⊕(((Xe×Unit)×Unit)⊕Re)):=
 (cond (decide (t11<t10))
 (cond (Rb (ln t9.1) t11)
 (cond (qy (tn t11) (tn t9.2))
 (ob t9.1[(tn t11)]? fun x4=>
 (cond (bl (ln t0+ln ([(t1,x4,())]:List Lc)) Wa)
 (some (.inl (((ap t0 ([(t1,x4,())]:List Lc)),t1,(t9.1,((((tn t11)+1):Nat):Int)),t10,(wr .i64 (t11+1)),()),())))
 none))
 none)
 none)
 (some (.inr (.inl ((t0,()),())))))
def LK:=Va fun x:((Xe×(Int×((Eg×Int)×Rc)))×Unit)=>JJ x.1.1 x.1.2.1 x.1.2.2.1 x.1.2.2.2.1 x.1.2.2.2.2.1
def ZR(a0:Xe)(a1:Int)(a2:Eg):Option (Xe×Unit):=
 (ob (LK ((a0,a1,(a2,0),((ln a2:Nat):Int),0,()),())) (se (fun y5=>(some (y5.1.1,()))) (fun z6=>none)))
def Mi(t6:Unit)(t9:Unit)(t10:Xe)(b6:Ab)(b9:Ab):Option (Qaj⊕(Qaj⊕Re)):=
 (cond (decide (((ln b9.2.2.1:Nat):Int)>0))
 (ob (Lj b9) fun r25=>
 (cond (!r25.2.2.1)
 (some (.inr (.inl (((),(),t10,()),(b6,r25.1,())))))
 (ob (ZR t10 r25.1.2.2.2.2.1 r25.2.1) fun r26=>
 (some (.inl (((),(),r26.1,()),(b6,r25.1,())))))))
 (some (.inr (.inl (((),(),t10,()),(b6,b9,()))))))
def Eh:=Va fun x:Qaj=>Mi x.1.1 x.1.2.1 x.1.2.2.1 x.2.1 x.2.2.1
def Hu(a0:Ab)(a1:Wh)(a2:Int):Option K5:=
 (ob (Yq a0) fun r1=>
 (cond (!r1.1)
 (some (Kg,[],false,()))
 (cond (decide (a2<a0.2.2.2.1))
 (some (Kg,[],false,()))
 (cond (decide (a2>1000000))
 (some (Kg,[],false,()))
 (cond (decide (((ln a1:Nat):Int)>0))
 (ob (Ib a1 0) fun x2=>
 (cond (decide (x2.1<a0.2.2.2.1))
 (some (Kg,[],false,()))
 (ob (Cr a1 a2) fun r3=>
 (cond (!r3.1)
 (some (Kg,[],false,()))
 (ob (Tm a0) fun r4=>
 (cond (bl (ln r4.1.2.2.1+ln a1) Wa)
 (ob (Pt a0.1.2.2.2.1) fun r5=>
 (ob (Dr (ap r4.1.2.2.1 a1) r5.1 a0.1.1.1) fun r6=>
 (cond (!r6.1)
 (some (Kg,[],false,()))
 (ob (Eh (((),(),[],()),(Kg,(r4.1.1,r4.1.2.1,(ap r4.1.2.2.1 a1),a2,r4.1.2.2.2.2),()))) (se (fun y15=>(some (y15.2.2.1,y15.1.2.2.1,true,()))) (fun z16=>none))))))
 none))))))
 (ob (Cr a1 a2) fun r17=>
 (cond (!r17.1)
 (some (Kg,[],false,()))
 (ob (Tm a0) fun r18=>
 (cond (bl (ln r18.1.2.2.1+ln a1) Wa)
 (ob (Pt a0.1.2.2.2.1) fun r19=>
 (ob (Dr (ap r18.1.2.2.1 a1) r19.1 a0.1.1.1) fun r20=>
 (cond (!r20.1)
 (some (Kg,[],false,()))
 (ob (Eh (((),(),[],()),(Kg,(r18.1.1,r18.1.2.1,(ap r18.1.2.2.1 a1),a2,r18.1.2.2.2.2),()))) (se (fun y27=>(some (y27.2.2.1,y27.1.2.2.1,true,()))) (fun z28=>none))))))
 none)))))))))
def Uw(t1:Unit)(t14:Rd)(t15:Int)(t16:Int)(b1:Ca):Option ((Tai×Ii)⊕Zt):=
 (cond (decide (t16<t15))
 (ob (Ib t14 t16) fun x7=>
 (ob (Tq x7) fun r8=>
 (cond (!r8.1)
 (some (.inr (.inr ((false,()),()))))
 (cond (decide (t16>0))
 (ob (Ib b1.2.1 (wr .i64 (t16-1))) fun x9=>
 (cond (decide (x9≥x7))
 (some (.inr (.inr ((false,()),()))))
 (some (.inl (((),t14,t15,(wr .i64 (t16+1)),()),(b1,()))))))
 (some (.inl (((),t14,t15,(wr .i64 (t16+1)),()),(b1,()))))))))
 (some (.inr (.inl ((),())))))
def Xz:=Va fun x:(Tai×Ii)=>Uw x.1.1 x.1.2.1 x.1.2.2.1 x.1.2.2.2.1 x.2.1
def Ep(a0:Ca):Option Id:=
 (cond (decide (a0.1<0))
 (some (false,()))
 (cond (decide (a0.1>15))
 (some (false,()))
 (ob (Xz (((),a0.2.1,((ln a0.2.1:Nat):Int),0,()),(a0,()))) (se (fun y10=>(some (true,()))) (fun z11=>(some (z11.1.1,())))))))
def Zz(t2:Unit)(t5:Rd)(t17:Rd)(t18:Int)(t19:Int)(b2:Ca):Option (((Unit×IY)×Ii)⊕MZ):=
 (cond (decide (t19<t18))
 (ob (Ib t17 t19) fun x9=>
 (ob (JI b2.2.1 x9) fun r10=>
 (cond (!r10.1)
 (cond (bl (ln t5+ln ([x9]:List Int)) Wa)
 (some (.inl (((),(ap t5 ([x9]:List Int)),t17,t18,(wr .i64 (t19+1)),()),(b2,()))))
 none)
 (some (.inl (((),t5,t17,t18,(wr .i64 (t19+1)),()),(b2,())))))))
 (some (.inr (.inl ((t5,()),())))))
def CC:=Va fun x:((Unit×IY)×Ii)=>Zz x.1.1 x.1.2.1 x.1.2.2.1 x.1.2.2.2.1 x.1.2.2.2.2.1 x.2.1
def KM(a0:Ca)(a1:Ca):Option TL:=
 (ob (Ep a0) fun r1=>
 (cond (!r1.1)
 (some ([],()))
 (ob (Ep a1) fun r2=>
 (cond (!r2.1)
 (some ([],()))
 (ob (CC (((),[],a1.2.1,((ln a1.2.1:Nat):Int),0,()),(a0,()))) (se (fun y11=>(some (y11.1.1,()))) (fun z12=>none)))))))
def Mu(t2:Unit)(t5:Cc)(t7:Unit)(t10:Eg)(t11:Int)(t12:Int)(t18:Rd)(t19:Int)(t20:Int)(b2:Ca)(b7:Ca):Option (EaC⊕(((Unit×(Cc×(Unit×(Eg×Rc))))×Hn)⊕Re)):=
 (cond (decide (t20<t19))
 (cond (Rb (ln t18) t20)
 (ob t18[(tn t20)]? fun x27=>
 (ob (Kn x27 b7.1) fun r28=>
 (cond (bl (ln t5+ln r28.1) Wa)
 (some (.inl (((),(ap t5 r28.1),(),t10,t11,t12,t18,t19,(wr .i64 (t20+1)),()),(b2,b7,()))))
 none)))
 none)
 (some (.inr (.inl (((),t5,(),t10,t11,t12,()),(b2,b7,()))))))
def Ux:=Va fun x:EaC=>Mu x.1.1 x.1.2.1 x.1.2.2.1 x.1.2.2.2.1 x.1.2.2.2.2.1 x.1.2.2.2.2.2.1 x.1.2.2.2.2.2.2.1 x.1.2.2.2.2.2.2.2.1 x.1.2.2.2.2.2.2.2.2.1 x.2.1 x.2.2.1
def Lu(t2:Unit)(t5:Cc)(t10:Eg)(t11:Int)(t12:Int)(b2:Ca):Option (((Unit×(Cc×(Eg×Rc)))×Ii)⊕Baa):=
 (cond (decide (t12<t11))
 (ob (Ib t10 t12) fun x21=>
 (ob (KM b2 x21) fun r22=>
 (ob (Ux (((),t5,(),t10,t11,t12,r22.1,((ln r22.1:Nat):Int),0,()),(b2,x21,()))) (se (fun y29=>(some (.inl (((),y29.1.2.1,y29.1.2.2.2.1,y29.1.2.2.2.2.1,(wr .i64 (y29.1.2.2.2.2.2.1+1)),()),(y29.2.2.1,()))))) (fun z30=>(some (.inr (.inr ((),())))))))))
 (some (.inr (.inl ((t5,()),())))))
def Tx:=Va fun x:((Unit×(Cc×(Eg×Rc)))×Ii)=>Lu x.1.1 x.1.2.1 x.1.2.2.1 x.1.2.2.2.1 x.1.2.2.2.2.1 x.2.1
def LG(a0:Ca)(a1:Eg):Option Hi:=
 (ob (Tx (((),[],a1,((ln a1:Nat):Int),0,()),(a0,()))) (se (fun y31=>(some (y31.1.1,()))) (fun z32=>none)))
def RJ(a0:Ua)(a1:Ua):Option Id:=
 (cond (a0.1 !=a1.1)
 (some (false,()))
 (cond (a0.2.1 !=a1.2.1)
 (some (false,()))
 (cond (a0.2.2.1 !=a1.2.2.1)
 (some (false,()))
 (some (true,())))))
def HR(a0:Ma):Option Au:=
 (ob (Dn a0) fun r1=>
 (cond (!r1.1)
 (some (a0,()))
 (cond (a0.1==6)
 (some ((2,0,a0.2.2.1,0,()),()))
 (some ((3,0,0,a0.2.2.2.1,()),())))))
def VV(t1:Int)(t2:Int)(t3:Unit)(t7:Int)(b3:Ia):Option (Uai⊕PQ):=
 (cond (decide (t7>0))
 (cond (decide (0≤t7))
 (cond ((Ih .i64 (Cy .i64 t1 t7) 1)==1)
 (ob (Ib b3.2.1 t7) fun x7=>
 (ob (Ib x7 t2) fun x8=>
 (cond (x8.1 !=1)
 (some (.inr (.inr ((t7,()),()))))
 (some (.inl ((t1,t2,(),(wr .i64 (t7-1)),()),(b3,())))))))
 (some (.inl ((t1,t2,(),(wr .i64 (t7-1)),()),(b3,())))))
 none)
 (some (.inr (.inl ((),())))))
def Bk:=Va fun x:Uai=>VV x.1.1 x.1.2.1 x.1.2.2.1 x.1.2.2.2.1 x.2.1
def RN(a0:Ia)(a1:Int)(a2:Int):Option Gd:=
 (ob (Cm a0) fun r1=>
 (cond (!r1.1)
 (some ((-1),()))
 (ob (Yc a2 0 (wr .i64 (a0.1-1))) fun r2=>
 (cond (!r2.1)
 (some ((-1),()))
 (ob (Bk ((a1,a2,(),(wr .i64 (((ln a0.2.1:Nat):Int)-1)),()),(a0,()))) (se (fun y9=>(some (0,()))) (fun z10=>(some (z10.1.1,())))))))))
def Tt(a0:Ia)(a1:Int)(a2:Int):Option Au:=
 (ob (RN a0 a1 a2) fun r1=>
 (cond (decide (r1.1<0))
 (some ((0,0,0,0,()),()))
 (ob (Ib a0.2.1 r1.1) fun x2=>
 (ob (Ib x2 a2) fun x3=>
 (some (x3,()))))))
def QD(a0:Ia)(a1:Int)(a2:Int):Option Gd:=
 (ob (Bo a0 a1) fun r1=>
 (cond (!r1.1)
 (some ((-1),()))
 (ob (Yc a2 0 (wr .i64 (a0.1-1))) fun r2=>
 (cond (!r2.1)
 (some ((-1),()))
 (ob (Tt a0 (Fe .i64 1 a1) a2) fun r3=>
 (cond (r3.1.1==4)
 (cond (decide (0≤r3.1.2.2.2.1))
 (some ((Kt .i64 a1 (Te .i64 1 r3.1.2.2.2.1)),()))
 none)
 (cond (r3.1.1==5)
 (cond (decide (0≤r3.1.2.2.2.1))
 (some ((Kj .i64 (Te .i64 1 r3.1.2.2.2.1) 1),()))
 none)
 (some (a1,())))))))))
def Qu(a0:Ia)(a1:Int)(a2:Int):Option Gd:=
 (ob (Xx a0 a1 a2) fun r1=>
 (ob (Ib a0.2.1 r1.1) fun x2=>
 (ob (Ib x2 a2) fun x3=>
 (cond (x3.1==4)
 (cond (decide (0≤x3.2.2.2.1))
 (some ((Kt .i64 a1 (Te .i64 1 x3.2.2.2.1)),()))
 none)
 (cond (x3.1==5)
 (cond (decide (0≤x3.2.2.2.1))
 (some ((Kj .i64 (Te .i64 1 x3.2.2.2.1) 1),()))
 none)
 (some (a1,())))))))
def JW(a0:Ia)(a1:Int)(a2:Int):Option Gd:=
 (ob (Ei a0 a1) fun r1=>
 (cond (!r1.1)
 (some ((-1),()))
 (cond (decide (a2<0))
 (some ((-1),()))
 (cond (decide (a2≥a0.1))
 (some ((-1),()))
 (ob (Qu a0 a1 a2) fun r2=>
 (some (r2.1,())))))))
def Hq(t0:Li)(t1:Int)(t5:Int):Option (Daa⊕(((Li×Gd)×Unit)⊕Re)):=
 (cond (decide (t5<((ln t0:Nat):Int)))
 (cond (Rb (ln t0) t5)
 (ob t0[(tn t5)]? fun x9=>
 (cond (Rb (ln (ls t0 (tn t5) (t1,x9.2))) t5)
 (ob (ls t0 (tn t5) (t1,x9.2))[(tn t5)]? fun x10=>
 (cond (Rb (ln (ls (ls t0 (tn t5) (t1,x9.2)) (tn t5) (x10.1,(wr .i64 (t1+1)),x10.2.2))) t5)
 (ob (ls (ls t0 (tn t5) (t1,x9.2)) (tn t5) (x10.1,(wr .i64 (t1+1)),x10.2.2))[(tn t5)]? fun x11=>
 (cond (Rb (ln (ls (ls (ls t0 (tn t5) (t1,x9.2)) (tn t5) (x10.1,(wr .i64 (t1+1)),x10.2.2)) (tn t5) (x11.1,x11.2.1,(wr .i64 ((wr .i64 (t1+1))+1)),x11.2.2.2))) t5)
 (ob (ls (ls (ls t0 (tn t5) (t1,x9.2)) (tn t5) (x10.1,(wr .i64 (t1+1)),x10.2.2)) (tn t5) (x11.1,x11.2.1,(wr .i64 ((wr .i64 (t1+1))+1)),x11.2.2.2))[(tn t5)]? fun x12=>
 (some (.inl (((ls (ls (ls (ls t0 (tn t5) (t1,x9.2)) (tn t5) (x10.1,(wr .i64 (t1+1)),x10.2.2)) (tn t5) (x11.1,x11.2.1,(wr .i64 ((wr .i64 (t1+1))+1)),x11.2.2.2)) (tn t5) (x12.1,x12.2.1,x12.2.2.1,(wr .i64 ((wr .i64 ((wr .i64 (t1+1))+1))+1)),x12.2.2.2.2)),(wr .i64 ((wr .i64 ((wr .i64 ((wr .i64 (t1+1))+1))+1))+1)),(wr .i64 (t5+1)),()),()))))
 none))
 none))
 none))
 none)
 (some (.inr (.inl ((t0,t1,()),())))))
def HH:=Va fun x:Daa=>Hq x.1.1 x.1.2.1 x.1.2.2.1
def QK(a0:Li)(a1:Int):Option (Li×Gd):=
 (ob (HH ((a0,a1,0,()),())) (se (fun y13=>(some (y13.1.1,(y13.1.2.1,())))) (fun z14=>none)))
def Ro(t0:Pi)(t1:Int)(t5:Int):Option ((NC×Unit)⊕(((Pi×Gd)×Unit)⊕Re)):=
 (cond (decide (t5<((ln t0:Nat):Int)))
 (cond (Rb (ln t0) t5)
 (ob t0[(tn t5)]? fun x5=>
 (ob (QK x5 t1) fun r6=>
 (some (.inl (((ls t0 (tn t5) r6.1),r6.2.1,(wr .i64 (t5+1)),()),())))))
 none)
 (some (.inr (.inl ((t0,t1,()),())))))
def ZE:=Va fun x:(NC×Unit)=>Ro x.1.1 x.1.2.1 x.1.2.2.1
def WH(a0:Pi)(a1:Int):Option (Pi×Gd):=
 (ob (ZE ((a0,a1,0,()),())) (se (fun y7=>(some (y7.1.1,(y7.1.2.1,())))) (fun z8=>none)))
def HD(a0:Ia)(a1:Int):Option (Ia×Gd):=
 (ob (WH a0.2.1 a1) fun r1=>
 (some ((a0.1,r1.1,()),(r1.2.1,()))))
def BE(t1:Unit)(t2:Unit)(t3:Unit)(t4:Int)(b1:Ia)(b2:Ia)(b3:Ia):Option ((I5×(Ia×LC))⊕((NQ×LC)⊕Re)):=
 (cond (decide (t4<((ln b1.2.1:Nat):Int)))
 (ob (Ib b1.2.1 t4) fun x4=>
 (cond (bl (ln ([]:List Ma)+ln x4) Wa)
 (cond (bl (ln b3.2.1+ln ([(ap [] x4)]:List Li)) Wa)
 (some (.inl (((),(),(),(wr .i64 (t4+1)),()),(b1,b2,(b3.1,(ap b3.2.1 ([(ap [] x4)]:List Li)),()),()))))
 none)
 none))
 (some (.inr (.inl (((),(),()),(b2,b3,()))))))
def YF:=Va fun x:(I5×(Ia×LC))=>BE x.1.1 x.1.2.1 x.1.2.2.1 x.1.2.2.2.1 x.2.1 x.2.2.1 x.2.2.2.1
def KR(a0:Ia):Option Nl:=
 (ob (YF (((),(),(),0,()),(a0,(0,[],()),(a0.1,[],()),()))) (se (fun y5=>(some (y5.2.2.1,()))) (fun z6=>none)))
def AC(t0:Int)(t3:Cc)(t12:Ke)(t13:Int)(t14:Int):Option (((Int×(Cc×DG))×Unit)⊕Baa):=
 (cond (decide (t14<t13))
 (cond (Rb (ln t12) t14)
 (ob t12[(tn t14)]? fun x5=>
 (ob (Ew t0 t14) fun r6=>
 (cond (r6.1==1)
 (cond (bl (ln t3+ln x5) Wa)
 (some (.inl ((t0,(ap t3 x5),t12,t13,(wr .i64 (t14+1)),()),())))
 none)
 (some (.inl ((t0,t3,t12,t13,(wr .i64 (t14+1)),()),()))))))
 none)
 (some (.inr (.inl ((t3,()),())))))
def Bw:=Va fun x:((Int×(Cc×DG))×Unit)=>AC x.1.1 x.1.2.1 x.1.2.2.1 x.1.2.2.2.1 x.1.2.2.2.2.1
def Sj(a0:Int):Option Hi:=
 (cond (decide (a0<1))
 (some ([],()))
 (cond (decide (a0>15))
 (some ([],()))
 (ob (Bw ((a0,[],([([67]:List UInt8),([83]:List UInt8),([65]:List UInt8),([71]:List UInt8)]:List Cc),((ln ([([67]:List UInt8),([83]:List UInt8),([65]:List UInt8),([71]:List UInt8)]:List Cc):Nat):Int),0,()),())) (se (fun y7=>(some (y7.1.1,()))) (fun z8=>none)))))
def strings_Join(a:List Cc)(b:List UInt8):Option (List UInt8×Unit):=Faj a b
def Mh(a0:Ke)(a1:Cc):Option Hi:=
 (ob (strings_Join a0 a1) fun r1=>
 (some (r1.1,())))
def Lo(t1:Unit)(t3:Ke)(t10:Rd)(t11:Int)(t12:Int)(b1:Ca):Option ((Eaa×Ii)⊕(((Unit×OQ)×Ii)⊕Re)):=
 (cond (decide (t12<t11))
 (ob (Ib t10 t12) fun x8=>
 (ob (Zc x8) fun r9=>
 (cond (bl (ln t3+ln ([r9.1]:List Cc)) Wa)
 (some (.inl (((),(ap t3 ([r9.1]:List Cc)),t10,t11,(wr .i64 (t12+1)),()),(b1,()))))
 none)))
 (some (.inr (.inl (((),t3,()),(b1,()))))))
def Pr:=Va fun x:(Eaa×Ii)=>Lo x.1.1 x.1.2.1 x.1.2.2.1 x.1.2.2.2.1 x.1.2.2.2.2.1 x.2.1
def Pp(a0:Ca):Option Hi:=
 (ob (Ep a0) fun r1=>
 (cond (!r1.1)
 (some ([],()))
 (ob (Pr (((),[],a0.2.1,((ln a0.2.1:Nat):Int),0,()),(a0,()))) (se (fun y10=>(ob (Sj y10.2.1.1) fun r12=>
 (cond (bl (ln r12.1+ln ([58]:List UInt8)) Wa)
 (ob (Mh y10.1.2.1 ([44]:List UInt8)) fun r13=>
 (cond (bl (ln (ap r12.1 ([58]:List UInt8))+ln r13.1) Wa)
 (some ((ap (ap r12.1 ([58]:List UInt8)) r13.1),()))
 none))
 none))) (fun z11=>none)))))
def UD(t0:He)(t3:Int)(t4:Int):Option (NR⊕Zt):=
 (cond (decide (t4<((ln t0:Nat):Int)))
 (ob (Ib t0 t4) fun x15=>
 (ob (Ib t0 t4) fun x16=>
 (ob (Yc x16.1 0 31) fun r17=>
 (cond (!r17.1)
 (some (.inr (.inr ((false,()),()))))
 (ob (Ib t0 t4) fun x18=>
 (cond (decide (0≤x18.1))
 (cond ((Ih .i64 (Cy .i64 t3 x18.1) 1)==1)
 (some (.inr (.inr ((false,()),()))))
 (ob (Nk x15.2.1) fun r19=>
 (cond (!r19.1)
 (some (.inr (.inr ((false,()),()))))
 (cond (x15.2.1.1==1)
 (some (.inr (.inr ((false,()),()))))
 (ob (Dn x15.2.1) fun r20=>
 (cond r20.1
 (some (.inr (.inr ((false,()),()))))
 (ob (Ib t0 t4) fun x21=>
 (cond (decide (0≤x21.1))
 (some (.inl ((t0,(Fe .i64 t3 (Te .i64 1 x21.1)),(wr .i64 (t4+1)),()),())))
 none))))))))
 none))))))
 (some (.inr (.inl ((),())))))
def SF:=Va fun x:NR=>UD x.1.1 x.1.2.1 x.1.2.2.1
def Pw(a0:He):Option Id:=
 (ob (SF ((a0,0,0,()),())) (se (fun y22=>(some (true,()))) (fun z23=>(some (z23.1.1,())))))
def CE(t0:He)(t3:Unit)(t5:Int)(b3:Ua):Option (((He×Ns)×EG)⊕PQ):=
 (cond (decide (t5<((ln t0:Nat):Int)))
 (ob (Ib t0 t5) fun x5=>
 (cond (x5.2.1.2.1==b3.2.1)
 (ob (Ib t0 t5) fun x6=>
 (cond (x6.2.1.2.2.1==b3.2.2.1)
 (some (.inr (.inr ((t5,()),()))))
 (some (.inl ((t0,(),(wr .i64 (t5+1)),()),(b3,()))))))
 (some (.inl ((t0,(),(wr .i64 (t5+1)),()),(b3,()))))))
 (some (.inr (.inl ((),())))))
def ZF:=Va fun x:((He×Ns)×EG)=>CE x.1.1 x.1.2.1 x.1.2.2.1 x.2.1
def Vq(a0:He)(a1:Ua):Option Gd:=
 (ob (ZF ((a0,(),0,()),(a1,()))) (se (fun y7=>(some ((-1),()))) (fun z8=>(some (z8.1.1,())))))
def Xt(a0:Ua):Option Au:=
 (some ((2,a0.2.1,a0.2.2.1,0,()),()))
def Yg(a0:He)(a1:Int):Option (He×Unit):=
 (cond (Nd (ln a0) 0 a1)
 (cond (bl (ln ([]:List Pa)+ln (Hb a0 (tn 0) (tn a1))) Wa)
 (cond (Nd (ln a0) (wr .i64 (a1+1)) ((ln a0:Nat):Int))
 (cond (bl (ln (ap [] (Hb a0 (tn 0) (tn a1)))+ln (Hb a0 (tn (wr .i64 (a1+1))) (tn ((ln a0:Nat):Int)))) Wa)
 (some ((ap (ap [] (Hb a0 (tn 0) (tn a1))) (Hb a0 (tn (wr .i64 (a1+1))) (tn ((ln a0:Nat):Int)))),()))
 none)
 none)
 none)
 none)
def Es(t0:Uf)(t3:He)(t4:Int):Option (((Uf×(He×Gd))×Unit)⊕(((Uf×(He×Unit))×Unit)⊕MC)):=
 (cond (decide (t4<((ln t0:Nat):Int)))
 (ob (Ib t0 t4) fun x15=>
 (ob (Vq t3 x15) fun r16=>
 (ob (Yc x15.1 0 2) fun r17=>
 (cond (!r17.1)
 (some (.inr (.inr ((false,()),()))))
 (ob (Xt x15) fun r18=>
 (ob (Nk r18.1) fun r19=>
 (cond (!r19.1)
 (some (.inr (.inr ((false,()),()))))
 (cond ((x15.1==2) !=(decide (r16.1≥0)))
 (some (.inr (.inr ((false,()),()))))
 (cond (x15.1==1)
 (ob (Xt x15) fun r20=>
 (cond (bl (ln t3+ln ([(0,r20.1,())]:List Pa)) Wa)
 (some (.inl ((t0,(ap t3 ([(0,r20.1,())]:List Pa)),(wr .i64 (t4+1)),()),())))
 none))
 (cond (x15.1==2)
 (ob (Yg t3 r16.1) fun r21=>
 (some (.inl ((t0,r21.1,(wr .i64 (t4+1)),()),()))))
 (some (.inl ((t0,t3,(wr .i64 (t4+1)),()),())))))))))))))
 (some (.inr (.inl ((t0,t3,()),())))))
def GC:=Va fun x:((Uf×(He×Gd))×Unit)=>Es x.1.1 x.1.2.1 x.1.2.2.1
def Ny(a0:Uf):Option Id:=
 (ob (GC ((a0,[],0,()),())) (se (fun y22=>(cond (decide (((ln y22.1.1:Nat):Int)≤8))
 (some ((((ln y22.1.2.1:Nat):Int)==0),()))
 (some (false,())))) (fun z23=>(some (z23.1.1,())))))
def Dx(t1:Unit)(t3:Int)(b1:Gb):Option ((Ns×Ho)⊕((Re×Ho)⊕MC)):=
 (cond (decide (t3<((ln b1.2.1:Nat):Int)))
 (ob (Ib b1.2.1 t3) fun x7=>
 (ob (Ny x7) fun r8=>
 (cond (!r8.1)
 (some (.inr (.inr ((false,()),()))))
 (some (.inl (((),(wr .i64 (t3+1)),()),(b1,())))))))
 (some (.inr (.inl (((),()),(b1,()))))))
def Lq:=Va fun x:(Ns×Ho)=>Dx x.1.1 x.1.2.1 x.2.1
def Gx(t1:Unit)(t4:Int)(b1:Gb):Option ((Ns×Ho)⊕((Re×Ho)⊕MC)):=
 (cond (decide (t4<((ln b1.2.2.2.1:Nat):Int)))
 (ob (Ib b1.2.2.2.1 t4) fun x17=>
 (cond (decide (x17.1≥b1.1.1))
 (some (.inr (.inr ((false,()),()))))
 (ob (Ib b1.2.2.2.1 t4) fun x18=>
 (cond (x18.2.1.1 !=9)
 (ob (Ib b1.2.2.2.1 t4) fun x19=>
 (cond (decide (x19.2.1.2.2.2.1≥((ln b1.1.2.1:Nat):Int)))
 (some (.inr (.inr ((false,()),()))))
 (some (.inl (((),(wr .i64 (t4+1)),()),(b1,()))))))
 (some (.inl (((),(wr .i64 (t4+1)),()),(b1,()))))))))
 (some (.inr (.inl (((),()),(b1,()))))))
def Mq:=Va fun x:(Ns×Ho)=>Gx x.1.1 x.1.2.1 x.2.1
def Hp(a0:Gb):Option Id:=
 (ob (Cm a0.1) fun r1=>
 (cond (!r1.1)
 (some (false,()))
 (cond (decide (((ln a0.2.1:Nat):Int)>4))
 (some (false,()))
 (ob (Pw a0.2.2.2.1) fun r2=>
 (cond (!r2.1)
 (some (false,()))
 (ob (Lq (((),0,()),(a0,()))) (se (fun y9=>(ob (Mq (((),0,()),(y9.2.1,()))) (se (fun y20=>(cond (decide (0≤((ln y20.2.1.1.2.1:Nat):Int)))
 (ob (Yc y20.2.1.2.2.1 0 (wr .i64 ((Te .i64 1 ((ln y20.2.1.1.2.1:Nat):Int))-1))) fun r22=>
 (cond r22.1
 (cond ((2:Int)==0)
 none
 (cond ((ye y20.2.1.2.2.1 2)==0)
 (ob (Yc y20.2.1.2.2.2.2.1 0 15) fun r23=>
 (some (r23.1,())))
 (some (false,()))))
 (some (false,()))))
 none)) (fun z21=>(some (z21.1.1,())))))) (fun z10=>(some (z10.1.1,()))))))))))
def DE(t1:Unit)(t2:Unit)(t3:Unit)(t4:Int)(b1:Gb)(b2:Gb)(b3:Gb):Option ((I5×(Gb×Vay))⊕((GaX×(Gb×Vay))⊕Re)):=
 (cond (decide (t4<((ln b1.2.1:Nat):Int)))
 (ob (Ib b1.2.1 t4) fun x4=>
 (cond (bl (ln ([]:List Ua)+ln x4) Wa)
 (cond (bl (ln b3.2.1+ln ([(ap [] x4)]:List Uf)) Wa)
 (some (.inl (((),(),(),(wr .i64 (t4+1)),()),(b1,b2,(b3.1,(ap b3.2.1 ([(ap [] x4)]:List Uf)),b3.2.2),()))))
 none)
 none))
 (some (.inr (.inl (((),(),(),()),(b1,b2,b3,()))))))
def AG:=Va fun x:(I5×(Gb×Vay))=>DE x.1.1 x.1.2.1 x.1.2.2.1 x.1.2.2.2.1 x.2.1 x.2.2.1 x.2.2.2.1
def Kl(a0:Gb):Option Ho:=
 (ob (KR a0.1) fun r1=>
 (ob (AG (((),(),(),0,()),(a0,Zy,(r1.1,[],a0.2.2),()))) (se (fun y5=>(cond (bl (ln ([]:List Pa)+ln y5.2.1.2.2.2.1) Wa)
 (some ((y5.2.2.2.1.1,y5.2.2.2.1.2.1,y5.2.2.2.1.2.2.1,(ap [] y5.2.1.2.2.2.1),y5.2.2.2.1.2.2.2.2),()))
 none)) (fun z6=>none))))
def AH(a0:Ia)(a1:Uh):Option (Gb×Id):=
 (ob (Hp (a0,a1,0,[],0,false,())) fun r1=>
 (cond (!r1.1)
 (some (Zy,false,()))
 (ob (Kl (a0,a1,0,[],0,false,())) fun r2=>
 (some (r2.1,true,())))))
def SD(t1:Int)(t2:Unit)(t5:Int)(b2:Gb):Option ((Uay×Ho)⊕PQ):=
 (cond (decide (t5<((ln b2.2.2.2.1:Nat):Int)))
 (ob (Ib b2.2.2.2.1 t5) fun x3=>
 (cond (x3.1==t1)
 (some (.inr (.inr ((t5,()),()))))
 (some (.inl ((t1,(),(wr .i64 (t5+1)),()),(b2,()))))))
 (some (.inr (.inl ((),())))))
def QF:=Va fun x:(Uay×Ho)=>SD x.1.1 x.1.2.1 x.1.2.2.1 x.2.1
def BJ(a0:Gb)(a1:Int):Option Gd:=
 (ob (QF ((a1,(),0,()),(a0,()))) (se (fun y4=>(some ((-1),()))) (fun z5=>(some (z5.1.1,())))))
def Jx(t1:He)(t5:Int)(t6:Int):Option (NR⊕Qai):=
 (cond (decide (t6<((ln t1:Nat):Int)))
 (ob (Pw t1) fun r19=>
 (cond r19.1
 (ob (Ib t1 t6) fun x20=>
 (cond (x20.2.1.1==3)
 (ob (Ib t1 t6) fun x21=>
 (cond (decide (0≤x21.2.1.2.2.2.1))
 (some (.inl ((t1,(Fe .i64 t5 (Te .i64 1 x21.2.1.2.2.2.1)),(wr .i64 (t6+1)),()),())))
 none))
 (some (.inl ((t1,t5,(wr .i64 (t6+1)),()),())))))
 (some (.inr (.inl ((t5,()),()))))))
 (some (.inr (.inl ((t5,()),())))))
def Qq:=Va fun x:NR=>Jx x.1.1 x.1.2.1 x.1.2.2.1
def Ut(a0:Int)(a1:He):Option Gd:=
 (ob (Yc a0 0 15) fun r1=>
 (cond r1.1
 (ob (Qq ((a1,(Fe .i64 1 a0),0,()),())) (se (fun y11=>(some (y11.1.1,()))) (fun z12=>none)))
 (ob (Qq ((a1,1,0,()),())) (se (fun y22=>(some (y22.1.1,()))) (fun z23=>none)))))
def VD(a0:Int):Option Id:=
 (ob (Yc a0 1 36) fun r1=>
 (cond r1.1
 (some (true,()))
 (cond (a0==39)
 (some (true,()))
 (some ((a0==42),())))))
def D1(a0:Gb)(a1:Ma):Option (Gb×Au):=
 (ob (VD a1.2.1) fun r1=>
 (cond (!r1.1)
 (some ((a0.1,a0.2.1,a0.2.2.1,a0.2.2.2.1,0,false,a0.2.2.2.2.2.2),((a1.1,a1.2.1,(Fe .i64 a1.2.2.1 a0.2.2.2.2.1),a1.2.2.2),())))
 (cond a0.2.2.2.2.2.1
 (cond (decide (a1.2.1≤26))
 (cond ((Kj .i64 (Fe .i64 a1.2.2.1 a0.2.2.2.2.1) 2)==0)
 (some ((a0.1,a0.2.1,a0.2.2.1,a0.2.2.2.1,0,a0.2.2.2.2.2),((a1.1,a1.2.1,2,a1.2.2.2),())))
 (some ((a0.1,a0.2.1,a0.2.2.1,a0.2.2.2.1,0,a0.2.2.2.2.2),((a1.1,a1.2.1,(Fe .i64 a1.2.2.1 a0.2.2.2.2.1),a1.2.2.2),()))))
 (some ((a0.1,a0.2.1,a0.2.2.1,a0.2.2.2.1,0,a0.2.2.2.2.2),((a1.1,a1.2.1,(Fe .i64 a1.2.2.1 a0.2.2.2.2.1),a1.2.2.2),()))))
 (some ((a0.1,a0.2.1,a0.2.2.1,a0.2.2.2.1,0,a0.2.2.2.2.2),((a1.1,a1.2.1,(Fe .i64 a1.2.2.1 a0.2.2.2.2.1),a1.2.2.2),()))))))
def Jp(a0:Gb)(a1:Ma):Option (Gb×Au):=
 (cond (a1.1==2)
 (cond (decide (a1.2.1>0))
 (ob (D1 a0 a1) fun r1=>
 (some (r1.1,(r1.2.1,()))))
 (some (a0,(a1,()))))
 (cond (a1.1==4)
 (cond (decide (0≤a1.2.2.2.1))
 (some ((a0.1,a0.2.1,(Kt .i64 a0.2.2.1 (Te .i64 1 a1.2.2.2.1)),a0.2.2.2),(a1,())))
 none)
 (cond (a1.1==5)
 (cond (decide (0≤a1.2.2.2.1))
 (some ((a0.1,a0.2.1,(Kj .i64 (Te .i64 1 a1.2.2.2.1) 1),a0.2.2.2),(a1,())))
 none)
 (cond (a1.1==8)
 (cond ((Ih .i64 a0.2.2.2.2.1 a1.2.2.1)==a1.2.2.1)
 (some ((a0.1,a0.2.1,a0.2.2.1,a0.2.2.2.1,(Kj .i64 a0.2.2.2.2.1 a1.2.2.1),a0.2.2.2.2.2),(a1,())))
 (some ((a0.1,a0.2.1,a0.2.2.1,a0.2.2.2.1,(Fe .i64 a0.2.2.2.2.1 a1.2.2.1),a0.2.2.2.2.2),(a1,()))))
 (cond (a1.1==10)
 (some ((a0.1,a0.2.1,a0.2.2.1,a0.2.2.2.1,a0.2.2.2.2.1,(!a0.2.2.2.2.2.1),a0.2.2.2.2.2.2),(a1,())))
 (some (a0,(a1,()))))))))
def Kx(t0:He)(t2:Unit)(t3:Unit)(t4:Int)(b2:Ca)(b3:Ca):Option (OZ⊕(((He×NQ)×Hn)⊕Re)):=
 (cond (decide (t4<((ln t0:Nat):Int)))
 (ob (Ib t0 t4) fun x10=>
 (cond (x10.2.1.1==2)
 (ob (Ib t0 t4) fun x11=>
 (some (.inl ((t0,(),(),(wr .i64 (t4+1)),()),(b2,((Fe .i64 b3.1 x11.2.1.2.2.1),b3.2.1,()),())))))
 (ob (Ib t0 t4) fun x12=>
 (cond (x12.2.1.1==8)
 (ob (Ib t0 t4) fun x13=>
 (some (.inl ((t0,(),(),(wr .i64 (t4+1)),()),(b2,((Fe .i64 b3.1 x13.2.1.2.2.1),b3.2.1,()),())))))
 (some (.inl ((t0,(),(),(wr .i64 (t4+1)),()),(b2,b3,()))))))))
 (some (.inr (.inl ((t0,(),(),()),(b2,b3,()))))))
def XA:=Va fun x:OZ=>Kx x.1.1 x.1.2.1 x.1.2.2.1 x.1.2.2.2.1 x.2.1 x.2.2.1
def Jv(t0:He)(t2:Unit)(t3:Unit)(t5:Int)(t6:Int)(b2:Ca)(b3:Ca):Option (((He×(Unit×C5))×Hn)⊕(OZ⊕Re)):=
 (cond (decide (t6<((ln t0:Nat):Int)))
 (ob (Ib t0 t6) fun x28=>
 (cond (x28.2.1.2.1==t5)
 (cond (bl (ln b3.2.1+ln ([t5]:List Int)) Wa)
 (some (.inr (.inl ((t0,(),(),t5,()),(b2,(b3.1,(ap b3.2.1 ([t5]:List Int)),()),())))))
 none)
 (some (.inl ((t0,(),(),t5,(wr .i64 (t6+1)),()),(b2,b3,()))))))
 (some (.inr (.inl ((t0,(),(),t5,()),(b2,b3,()))))))
def Yo:=Va fun x:((He×(Unit×C5))×Hn)=>Jv x.1.1 x.1.2.1 x.1.2.2.1 x.1.2.2.2.1 x.1.2.2.2.2.1 x.2.1 x.2.2.1
def Iv(t0:He)(t2:Unit)(t3:Unit)(t5:Int)(b2:Ca)(b3:Ca):Option (OZ⊕((NQ×Hn)⊕Re)):=
 (cond (decide (t5≤56))
 (ob (Yo ((t0,(),(),t5,0,()),(b2,b3,()))) (se (fun y29=>(some (.inl ((y29.1.1,(),(),(wr .i64 (y29.1.2.2.2.1+1)),()),y29.2)))) (fun z30=>(some (.inr (.inr ((),())))))))
 (some (.inr (.inl (((),(),()),(b2,b3,()))))))
def Py:=Va fun x:OZ=>Iv x.1.1 x.1.2.1 x.1.2.2.1 x.1.2.2.2.1 x.2.1 x.2.2.1
def Le(a0:He):Option Ii:=
 (ob (Pw a0) fun r1=>
 (cond (!r1.1)
 (some ((0,[],()),()))
 (ob (XA ((a0,(),(),0,()),((0,[],()),(0,[],()),()))) (se (fun y14=>(ob (Py ((y14.1.1,(),(),1,()),y14.2)) (se (fun y31=>(some (y31.2.2.1,()))) (fun z32=>none)))) (fun z15=>none)))))
def Lx(t1:He)(t4:Unit)(t5:Unit)(t6:Int)(b4:Ca)(b5:Ca):Option (OZ⊕(((He×NQ)×Hn)⊕Re)):=
 (cond (decide (t6<((ln t1:Nat):Int)))
 (ob (Ib t1 t6) fun x4=>
 (some (.inl ((t1,(),(),(wr .i64 (t6+1)),()),(b4,((Fe .i64 b5.1 x4.2.1.2.2.1),b5.2.1,()),())))))
 (some (.inr (.inl ((t1,(),(),()),(b4,b5,()))))))
def BB:=Va fun x:OZ=>Lx x.1.1 x.1.2.1 x.1.2.2.1 x.1.2.2.2.1 x.2.1 x.2.2.1
def Ov(t1:He)(t4:Unit)(t5:Unit)(t7:Rd)(t8:Int)(t9:Bool)(t10:Int)(b4:Ca)(b5:Ca):Option BaC:=
 (cond (decide (t10<((ln b5.2.1:Nat):Int)))
 (cond t9
 (some (.inl ((t1,(),(),t7,t8,true,(wr .i64 (t10+1)),()),(b4,b5,()))))
 (cond (Rb (ln b5.2.1) t10)
 (ob b5.2.1[(tn t10)]? fun x29=>
 (some (.inl ((t1,(),(),t7,t8,(x29==t8),(wr .i64 (t10+1)),()),(b4,b5,())))))
 none))
 (some (.inr (.inl ((t1,(),(),t7,t8,t9,()),(b4,b5,()))))))
def Zo:=Va fun x:Tay=>Ov x.1.1 x.1.2.1 x.1.2.2.1 x.1.2.2.2.1 x.1.2.2.2.2.1 x.1.2.2.2.2.2.1 x.1.2.2.2.2.2.2.1 x.2.1 x.2.2.1
def Pv(t1:He)(t4:Unit)(t5:Unit)(t7:Rd)(t8:Int)(t9:Bool)(t11:Int)(b4:Ca)(b5:Ca):Option BaC:=
 (cond (decide (t11<((ln t1:Nat):Int)))
 (cond t9
 (some (.inl ((t1,(),(),t7,t8,true,(wr .i64 (t11+1)),()),(b4,b5,()))))
 (ob (Ib t1 t11) fun x34=>
 (some (.inl ((t1,(),(),t7,t8,(x34.2.1.2.1==t8),(wr .i64 (t11+1)),()),(b4,b5,()))))))
 (some (.inr (.inl ((t1,(),(),t7,t8,t9,()),(b4,b5,()))))))
def Ap:=Va fun x:Tay=>Pv x.1.1 x.1.2.1 x.1.2.2.1 x.1.2.2.2.1 x.1.2.2.2.2.1 x.1.2.2.2.2.2.1 x.1.2.2.2.2.2.2.1 x.2.1 x.2.2.1
def Mx(t1:He)(t4:Unit)(t5:Unit)(t7:Rd)(t8:Int)(b4:Ca)(b5:Ca):Option (((He×(Unit×Z9))×Hn)⊕Paj):=
 (cond (decide (t8≤56))
 (ob (Zo ((t1,(),(),t7,t8,false,0,()),(b4,b5,()))) (se (fun y30=>(ob (Ap ((y30.1.1,(),(),y30.1.2.2.2.1,y30.1.2.2.2.2.1,y30.1.2.2.2.2.2.1,0,()),y30.2)) (se (fun y35=>(cond y35.1.2.2.2.2.2.1
 (cond (bl (ln y35.1.2.2.2.1+ln ([y35.1.2.2.2.2.1]:List Int)) Wa)
 (some (.inl ((y35.1.1,(),(),(ap y35.1.2.2.2.1 ([y35.1.2.2.2.2.1]:List Int)),(wr .i64 (y35.1.2.2.2.2.1+1)),()),y35.2)))
 none)
 (some (.inl ((y35.1.1,(),(),y35.1.2.2.2.1,(wr .i64 (y35.1.2.2.2.2.1+1)),()),y35.2))))) (fun z36=>(some (.inr (.inr ((),())))))))) (fun z31=>(some (.inr (.inr ((),())))))))
 (some (.inr (.inl (((),(),t7,()),(b4,b5,()))))))
def CB:=Va fun x:((He×(Unit×Z9))×Hn)=>Mx x.1.1 x.1.2.1 x.1.2.2.1 x.1.2.2.2.1 x.1.2.2.2.2.1 x.2.1 x.2.2.1
def Ej(a0:He)(a1:He):Option Ii:=
 (ob (Le a0) fun r1=>
 (ob (BB ((a1,(),(),0,()),((0,[],()),r1.1,()))) (se (fun y5=>(ob (CB ((y5.1.1,(),(),[],1,()),y5.2)) (se (fun y37=>(some ((y37.2.2.1.1,y37.1.2.2.1,()),()))) (fun z38=>none)))) (fun z6=>none))))
def Xo(t0:He)(t1:Uf)(t5:Eg)(t6:He)(t7:Int):Option (((He×(Uf×(Eg×(He×Gd))))×Unit)⊕J2):=
 (cond (decide (t7<((ln t1:Nat):Int)))
 (ob (Ib t1 t7) fun x21=>
 (cond (x21.1 !=2)
 (ob (Xt x21) fun r22=>
 (cond (bl (ln t6+ln ([(0,r22.1,())]:List Pa)) Wa)
 (ob (Ej t0 (ap t6 ([(0,r22.1,())]:List Pa))) fun r23=>
 (cond (bl (ln t5+ln ([r23.1]:List Ca)) Wa)
 (cond (x21.1 !=1)
 (ob (Vq (ap t6 ([(0,r22.1,())]:List Pa)) x21) fun r24=>
 (ob (Yg (ap t6 ([(0,r22.1,())]:List Pa)) r24.1) fun r25=>
 (ob (Ej t0 r25.1) fun r26=>
 (cond (bl (ln (ap t5 ([r23.1]:List Ca))+ln ([r26.1]:List Ca)) Wa)
 (some (.inl ((t0,t1,(ap (ap t5 ([r23.1]:List Ca)) ([r26.1]:List Ca)),r25.1,(wr .i64 (t7+1)),()),())))
 none))))
 (some (.inl ((t0,t1,(ap t5 ([r23.1]:List Ca)),(ap t6 ([(0,r22.1,())]:List Pa)),(wr .i64 (t7+1)),()),()))))
 none))
 none))
 (cond (x21.1 !=1)
 (ob (Vq t6 x21) fun r27=>
 (ob (Yg t6 r27.1) fun r28=>
 (ob (Ej t0 r28.1) fun r29=>
 (cond (bl (ln t5+ln ([r29.1]:List Ca)) Wa)
 (some (.inl ((t0,t1,(ap t5 ([r29.1]:List Ca)),r28.1,(wr .i64 (t7+1)),()),())))
 none))))
 (some (.inl ((t0,t1,t5,t6,(wr .i64 (t7+1)),()),()))))))
 (some (.inr (.inl ((t5,()),())))))
def Hs:=Va fun x:((He×(Uf×(Eg×(He×Gd))))×Unit)=>Xo x.1.1 x.1.2.1 x.1.2.2.1 x.1.2.2.2.1 x.1.2.2.2.2.1
def Yl(a0:He)(a1:Uf):Option UT:=
 (ob (Pw a0) fun r1=>
 (cond (!r1.1)
 (some ([],()))
 (ob (Ny a1) fun r2=>
 (cond (!r2.1)
 (some ([],()))
 (ob (Hs ((a0,a1,[],[],0,()),())) (se (fun y30=>(some (y30.1.1,()))) (fun z31=>none)))))))
def Bt(t2:Unit)(t3:Unit)(t5:Int)(b2:Ca)(b3:Ca):Option ((Oai×Hn)⊕Zt):=
 (cond (decide (t5<((ln b2.2.1:Nat):Int)))
 (ob (Ib b2.2.1 t5) fun x5=>
 (ob (Ib b3.2.1 t5) fun x6=>
 (cond (x5 !=x6)
 (some (.inr (.inr ((false,()),()))))
 (some (.inl (((),(),(wr .i64 (t5+1)),()),(b2,b3,())))))))
 (some (.inr (.inl ((),())))))
def Qw:=Va fun x:(Oai×Hn)=>Bt x.1.1 x.1.2.1 x.1.2.2.1 x.2.1 x.2.2.1
def YD(a0:Ca)(a1:Ca):Option Id:=
 (cond (a0.1 !=a1.1)
 (some (false,()))
 (cond (((ln a0.2.1:Nat):Int) !=((ln a1.2.1:Nat):Int))
 (some (false,()))
 (ob (Qw (((),(),0,()),(a0,a1,()))) (se (fun y7=>(some (true,()))) (fun z8=>(some (z8.1.1,())))))))
def Qv(t1:Eg)(t2:Unit)(t5:Eg)(t6:Int)(b2:Ca):Option (((Eg×(Unit×(Eg×Gd)))×Ii)⊕J2):=
 (cond (decide (t6<((ln t1:Nat):Int)))
 (ob (Ib t1 t6) fun x13=>
 (ob (YD b2 x13) fun r14=>
 (cond (!r14.1)
 (ob (Ib t1 t6) fun x15=>
 (ob (XB x15) fun r16=>
 (cond (bl (ln t5+ln ([r16.1]:List Ca)) Wa)
 (ob (Ib t1 t6) fun x17=>
 (some (.inl ((t1,(),(ap t5 ([r16.1]:List Ca)),(wr .i64 (t6+1)),()),(x17,())))))
 none)))
 (ob (Ib t1 t6) fun x18=>
 (some (.inl ((t1,(),t5,(wr .i64 (t6+1)),()),(x18,()))))))))
 (some (.inr (.inl ((t5,()),())))))
def Vy:=Va fun x:((Eg×(Unit×(Eg×Gd)))×Ii)=>Qv x.1.1 x.1.2.1 x.1.2.2.1 x.1.2.2.2.1 x.2.1
def Sh(a0:Ca)(a1:Eg):Option UT:=
 (ob (Vy ((a1,(),[],0,()),(a0,()))) (se (fun y19=>(some (y19.1.1,()))) (fun z20=>none)))
def Qn(a0:Gb)(a1:Int)(a2:Bool):Option (Gb×Xay):=
 (ob (Hp a0) fun r1=>
 (cond (!r1.1)
 (some (Zy,[],false,()))
 (ob (Yc a1 0 (wr .i64 (a0.1.1-1))) fun r2=>
 (cond (!r2.1)
 (some (Zy,[],false,()))
 (ob (BJ a0 a1) fun r3=>
 (cond (decide (r3.1≥0))
 (some (Zy,[],false,()))
 (ob (Kl a0) fun r4=>
 (ob (Ut a0.2.2.1 a0.2.2.2.1) fun r5=>
 (ob (Tt a0.1 r5.1 a1) fun r6=>
 (cond a2
 (ob (HR r6.1) fun r7=>
 (ob (Jp r4.1 r7.1) fun r8=>
 (cond (bl (ln r8.1.2.2.2.1+ln ([(a1,r8.2.1,())]:List Pa)) Wa)
 (cond (r8.2.1.1==9)
 (cond (decide (r8.2.1.2.2.2.1<((ln a0.2.1:Nat):Int)))
 (ob (Ib a0.2.1 r8.2.1.2.2.2.1) fun x9=>
 (ob (Yl (ap r8.1.2.2.2.1 ([(a1,r8.2.1,())]:List Pa)) x9) fun r10=>
 (ob (Le (ap r8.1.2.2.2.1 ([(a1,r8.2.1,())]:List Pa))) fun r11=>
 (cond (bl (ln r10.1+ln ([r11.1]:List Ca)) Wa)
 (ob (Le a0.2.2.2.1) fun r12=>
 (ob (Sh r12.1 (ap r10.1 ([r11.1]:List Ca))) fun r13=>
 (some ((r8.1.1,r8.1.2.1,r8.1.2.2.1,(ap r8.1.2.2.2.1 ([(a1,r8.2.1,())]:List Pa)),r8.1.2.2.2.2),r13.1,true,()))))
 none))))
 (ob (Le (ap r8.1.2.2.2.1 ([(a1,r8.2.1,())]:List Pa))) fun r14=>
 (cond (bl (ln ([]:List Ca)+ln ([r14.1]:List Ca)) Wa)
 (ob (Le a0.2.2.2.1) fun r15=>
 (ob (Sh r15.1 (ap [] ([r14.1]:List Ca))) fun r16=>
 (some ((r8.1.1,r8.1.2.1,r8.1.2.2.1,(ap r8.1.2.2.2.1 ([(a1,r8.2.1,())]:List Pa)),r8.1.2.2.2.2),r16.1,true,()))))
 none)))
 (ob (Le (ap r8.1.2.2.2.1 ([(a1,r8.2.1,())]:List Pa))) fun r17=>
 (cond (bl (ln ([]:List Ca)+ln ([r17.1]:List Ca)) Wa)
 (ob (Le a0.2.2.2.1) fun r18=>
 (ob (Sh r18.1 (ap [] ([r17.1]:List Ca))) fun r19=>
 (some ((r8.1.1,r8.1.2.1,r8.1.2.2.1,(ap r8.1.2.2.2.1 ([(a1,r8.2.1,())]:List Pa)),r8.1.2.2.2.2),r19.1,true,()))))
 none)))
 none)))
 (ob (BU r6.1) fun r20=>
 (ob (Jp r4.1 r20.1) fun r21=>
 (cond (bl (ln r21.1.2.2.2.1+ln ([(a1,r21.2.1,())]:List Pa)) Wa)
 (cond (r21.2.1.1==9)
 (cond (decide (r21.2.1.2.2.2.1<((ln a0.2.1:Nat):Int)))
 (ob (Ib a0.2.1 r21.2.1.2.2.2.1) fun x22=>
 (ob (Yl (ap r21.1.2.2.2.1 ([(a1,r21.2.1,())]:List Pa)) x22) fun r23=>
 (ob (Le (ap r21.1.2.2.2.1 ([(a1,r21.2.1,())]:List Pa))) fun r24=>
 (cond (bl (ln r23.1+ln ([r24.1]:List Ca)) Wa)
 (ob (Le a0.2.2.2.1) fun r25=>
 (ob (Sh r25.1 (ap r23.1 ([r24.1]:List Ca))) fun r26=>
 (some ((r21.1.1,r21.1.2.1,r21.1.2.2.1,(ap r21.1.2.2.2.1 ([(a1,r21.2.1,())]:List Pa)),r21.1.2.2.2.2),r26.1,true,()))))
 none))))
 (ob (Le (ap r21.1.2.2.2.1 ([(a1,r21.2.1,())]:List Pa))) fun r27=>
 (cond (bl (ln ([]:List Ca)+ln ([r27.1]:List Ca)) Wa)
 (ob (Le a0.2.2.2.1) fun r28=>
 (ob (Sh r28.1 (ap [] ([r27.1]:List Ca))) fun r29=>
 (some ((r21.1.1,r21.1.2.1,r21.1.2.2.1,(ap r21.1.2.2.2.1 ([(a1,r21.2.1,())]:List Pa)),r21.1.2.2.2.2),r29.1,true,()))))
 none)))
 (ob (Le (ap r21.1.2.2.2.1 ([(a1,r21.2.1,())]:List Pa))) fun r30=>
 (cond (bl (ln ([]:List Ca)+ln ([r30.1]:List Ca)) Wa)
 (ob (Le a0.2.2.2.1) fun r31=>
 (ob (Sh r31.1 (ap [] ([r30.1]:List Ca))) fun r32=>
 (some ((r21.1.1,r21.1.2.1,r21.1.2.2.1,(ap r21.1.2.2.2.1 ([(a1,r21.2.1,())]:List Pa)),r21.1.2.2.2.2),r32.1,true,()))))
 none)))
 none)))))))))))))
def TF(a0:Gb)(a1:Int):Option (Gb×Xay):=
 (ob (BJ a0 a1) fun r1=>
 (ob (Hp a0) fun r2=>
 (cond (!r2.1)
 (some (Zy,[],false,()))
 (cond (decide (r1.1<0))
 (some (Zy,[],false,()))
 (ob (Kl a0) fun r3=>
 (ob (Yg r3.1.2.2.2.1 r1.1) fun r4=>
 (ob (Le a0.2.2.2.1) fun r5=>
 (ob (Le r4.1) fun r6=>
 (ob (Sh r5.1 ([r6.1]:List Ca)) fun r7=>
 (some ((r3.1.1,r3.1.2.1,r3.1.2.2.1,r4.1,r3.1.2.2.2.2),r7.1,true,())))))))))))
def Gq(t0:Li)(t1:Int)(t5:Int):Option (Daa⊕VL):=
 (cond (decide (t5<((ln t0:Nat):Int)))
 (ob (Ib t0 t5) fun x9=>
 (cond (x9.1 !=t1)
 (some (.inr (.inr (((-1),()),()))))
 (ob (Ib t0 t5) fun x10=>
 (cond (x10.2.1 !=(wr .i64 (t1+1)))
 (some (.inr (.inr (((-1),()),()))))
 (ob (Ib t0 t5) fun x11=>
 (cond (x11.2.2.1 !=(wr .i64 ((wr .i64 (t1+1))+1)))
 (some (.inr (.inr (((-1),()),()))))
 (ob (Ib t0 t5) fun x12=>
 (cond (x12.2.2.2.1 !=(wr .i64 ((wr .i64 ((wr .i64 (t1+1))+1))+1)))
 (some (.inr (.inr (((-1),()),()))))
 (some (.inl ((t0,(wr .i64 ((wr .i64 ((wr .i64 ((wr .i64 (t1+1))+1))+1))+1)),(wr .i64 (t5+1)),()),())))))))))))
 (some (.inr (.inl ((t1,()),())))))
def GH:=Va fun x:Daa=>Gq x.1.1 x.1.2.1 x.1.2.2.1
def PK(a0:Li)(a1:Int):Option Gd:=
 (ob (GH ((a0,a1,0,()),())) (se (fun y13=>(some (y13.1.1,()))) (fun z14=>(some (z14.1.1,())))))
def Qo(t0:Pi)(t1:Int)(t5:Int):Option ((NC×Unit)⊕VL):=
 (cond (decide (t5<((ln t0:Nat):Int)))
 (ob (Ib t0 t5) fun x5=>
 (ob (PK x5 t1) fun r6=>
 (cond (decide (r6.1<0))
 (some (.inr (.inr (((-1),()),()))))
 (some (.inl ((t0,r6.1,(wr .i64 (t5+1)),()),()))))))
 (some (.inr (.inl ((t1,()),())))))
def YE:=Va fun x:(NC×Unit)=>Qo x.1.1 x.1.2.1 x.1.2.2.1
def VH(a0:Pi)(a1:Int):Option Gd:=
 (ob (YE ((a0,a1,0,()),())) (se (fun y7=>(some (y7.1.1,()))) (fun z8=>(some (z8.1.1,())))))
def FD(a0:Ia)(a1:Int):Option Gd:=
 (ob (VH a0.2.1 a1) fun r1=>
 (cond (decide (r1.1<0))
 (some ((-1),()))
 (some (r1.1,()))))
def Dt(t2:Unit)(t6:E5)(t7:(List Bool))(t8:Rd)(t9:Int)(t10:Int)(t11:Int)(b2:Ia):Option (GaC⊕(Yay⊕Re)):=
 (cond (decide (t11<b2.1))
 (ob (QD b2 t10 t11) fun r49=>
 (cond (decide (r49.1≥0))
 (cond (Rb (ln t7) r49.1)
 (ob t7[(tn r49.1)]? fun x50=>
 (cond (!x50)
 (cond (Rb (ln t7) r49.1)
 (ob t7[(tn r49.1)]? fun x51=>
 (cond (Rb (ln t6) t10)
 (ob t6[(tn t10)]? fun x52=>
 (cond (bl (ln ([]:List Int)+ln x52) Wa)
 (cond (bl (ln (ap [] x52)+ln ([t11]:List Int)) Wa)
 (cond (Rb (ln t6) r49.1)
 (ob (ls t6 (tn t10) x52)[(tn r49.1)]? fun x53=>
 (cond (bl (ln t8+ln ([r49.1]:List Int)) Wa)
 (some (.inl (((),(ls (ls t6 (tn t10) x52) (tn r49.1) (ap (ap [] x52) ([t11]:List Int))),(ls t7 (tn r49.1) true),(ap t8 ([r49.1]:List Int)),t9,t10,(wr .i64 (t11+1)),()),(b2,()))))
 none))
 none)
 none)
 none))
 none))
 none)
 (some (.inl (((),t6,t7,t8,t9,t10,(wr .i64 (t11+1)),()),(b2,()))))))
 none)
 (some (.inl (((),t6,t7,t8,t9,t10,(wr .i64 (t11+1)),()),(b2,()))))))
 (some (.inr (.inl (((),t6,t7,t8,t9,()),(b2,()))))))
def Rn:=Va fun x:GaC=>Dt x.1.1 x.1.2.1 x.1.2.2.1 x.1.2.2.2.1 x.1.2.2.2.2.1 x.1.2.2.2.2.2.1 x.1.2.2.2.2.2.2.1 x.2.1
def XF(t2:Unit)(t6:E5)(t7:(List Bool))(t8:Rd)(t9:Int)(b2:Ia):Option (Yay⊕(((E5×((List Bool)×Unit))×Unit)⊕Re)):=
 (cond (decide (t9<((ln t8:Nat):Int)))
 (cond (Rb (ln t8) t9)
 (ob t8[(tn t9)]? fun x38=>
 (ob (Rn (((),t6,t7,t8,t9,x38,0,()),(b2,()))) (se (fun y54=>(some (.inl (((),y54.1.2.1,y54.1.2.2.1,y54.1.2.2.2.1,(wr .i64 (y54.1.2.2.2.2.1+1)),()),(y54.2.1,()))))) (fun z55=>(some (.inr (.inr ((),()))))))))
 none)
 (some (.inr (.inl ((t6,t7,()),())))))
def Dl:=Va fun x:Yay=>XF x.1.1 x.1.2.1 x.1.2.2.1 x.1.2.2.2.1 x.1.2.2.2.2.1 x.2.1
def EH(a0:Ia)(a1:Int):Option (E5×((List Bool)×Unit)):=
 (cond (((16:Int)==16)&&(decide ((0:Int)≤16)&&decide (16≤((Wa:Nat):Int))))
 (cond (((16:Int)==16)&&(decide ((0:Int)≤16)&&decide (16≤((Wa:Nat):Int))))
 (cond (Rb (ln (yf (tn 16) false)) a1)
 (ob (yf (tn 16) false)[(tn a1)]? fun x1=>
 (ob (Dl (((),(yf (tn 16) []),(ls (yf (tn 16) false) (tn a1) true),([a1]:List Int),0,()),(a0,()))) (se (fun y56=>(some y56.1)) (fun z57=>none))))
 none)
 none)
 none)
def Fg(a0:Ia)(a1:Int)(a2:Int):Option Y9:=
 (ob (Bo a0 a1) fun r1=>
 (cond (!r1.1)
 (some ([],false,()))
 (ob (Bo a0 a2) fun r2=>
 (cond (!r2.1)
 (some ([],false,()))
 (ob (EH a0 a1) fun r3=>
 (cond (Rb (ln r3.2.1) a2)
 (ob r3.2.1[(tn a2)]? fun x4=>
 (cond (!x4)
 (some ([],false,()))
 (cond (Rb (ln r3.1) a2)
 (ob r3.1[(tn a2)]? fun x5=>
 (cond (bl (ln ([]:List Int)+ln x5) Wa)
 (some ((ap [] x5),true,()))
 none))
 none)))
 none))))))
def KJ(t2:Unit)(t5:TT)(t6:Rd)(t7:Int)(t26:Int)(t27:Int)(b2:Ia):Option (((Unit×(TT×(Rd×Ua)))×Nl)⊕(Saj⊕Re)):=
 (cond (decide (t27<t26))
 (ob (Qu b2 t7 t27) fun r24=>
 (cond (!(Ce t5 r24.1).isSome)
 (ob (Lk ((Ce t5 t7).getD [])) fun r25=>
 (cond (bl (ln r25.1+ln ([t27]:List Int)) Wa)
 (cond (Option.isNone (Ce t5 r24.1))
 (cond (bl (ln t6+ln ([r24.1]:List Int)) Wa)
 (some (.inl (((),(ap t5 [(r24.1,(ap r25.1 ([t27]:List Int)))]),(ap t6 ([r24.1]:List Int)),t7,t26,(wr .i64 (t27+1)),()),(b2,()))))
 none)
 none)
 none))
 (some (.inl (((),t5,t6,t7,t26,(wr .i64 (t27+1)),()),(b2,()))))))
 (some (.inr (.inl (((),t5,t6,()),(b2,()))))))
def IA:=Va fun x:((Unit×(TT×(Rd×Ua)))×Nl)=>KJ x.1.1 x.1.2.1 x.1.2.2.1 x.1.2.2.2.1 x.1.2.2.2.2.1 x.1.2.2.2.2.2.1 x.2.1
def ZS(t2:Unit)(t5:TT)(t6:Rd)(b2:Ia):Option (Saj⊕(((TT×Unit)×Unit)⊕Re)):=
 (cond (decide (((ln t6:Nat):Int)>0))
 (cond (Rb (ln t6) 0)
 (ob t6[(tn 0)]? fun x19=>
 (cond (Nd (ln t6) 1 ((ln t6:Nat):Int))
 (ob (IA (((),t5,(Hb t6 (tn 1) (tn ((ln t6:Nat):Int))),x19,b2.1,0,()),(b2,()))) (se (fun y26=>(some (.inl (((),y26.1.2.1,y26.1.2.2.1,()),(y26.2.1,()))))) (fun z27=>(some (.inr (.inr ((),())))))))
 none))
 none)
 (some (.inr (.inl ((t5,()),())))))
def Vr:=Va fun x:Saj=>ZS x.1.1 x.1.2.1 x.1.2.2.1 x.2.1
def OW(a0:Ia)(a1:Int):Option (TT×Unit):=
 (cond (Option.isNone (Ce ([]:TT) a1))
 (ob (Vr (((),(ap ([]:TT) [(a1,[])]),([a1]:List Int),()),(a0,()))) (se (fun y28=>(some (y28.1.1,()))) (fun z29=>none)))
 none)
def Kk(a0:Ia)(a1:Int)(a2:Int):Option Y9:=
 (ob (Ei a0 a1) fun r1=>
 (cond (!r1.1)
 (some ([],false,()))
 (ob (Ei a0 a2) fun r2=>
 (cond (!r2.1)
 (some ([],false,()))
 (ob (OW a0 a1) fun r3=>
 (some (((Ce r3.1 a2).getD []),(Ce r3.1 a2).isSome,())))))))
def RF(a0:Ya):Option Id:=
 (ob (Yc a0.1 0 1000000) fun r1=>
 (cond r1.1
 (ob (Yc a0.2.1 0 31) fun r2=>
 (some (r2.1,())))
 (some (false,()))))
def Ct(t0:Wh)(t1:Int)(t2:Int)(t3:Int)(t9:Int):Option (((Wh×Ma)×Unit)⊕((Say×Unit)⊕MC)):=
 (cond (decide (t9<((ln t0:Nat):Int)))
 (ob (Ib t0 t9) fun x17=>
 (ob (RF x17) fun r18=>
 (cond (!r18.1)
 (some (.inr (.inr ((false,()),()))))
 (ob (Ib t0 t9) fun x19=>
 (cond (decide (x19.2.1≥t2))
 (some (.inr (.inr ((false,()),()))))
 (ob (Ib t0 t9) fun x20=>
 (cond (decide (x20.1<t3))
 (some (.inr (.inr ((false,()),()))))
 (ob (Ib t0 t9) fun x21=>
 (ob (Ib t0 t9) fun x22=>
 (cond (decide (0≤x22.2.1))
 (cond (x21.2.2.1==((Ih .i64 (Cy .i64 t1 x22.2.1) 1)==1))
 (some (.inr (.inr ((false,()),()))))
 (ob (Ib t0 t9) fun x23=>
 (ob (Ib t0 t9) fun x24=>
 (cond (decide (0≤x24.2.1))
 (some (.inl ((t0,(Kt .i64 t1 (Te .i64 1 x24.2.1)),t2,x23.1,(wr .i64 (t9+1)),()),())))
 none))))
 none))))))))))
 (some (.inr (.inl ((t0,()),())))))
def Rw:=Va fun x:((Wh×Ma)×Unit)=>Ct x.1.1 x.1.2.1 x.1.2.2.1 x.1.2.2.2.1 x.1.2.2.2.2.1
def Nv(a0:Wh)(a1:Int)(a2:Int)(a3:Int):Option Id:=
 (ob (Rw ((a0,a1,a2,a3,0,()),())) (se (fun y25=>(some ((decide (((ln y25.1.1:Nat):Int)≤64)),()))) (fun z26=>(some (z26.1.1,())))))
def MB(a0:Ua):Option Id:=
 (ob (Yc a0.1 1 1000) fun r1=>
 (cond r1.1
 (ob (Yc a0.2.1 0 1000) fun r2=>
 (cond r2.1
 (ob (Yc a0.2.2.1 0 2) fun r3=>
 (some (r3.1,())))
 (some (false,()))))
 (some (false,()))))
def CY(a0:Int):Option Gd:=
 (ob (Yc a0 0 31) fun r1=>
 (cond (!r1.1)
 (some (0,()))
 (cond (decide (0≤a0))
 (some ((Te .i64 1 a0),()))
 none)))
def YA(t1:Unit)(t3:Int)(t4:Int)(b1:Gb):Option ((C5×Ho)⊕Qai):=
 (cond (decide (t4<((ln b1.2.2.2.1:Nat):Int)))
 (ob (Ib b1.2.2.2.1 t4) fun x5=>
 (ob (CY x5.1) fun r6=>
 (some (.inl (((),(Fe .i64 t3 r6.1),(wr .i64 (t4+1)),()),(b1,()))))))
 (some (.inr (.inl ((t3,()),())))))
def IC:=Va fun x:(C5×Ho)=>YA x.1.1 x.1.2.1 x.1.2.2.1 x.2.1
def UF(a0:Gb):Option Gd:=
 (ob (IC (((),0,0,()),(a0,()))) (se (fun y7=>(some (y7.1.1,()))) (fun z8=>none)))
def Gr(a0:Ab):Option Id:=
 (ob (Hp a0.1) fun r1=>
 (cond (!r1.1)
 (some (false,()))
 (ob (MB a0.2.1) fun r2=>
 (cond (!r2.1)
 (some (false,()))
 (ob (Yc a0.2.2.2.1 0 1000000) fun r3=>
 (cond (!r3.1)
 (some (false,()))
 (ob (Yc a0.2.2.2.2.1 0 a0.2.2.2.1) fun r4=>
 (cond (!r4.1)
 (some (false,()))
 (ob (UF a0.1) fun r5=>
 (ob (Nv a0.2.2.1 r5.1 a0.1.1.1 0) fun r6=>
 (cond (!r6.1)
 (some (false,()))
 (cond (decide (((ln a0.2.2.1:Nat):Int)>0))
 (ob (Ib a0.2.2.1 (wr .i64 (((ln a0.2.2.1:Nat):Int)-1))) fun x7=>
 (cond (decide (x7.1>a0.2.2.2.1))
 (some (false,()))
 (ob (Yc a0.2.2.2.2.2.1 0 a0.1.1.1) fun r8=>
 (cond r8.1
 (ob (Yc a0.2.2.2.2.2.2.1 0 a0.2.2.2.1) fun r9=>
 (some (r9.1,())))
 (some (false,()))))))
 (ob (Yc a0.2.2.2.2.2.1 0 a0.1.1.1) fun r10=>
 (cond r10.1
 (ob (Yc a0.2.2.2.2.2.2.1 0 a0.2.2.2.1) fun r11=>
 (some (r11.1,())))
 (some (false,()))))))))))))))))
def WD(a0:Gb)(a1:Ua):Option (Ab×Id):=
 (ob (Gr (a0,a1,[],0,0,0,0,())) fun r1=>
 (cond (!r1.1)
 (some (Kg,false,()))
 (ob (Kl a0) fun r2=>
 (some ((r2.1,a1,[],0,0,0,0,()),true,())))))
def AK(a0:Ua):Option EG:=
 (some (a0,()))
def VE(a0:Ya)(a1:Ya):Option Id:=
 (cond (a0.1 !=a1.1)
 (some (false,()))
 (cond (a0.2.1 !=a1.2.1)
 (some (false,()))
 (cond (a0.2.2.1 !=a1.2.2.1)
 (some (false,()))
 (some (true,())))))
def D6(t0:Wh)(t1:Wh)(t5:Int):Option (Faa⊕Zt):=
 (cond (decide (t5<((ln t0:Nat):Int)))
 (ob (Ib t0 t5) fun x7=>
 (ob (Ib t1 t5) fun x8=>
 (ob (VE x7 x8) fun r9=>
 (cond (!r9.1)
 (some (.inr (.inr ((false,()),()))))
 (some (.inl ((t0,t1,(wr .i64 (t5+1)),()),())))))))
 (some (.inr (.inl ((),())))))
def QM:=Va fun x:Faa=>D6 x.1.1 x.1.2.1 x.1.2.2.1
def NJ(a0:Wh)(a1:Wh):Option Id:=
 (cond (((ln a0:Nat):Int) !=((ln a1:Nat):Int))
 (some (false,()))
 (ob (QM ((a0,a1,0,()),())) (se (fun y10=>(some (true,()))) (fun z11=>(some (z11.1.1,()))))))
def Ws(t0:Wh)(t1:Int)(t5:Int):Option (Caa⊕((Rai×Unit)⊕Re)):=
 (cond (decide (t5<((ln t0:Nat):Int)))
 (cond (Rb (ln t0) t5)
 (ob t0[(tn t5)]? fun x7=>
 (cond (Rb (ln (ls t0 (tn t5) (t1,x7.2))) t5)
 (ob (ls t0 (tn t5) (t1,x7.2))[(tn t5)]? fun x8=>
 (cond ((3:Int)==0)
 none
 (cond (Rb (ln (ls (ls t0 (tn t5) (t1,x7.2)) (tn t5) (x8.1,(wr .i64 (t1+1)),x8.2.2))) t5)
 (ob (ls (ls t0 (tn t5) (t1,x7.2)) (tn t5) (x8.1,(wr .i64 (t1+1)),x8.2.2))[(tn t5)]? fun x9=>
 (some (.inl (((ls (ls (ls t0 (tn t5) (t1,x7.2)) (tn t5) (x8.1,(wr .i64 (t1+1)),x8.2.2)) (tn t5) (x9.1,x9.2.1,((ye (wr .i64 ((wr .i64 (t1+1))+1)) 3)==0),x9.2.2.2)),(wr .i64 ((wr .i64 ((wr .i64 (t1+1))+1))+1)),(wr .i64 (t5+1)),()),()))))
 none)))
 none))
 none)
 (some (.inr (.inl ((t0,t1,()),())))))
def RI:=Va fun x:Caa=>Ws x.1.1 x.1.2.1 x.1.2.2.1
def YM(a0:Wh)(a1:Int):Option Rai:=
 (ob (RI ((a0,a1,0,()),())) (se (fun y10=>(some (y10.1.1,(y10.1.2.1,())))) (fun z11=>none)))
def Us(t0:Wh)(t1:Int)(t5:Int):Option (Caa⊕VL):=
 (cond (decide (t5<((ln t0:Nat):Int)))
 (ob (Ib t0 t5) fun x7=>
 (cond (x7.1 !=t1)
 (some (.inr (.inr (((-1),()),()))))
 (ob (Ib t0 t5) fun x8=>
 (cond (x8.2.1 !=(wr .i64 (t1+1)))
 (some (.inr (.inr (((-1),()),()))))
 (ob (Ib t0 t5) fun x9=>
 (cond ((3:Int)==0)
 none
 (cond (x9.2.2.1 !=((ye (wr .i64 ((wr .i64 (t1+1))+1)) 3)==0))
 (some (.inr (.inr (((-1),()),()))))
 (some (.inl ((t0,(wr .i64 ((wr .i64 ((wr .i64 (t1+1))+1))+1)),(wr .i64 (t5+1)),()),()))))))))))
 (some (.inr (.inl ((t1,()),())))))
def PI:=Va fun x:Caa=>Us x.1.1 x.1.2.1 x.1.2.2.1
def VM(a0:Wh)(a1:Int):Option Gd:=
 (ob (PI ((a0,a1,0,()),())) (se (fun y10=>(some (y10.1.1,()))) (fun z11=>(some (z11.1.1,())))))
def Hx(t1:Unit)(t3:Int)(b1:Ca):Option ((Ns×Ii)⊕((Re×Ii)⊕MC)):=
 (cond (decide (t3<((ln b1.2.1:Nat):Int)))
 (ob (Ib b1.2.1 t3) fun x9=>
 (ob (Yc x9 1 56) fun r10=>
 (cond (!r10.1)
 (some (.inr (.inr ((false,()),()))))
 (cond (decide (t3>0))
 (ob (Ib b1.2.1 (wr .i64 (t3-1))) fun x11=>
 (ob (Ib b1.2.1 t3) fun x12=>
 (cond (decide (x11≥x12))
 (some (.inr (.inr ((false,()),()))))
 (some (.inl (((),(wr .i64 (t3+1)),()),(b1,())))))))
 (some (.inl (((),(wr .i64 (t3+1)),()),(b1,()))))))))
 (some (.inr (.inl (((),()),(b1,()))))))
def VA:=Va fun x:(Ns×Ii)=>Hx x.1.1 x.1.2.1 x.2.1
def Ip(a0:Ca):Option Id:=
 (ob (VA (((),0,()),(a0,()))) (se (fun y13=>(ob (Yc y13.2.1.1 0 15) fun r15=>
 (some (r15.1,())))) (fun z14=>(some (z14.1.1,())))))
def Wo(t1:Unit)(t3:Ke)(t4:Int)(b1:Ca):Option ((Aaa×Ii)⊕(((Unit×OQ)×Ii)⊕Re)):=
 (cond (decide (t4<((ln b1.2.1:Nat):Int)))
 (ob (Ib b1.2.1 t4) fun x6=>
 (ob (Wg x6) fun r7=>
 (cond (bl (ln t3+ln ([r7.1]:List Cc)) Wa)
 (some (.inl (((),(ap t3 ([r7.1]:List Cc)),(wr .i64 (t4+1)),()),(b1,()))))
 none)))
 (some (.inr (.inl (((),t3,()),(b1,()))))))
def Cs:=Va fun x:(Aaa×Ii)=>Wo x.1.1 x.1.2.1 x.1.2.2.1 x.2.1
def Sp(a0:Ca):Option Hi:=
 (ob (Ip a0) fun r1=>
 (cond (!r1.1)
 (some ([],()))
 (ob (Cs (((),[],0,()),(a0,()))) (se (fun y8=>(ob (Wj y8.2.1.1) fun r10=>
 (cond (bl (ln r10.1+ln ([58]:List UInt8)) Wa)
 (ob (Vd y8.1.2.1 ([44]:List UInt8)) fun r11=>
 (cond (bl (ln (ap r10.1 ([58]:List UInt8))+ln r11.1) Wa)
 (some ((ap (ap r10.1 ([58]:List UInt8)) r11.1),()))
 none))
 none))) (fun z9=>none)))))
def At(t0:Xe)(t3:Ke)(t4:Int):Option (((Xe×GJ)×Unit)⊕J5):=
 (cond (decide (t4<((ln t0:Nat):Int)))
 (ob (Ib t0 t4) fun x9=>
 (ob (Yd x9.1) fun r10=>
 (cond (bl (ln r10.1+ln ([32]:List UInt8)) Wa)
 (ob (Ib t0 t4) fun x11=>
 (ob (Sp x11.2.1) fun r12=>
 (cond (bl (ln (ap r10.1 ([32]:List UInt8))+ln r12.1) Wa)
 (cond (bl (ln t3+ln ([(ap (ap r10.1 ([32]:List UInt8)) r12.1)]:List Cc)) Wa)
 (some (.inl ((t0,(ap t3 ([(ap (ap r10.1 ([32]:List UInt8)) r12.1)]:List Cc)),(wr .i64 (t4+1)),()),())))
 none)
 none)))
 none)))
 (some (.inr (.inl ((t3,()),())))))
def Ow:=Va fun x:((Xe×GJ)×Unit)=>At x.1.1 x.1.2.1 x.1.2.2.1
def RD(a0:Xe):Option Hi:=
 (ob (Ow ((a0,[],0,()),())) (se (fun y13=>(cond (((ln y13.1.1:Nat):Int)==0)
 (some (([45]:List UInt8),()))
 (ob (Vd y13.1.1 ([59,32]:List UInt8)) fun r15=>
 (some (r15.1,()))))) (fun z14=>none)))
def strconv_Itoa(a:Int):Option (List UInt8×Unit):=U5 a
def Qh(a0:Int):Option Hi:=
 (ob (strconv_Itoa a0) fun r1=>
 (some (r1.1,())))
def Qs(t3:Ke)(t9:Xe)(t10:Int)(t11:Int):Option (((Ke×NZ)×Unit)⊕J5):=
 (cond (decide (t11<t10))
 (ob (Ib t9 t11) fun x10=>
 (ob (Qh x10.1) fun r11=>
 (cond (bl (ln r11.1+ln ([32]:List UInt8)) Wa)
 (ob (Pp x10.2.1) fun r12=>
 (cond (bl (ln (ap r11.1 ([32]:List UInt8))+ln r12.1) Wa)
 (cond (bl (ln t3+ln ([(ap (ap r11.1 ([32]:List UInt8)) r12.1)]:List Cc)) Wa)
 (some (.inl (((ap t3 ([(ap (ap r11.1 ([32]:List UInt8)) r12.1)]:List Cc)),t9,t10,(wr .i64 (t11+1)),()),())))
 none)
 none))
 none)))
 (some (.inr (.inl ((t3,()),())))))
def Cw:=Va fun x:((Ke×NZ)×Unit)=>Qs x.1.1 x.1.2.1 x.1.2.2.1 x.1.2.2.2.1
def Mo(a0:Xe):Option Hi:=
 (cond (((ln a0:Nat):Int)==0)
 (some (([45]:List UInt8),()))
 (ob (Cw (([],a0,((ln a0:Nat):Int),0,()),())) (se (fun y13=>(ob (Mh y13.1.1 ([59,32]:List UInt8)) fun r15=>
 (some (r15.1,())))) (fun z14=>none))))
def TJ(a0:Wh)(a1:Int):Option Gd:=
 (cond (decide ((wr .i64 (a1-((ln a0:Nat):Int)))<0))
 (some ((-1),()))
 (some ((wr .i64 (a1-((ln a0:Nat):Int))),())))
def AF(a0:Uf)(a1:Int):Option Gd:=
 (cond (decide ((wr .i64 (a1-((ln a0:Nat):Int)))<0))
 (some ((-1),()))
 (some ((wr .i64 (a1-((ln a0:Nat):Int))),())))
def F6(t0:Uh)(t1:Int)(t5:Int):Option ((QQ×Unit)⊕VL):=
 (cond (decide (t5<((ln t0:Nat):Int)))
 (ob (Ib t0 t5) fun x5=>
 (ob (AF x5 t1) fun r6=>
 (cond (decide (r6.1<0))
 (some (.inr (.inr (((-1),()),()))))
 (some (.inl ((t0,r6.1,(wr .i64 (t5+1)),()),()))))))
 (some (.inr (.inl ((t1,()),())))))
def DN:=Va fun x:(QQ×Unit)=>F6 x.1.1 x.1.2.1 x.1.2.2.1
def WJ(a0:Uh)(a1:Int):Option Gd:=
 (cond (decide ((wr .i64 (a1-((ln a0:Nat):Int)))<0))
 (some ((-1),()))
 (ob (DN ((a0,(wr .i64 (a1-((ln a0:Nat):Int))),0,()),())) (se (fun y7=>(some (y7.1.1,()))) (fun z8=>(some (z8.1.1,()))))))
def BN(a0:He)(a1:Int):Option Gd:=
 (cond (decide ((wr .i64 (a1-((ln a0:Nat):Int)))<0))
 (some ((-1),()))
 (some ((wr .i64 (a1-((ln a0:Nat):Int))),())))
def SJ(a0:Gb)(a1:Int):Option Gd:=
 (ob (UJ a0.1 a1) fun r1=>
 (cond (decide (r1.1<0))
 (some ((-1),()))
 (ob (WJ a0.2.1 r1.1) fun r2=>
 (cond (decide (r2.1<0))
 (some ((-1),()))
 (ob (BN a0.2.2.2.1 r2.1) fun r3=>
 (cond (decide (r3.1<0))
 (some ((-1),()))
 (some (r3.1,()))))))))
def PG(a0:Ab)(a1:Int):Option Gd:=
 (ob (SJ a0.1 a1) fun r1=>
 (cond (decide (r1.1<0))
 (some ((-1),()))
 (ob (TJ a0.2.2.1 r1.1) fun r2=>
 (cond (decide (r2.1<0))
 (some ((-1),()))
 (some (r2.1,()))))))
def BF(a0:Ya):Option Mba:=
 (some (a0,()))
def G6(t0:Wh)(t3:Wh)(t4:Int):Option (Faa⊕((Say×Unit)⊕Re)):=
 (cond (decide (t4<((ln t0:Nat):Int)))
 (ob (Ib t0 t4) fun x7=>
 (ob (BF x7) fun r8=>
 (cond (Rb (ln t3) t4)
 (ob t3[(tn t4)]? fun x9=>
 (some (.inl ((t0,(ls t3 (tn t4) r8.1),(wr .i64 (t4+1)),()),()))))
 none)))
 (some (.inr (.inl ((t3,()),())))))
def FN:=Va fun x:Faa=>G6 x.1.1 x.1.2.1 x.1.2.2.1
def ET(a0:Wh):Option Say:=
 (cond ((((ln a0:Nat):Int)==((ln a0:Nat):Int))&&(decide (0≤((ln a0:Nat):Int))&&decide (((ln a0:Nat):Int)≤((Wa:Nat):Int))))
 (ob (FN ((a0,(yf (tn ((ln a0:Nat):Int)) (0,0,false,())),0,()),())) (se (fun y10=>(some (y10.1.1,()))) (fun z11=>none)))
 none)
def YI(a0:Ua):Option EG:=
 (some (a0,()))
def R8(t0:Uf)(t3:Uf)(t4:Int):Option (X9⊕(((Uf×Unit)×Unit)⊕Re)):=
 (cond (decide (t4<((ln t0:Nat):Int)))
 (ob (Ib t0 t4) fun x7=>
 (ob (YI x7) fun r8=>
 (cond (Rb (ln t3) t4)
 (ob t3[(tn t4)]? fun x9=>
 (some (.inl ((t0,(ls t3 (tn t4) r8.1),(wr .i64 (t4+1)),()),()))))
 none)))
 (some (.inr (.inl ((t3,()),())))))
def QO:=Va fun x:X9=>R8 x.1.1 x.1.2.1 x.1.2.2.1
def GN(a0:Uf):Option (Uf×Unit):=
 (cond ((((ln a0:Nat):Int)==((ln a0:Nat):Int))&&(decide (0≤((ln a0:Nat):Int))&&decide (((ln a0:Nat):Int)≤((Wa:Nat):Int))))
 (ob (QO ((a0,(yf (tn ((ln a0:Nat):Int)) (0,0,0,())),0,()),())) (se (fun y10=>(some (y10.1.1,()))) (fun z11=>none)))
 none)
def H6(t0:Uh)(t3:Uh)(t4:Int):Option (Xai⊕(((Uh×Unit)×Unit)⊕Re)):=
 (cond (decide (t4<((ln t0:Nat):Int)))
 (ob (Ib t0 t4) fun x7=>
 (ob (GN x7) fun r8=>
 (cond (Rb (ln t3) t4)
 (ob t3[(tn t4)]? fun x9=>
 (some (.inl ((t0,(ls t3 (tn t4) r8.1),(wr .i64 (t4+1)),()),()))))
 none)))
 (some (.inr (.inl ((t3,()),())))))
def HN:=Va fun x:Xai=>H6 x.1.1 x.1.2.1 x.1.2.2.1
def FT(a0:Uh):Option (Uh×Unit):=
 (cond ((((ln a0:Nat):Int)==((ln a0:Nat):Int))&&(decide (0≤((ln a0:Nat):Int))&&decide (((ln a0:Nat):Int)≤((Wa:Nat):Int))))
 (ob (HN ((a0,(yf (tn ((ln a0:Nat):Int)) []),0,()),())) (se (fun y10=>(some (y10.1.1,()))) (fun z11=>none)))
 none)
def WI(a0:Pa):Option (Pa×Unit):=
 (ob (Rt a0.2.1) fun r1=>
 (some ((a0.1,r1.1,()),())))
def P8(t0:He)(t3:He)(t4:Int):Option (Sai⊕(((He×Unit)×Unit)⊕Re)):=
 (cond (decide (t4<((ln t0:Nat):Int)))
 (ob (Ib t0 t4) fun x7=>
 (ob (WI x7) fun r8=>
 (cond (Rb (ln t3) t4)
 (ob t3[(tn t4)]? fun x9=>
 (some (.inl ((t0,(ls t3 (tn t4) r8.1),(wr .i64 (t4+1)),()),()))))
 none)))
 (some (.inr (.inl ((t3,()),())))))
def NO:=Va fun x:Sai=>P8 x.1.1 x.1.2.1 x.1.2.2.1
def HV(a0:He):Option (He×Unit):=
 (cond ((((ln a0:Nat):Int)==((ln a0:Nat):Int))&&(decide (0≤((ln a0:Nat):Int))&&decide (((ln a0:Nat):Int)≤((Wa:Nat):Int))))
 (ob (NO ((a0,(yf (tn ((ln a0:Nat):Int)) (0,(0,0,0,0,()),())),0,()),())) (se (fun y10=>(some (y10.1.1,()))) (fun z11=>none)))
 none)
def XJ(a0:Gb):Option Ho:=
 (ob (YJ a0.1) fun r1=>
 (ob (FT a0.2.1) fun r2=>
 (ob (HV a0.2.2.2.1) fun r3=>
 (some ((r1.1,r2.1,a0.2.2.1,r3.1,a0.2.2.2.2.1,a0.2.2.2.2.2.1,()),())))))
def SG(a0:Ab):Option RT:=
 (ob (XJ a0.1) fun r1=>
 (ob (AK a0.2.1) fun r2=>
 (ob (ET a0.2.2.1) fun r3=>
 (some ((r1.1,r2.1,r3.1,a0.2.2.2.1,a0.2.2.2.2.1,a0.2.2.2.2.2.1,a0.2.2.2.2.2.2.1,()),())))))
def OI(a0:Ua)(a1:Ua):Option Id:=
 (cond (a0.1 !=a1.1)
 (some (false,()))
 (cond (a0.2.1 !=a1.2.1)
 (some (false,()))
 (cond (a0.2.2.1 !=a1.2.2.1)
 (some (false,()))
 (some (true,())))))
def N8(t0:Uf)(t1:Uf)(t5:Int):Option (X9⊕Zt):=
 (cond (decide (t5<((ln t0:Nat):Int)))
 (ob (Ib t0 t5) fun x7=>
 (ob (Ib t1 t5) fun x8=>
 (ob (OI x7 x8) fun r9=>
 (cond (!r9.1)
 (some (.inr (.inr ((false,()),()))))
 (some (.inl ((t0,t1,(wr .i64 (t5+1)),()),())))))))
 (some (.inr (.inl ((),())))))
def LO:=Va fun x:X9=>N8 x.1.1 x.1.2.1 x.1.2.2.1
def XE(a0:Uf)(a1:Uf):Option Id:=
 (cond (((ln a0:Nat):Int) !=((ln a1:Nat):Int))
 (some (false,()))
 (ob (LO ((a0,a1,0,()),())) (se (fun y10=>(some (true,()))) (fun z11=>(some (z11.1.1,()))))))
def E6(t0:Uh)(t1:Uh)(t5:Int):Option (Xai⊕Zt):=
 (cond (decide (t5<((ln t0:Nat):Int)))
 (ob (Ib t0 t5) fun x7=>
 (ob (Ib t1 t5) fun x8=>
 (ob (XE x7 x8) fun r9=>
 (cond (!r9.1)
 (some (.inr (.inr ((false,()),()))))
 (some (.inl ((t0,t1,(wr .i64 (t5+1)),()),())))))))
 (some (.inr (.inl ((),())))))
def UM:=Va fun x:Xai=>E6 x.1.1 x.1.2.1 x.1.2.2.1
def QJ(a0:Uh)(a1:Uh):Option Id:=
 (cond (((ln a0:Nat):Int) !=((ln a1:Nat):Int))
 (some (false,()))
 (ob (UM ((a0,a1,0,()),())) (se (fun y10=>(some (true,()))) (fun z11=>(some (z11.1.1,()))))))
def MI(a0:Pa)(a1:Pa):Option Id:=
 (cond (a0.1 !=a1.1)
 (some (false,()))
 (ob (Qt a0.2.1 a1.2.1) fun r1=>
 (cond (!r1.1)
 (some (false,()))
 (some (true,())))))
def L8(t0:He)(t1:He)(t5:Int):Option (Sai⊕Zt):=
 (cond (decide (t5<((ln t0:Nat):Int)))
 (ob (Ib t0 t5) fun x7=>
 (ob (Ib t1 t5) fun x8=>
 (ob (MI x7 x8) fun r9=>
 (cond (!r9.1)
 (some (.inr (.inr ((false,()),()))))
 (some (.inl ((t0,t1,(wr .i64 (t5+1)),()),())))))))
 (some (.inr (.inl ((),())))))
def JO:=Va fun x:Sai=>L8 x.1.1 x.1.2.1 x.1.2.2.1
def SM(a0:He)(a1:He):Option Id:=
 (cond (((ln a0:Nat):Int) !=((ln a1:Nat):Int))
 (some (false,()))
 (ob (JO ((a0,a1,0,()),())) (se (fun y10=>(some (true,()))) (fun z11=>(some (z11.1.1,()))))))
def MJ(a0:Gb)(a1:Gb):Option Id:=
 (ob (OJ a0.1 a1.1) fun r1=>
 (cond (!r1.1)
 (some (false,()))
 (ob (QJ a0.2.1 a1.2.1) fun r2=>
 (cond (!r2.1)
 (some (false,()))
 (cond (a0.2.2.1 !=a1.2.2.1)
 (some (false,()))
 (ob (SM a0.2.2.2.1 a1.2.2.2.1) fun r3=>
 (cond (!r3.1)
 (some (false,()))
 (cond (a0.2.2.2.2.1 !=a1.2.2.2.2.1)
 (some (false,()))
 (cond (a0.2.2.2.2.2.1 !=a1.2.2.2.2.2.1)
 (some (false,()))
 (some (true,())))))))))))
def OG(a0:Ab)(a1:Ab):Option Id:=
 (ob (MJ a0.1 a1.1) fun r1=>
 (cond (!r1.1)
 (some (false,()))
 (ob (RJ a0.2.1 a1.2.1) fun r2=>
 (cond (!r2.1)
 (some (false,()))
 (ob (NJ a0.2.2.1 a1.2.2.1) fun r3=>
 (cond (!r3.1)
 (some (false,()))
 (cond (a0.2.2.2.1 !=a1.2.2.2.1)
 (some (false,()))
 (cond (a0.2.2.2.2.1 !=a1.2.2.2.2.1)
 (some (false,()))
 (cond (a0.2.2.2.2.2.1 !=a1.2.2.2.2.2.1)
 (some (false,()))
 (cond (a0.2.2.2.2.2.2.1 !=a1.2.2.2.2.2.2.1)
 (some (false,()))
 (some (true,()))))))))))))
def QG(a0:Qa)(a1:Int):Option Gd:=
 (ob (PG a0.1 a1) fun r1=>
 (cond (decide (r1.1<0))
 (some ((-1),()))
 (ob (CN a0.2.1 r1.1) fun r2=>
 (cond (decide (r2.1<0))
 (some ((-1),()))
 (some (r2.1,()))))))
def Xm(a0:Qa):Option ZV:=
 (ob (SG a0.1) fun r1=>
 (ob (IV a0.2.1) fun r2=>
 (some ((r1.1,r2.1,()),()))))
def Fv(t1:Unit)(t3:Int)(b1:Qa):Option ((Ns×ZV)⊕((Re×ZV)⊕MC)):=
 (cond (decide (t3<((ln b1.2.1:Nat):Int)))
 (ob (Ib b1.2.1 t3) fun x9=>
 (ob (Yc x9.1 0 1000000) fun r10=>
 (cond (!r10.1)
 (some (.inr (.inr ((false,()),()))))
 (ob (Ib b1.2.1 t3) fun x11=>
 (ob (Ip x11.2.1) fun r12=>
 (cond (!r12.1)
 (some (.inr (.inr ((false,()),()))))
 (some (.inl (((),(wr .i64 (t3+1)),()),(b1,()))))))))))
 (some (.inr (.inl (((),()),(b1,()))))))
def Oy:=Va fun x:(Ns×ZV)=>Fv x.1.1 x.1.2.1 x.2.1
def ZG(a0:Qa):Option Id:=
 (ob (Oy (((),0,()),(a0,()))) (se (fun y13=>(ob (Gr y13.2.1.1) fun r15=>
 (cond r15.1
 (some ((decide (((ln y13.2.1.2.1:Nat):Int)≤200)),()))
 (some (false,()))))) (fun z14=>(some (z14.1.1,())))))
def Fu(t16:Xe)(t17:Int)(t18:Int):Option (OR⊕Zt):=
 (cond (decide (t18<t17))
 (ob (Ib t16 t18) fun x6=>
 (cond (decide (x6.1<0))
 (some (.inr (.inr ((false,()),()))))
 (cond (decide (x6.1>1000000))
 (some (.inr (.inr ((false,()),()))))
 (ob (Ep x6.2.1) fun r7=>
 (cond (!r7.1)
 (some (.inr (.inr ((false,()),()))))
 (some (.inl ((t16,t17,(wr .i64 (t18+1)),()),()))))))))
 (some (.inr (.inl ((),())))))
def Rx:=Va fun x:OR=>Fu x.1.1 x.1.2.1 x.1.2.2.1
def IG(a0:Qa):Option Id:=
 (ob (Yq a0.1) fun r1=>
 (cond (!r1.1)
 (some (false,()))
 (cond (decide (((ln a0.2.1:Nat):Int)>200))
 (some (false,()))
 (ob (Rx ((a0.2.1,((ln a0.2.1:Nat):Int),0,()),())) (se (fun y8=>(some (true,()))) (fun z9=>(some (z9.1.1,()))))))))
def Wm(a0:Qa)(a1:Qa):Option Id:=
 (ob (OG a0.1 a1.1) fun r1=>
 (cond (!r1.1)
 (some (false,()))
 (ob (TM a0.2.1 a1.2.1) fun r2=>
 (cond (!r2.1)
 (some (false,()))
 (some (true,()))))))
def GG(a0:Ab)(a1:Ya):Option K5:=
 (ob (Hu a0 ([a1]:List Ya) a1.1) fun r1=>
 (some r1))
def MG(a0:Ab)(a1:Int):Option K5:=
 (ob (Hu a0 [] a1) fun r1=>
 (some r1))
def Av(t0:Uf)(t1:Int)(t5:Int):Option ((RQ×Unit)⊕(((Uf×Gd)×Unit)⊕Re)):=
 (cond (decide (t5<((ln t0:Nat):Int)))
 (cond (Rb (ln t0) t5)
 (ob t0[(tn t5)]? fun x7=>
 (cond (Rb (ln (ls t0 (tn t5) (t1,x7.2))) t5)
 (ob (ls t0 (tn t5) (t1,x7.2))[(tn t5)]? fun x8=>
 (cond (Rb (ln (ls (ls t0 (tn t5) (t1,x7.2)) (tn t5) (x8.1,(wr .i64 (t1+1)),x8.2.2))) t5)
 (ob (ls (ls t0 (tn t5) (t1,x7.2)) (tn t5) (x8.1,(wr .i64 (t1+1)),x8.2.2))[(tn t5)]? fun x9=>
 (some (.inl (((ls (ls (ls t0 (tn t5) (t1,x7.2)) (tn t5) (x8.1,(wr .i64 (t1+1)),x8.2.2)) (tn t5) (x9.1,x9.2.1,(wr .i64 ((wr .i64 (t1+1))+1)),x9.2.2.2)),(wr .i64 ((wr .i64 ((wr .i64 (t1+1))+1))+1)),(wr .i64 (t5+1)),()),()))))
 none))
 none))
 none)
 (some (.inr (.inl ((t0,t1,()),())))))
def NL:=Va fun x:(RQ×Unit)=>Av x.1.1 x.1.2.1 x.1.2.2.1
def UP(a0:Uf)(a1:Int):Option (Uf×Gd):=
 (ob (NL ((a0,a1,0,()),())) (se (fun y10=>(some (y10.1.1,(y10.1.2.1,())))) (fun z11=>none)))
def Xs(t0:Uh)(t1:Int)(t5:Int):Option ((QQ×Unit)⊕(((Uh×Gd)×Unit)⊕Re)):=
 (cond (decide (t5<((ln t0:Nat):Int)))
 (cond (Rb (ln t0) t5)
 (ob t0[(tn t5)]? fun x5=>
 (ob (UP x5 t1) fun r6=>
 (some (.inl (((ls t0 (tn t5) r6.1),r6.2.1,(wr .i64 (t5+1)),()),())))))
 none)
 (some (.inr (.inl ((t0,t1,()),())))))
def SI:=Va fun x:(QQ×Unit)=>Xs x.1.1 x.1.2.1 x.1.2.2.1
def AN(a0:Uh)(a1:Int):Option (Uh×Gd):=
 (ob (SI ((a0,a1,0,()),())) (se (fun y7=>(some (y7.1.1,(y7.1.2.1,())))) (fun z8=>none)))
def Yu(t0:He)(t1:Int)(t5:Int):Option (NR⊕(((He×Gd)×Unit)⊕Re)):=
 (cond (decide (t5<((ln t0:Nat):Int)))
 (cond (Rb (ln t0) t5)
 (ob t0[(tn t5)]? fun x11=>
 (cond (Rb (ln (ls t0 (tn t5) (t1,x11.2))) t5)
 (ob (ls t0 (tn t5) (t1,x11.2))[(tn t5)]? fun x12=>
 (cond (Rb (ln (ls (ls t0 (tn t5) (t1,x11.2)) (tn t5) (x12.1,((wr .i64 (t1+1)),x12.2.1.2),x12.2.2))) t5)
 (ob (ls (ls t0 (tn t5) (t1,x11.2)) (tn t5) (x12.1,((wr .i64 (t1+1)),x12.2.1.2),x12.2.2))[(tn t5)]? fun x13=>
 (cond (Rb (ln (ls (ls (ls t0 (tn t5) (t1,x11.2)) (tn t5) (x12.1,((wr .i64 (t1+1)),x12.2.1.2),x12.2.2)) (tn t5) (x13.1,(x13.2.1.1,(wr .i64 ((wr .i64 (t1+1))+1)),x13.2.1.2.2),x13.2.2))) t5)
 (ob (ls (ls (ls t0 (tn t5) (t1,x11.2)) (tn t5) (x12.1,((wr .i64 (t1+1)),x12.2.1.2),x12.2.2)) (tn t5) (x13.1,(x13.2.1.1,(wr .i64 ((wr .i64 (t1+1))+1)),x13.2.1.2.2),x13.2.2))[(tn t5)]? fun x14=>
 (cond (Rb (ln (ls (ls (ls (ls t0 (tn t5) (t1,x11.2)) (tn t5) (x12.1,((wr .i64 (t1+1)),x12.2.1.2),x12.2.2)) (tn t5) (x13.1,(x13.2.1.1,(wr .i64 ((wr .i64 (t1+1))+1)),x13.2.1.2.2),x13.2.2)) (tn t5) (x14.1,(x14.2.1.1,x14.2.1.2.1,(wr .i64 ((wr .i64 ((wr .i64 (t1+1))+1))+1)),x14.2.1.2.2.2),x14.2.2))) t5)
 (ob (ls (ls (ls (ls t0 (tn t5) (t1,x11.2)) (tn t5) (x12.1,((wr .i64 (t1+1)),x12.2.1.2),x12.2.2)) (tn t5) (x13.1,(x13.2.1.1,(wr .i64 ((wr .i64 (t1+1))+1)),x13.2.1.2.2),x13.2.2)) (tn t5) (x14.1,(x14.2.1.1,x14.2.1.2.1,(wr .i64 ((wr .i64 ((wr .i64 (t1+1))+1))+1)),x14.2.1.2.2.2),x14.2.2))[(tn t5)]? fun x15=>
 (some (.inl (((ls (ls (ls (ls (ls t0 (tn t5) (t1,x11.2)) (tn t5) (x12.1,((wr .i64 (t1+1)),x12.2.1.2),x12.2.2)) (tn t5) (x13.1,(x13.2.1.1,(wr .i64 ((wr .i64 (t1+1))+1)),x13.2.1.2.2),x13.2.2)) (tn t5) (x14.1,(x14.2.1.1,x14.2.1.2.1,(wr .i64 ((wr .i64 ((wr .i64 (t1+1))+1))+1)),x14.2.1.2.2.2),x14.2.2)) (tn t5) (x15.1,(x15.2.1.1,x15.2.1.2.1,x15.2.1.2.2.1,(wr .i64 ((wr .i64 ((wr .i64 ((wr .i64 (t1+1))+1))+1))+1)),x15.2.1.2.2.2.2),x15.2.2)),(wr .i64 ((wr .i64 ((wr .i64 ((wr .i64 ((wr .i64 (t1+1))+1))+1))+1))+1)),(wr .i64 (t5+1)),()),()))))
 none))
 none))
 none))
 none))
 none)
 (some (.inr (.inl ((t0,t1,()),())))))
def LL:=Va fun x:NR=>Yu x.1.1 x.1.2.1 x.1.2.2.1
def SP(a0:He)(a1:Int):Option (He×Gd):=
 (ob (LL ((a0,a1,0,()),())) (se (fun y16=>(some (y16.1.1,(y16.1.2.1,())))) (fun z17=>none)))
def GD(a0:Gb)(a1:Int):Option (Gb×Gd):=
 (ob (HD a0.1 a1) fun r1=>
 (ob (AN a0.2.1 r1.2.1) fun r2=>
 (ob (SP a0.2.2.2.1 r2.2.1) fun r3=>
 (some (((a0.1.1,r1.1.2.1,()),r2.1,a0.2.2.1,r3.1,a0.2.2.2.2),(r3.2.1,()))))))
def MA(a0:Ab)(a1:Int):Option (Ab×Gd):=
 (ob (GD a0.1 a1) fun r1=>
 (ob (YM a0.2.2.1 r1.2.1) fun r2=>
 (some ((((a0.1.1.1,r1.1.1.2.1,()),r1.1.2.1,a0.1.2.2.1,r1.1.2.2.2.1,a0.1.2.2.2.2),a0.2.1,r2.1,a0.2.2.2),(r2.2.1,())))))
def Xu(t0:Uf)(t1:Int)(t5:Int):Option ((RQ×Unit)⊕VL):=
 (cond (decide (t5<((ln t0:Nat):Int)))
 (ob (Ib t0 t5) fun x7=>
 (cond (x7.1 !=t1)
 (some (.inr (.inr (((-1),()),()))))
 (ob (Ib t0 t5) fun x8=>
 (cond (x8.2.1 !=(wr .i64 (t1+1)))
 (some (.inr (.inr (((-1),()),()))))
 (ob (Ib t0 t5) fun x9=>
 (cond (x9.2.2.1 !=(wr .i64 ((wr .i64 (t1+1))+1)))
 (some (.inr (.inr (((-1),()),()))))
 (some (.inl ((t0,(wr .i64 ((wr .i64 ((wr .i64 (t1+1))+1))+1)),(wr .i64 (t5+1)),()),())))))))))
 (some (.inr (.inl ((t1,()),())))))
def KL:=Va fun x:(RQ×Unit)=>Xu x.1.1 x.1.2.1 x.1.2.2.1
def RP(a0:Uf)(a1:Int):Option Gd:=
 (ob (KL ((a0,a1,0,()),())) (se (fun y10=>(some (y10.1.1,()))) (fun z11=>(some (z11.1.1,())))))
def Vs(t0:Uh)(t1:Int)(t5:Int):Option ((QQ×Unit)⊕VL):=
 (cond (decide (t5<((ln t0:Nat):Int)))
 (ob (Ib t0 t5) fun x5=>
 (ob (RP x5 t1) fun r6=>
 (cond (decide (r6.1<0))
 (some (.inr (.inr (((-1),()),()))))
 (some (.inl ((t0,r6.1,(wr .i64 (t5+1)),()),()))))))
 (some (.inr (.inl ((t1,()),())))))
def QI:=Va fun x:(QQ×Unit)=>Vs x.1.1 x.1.2.1 x.1.2.2.1
def XM(a0:Uh)(a1:Int):Option Gd:=
 (ob (QI ((a0,a1,0,()),())) (se (fun y7=>(some (y7.1.1,()))) (fun z8=>(some (z8.1.1,())))))
def Vu(t0:He)(t1:Int)(t5:Int):Option (NR⊕VL):=
 (cond (decide (t5<((ln t0:Nat):Int)))
 (ob (Ib t0 t5) fun x11=>
 (cond (x11.1 !=t1)
 (some (.inr (.inr (((-1),()),()))))
 (ob (Ib t0 t5) fun x12=>
 (cond (x12.2.1.1 !=(wr .i64 (t1+1)))
 (some (.inr (.inr (((-1),()),()))))
 (ob (Ib t0 t5) fun x13=>
 (cond (x13.2.1.2.1 !=(wr .i64 ((wr .i64 (t1+1))+1)))
 (some (.inr (.inr (((-1),()),()))))
 (ob (Ib t0 t5) fun x14=>
 (cond (x14.2.1.2.2.1 !=(wr .i64 ((wr .i64 ((wr .i64 (t1+1))+1))+1)))
 (some (.inr (.inr (((-1),()),()))))
 (ob (Ib t0 t5) fun x15=>
 (cond (x15.2.1.2.2.2.1 !=(wr .i64 ((wr .i64 ((wr .i64 ((wr .i64 (t1+1))+1))+1))+1)))
 (some (.inr (.inr (((-1),()),()))))
 (some (.inl ((t0,(wr .i64 ((wr .i64 ((wr .i64 ((wr .i64 ((wr .i64 (t1+1))+1))+1))+1))+1)),(wr .i64 (t5+1)),()),())))))))))))))
 (some (.inr (.inl ((t1,()),())))))
def IL:=Va fun x:NR=>Vu x.1.1 x.1.2.1 x.1.2.2.1
def PP(a0:He)(a1:Int):Option Gd:=
 (ob (IL ((a0,a1,0,()),())) (se (fun y16=>(some (y16.1.1,()))) (fun z17=>(some (z17.1.1,())))))
def ED(a0:Gb)(a1:Int):Option Gd:=
 (ob (FD a0.1 a1) fun r1=>
 (cond (decide (r1.1<0))
 (some ((-1),()))
 (ob (XM a0.2.1 r1.1) fun r2=>
 (cond (decide (r2.1<0))
 (some ((-1),()))
 (ob (PP a0.2.2.2.1 r2.1) fun r3=>
 (cond (decide (r3.1<0))
 (some ((-1),()))
 (some (r3.1,()))))))))
def LA(a0:Ab)(a1:Int):Option Gd:=
 (ob (ED a0.1 a1) fun r1=>
 (cond (decide (r1.1<0))
 (some ((-1),()))
 (ob (VM a0.2.2.1 r1.1) fun r2=>
 (cond (decide (r2.1<0))
 (some ((-1),()))
 (some (r2.1,()))))))
def Bx(t1:Int)(t3:Wh)(t4:Int)(t5:Unit)(t12:Int)(t13:Int)(t14:Int)(b5:Ua):Option (((Int×(Wh×(Int×EaP)))×EG)⊕(Jaa⊕Jaa)):=
 (cond (decide (t14<((ln t3:Nat):Int)))
 (ob (Ib t3 t14) fun x7=>
 (ob (RF x7) fun r8=>
 (cond (!r8.1)
 (some (.inr (.inr ((0,0,()),()))))
 (cond (decide (x7.1≥t12))
 (some (.inr (.inr ((2,t12,()),()))))
 (cond (x7.2.1==t1)
 (cond (!x7.2.2.1)
 (some (.inr (.inr ((1,x7.1,()),()))))
 (cond (x7.2.1==t1)
 (some (.inl ((t1,t3,t4,(),t12,t13,(wr .i64 (t14+1)),()),(b5,()))))
 (cond x7.2.2.1
 (cond (b5.2.2.1==1)
 (some (.inr (.inr ((2,x7.1,()),()))))
 (cond x7.2.2.1
 (cond (decide (0≤x7.2.1))
 (some (.inl ((t1,t3,t4,(),t12,(Fe .i64 t13 (Te .i64 1 x7.2.1)),(wr .i64 (t14+1)),()),(b5,()))))
 none)
 (cond (b5.2.2.1==2)
 (cond (decide (0≤x7.2.1))
 (cond ((Ih .i64 (Cy .i64 t13 x7.2.1) 1)==1)
 (some (.inr (.inr ((2,x7.1,()),()))))
 (some (.inl ((t1,t3,t4,(),t12,t13,(wr .i64 (t14+1)),()),(b5,())))))
 none)
 (some (.inl ((t1,t3,t4,(),t12,t13,(wr .i64 (t14+1)),()),(b5,())))))))
 (cond x7.2.2.1
 (cond (decide (0≤x7.2.1))
 (some (.inl ((t1,t3,t4,(),t12,(Fe .i64 t13 (Te .i64 1 x7.2.1)),(wr .i64 (t14+1)),()),(b5,()))))
 none)
 (cond (b5.2.2.1==2)
 (cond (decide (0≤x7.2.1))
 (cond ((Ih .i64 (Cy .i64 t13 x7.2.1) 1)==1)
 (some (.inr (.inr ((2,x7.1,()),()))))
 (some (.inl ((t1,t3,t4,(),t12,t13,(wr .i64 (t14+1)),()),(b5,())))))
 none)
 (some (.inl ((t1,t3,t4,(),t12,t13,(wr .i64 (t14+1)),()),(b5,())))))))))
 (cond (x7.2.1==t1)
 (some (.inl ((t1,t3,t4,(),t12,t13,(wr .i64 (t14+1)),()),(b5,()))))
 (cond x7.2.2.1
 (cond (b5.2.2.1==1)
 (some (.inr (.inr ((2,x7.1,()),()))))
 (cond x7.2.2.1
 (cond (decide (0≤x7.2.1))
 (some (.inl ((t1,t3,t4,(),t12,(Fe .i64 t13 (Te .i64 1 x7.2.1)),(wr .i64 (t14+1)),()),(b5,()))))
 none)
 (cond (b5.2.2.1==2)
 (cond (decide (0≤x7.2.1))
 (cond ((Ih .i64 (Cy .i64 t13 x7.2.1) 1)==1)
 (some (.inr (.inr ((2,x7.1,()),()))))
 (some (.inl ((t1,t3,t4,(),t12,t13,(wr .i64 (t14+1)),()),(b5,())))))
 none)
 (some (.inl ((t1,t3,t4,(),t12,t13,(wr .i64 (t14+1)),()),(b5,())))))))
 (cond x7.2.2.1
 (cond (decide (0≤x7.2.1))
 (some (.inl ((t1,t3,t4,(),t12,(Fe .i64 t13 (Te .i64 1 x7.2.1)),(wr .i64 (t14+1)),()),(b5,()))))
 none)
 (cond (b5.2.2.1==2)
 (cond (decide (0≤x7.2.1))
 (cond ((Ih .i64 (Cy .i64 t13 x7.2.1) 1)==1)
 (some (.inr (.inr ((2,x7.1,()),()))))
 (some (.inl ((t1,t3,t4,(),t12,t13,(wr .i64 (t14+1)),()),(b5,())))))
 none)
 (some (.inl ((t1,t3,t4,(),t12,t13,(wr .i64 (t14+1)),()),(b5,())))))))))))))
 (some (.inr (.inl ((t4,t12,()),())))))
def SA:=Va fun x:((Int×(Wh×(Int×EaP)))×EG)=>Bx x.1.1 x.1.2.1 x.1.2.2.1 x.1.2.2.2.1 x.1.2.2.2.2.1 x.1.2.2.2.2.2.1 x.1.2.2.2.2.2.2.1 x.2.1
def DK(a0:Ua)(a1:Int)(a2:Int)(a3:Wh)(a4:Int):Option Rc:=
 (ob (MB a0) fun r1=>
 (cond (!r1.1)
 (some (0,0,()))
 (ob (Yc a2 0 1000000) fun r2=>
 (cond (!r2.1)
 (some (0,0,()))
 (ob (SA ((a1,a3,a4,(),(wr .i64 (a2+a0.1)),0,0,()),(a0,()))) (se (fun y9=>(cond (decide (y9.1.1≥y9.1.2.1))
 (some (2,y9.1.2.1,()))
 (some (0,0,())))) (fun z10=>(some z10.1))))))))
def Uy(a0:Ab)(a1:Ya)(a2:Int):Option (Ab×(Eg×G5)):=
 (ob (Ut a0.1.2.2.1 a0.1.2.2.2.1) fun r1=>
 (ob (Tt a0.1.1 r1.1 a1.2.1) fun r2=>
 (ob (Dn r2.1) fun r3=>
 (cond r3.1
 (cond (Nd (ln a0.2.2.1) 1 ((ln a0.2.2.1:Nat):Int))
 (ob (DK a0.2.1 a1.2.1 a1.1 (Hb a0.2.2.1 (tn 1) (tn ((ln a0.2.2.1:Nat):Int))) a0.2.2.2.1) fun r4=>
 (cond (a0.2.2.2.2.2.1==(wr .i64 (a1.2.1+1)))
 (cond (decide ((wr .i64 (a1.1-a0.2.2.2.2.2.2.1))<a0.2.1.2.1))
 (cond ((1:Int)==0)
 (some (a0,([],a2,false,())))
 (cond (!((1:Int)==2))
 (ob (Qn a0.1 a1.2.1 ((1:Int)==2)) fun r5=>
 (some ((r5.1,a0.2.1,a0.2.2.1,a0.2.2.2.1,a0.2.2.2.2.1,(wr .i64 (a1.2.1+1)),a1.1,a0.2.2.2.2.2.2.2),(r5.2.1,(max a2 a1.1),true,()))))
 (ob (Qn a0.1 a1.2.1 ((1:Int)==2)) fun r6=>
 (some ((r6.1,a0.2.1,a0.2.2.1,a0.2.2.2.1,a0.2.2.2.2.1,0,a0.2.2.2.2.2.2),(r6.2.1,(max a2 a1.1),true,()))))))
 (cond (r4.1==0)
 (some (a0,([],a2,false,())))
 (cond (!(r4.1==2))
 (ob (Qn a0.1 a1.2.1 (r4.1==2)) fun r7=>
 (some ((r7.1,a0.2.1,a0.2.2.1,a0.2.2.2.1,a0.2.2.2.2.1,(wr .i64 (a1.2.1+1)),a1.1,a0.2.2.2.2.2.2.2),(r7.2.1,(max a2 r4.2.1),true,()))))
 (ob (Qn a0.1 a1.2.1 (r4.1==2)) fun r8=>
 (some ((r8.1,a0.2.1,a0.2.2.1,a0.2.2.2.1,a0.2.2.2.2.1,0,a0.2.2.2.2.2.2),(r8.2.1,(max a2 r4.2.1),true,())))))))
 (cond (r4.1==0)
 (some (a0,([],a2,false,())))
 (cond (!(r4.1==2))
 (ob (Qn a0.1 a1.2.1 (r4.1==2)) fun r9=>
 (some ((r9.1,a0.2.1,a0.2.2.1,a0.2.2.2.1,a0.2.2.2.2.1,(wr .i64 (a1.2.1+1)),a1.1,a0.2.2.2.2.2.2.2),(r9.2.1,(max a2 r4.2.1),true,()))))
 (ob (Qn a0.1 a1.2.1 (r4.1==2)) fun r10=>
 (some ((r10.1,a0.2.1,a0.2.2.1,a0.2.2.2.1,a0.2.2.2.2.1,0,a0.2.2.2.2.2.2),(r10.2.1,(max a2 r4.2.1),true,()))))))))
 none)
 (ob (Qn a0.1 a1.2.1 false) fun r11=>
 (some ((r11.1,a0.2),(r11.2.1,a2,true,()))))))))
def ZA(t0:Unit)(t3:Xe)(t5:Int)(t6:(Eg×Int))(t13:Int)(b500000:Ab):Option (FaC⊕(((Unit×(Xe×Gd))×RT)⊕Re)):=
 (cond (decide (t13<((ln t6.1:Nat):Int)))
 (cond (Rb (ln t6.1) t13)
 (cond (qy (tn t13) (tn t6.2))
 (ob t6.1[(tn t13)]? fun x53=>
 (cond (bl (ln t3+ln ([(t5,x53,())]:List Lc)) Wa)
 (some (.inl (((),(ap t3 ([(t5,x53,())]:List Lc)),t5,(t6.1,((((tn t13)+1):Nat):Int)),(wr .i64 (t13+1)),()),(b500000,()))))
 none))
 none)
 none)
 (some (.inr (.inl (((),t3,t5,()),(b500000,()))))))
def Ck:=Va fun x:FaC=>ZA x.1.1 x.1.2.1 x.1.2.2.1 x.1.2.2.2.1 x.1.2.2.2.2.1 x.2.1
def Xj(t0:Unit)(t3:Xe)(b500000:Ab):Option ((Kaa×RT)⊕((Kaa×RT)⊕(Kaa×RT))):=
 (cond (decide (((ln b500000.2.2.1:Nat):Int)>0))
 (cond (Rb (ln b500000.2.2.1) 0)
 (ob b500000.2.2.1[(tn 0)]? fun x38=>
 (cond x38.2.2.1
 (ob (Uy b500000 x38 (max b500000.2.2.2.2.1 x38.1)) fun r39=>
 (cond (!r39.2.2.2.1)
 (some (.inr (.inr (((),t3,()),(r39.1,())))))
 (ob (Ck (((),t3,r39.2.2.1,(r39.2.1,0),0,()),(r39.1,()))) (se (fun y43=>(cond (Nd (ln y43.2.1.2.2.1) 1 ((ln y43.2.1.2.2.1:Nat):Int))
 (cond (bl (ln ([]:List Ya)+ln (Hb y43.2.1.2.2.1 (tn 1) (tn ((ln y43.2.1.2.2.1:Nat):Int)))) Wa)
 (some (.inl (((),y43.1.2.1,()),((y43.2.1.1,y43.2.1.2.1,(ap [] (Hb y43.2.1.2.2.1 (tn 1) (tn ((ln y43.2.1.2.2.1:Nat):Int)))),y43.2.1.2.2.2.1,y43.1.2.2.1,y43.2.1.2.2.2.2.2),()))))
 none)
 none)) (fun z44=>none)))))
 (ob (TF b500000.1 x38.2.1) fun r45=>
 (cond (b500000.2.2.2.2.2.1==(wr .i64 (x38.2.1+1)))
 (ob (Ck (((),t3,(max b500000.2.2.2.2.1 x38.1),(r45.2.1,0),0,()),((r45.1,b500000.2.1,b500000.2.2.1,b500000.2.2.2.1,b500000.2.2.2.2.1,b500000.2.2.2.2.2.1,x38.1,b500000.2.2.2.2.2.2.2),()))) (se (fun y49=>(cond (Nd (ln y49.2.1.2.2.1) 1 ((ln y49.2.1.2.2.1:Nat):Int))
 (cond (bl (ln ([]:List Ya)+ln (Hb y49.2.1.2.2.1 (tn 1) (tn ((ln y49.2.1.2.2.1:Nat):Int)))) Wa)
 (some (.inl (((),y49.1.2.1,()),((y49.2.1.1,y49.2.1.2.1,(ap [] (Hb y49.2.1.2.2.1 (tn 1) (tn ((ln y49.2.1.2.2.1:Nat):Int)))),y49.2.1.2.2.2.1,y49.1.2.2.1,y49.2.1.2.2.2.2.2),()))))
 none)
 none)) (fun z50=>none)))
 (ob (Ck (((),t3,(max b500000.2.2.2.2.1 x38.1),(r45.2.1,0),0,()),((r45.1,b500000.2),()))) (se (fun y54=>(cond (Nd (ln y54.2.1.2.2.1) 1 ((ln y54.2.1.2.2.1:Nat):Int))
 (cond (bl (ln ([]:List Ya)+ln (Hb y54.2.1.2.2.1 (tn 1) (tn ((ln y54.2.1.2.2.1:Nat):Int)))) Wa)
 (some (.inl (((),y54.1.2.1,()),((y54.2.1.1,y54.2.1.2.1,(ap [] (Hb y54.2.1.2.2.1 (tn 1) (tn ((ln y54.2.1.2.2.1:Nat):Int)))),y54.2.1.2.2.2.1,y54.1.2.2.1,y54.2.1.2.2.2.2.2),()))))
 none)
 none)) (fun z55=>none)))))))
 none)
 (some (.inr (.inl (((),t3,()),(b500000,()))))))
def Cl:=Va fun x:(Kaa×RT)=>Xj x.1.1 x.1.2.1 x.2.1
def WB(a0:Ab):Option (Ab×(Xe×Unit)):=
 (ob (Cl (((),[],()),(a0,()))) (se (fun y56=>(some (y56.2.1,(y56.1.2.1,())))) (fun z57=>(some (z57.2.1,(z57.1.2.1,()))))))
def Hv(a0:Ab)(a1:Wh)(a2:Int):Option K5:=
 (cond (bl (ln ([]:List Ya)+ln a0.2.2.1) Wa)
 (cond (bl (ln (ap [] a0.2.2.1)+ln a1) Wa)
 (ob (Gr a0) fun r1=>
 (cond (!r1.1)
 (some (Kg,[],false,()))
 (ob (Yc a2 a0.2.2.2.1 1000000) fun r2=>
 (cond (!r2.1)
 (some (Kg,[],false,()))
 (ob (UF a0.1) fun r3=>
 (ob (Nv (ap (ap [] a0.2.2.1) a1) r3.1 a0.1.1.1 0) fun r4=>
 (cond (!r4.1)
 (some (Kg,[],false,()))
 (cond (decide (((ln a1:Nat):Int)>0))
 (ob (Ib a1 0) fun x5=>
 (cond (decide (x5.1<a0.2.2.2.1))
 (some (Kg,[],false,()))
 (ob (Ib a1 (wr .i64 (((ln a1:Nat):Int)-1))) fun x6=>
 (cond (decide (x6.1>a2))
 (some (Kg,[],false,()))
 (ob (Kl a0.1) fun r7=>
 (ob (WB (r7.1,a0.2.1,(ap (ap [] a0.2.2.1) a1),a2,a0.2.2.2.2)) fun r8=>
 (some (r8.1,r8.2.1,true,()))))))))
 (ob (Kl a0.1) fun r9=>
 (ob (WB (r9.1,a0.2.1,(ap (ap [] a0.2.2.1) a1),a2,a0.2.2.2.2)) fun r10=>
 (some (r10.1,r10.2.1,true,()))))))))))))
 none)
 none)
def ZD(t0:Rd)(t1:Int)(t5:Int):Option (HY⊕Zt):=
 (cond (decide (t5<((ln t0:Nat):Int)))
 (ob (Ib t0 t5) fun x3=>
 (cond (x3==t1)
 (some (.inr (.inr ((true,()),()))))
 (some (.inl ((t0,t1,(wr .i64 (t5+1)),()),())))))
 (some (.inr (.inl ((),())))))
def VF:=Va fun x:HY=>ZD x.1.1 x.1.2.1 x.1.2.2.1
def IR(a0:Rd)(a1:Int):Option Id:=
 (ob (VF ((a0,a1,0,()),())) (se (fun y4=>(some (false,()))) (fun z5=>(some (z5.1.1,())))))
def Is(t2:Unit)(t3:Unit)(t5:Rd)(t6:Int)(b2:Ca)(b3:Ca):Option (((Unit×Z9)×Hn)⊕MZ):=
 (cond (decide (t6<((ln b3.2.1:Nat):Int)))
 (ob (Ip b2) fun r11=>
 (cond r11.1
 (ob (Ip b3) fun r12=>
 (cond r12.1
 (ob (Ib b3.2.1 t6) fun x13=>
 (ob (IR b2.2.1 x13) fun r14=>
 (cond (!r14.1)
 (ob (Ib b3.2.1 t6) fun x15=>
 (cond (bl (ln t5+ln ([x15]:List Int)) Wa)
 (some (.inl (((),(),(ap t5 ([x15]:List Int)),(wr .i64 (t6+1)),()),(b2,b3,()))))
 none))
 (some (.inl (((),(),t5,(wr .i64 (t6+1)),()),(b2,b3,())))))))
 (some (.inr (.inl ((t5,()),()))))))
 (some (.inr (.inl ((t5,()),()))))))
 (some (.inr (.inl ((t5,()),())))))
def HC:=Va fun x:((Unit×Z9)×Hn)=>Is x.1.1 x.1.2.1 x.1.2.2.1 x.1.2.2.2.1 x.2.1 x.2.2.1
def SN(a0:Ca)(a1:Ca):Option TL:=
 (ob (HC (((),(),[],0,()),(a0,a1,()))) (se (fun y16=>(some (y16.1.1,()))) (fun z17=>none)))
def Mv(t1:Eg)(t2:Unit)(t5:Cc)(t6:Int)(t7:Rd)(t8:Int)(b2:Ca):Option (((Eg×(Unit×(Cc×(Int×UL))))×Ii)⊕(Raj⊕Re)):=
 (cond (decide (t8<((ln t7:Nat):Int)))
 (cond (Rb (ln t7) t8)
 (ob t7[(tn t8)]? fun x37=>
 (ob (Ib t1 t6) fun x38=>
 (ob (Pn x37 x38.1) fun r39=>
 (cond (bl (ln t5+ln r39.1) Wa)
 (some (.inl ((t1,(),(ap t5 r39.1),t6,t7,(wr .i64 (t8+1)),()),(b2,()))))
 none))))
 none)
 (some (.inr (.inl ((t1,(),t5,t6,()),(b2,()))))))
def Sy:=Va fun x:((Eg×(Unit×(Cc×(Int×UL))))×Ii)=>Mv x.1.1 x.1.2.1 x.1.2.2.1 x.1.2.2.2.1 x.1.2.2.2.2.1 x.1.2.2.2.2.2.1 x.2.1
def Lv(t1:Eg)(t2:Unit)(t5:Cc)(t6:Int)(b2:Ca):Option (Raj⊕Baa):=
 (cond (decide (t6<((ln t1:Nat):Int)))
 (ob (Ib t1 t6) fun x29=>
 (ob (SN b2 x29) fun r30=>
 (ob (Sy ((t1,(),t5,t6,r30.1,0,()),(b2,()))) (se (fun y40=>(ob (Ib y40.1.1 y40.1.2.2.2.1) fun x42=>
 (some (.inl ((y40.1.1,(),y40.1.2.2.1,(wr .i64 (y40.1.2.2.2.1+1)),()),(x42,())))))) (fun z41=>(some (.inr (.inr ((),())))))))))
 (some (.inr (.inl ((t5,()),())))))
def Ry:=Va fun x:Raj=>Lv x.1.1 x.1.2.1 x.1.2.2.1 x.1.2.2.2.1 x.2.1
def DH(a0:Ca)(a1:Eg):Option Hi:=
 (ob (Ry ((a1,(),[],0,()),(a0,()))) (se (fun y43=>(some (y43.1.1,()))) (fun z44=>none)))
def Ku(t0:Cc)(t1:Int)(t5:Ke)(t6:Int)(t7:Int):Option (Yai⊕(((Cc×GJ)×Unit)⊕Re)):=
 (cond (decide (t7<((ln t0:Nat):Int)))
 (ob (Ib t0 t7) fun c4=>
 (cond (((UInt8.toNat c4:Nat):Int)==t1)
 (cond (Nd (ln t0) t6 t7)
 (cond (bl (ln t5+ln ([(Hb t0 (tn t6) (tn t7))]:List Cc)) Wa)
 (some (.inl ((t0,t1,(ap t5 ([(Hb t0 (tn t6) (tn t7))]:List Cc)),(wr .i64 (t7+1)),(wr .i64 (t7+1)),()),())))
 none)
 none)
 (some (.inl ((t0,t1,t5,t6,(wr .i64 (t7+1)),()),())))))
 (some (.inr (.inl ((t0,t5,t6,()),())))))
def Xk:=Va fun x:Yai=>Ku x.1.1 x.1.2.1 x.1.2.2.1 x.1.2.2.2.1 x.1.2.2.2.2.1
def Br(a0:Cc)(a1:Int):Option OQ:=
 (ob (Xk ((a0,a1,[],0,0,()),())) (se (fun y5=>(cond (Nd (ln y5.1.1) y5.1.2.2.1 ((ln y5.1.1:Nat):Int))
 (cond (bl (ln y5.1.2.1+ln ([(Hb y5.1.1 (tn y5.1.2.2.1) (tn ((ln y5.1.1:Nat):Int)))]:List Cc)) Wa)
 (some ((ap y5.1.2.1 ([(Hb y5.1.1 (tn y5.1.2.2.1) (tn ((ln y5.1.1:Nat):Int)))]:List Cc)),()))
 none)
 none)) (fun z6=>none)))
def Nn(a0:Int):Option Hi:=
 (cond (a0==3)
 (some (([109,111,58]:List UInt8),()))
 (cond (a0==4)
 (some (([116,103,58]:List UInt8),()))
 (cond (a0==5)
 (some (([116,111,58]:List UInt8),()))
 (cond (a0==9)
 (some (Gj,()))
 (some ([],()))))))
def Xy(a0:Cc)(a1:Cc):Option Id:=
 (cond (decide (((ln a0:Nat):Int)≥((ln a1:Nat):Int)))
 (cond (Nd (ln a0) 0 ((ln a1:Nat):Int))
 (some (((Hb a0 (tn 0) (tn ((ln a1:Nat):Int)))==a1),()))
 none)
 (some (false,())))
def Wy(a0:Cc)(a1:Cc):Option (Cc×Id):=
 (ob (Xy a0 a1) fun r1=>
 (cond (!r1.1)
 (some (a0,false,()))
 (cond (Nd (ln a0) ((ln a1:Nat):Int) ((ln a0:Nat):Int))
 (some ((Hb a0 (tn ((ln a1:Nat):Int)) (tn ((ln a0:Nat):Int))),true,()))
 none)))
def Rj(a0:Cc)(a1:Cc):Option (Cc×Id):=
 (ob (Wy a0 a1) fun r1=>
 (some r1))
def Ot(a:List UInt8):Option G5:=RaA a
def Gu(t0:Cc)(t3:Int):Option ((ST×Unit)⊕PQ):=
 (cond (decide (t3≤15))
 (ob (Sj t3) fun r3=>
 (cond (r3.1==t0)
 (some (.inr (.inr ((t3,()),()))))
 (some (.inl ((t0,(wr .i64 (t3+1)),()),())))))
 (some (.inr (.inl ((),())))))
def Wk:=Va fun x:(ST×Unit)=>Gu x.1.1 x.1.2.1
def Ar(a0:Cc):Option Gd:=
 (ob (Wk ((a0,1,()),())) (se (fun y4=>(some (0,()))) (fun z5=>(some (z5.1.1,())))))
def strings_Cut(a b:List UInt8):Option (List UInt8×(List UInt8×Id)):=Jaz a b
def SC(t0:Cc)(t5:Ke)(t6:Int)(t7:Int):Option (((Cc×DG)×Unit)⊕PQ):=
 (cond (decide (t7<t6))
 (cond (Rb (ln t5) t7)
 (ob t5[(tn t7)]? fun x4=>
 (cond (x4==t0)
 (some (.inr (.inr (((wr .i64 (t7+1)),()),()))))
 (some (.inl ((t0,t5,t6,(wr .i64 (t7+1)),()),())))))
 none)
 (some (.inr (.inl ((),())))))
def Yn:=Va fun x:((Cc×DG)×Unit)=>SC x.1.1 x.1.2.1 x.1.2.2.1 x.1.2.2.2.1
def Zv(a0:Cc):Option Gd:=
 (ob (strings_Split GK ([32]:List UInt8)) fun r1=>
 (ob (Yn ((a0,r1.1,((ln r1.1:Nat):Int),0,()),())) (se (fun y5=>(some (0,()))) (fun z6=>(some (z6.1.1,()))))))
def Fq(t0:Cc)(t2:Unit)(t29:Rd)(t30:Int)(t31:Int)(b2:Ma):Option (((Cc×Tai)×Au)⊕(((Cc×Re)×Au)⊕(Re×Au))):=
 (cond (decide (t31<t30))
 (cond (Rb (ln t29) t31)
 (ob t29[(tn t31)]? fun x9=>
 (ob (Nn x9) fun r10=>
 (ob (Rj t0 r10.1) fun r11=>
 (cond r11.2.1
 (ob (Ot r11.1) fun r12=>
 (some (.inr (.inr (((),()),((x9,0,0,r12.1,()),()))))))
 (some (.inl ((t0,(),t29,t30,(wr .i64 (t31+1)),()),(b2,()))))))))
 none)
 (some (.inr (.inl ((t0,(),()),(b2,()))))))
def Jt:=Va fun x:((Cc×Tai)×Au)=>Fq x.1.1 x.1.2.1 x.1.2.2.1 x.1.2.2.2.1 x.1.2.2.2.2.1 x.2.1
def DA(a0:Cc):Option Au:=
 (cond (a0==Jk)
 (some ((0,0,0,0,()),()))
 (cond (a0==Ik)
 (some ((1,0,0,0,()),()))
 (cond (a0==Fj)
 (some ((10,0,0,0,()),()))
 (ob (Jt ((a0,(),([3,4,5,9]:List Int),((ln ([3,4,5,9]:List Int):Nat):Int),0,()),((0,0,0,0,()),()))) (se (fun y13=>(ob (Rj y13.1.1 Pg) fun r15=>
 (cond r15.2.1
 (ob (Ar r15.1) fun r16=>
 (some ((8,0,r16.1,0,()),())))
 (ob (strings_Cut y13.1.1 ([47]:List UInt8)) fun r17=>
 (cond r17.2.2.1
 (ob (Ot r17.1) fun r18=>
 (cond r18.2.1
 (ob (Zv r17.2.1) fun r19=>
 (some ((7,r19.1,0,r18.1,()),())))
 (ob (Ar r17.1) fun r20=>
 (ob (Zv r17.2.1) fun r21=>
 (some ((6,r21.1,r20.1,0,()),()))))))
 (ob (strings_Cut y13.1.1 ([45]:List UInt8)) fun r22=>
 (cond r22.2.2.1
 (ob (Ar r22.1) fun r23=>
 (ob (Zv r22.2.1) fun r24=>
 (some ((2,r24.1,r23.1,0,()),()))))
 (ob (Zv y13.1.1) fun r25=>
 (some ((2,r25.1,0,0,()),())))))))))) (fun z14=>(some (z14.2.1,()))))))))
def Wl(a0:Ma):Option Hi:=
 (ob (Cj a0) fun r1=>
 (cond (!r1.1)
 (some ([],()))
 (cond (a0.1==0)
 (some (Jk,()))
 (cond (a0.1==1)
 (some (Ik,()))
 (cond (a0.1==10)
 (some (Fj,()))
 (cond (a0.1==2)
 (cond (a0.2.2.1 !=0)
 (ob (Sj a0.2.2.1) fun r2=>
 (cond (bl (ln r2.1+ln ([45]:List UInt8)) Wa)
 (ob (Zc a0.2.1) fun r3=>
 (cond (bl (ln (ap r2.1 ([45]:List UInt8))+ln r3.1) Wa)
 (some ((ap (ap r2.1 ([45]:List UInt8)) r3.1),()))
 none))
 none))
 (ob (Zc a0.2.1) fun r4=>
 (some (r4.1,()))))
 (cond (a0.1==6)
 (ob (Sj a0.2.2.1) fun r5=>
 (cond (bl (ln r5.1+ln ([47]:List UInt8)) Wa)
 (ob (Zc a0.2.1) fun r6=>
 (cond (bl (ln (ap r5.1 ([47]:List UInt8))+ln r6.1) Wa)
 (some ((ap (ap r5.1 ([47]:List UInt8)) r6.1),()))
 none))
 none))
 (cond (a0.1==7)
 (ob (Qh a0.2.2.2.1) fun r7=>
 (cond (bl (ln r7.1+ln ([47]:List UInt8)) Wa)
 (ob (Zc a0.2.1) fun r8=>
 (cond (bl (ln (ap r7.1 ([47]:List UInt8))+ln r8.1) Wa)
 (some ((ap (ap r7.1 ([47]:List UInt8)) r8.1),()))
 none))
 none))
 (cond (a0.1==8)
 (ob (Sj a0.2.2.1) fun r9=>
 (cond (bl (ln Pg+ln r9.1) Wa)
 (some ((ap Pg r9.1),()))
 none))
 (ob (Nn a0.1) fun r10=>
 (ob (Qh a0.2.2.2.1) fun r11=>
 (cond (bl (ln r10.1+ln r11.1) Wa)
 (some ((ap r10.1 r11.1),()))
 none))))))))))))
def Tr(a0:Cc):Option (Ma×Id):=
 (ob (DA a0) fun r1=>
 (ob (Cj r1.1) fun r2=>
 (cond (!r2.1)
 (some ((0,0,0,0,()),false,()))
 (ob (Wl r1.1) fun r3=>
 (cond (r3.1 !=a0)
 (some ((0,0,0,0,()),false,()))
 (some (r1.1,true,())))))))
def Ko(t3:Ke)(t6:Ke)(t13:Pi)(t14:Int)(t15:Int)(t19:Li)(t20:Int)(t21:Int):Option (((Ke×(Ke×(Pi×Pai)))×Unit)⊕(((Ke×(Ke×NC))×Unit)⊕Re)):=
 (cond (decide (t21<t20))
 (ob (Ib t19 t21) fun x39=>
 (ob (Wl x39) fun r40=>
 (cond (bl (ln t6+ln ([r40.1]:List Cc)) Wa)
 (some (.inl ((t3,(ap t6 ([r40.1]:List Cc)),t13,t14,t15,t19,t20,(wr .i64 (t21+1)),()),())))
 none)))
 (some (.inr (.inl ((t3,t6,t13,t14,t15,()),())))))
def Nr:=Va fun x:((Ke×(Ke×(Pi×Pai)))×Unit)=>Ko x.1.1 x.1.2.1 x.1.2.2.1 x.1.2.2.2.1 x.1.2.2.2.2.1 x.1.2.2.2.2.2.1 x.1.2.2.2.2.2.2.1 x.1.2.2.2.2.2.2.2.1
def Jo(t3:Ke)(t13:Pi)(t14:Int)(t15:Int):Option (((Ke×NC)×Unit)⊕J5):=
 (cond (decide (t15<t14))
 (ob (Ib t13 t15) fun x34=>
 (ob (Nr ((t3,[],t13,t14,t15,x34,((ln x34:Nat):Int),0,()),())) (se (fun y41=>(ob (Mh y41.1.2.1 ([32]:List UInt8)) fun r43=>
 (cond (bl (ln y41.1.1+ln ([r43.1]:List Cc)) Wa)
 (some (.inl (((ap y41.1.1 ([r43.1]:List Cc)),y41.1.2.2.1,y41.1.2.2.2.1,(wr .i64 (y41.1.2.2.2.2.1+1)),()),())))
 none))) (fun z42=>(some (.inr (.inr ((),()))))))))
 (some (.inr (.inl ((t3,()),())))))
def Mr:=Va fun x:((Ke×NC)×Unit)=>Jo x.1.1 x.1.2.1 x.1.2.2.1 x.1.2.2.2.1
def Np(a0:Ia):Option Hi:=
 (ob (Am a0) fun r1=>
 (cond (!r1.1)
 (some ([],()))
 (ob (Mr (([],a0.2.1,((ln a0.2.1:Nat):Int),0,()),())) (se (fun y44=>(ob (Mh y44.1.1 ([32,124,32]:List UInt8)) fun r46=>
 (some (r46.1,())))) (fun z45=>none)))))
def Cq(t0:Cc)(t2:Unit)(t4:Unit)(t7:Li)(t13:Ke)(t14:Int)(t15:Int)(t20:Ke)(t21:Int)(t22:Int)(b2:Ia)(b4:Ia):Option (AaC⊕(((Cc×(Unit×(Unit×(Li×DG))))×LC)⊕((Unit×Id)×Nl))):=
 (cond (decide (t22<t21))
 (cond (Rb (ln t20) t22)
 (ob t20[(tn t22)]? fun x40=>
 (ob (Tr x40) fun r41=>
 (cond (!r41.2.1)
 (some (.inr (.inr (((),false,()),((0,[],()),())))))
 (cond (decide (((ln t7:Nat):Int)≥32))
 (some (.inr (.inr (((),false,()),((0,[],()),())))))
 (cond (decide (((ln b4.2.1:Nat):Int)≥4))
 (some (.inr (.inr (((),false,()),((0,[],()),())))))
 (cond (bl (ln t7+ln ([r41.1]:List Ma)) Wa)
 (some (.inl ((t0,(),(),(ap t7 ([r41.1]:List Ma)),t13,t14,t15,t20,t21,(wr .i64 (t22+1)),()),(b2,b4,()))))
 none))))))
 none)
 (some (.inr (.inl ((t0,(),(),t7,t13,t14,t15,()),(b2,b4,()))))))
def Ht:=Va fun x:AaC=>Cq x.1.1 x.1.2.1 x.1.2.2.1 x.1.2.2.2.1 x.1.2.2.2.2.1 x.1.2.2.2.2.2.1 x.1.2.2.2.2.2.2.1 x.1.2.2.2.2.2.2.2.1 x.1.2.2.2.2.2.2.2.2.1 x.1.2.2.2.2.2.2.2.2.2.1 x.2.1 x.2.2.1
def Bq(t0:Cc)(t2:Unit)(t4:Unit)(t13:Ke)(t14:Int)(t15:Int)(b2:Ia)(b4:Ia):Option (((Cc×(Unit×(Unit×DG)))×LC)⊕(((Cc×NQ)×LC)⊕((Unit×Id)×Nl))):=
 (cond (decide (t15<t14))
 (cond (Rb (ln t13) t15)
 (ob t13[(tn t15)]? fun x34=>
 (ob (Br x34 32) fun r35=>
 (ob (Ht ((t0,(),(),[],t13,t14,t15,r35.1,((ln r35.1:Nat):Int),0,()),(b2,b4,()))) (se (fun y42=>(cond (bl (ln y42.2.2.1.2.1+ln ([y42.1.2.2.2.1]:List Li)) Wa)
 (some (.inl ((y42.1.1,(),(),y42.1.2.2.2.2.1,y42.1.2.2.2.2.2.1,(wr .i64 (y42.1.2.2.2.2.2.2.1+1)),()),(y42.2.1,(((ln y42.1.2.2.2.1:Nat):Int),(ap y42.2.2.1.2.1 ([y42.1.2.2.2.1]:List Li)),()),()))))
 none)) (fun z43=>(some (.inr (.inr (((),z43.1.2.1,()),(z43.2.1,()))))))))))
 none)
 (some (.inr (.inl ((t0,(),(),()),(b2,b4,()))))))
def Gt:=Va fun x:((Cc×(Unit×(Unit×DG)))×LC)=>Bq x.1.1 x.1.2.1 x.1.2.2.1 x.1.2.2.2.1 x.1.2.2.2.2.1 x.1.2.2.2.2.2.1 x.2.1 x.2.2.1
def AA(a0:Cc):Option (Ia×Id):=
 (ob (strings_Split a0 ([32,124,32]:List UInt8)) fun r1=>
 (ob (Gt ((a0,(),(),r1.1,((ln r1.1:Nat):Int),0,()),((0,[],()),(0,[],()),()))) (se (fun y44=>(ob (Am y44.2.2.1) fun r46=>
 (cond (!r46.1)
 (some ((0,[],()),false,()))
 (ob (Np y44.2.2.1) fun r47=>
 (cond (r47.1 !=y44.1.1)
 (some ((0,[],()),false,()))
 (some (y44.2.2.1,true,()))))))) (fun z45=>(some (z45.2.1,z45.1.2.1,()))))))
def Mn(a0:Ia)(a1:Uh)(a2:Ua):Option (Qa×Id):=
 (ob (JG a0 a1) fun r1=>
 (cond (!r1.2.1)
 (some (Xf,false,()))
 (ob (XC r1.1 a2) fun r2=>
 (some ((r2.1,[],()),r2.2.1,())))))
def Xr(a0:Qa)(a1:Int):Option (Qa×Gd):=
 (ob (MA a0.1 a1) fun r1=>
 (ob (TP a0.2.1 r1.2.1) fun r2=>
 (some (((((a0.1.1.1.1,r1.1.1.1.2.1,()),r1.1.1.2.1,a0.1.1.2.2.1,r1.1.1.2.2.2.1,a0.1.1.2.2.2.2),a0.1.2.1,r1.1.2.2.1,a0.1.2.2.2),r2.1,()),(r2.2.1,())))))
def Wu(t0:Xe)(t1:Int)(t5:Int):Option (OR⊕VL):=
 (cond (decide (t5<((ln t0:Nat):Int)))
 (ob (Ib t0 t5) fun x9=>
 (cond (x9.1 !=t1)
 (some (.inr (.inr (((-1),()),()))))
 (ob (Ib t0 t5) fun x10=>
 (cond (x10.2.1.1 !=(wr .i64 (t1+1)))
 (some (.inr (.inr (((-1),()),()))))
 (ob (Ib t0 t5) fun x11=>
 (ob (CT x11.2.1.2.1 (wr .i64 ((wr .i64 (t1+1))+1))) fun r12=>
 (cond (decide (r12.1<0))
 (some (.inr (.inr (((-1),()),()))))
 (some (.inl ((t0,r12.1,(wr .i64 (t5+1)),()),()))))))))))
 (some (.inr (.inl ((t1,()),())))))
def JL:=Va fun x:OR=>Wu x.1.1 x.1.2.1 x.1.2.2.1
def QP(a0:Xe)(a1:Int):Option Gd:=
 (ob (JL ((a0,a1,0,()),())) (se (fun y13=>(some (y13.1.1,()))) (fun z14=>(some (z14.1.1,())))))
def Wr(a0:Qa)(a1:Int):Option Gd:=
 (ob (LA a0.1 a1) fun r1=>
 (cond (decide (r1.1<0))
 (some ((-1),()))
 (ob (QP a0.2.1 r1.1) fun r2=>
 (cond (decide (r2.1<0))
 (some ((-1),()))
 (some (r2.1,()))))))
def Cu(t3:Rd)(t9:Rd)(t10:Int)(t11:Int):Option (CaC⊕MZ):=
 (cond (decide (t11<t10))
 (ob (Ib t9 t11) fun x10=>
 (cond (decide ((0:Int)≤4))
 (ob (Ib Wd (Cy .u8 x10 4)) fun c11=>
 (ob (Ib Wd (Ih .u8 x10 15)) fun c12=>
 (cond (bl (ln t3+ln ([((UInt8.toNat c11:Nat):Int),((UInt8.toNat c12:Nat):Int)]:List Int)) Wa)
 (some (.inl (((ap t3 ([((UInt8.toNat c11:Nat):Int),((UInt8.toNat c12:Nat):Int)]:List Int)),t9,t10,(wr .i64 (t11+1)),()),())))
 none)))
 none))
 (some (.inr (.inl ((t3,()),())))))
def Qx:=Va fun x:CaC=>Cu x.1.1 x.1.2.1 x.1.2.2.1 x.1.2.2.2.1
def Xq(a0:Rd):Option Hi:=
 (cond (decide (((ln a0:Nat):Int)>2000))
 (some ([],()))
 (ob (Qx (([],a0,((ln a0:Nat):Int),0,()),())) (se (fun y13=>(some ((Dp y13.1.1),()))) (fun z14=>none))))
def Vo(t1:Unit)(t3:Ke)(t4:Int)(t5:Ke)(t6:Int)(b1:Ia):Option (((Unit×(Ke×(Int×GJ)))×Nl)⊕(((Unit×(Ke×(Int×OQ)))×Nl)⊕Re)):=
 (cond (decide (t6<b1.1))
 (ob (Ib b1.2.1 t4) fun x34=>
 (ob (Ib x34 t6) fun x35=>
 (ob (Kf x35) fun r36=>
 (cond (bl (ln t5+ln ([r36.1]:List Cc)) Wa)
 (some (.inl (((),t3,t4,(ap t5 ([r36.1]:List Cc)),(wr .i64 (t6+1)),()),(b1,()))))
 none))))
 (some (.inr (.inl (((),t3,t4,t5,()),(b1,()))))))
def Vl:=Va fun x:((Unit×(Ke×(Int×GJ)))×Nl)=>Vo x.1.1 x.1.2.1 x.1.2.2.1 x.1.2.2.2.1 x.1.2.2.2.2.1 x.2.1
def Al(t1:Unit)(t3:Ke)(t4:Int)(b1:Ia):Option ((Aaa×Nl)⊕J5):=
 (cond (decide (t4<((ln b1.2.1:Nat):Int)))
 (ob (Cm b1) fun r27=>
 (cond r27.1
 (ob (Vl (((),t3,t4,[],0,()),(b1,()))) (se (fun y37=>(ob (Vd y37.1.2.2.2.1 ([32]:List UInt8)) fun r39=>
 (cond (bl (ln y37.1.2.1+ln ([r39.1]:List Cc)) Wa)
 (some (.inl (((),(ap y37.1.2.1 ([r39.1]:List Cc)),(wr .i64 (y37.1.2.2.1+1)),()),(y37.2.1,()))))
 none))) (fun z38=>(some (.inr (.inr ((),())))))))
 (some (.inr (.inl ((t3,()),()))))))
 (some (.inr (.inl ((t3,()),())))))
def Aj:=Va fun x:(Aaa×Nl)=>Al x.1.1 x.1.2.1 x.1.2.2.1 x.2.1
def Cx(a0:Ia):Option Hi:=
 (ob (Aj (((),[],0,()),(a0,()))) (se (fun y40=>(ob (Vd y40.1.1 ([32,124,32]:List UInt8)) fun r42=>
 (some (r42.1,())))) (fun z41=>none)))
def Dq(t2:Unit)(t3:Unit)(t11:Xe)(t12:Int)(t13:Int)(b2:Qa)(b3:Qa):Option (((Unit×(Unit×NZ))×Iz)⊕((NQ×Iz)⊕Re)):=
 (cond (decide (t13<t12))
 (ob (Ib t11 t13) fun x8=>
 (ob (Pu x8.2.1) fun r9=>
 (cond (bl (ln b3.2.1+ln ([(x8.1,r9.1,())]:List Lc)) Wa)
 (some (.inl (((),(),t11,t12,(wr .i64 (t13+1)),()),(b2,(b3.1,(ap b3.2.1 ([(x8.1,r9.1,())]:List Lc)),()),()))))
 none)))
 (some (.inr (.inl (((),(),()),(b2,b3,()))))))
def It:=Va fun x:((Unit×(Unit×NZ))×Iz)=>Dq x.1.1 x.1.2.1 x.1.2.2.1 x.1.2.2.2.1 x.1.2.2.2.2.1 x.2.1 x.2.2.1
def Rk(a0:Qa):Option ZV:=
 (ob (Tm a0.1) fun r1=>
 (ob (It (((),(),a0.2.1,((ln a0.2.1:Nat):Int),0,()),(Xf,(r1.1,[],()),()))) (se (fun y10=>(some (y10.2.2.1,()))) (fun z11=>none))))
def Ek(a0:Qa)(a1:Qa)(a2:Bool):Option KU:=
 (cond (!a2)
 (some (a0,([110,111]:List UInt8),()))
 (some (a1,([111,107]:List UInt8),())))
def strings_Index(a b:List UInt8):Option Gd:=Ial a b
def Xp(t3:Ke)(t9:Uf)(t10:Int)(t11:Int):Option (((Ke×RQ)×Unit)⊕J5):=
 (cond (decide (t11<t10))
 (ob (Ib t9 t11) fun x8=>
 (cond (Nd (ln ([116,100,117]:List UInt8)) x8.1 (wr .i64 (x8.1+1)))
 (cond (bl (ln (Hb ([116,100,117]:List UInt8) (tn x8.1) (tn (wr .i64 (x8.1+1))))+ln ([61]:List UInt8)) Wa)
 (ob (Wl (2,x8.2.1,x8.2.2.1,0,())) fun r9=>
 (cond (bl (ln (ap (Hb ([116,100,117]:List UInt8) (tn x8.1) (tn (wr .i64 (x8.1+1)))) ([61]:List UInt8))+ln r9.1) Wa)
 (cond (bl (ln t3+ln ([(ap (ap (Hb ([116,100,117]:List UInt8) (tn x8.1) (tn (wr .i64 (x8.1+1)))) ([61]:List UInt8)) r9.1)]:List Cc)) Wa)
 (some (.inl (((ap t3 ([(ap (ap (Hb ([116,100,117]:List UInt8) (tn x8.1) (tn (wr .i64 (x8.1+1)))) ([61]:List UInt8)) r9.1)]:List Cc)),t9,t10,(wr .i64 (t11+1)),()),())))
 none)
 none))
 none)
 none))
 (some (.inr (.inl ((t3,()),())))))
def Ft:=Va fun x:((Ke×RQ)×Unit)=>Xp x.1.1 x.1.2.1 x.1.2.2.1 x.1.2.2.2.1
def Wz(a0:Uf):Option Hi:=
 (ob (Qr a0) fun r1=>
 (cond (!r1.1)
 (some ([],()))
 (ob (Ft (([],a0,((ln a0:Nat):Int),0,()),())) (se (fun y10=>(ob (Mh y10.1.1 ([32]:List UInt8)) fun r12=>
 (some (r12.1,())))) (fun z11=>none)))))
def Rs(t0:Cc)(t4:Uf)(t16:Ke)(t17:Int)(t18:Int):Option (((Cc×(Uf×DG))×Unit)⊕(((Cc×(Uf×Unit))×Unit)⊕((Uf×Id)×Unit))):=
 (cond (decide (t18<t17))
 (cond (Rb (ln t16) t18)
 (ob t16[(tn t18)]? fun x14=>
 (ob (strings_Cut x14 ([61]:List UInt8)) fun r15=>
 (ob (Tr r15.2.1) fun r16=>
 (ob (strings_Index ([116,100,117]:List UInt8) r15.1) fun r17=>
 (cond (!r15.2.2.1)
 (some (.inr (.inr (([],false,()),()))))
 (cond (!r16.2.1)
 (some (.inr (.inr (([],false,()),()))))
 (cond (r16.1.1 !=2)
 (some (.inr (.inr (([],false,()),()))))
 (cond (((ln r15.1:Nat):Int) !=1)
 (some (.inr (.inr (([],false,()),()))))
 (cond (decide (r17.1<0))
 (some (.inr (.inr (([],false,()),()))))
 (cond (bl (ln t4+ln ([(r17.1,r16.1.2.1,r16.1.2.2.1,())]:List Ua)) Wa)
 (some (.inl ((t0,(ap t4 ([(r17.1,r16.1.2.1,r16.1.2.2.1,())]:List Ua)),t16,t17,(wr .i64 (t18+1)),()),())))
 none))))))))))
 none)
 (some (.inr (.inl ((t0,t4,()),())))))
def Dw:=Va fun x:((Cc×(Uf×DG))×Unit)=>Rs x.1.1 x.1.2.1 x.1.2.2.1 x.1.2.2.2.1 x.1.2.2.2.2.1
def YC(a0:Cc):Option (Uf×Id):=
 (cond (a0==[])
 (some ([],true,()))
 (ob (Br a0 32) fun r1=>
 (ob (Dw ((a0,[],r1.1,((ln r1.1:Nat):Int),0,()),())) (se (fun y18=>(ob (Qr y18.1.2.1) fun r20=>
 (cond (!r20.1)
 (some ([],false,()))
 (ob (Wz y18.1.2.1) fun r21=>
 (cond (r21.1 !=y18.1.1)
 (some ([],false,()))
 (some (y18.1.2.1,true,()))))))) (fun z19=>(some z19.1))))))
def FA(t6:Rd)(t17:Ke)(t18:Int)(t19:Int):Option (((Rd×DG)×Unit)⊕HaX):=
 (cond (decide (t19<t18))
 (ob (Ib t17 t19) fun x7=>
 (ob (Ot x7) fun r8=>
 (cond (!r8.2.1)
 (some (.inr (.inr (([],false,()),()))))
 (cond (bl (ln t6+ln ([r8.1]:List Int)) Wa)
 (some (.inl (((ap t6 ([r8.1]:List Int)),t17,t18,(wr .i64 (t19+1)),()),())))
 none))))
 (some (.inr (.inl ((t6,()),())))))
def EC:=Va fun x:((Rd×DG)×Unit)=>FA x.1.1 x.1.2.1 x.1.2.2.1 x.1.2.2.2.1
def Sg(a0:Ke)(a1:Int):Option Y9:=
 (cond (((ln a0:Nat):Int) !=(wr .i64 (a1+1)))
 (some ([],false,()))
 (cond (Nd (ln a0) 1 ((ln a0:Nat):Int))
 (ob (EC (([],(Hb a0 (tn 1) (tn ((ln a0:Nat):Int))),((ln (Hb a0 (tn 1) (tn ((ln a0:Nat):Int))):Nat):Int),0,()),())) (se (fun y9=>(some (y9.1.1,true,()))) (fun z10=>(some z10.1))))
 none))
def Sl(a0:Qa)(a1:Cc)(a2:Rd):Option KU:=
 (cond (a1==Jc)
 (cond (Rb (ln a2) 0)
 (ob a2[(tn 0)]? fun x1=>
 (ob (MG a0.1 x1) fun r2=>
 (cond (!r2.2.2.1)
 (some (a0,([110,111]:List UInt8),()))
 (cond (decide ((wr .i64 (((ln a0.2.1:Nat):Int)+((ln r2.2.1:Nat):Int)))>200))
 (some (a0,([110,111]:List UInt8),()))
 (ob (Mo r2.2.1) fun r3=>
 (ob (Rk (Kg,r2.2.1,())) fun r4=>
 (cond (bl (ln a0.2.1+ln r4.1.2.1) Wa)
 (some ((r2.1,(ap a0.2.1 r4.1.2.1),()),r3.1,()))
 none)))))))
 none)
 (cond (Rb (ln a2) 1)
 (ob a2[(tn 1)]? fun x5=>
 (cond (Rb (ln a2) 0)
 (ob a2[(tn 0)]? fun x6=>
 (ob (GG a0.1 (x5,x6,(a1==Ad),())) fun r7=>
 (cond (!r7.2.2.1)
 (some (a0,([110,111]:List UInt8),()))
 (cond (decide ((wr .i64 (((ln a0.2.1:Nat):Int)+((ln r7.2.1:Nat):Int)))>200))
 (some (a0,([110,111]:List UInt8),()))
 (ob (Mo r7.2.1) fun r8=>
 (ob (Rk (Kg,r7.2.1,())) fun r9=>
 (cond (bl (ln a0.2.1+ln r9.1.2.1) Wa)
 (some ((r7.1,(ap a0.2.1 r9.1.2.1),()),r8.1,()))
 none)))))))
 none))
 none))
def Dj(a0:Qa)(a1:Cc):Option Hi:=
 (cond (a1==CG)
 (ob (Np a0.1.1.1) fun r1=>
 (some (r1.1,())))
 (cond (a1==PB)
 (ob (Nt a0.1.1.2.2.1 a0.1.1.2.2.2.1) fun r2=>
 (ob (Qh r2.1) fun r3=>
 (some (r3.1,()))))
 (cond (a1==QB)
 (ob (Ee a0.1.1.2.2.2.1) fun r4=>
 (ob (Pp r4.1) fun r5=>
 (some (r5.1,()))))
 (cond (a1==OB)
 (ob (Qh ((ln a0.1.2.2.1:Nat):Int)) fun r6=>
 (some (r6.1,())))
 (cond (a1==NB)
 (ob (KG a0.2.1) fun r7=>
 (ob (LG (0,[],()) r7.1) fun r8=>
 (cond (bl (ln r8.1) Wa)
 (ob (Xq (Sc r8.1)) fun r9=>
 (some (r9.1,())))
 none)))
 (some (Za,())))))))
def Uz(t2:Unit)(t4:Unit)(t32:Ke)(t211:Rd)(t212:Int)(t213:Int)(b2:Qa)(b4:Qa):Option (((Unit×Eaa)×Iz)⊕(((Unit×(Unit×OQ))×Iz)⊕Re)):=
 (cond (decide (t213<t212))
 (cond (Rb (ln t211) t213)
 (ob t211[(tn t213)]? fun x79=>
 (ob (Qh x79) fun r80=>
 (cond (bl (ln t32+ln ([r80.1]:List Cc)) Wa)
 (some (.inl (((),(),(ap t32 ([r80.1]:List Cc)),t211,t212,(wr .i64 (t213+1)),()),(b2,b4,()))))
 none)))
 none)
 (some (.inr (.inl (((),(),t32,()),(b2,b4,()))))))
def Zj:=Va fun x:((Unit×Eaa)×Iz)=>Uz x.1.1 x.1.2.1 x.1.2.2.1 x.1.2.2.2.1 x.1.2.2.2.2.1 x.1.2.2.2.2.2.1 x.2.1 x.2.2.1
def Aw(a0:Qa)(a1:Cc):Option KU:=
 (ob (IG a0) fun r1=>
 (cond (!r1.1)
 (some (Xf,([98,97,100]:List UInt8),()))
 (ob (Rk a0) fun r2=>
 (cond (a1==[])
 (some (r2.1,[],()))
 (ob (Ib a1 0) fun c3=>
 (cond (((UInt8.toNat c3:Nat):Int)==35)
 (some (r2.1,[],()))
 (ob (Rj a1 Pk) fun r4=>
 (cond r4.2.1
 (ob (AA r4.1) fun r5=>
 (cond (!r5.2.1)
 (some (r2.1,([110,111]:List UInt8),()))
 (ob (Mn r5.1 r2.1.1.1.2.1 r2.1.1.2.1) fun r6=>
 (ob (Ek r2.1 r6.1 r6.2.1) fun r7=>
 (some r7)))))
 (ob (Rj a1 Qk) fun r8=>
 (cond r8.2.1
 (ob (YC r8.1) fun r9=>
 (cond (!r9.2.1)
 (some (r2.1,([110,111]:List UInt8),()))
 (ob (Po r2.1.1.1.2.1) fun r10=>
 (cond (bl (ln r10.1+ln ([r9.1]:List Uf)) Wa)
 (ob (Mn r2.1.1.1.1 (ap r10.1 ([r9.1]:List Uf)) r2.1.1.2.1) fun r11=>
 (ob (Ek r2.1 r11.1 r11.2.1) fun r12=>
 (some r12)))
 none))))
 (ob (Br a1 32) fun r13=>
 (cond (Rb (ln r13.1) 0)
 (ob r13.1[(tn 0)]? fun x14=>
 (ob (Sg r13.1 2) fun r15=>
 (cond (x14==Ad)
 (cond r15.2.1
 (ob (Sl r2.1 x14 r15.1) fun r16=>
 (some r16))
 (cond (x14==Jc)
 (ob (Sg r13.1 1) fun r17=>
 (cond r17.2.1
 (ob (Sl r2.1 x14 r17.1) fun r18=>
 (some r18))
 (some (r2.1,Za,()))))
 (cond (x14==Ed)
 (ob (Sg r13.1 3) fun r19=>
 (cond r19.2.1
 (cond (Rb (ln r19.1) 0)
 (ob r19.1[(tn 0)]? fun x20=>
 (cond (Rb (ln r19.1) 1)
 (ob r19.1[(tn 1)]? fun x21=>
 (cond (Rb (ln r19.1) 2)
 (ob r19.1[(tn 2)]? fun x22=>
 (ob (Mn r2.1.1.1.1 r2.1.1.1.2.1 (x20,x21,x22,())) fun r23=>
 (ob (Ek r2.1 r23.1 r23.2.1) fun r24=>
 (some r24))))
 none))
 none))
 none)
 (some (r2.1,Za,()))))
 (cond (x14==([119,97,121]:List UInt8))
 (cond r15.2.1
 (cond (Rb (ln r15.1) 0)
 (ob r15.1[(tn 0)]? fun x25=>
 (cond (Rb (ln r15.1) 1)
 (ob r15.1[(tn 1)]? fun x26=>
 (ob (Kk r2.1.1.1.1 x25 x26) fun r27=>
 (cond (!r27.2.1)
 (some (r2.1,([110,111]:List UInt8),()))
 (ob (Zj (((),(),[],r27.1,((ln r27.1:Nat):Int),0,()),(r2.1,Xf,()))) (se (fun y36=>(ob (Mh y36.1.2.2.1 ([32]:List UInt8)) fun r38=>
 (cond (bl (ln Zb+ln r38.1) Wa)
 (some (y36.2.1,(ap Zb r38.1),()))
 none))) (fun z37=>none))))))
 none))
 none)
 (cond (((ln r13.1:Nat):Int)==1)
 (ob (Dj r2.1 x14) fun r39=>
 (some (r2.1,r39.1,())))
 (some (r2.1,Za,()))))
 (cond (((ln r13.1:Nat):Int)==1)
 (ob (Dj r2.1 x14) fun r40=>
 (some (r2.1,r40.1,())))
 (some (r2.1,Za,())))))))
 (cond (x14==([117,112]:List UInt8))
 (cond r15.2.1
 (ob (Sl r2.1 x14 r15.1) fun r41=>
 (some r41))
 (cond (x14==Jc)
 (ob (Sg r13.1 1) fun r42=>
 (cond r42.2.1
 (ob (Sl r2.1 x14 r42.1) fun r43=>
 (some r43))
 (some (r2.1,Za,()))))
 (cond (x14==Ed)
 (ob (Sg r13.1 3) fun r44=>
 (cond r44.2.1
 (cond (Rb (ln r44.1) 0)
 (ob r44.1[(tn 0)]? fun x45=>
 (cond (Rb (ln r44.1) 1)
 (ob r44.1[(tn 1)]? fun x46=>
 (cond (Rb (ln r44.1) 2)
 (ob r44.1[(tn 2)]? fun x47=>
 (ob (Mn r2.1.1.1.1 r2.1.1.1.2.1 (x45,x46,x47,())) fun r48=>
 (ob (Ek r2.1 r48.1 r48.2.1) fun r49=>
 (some r49))))
 none))
 none))
 none)
 (some (r2.1,Za,()))))
 (cond (x14==([119,97,121]:List UInt8))
 (cond r15.2.1
 (cond (Rb (ln r15.1) 0)
 (ob r15.1[(tn 0)]? fun x50=>
 (cond (Rb (ln r15.1) 1)
 (ob r15.1[(tn 1)]? fun x51=>
 (ob (Kk r2.1.1.1.1 x50 x51) fun r52=>
 (cond (!r52.2.1)
 (some (r2.1,([110,111]:List UInt8),()))
 (ob (Zj (((),(),[],r52.1,((ln r52.1:Nat):Int),0,()),(r2.1,Xf,()))) (se (fun y59=>(ob (Mh y59.1.2.2.1 ([32]:List UInt8)) fun r61=>
 (cond (bl (ln Zb+ln r61.1) Wa)
 (some (y59.2.1,(ap Zb r61.1),()))
 none))) (fun z60=>none))))))
 none))
 none)
 (cond (((ln r13.1:Nat):Int)==1)
 (ob (Dj r2.1 x14) fun r62=>
 (some (r2.1,r62.1,())))
 (some (r2.1,Za,()))))
 (cond (((ln r13.1:Nat):Int)==1)
 (ob (Dj r2.1 x14) fun r63=>
 (some (r2.1,r63.1,())))
 (some (r2.1,Za,())))))))
 (cond (x14==Jc)
 (ob (Sg r13.1 1) fun r64=>
 (cond r64.2.1
 (ob (Sl r2.1 x14 r64.1) fun r65=>
 (some r65))
 (some (r2.1,Za,()))))
 (cond (x14==Ed)
 (ob (Sg r13.1 3) fun r66=>
 (cond r66.2.1
 (cond (Rb (ln r66.1) 0)
 (ob r66.1[(tn 0)]? fun x67=>
 (cond (Rb (ln r66.1) 1)
 (ob r66.1[(tn 1)]? fun x68=>
 (cond (Rb (ln r66.1) 2)
 (ob r66.1[(tn 2)]? fun x69=>
 (ob (Mn r2.1.1.1.1 r2.1.1.1.2.1 (x67,x68,x69,())) fun r70=>
 (ob (Ek r2.1 r70.1 r70.2.1) fun r71=>
 (some r71))))
 none))
 none))
 none)
 (some (r2.1,Za,()))))
 (cond (x14==([119,97,121]:List UInt8))
 (cond r15.2.1
 (cond (Rb (ln r15.1) 0)
 (ob r15.1[(tn 0)]? fun x72=>
 (cond (Rb (ln r15.1) 1)
 (ob r15.1[(tn 1)]? fun x73=>
 (ob (Kk r2.1.1.1.1 x72 x73) fun r74=>
 (cond (!r74.2.1)
 (some (r2.1,([110,111]:List UInt8),()))
 (ob (Zj (((),(),[],r74.1,((ln r74.1:Nat):Int),0,()),(r2.1,Xf,()))) (se (fun y81=>(ob (Mh y81.1.2.2.1 ([32]:List UInt8)) fun r83=>
 (cond (bl (ln Zb+ln r83.1) Wa)
 (some (y81.2.1,(ap Zb r83.1),()))
 none))) (fun z82=>none))))))
 none))
 none)
 (cond (((ln r13.1:Nat):Int)==1)
 (ob (Dj r2.1 x14) fun r84=>
 (some (r2.1,r84.1,())))
 (some (r2.1,Za,()))))
 (cond (((ln r13.1:Nat):Int)==1)
 (ob (Dj r2.1 x14) fun r85=>
 (some (r2.1,r85.1,())))
 (some (r2.1,Za,()))))))))))
 none))))))))))))
def AB(t1:Unit)(t2:Unit)(t3:Unit)(t5:Int)(b1:Qa)(b2:Qa)(b3:Qa):Option ((I5×(Qa×Iz))⊕((NQ×Iz)⊕Re)):=
 (cond (decide (t5<((ln b1.2.1:Nat):Int)))
 (ob (Ib b1.2.1 t5) fun x8=>
 (ob (Ib b1.2.1 t5) fun x9=>
 (ob (XB x9.2.1) fun r10=>
 (cond (bl (ln b3.2.1+ln ([(x8.1,r10.1,())]:List Lc)) Wa)
 (some (.inl (((),(),(),(wr .i64 (t5+1)),()),(b1,b2,(b3.1,(ap b3.2.1 ([(x8.1,r10.1,())]:List Lc)),()),()))))
 none))))
 (some (.inr (.inl (((),(),()),(b2,b3,()))))))
def JC:=Va fun x:(I5×(Qa×Iz))=>AB x.1.1 x.1.2.1 x.1.2.2.1 x.1.2.2.2.1 x.2.1 x.2.2.1 x.2.2.2.1
def UN(a0:Qa):Option ZV:=
 (ob (Kl a0.1.1) fun r1=>
 (cond (bl (ln ([]:List Ya)+ln a0.1.2.2.1) Wa)
 (ob (JC (((),(),(),0,()),(a0,Xf,((r1.1,a0.1.2.1,(ap [] a0.1.2.2.1),a0.1.2.2.2),[],()),()))) (se (fun y11=>(some (y11.2.2.1,()))) (fun z12=>none)))
 none))
def Zi(t0:Rd)(t3:Rd)(t4:Int):Option (H5⊕MZ):=
 (cond (decide (t4<((ln t0:Nat):Int)))
 (cond (decide (((ln t0:Nat):Int)≤2000))
 (ob (Ib t0 t4) fun x9=>
 (cond ((16:Int)==0)
 none
 (ob (Ib Wd (wr .i64 (Int.tdiv (wr .i64 x9) 16))) fun c10=>
 (ob (Ib t0 t4) fun x11=>
 (cond ((16:Int)==0)
 none
 (ob (Ib Wd (ye (wr .i64 x11) 16)) fun c12=>
 (cond (bl (ln t3+ln ([((UInt8.toNat c10:Nat):Int),((UInt8.toNat c12:Nat):Int)]:List Int)) Wa)
 (some (.inl ((t0,(ap t3 ([((UInt8.toNat c10:Nat):Int),((UInt8.toNat c12:Nat):Int)]:List Int)),(wr .i64 (t4+1)),()),())))
 none)))))))
 (some (.inr (.inl ((t3,()),())))))
 (some (.inr (.inl ((t3,()),())))))
def Uo:=Va fun x:H5=>Zi x.1.1 x.1.2.1 x.1.2.2.1
def My(a0:Rd):Option Hi:=
 (ob (Uo ((a0,[],0,()),())) (se (fun y13=>(some ((Dp y13.1.1),()))) (fun z14=>none)))
def TN(a0:Qa)(a1:Cc):Option Hi:=
 (cond (a1==CG)
 (ob (Cx a0.1.1.1) fun r1=>
 (some (r1.1,())))
 (cond (a1==PB)
 (ob (Ut a0.1.1.2.2.1 a0.1.1.2.2.2.1) fun r2=>
 (ob (Yd r2.1) fun r3=>
 (some (r3.1,()))))
 (cond (a1==QB)
 (ob (Le a0.1.1.2.2.2.1) fun r4=>
 (ob (Sp r4.1) fun r5=>
 (some (r5.1,()))))
 (cond (a1==OB)
 (ob (Yd ((ln a0.1.2.2.1:Nat):Int)) fun r6=>
 (some (r6.1,())))
 (cond (a1==NB)
 (ob (BH a0.2.1) fun r7=>
 (ob (DH (0,[],()) r7.1) fun r8=>
 (cond (bl (ln r8.1) Wa)
 (ob (My (Sc r8.1)) fun r9=>
 (some (r9.1,())))
 none)))
 (some (Za,())))))))
def Xg(a0:Qa)(a1:Ia)(a2:Uh)(a3:Ua):Option KU:=
 (ob (AH a1 a2) fun r1=>
 (ob (WD r1.1 a3) fun r2=>
 (cond (!r1.2.1)
 (some (a0,([110,111]:List UInt8),()))
 (cond (!r2.2.1)
 (some (a0,([110,111]:List UInt8),()))
 (some ((r2.1,[],()),([111,107]:List UInt8),()))))))
def Hg(t0:Cc)(t2:Unit)(t4:Int)(b2:Ua):Option (((Cc×Ns)×EG)⊕((Re×EG)⊕((Unit×Id)×EG))):=
 (cond (decide (t4<3))
 (ob (Ib t0 0) fun c8=>
 (ob (Ib ([116,100,117]:List UInt8) t4) fun c9=>
 (cond (((UInt8.toNat c8:Nat):Int)==((UInt8.toNat c9:Nat):Int))
 (cond (Nd (ln t0) 2 ((ln t0:Nat):Int))
 (ob (Js (Hb t0 (tn 2) (tn ((ln t0:Nat):Int)))) fun r10=>
 (cond r10.2.1
 (some (.inr (.inr (((),(r10.1.1==2),()),((t4,r10.1.2.1,r10.1.2.2.1,()),())))))
 (some (.inr (.inr (((),false,()),((t4,r10.1.2.1,r10.1.2.2.1,()),())))))))
 none)
 (some (.inl ((t0,(),(wr .i64 (t4+1)),()),(b2,())))))))
 (some (.inr (.inl (((),()),(b2,()))))))
def KC:=Va fun x:((Cc×Ns)×EG)=>Hg x.1.1 x.1.2.1 x.1.2.2.1 x.2.1
def WN(a0:Cc):Option (Ua×Id):=
 (cond (decide (((ln a0:Nat):Int)<3))
 (some ((0,0,0,()),false,()))
 (ob (Ib a0 1) fun c1=>
 (cond (((UInt8.toNat c1:Nat):Int) !=61)
 (some ((0,0,0,()),false,()))
 (ob (KC ((a0,(),0,()),((0,0,0,()),()))) (se (fun y11=>(some ((0,0,0,()),false,()))) (fun z12=>(some (z12.2.1,z12.1.2.1,()))))))))
def Pm(t4:Uf)(t5:Ke)(t6:Int):Option (((Uf×GJ)×Unit)⊕(((Uf×OQ)×Unit)⊕((Uf×Id)×Unit))):=
 (cond (decide (t6<((ln t5:Nat):Int)))
 (cond (decide (((ln t5:Nat):Int)≤8))
 (cond (Rb (ln t5) t6)
 (ob t5[(tn t6)]? fun x6=>
 (ob (WN x6) fun r7=>
 (cond (!r7.2.1)
 (some (.inr (.inr (([],false,()),()))))
 (cond (bl (ln t4+ln ([r7.1]:List Ua)) Wa)
 (some (.inl (((ap t4 ([r7.1]:List Ua)),t5,(wr .i64 (t6+1)),()),())))
 none))))
 none)
 (some (.inr (.inl ((t4,t5,()),())))))
 (some (.inr (.inl ((t4,t5,()),())))))
def Gk:=Va fun x:((Uf×GJ)×Unit)=>Pm x.1.1 x.1.2.1 x.1.2.2.1
def XD(a0:Cc):Option (Uf×Id):=
 (cond (a0==[])
 (some ([],true,()))
 (ob (Rh a0 32) fun r1=>
 (ob (Gk (([],r1.1,0,()),())) (se (fun y8=>(cond (decide (((ln y8.1.2.1:Nat):Int)>8))
 (some ([],false,()))
 (ob (Ny y8.1.1) fun r10=>
 (cond (!r10.1)
 (some ([],false,()))
 (some (y8.1.1,true,())))))) (fun z9=>(some z9.1))))))
def Er(a0:Ab)(a1:Ya):Option K5:=
 (ob (Hv a0 ([a1]:List Ya) a1.1) fun r1=>
 (some r1))
def Hk(a0:Qa)(a1:Ab)(a2:Xe)(a3:Bool):Option KU:=
 (cond (!a3)
 (some (a0,([110,111]:List UInt8),()))
 (cond (decide ((wr .i64 (((ln a0.2.1:Nat):Int)+((ln a2:Nat):Int)))>200))
 (some (a0,([110,111]:List UInt8),()))
 (cond (bl (ln a0.2.1+ln a2) Wa)
 (ob (RD a2) fun r1=>
 (some ((a1,(ap a0.2.1 a2),()),r1.1,())))
 none)))
def En(a0:Ab)(a1:Int):Option K5:=
 (ob (Hv a0 [] a1) fun r1=>
 (some r1))
def Sq(t3:Unit)(t6:Unit)(t21:Rd)(t23:Ke)(t24:Int)(b3:Qa)(b6:Qa):Option (((Unit×(Unit×(Rd×GJ)))×Iz)⊕(((Unit×(Unit×OQ))×Iz)⊕Re)):=
 (cond (decide (t24<((ln t21:Nat):Int)))
 (cond (Rb (ln t21) t24)
 (ob t21[(tn t24)]? fun x181=>
 (ob (Yd x181) fun r182=>
 (cond (bl (ln t23+ln ([r182.1]:List Cc)) Wa)
 (some (.inl (((),(),t21,(ap t23 ([r182.1]:List Cc)),(wr .i64 (t24+1)),()),(b3,b6,()))))
 none)))
 none)
 (some (.inr (.inl (((),(),t23,()),(b3,b6,()))))))
def Cd:=Va fun x:((Unit×(Unit×(Rd×GJ)))×Iz)=>Sq x.1.1 x.1.2.1 x.1.2.2.1 x.1.2.2.2.1 x.1.2.2.2.2.1 x.2.1 x.2.2.1
def AE(a0:Qa)(a1:Cc)(a2:Rd):Option KU:=
 (cond (a1==Ad)
 (cond (((ln a2:Nat):Int)==2)
 (cond (Rb (ln a2) 1)
 (ob a2[(tn 1)]? fun x1=>
 (cond (Rb (ln a2) 0)
 (ob a2[(tn 0)]? fun x2=>
 (ob (Er a0.1 (x1,x2,(a1==Ad),())) fun r3=>
 (ob (Hk a0 r3.1 r3.2.1 r3.2.2.1) fun r4=>
 (some r4))))
 none))
 none)
 (cond (a1==Jc)
 (cond (((ln a2:Nat):Int)==1)
 (cond (Rb (ln a2) 0)
 (ob a2[(tn 0)]? fun x5=>
 (ob (En a0.1 x5) fun r6=>
 (ob (Hk a0 r6.1 r6.2.1 r6.2.2.1) fun r7=>
 (some r7))))
 none)
 (cond (a1==Ed)
 (cond (((ln a2:Nat):Int)==3)
 (cond (Rb (ln a2) 0)
 (ob a2[(tn 0)]? fun x8=>
 (cond (Rb (ln a2) 1)
 (ob a2[(tn 1)]? fun x9=>
 (cond (Rb (ln a2) 2)
 (ob a2[(tn 2)]? fun x10=>
 (ob (Xg a0 a0.1.1.1 a0.1.1.2.1 (x8,x9,x10,())) fun r11=>
 (some r11)))
 none))
 none))
 none)
 (cond (a1==([119,97,121]:List UInt8))
 (cond (((ln a2:Nat):Int)==2)
 (cond (Rb (ln a2) 0)
 (ob a2[(tn 0)]? fun x12=>
 (cond (Rb (ln a2) 1)
 (ob a2[(tn 1)]? fun x13=>
 (ob (Fg a0.1.1.1 x12 x13) fun r14=>
 (cond (!r14.2.1)
 (some (a0,([110,111]:List UInt8),()))
 (ob (Cd (((),(),r14.1,[],0,()),(a0,Xf,()))) (se (fun y21=>(ob (Vd y21.1.2.2.1 ([32]:List UInt8)) fun r23=>
 (cond (bl (ln Zb+ln r23.1) Wa)
 (some (y21.2.1,(ap Zb r23.1),()))
 none))) (fun z22=>none))))))
 none))
 none)
 (some (a0,Za,())))
 (some (a0,Za,()))))
 (cond (a1==([119,97,121]:List UInt8))
 (cond (((ln a2:Nat):Int)==2)
 (cond (Rb (ln a2) 0)
 (ob a2[(tn 0)]? fun x24=>
 (cond (Rb (ln a2) 1)
 (ob a2[(tn 1)]? fun x25=>
 (ob (Fg a0.1.1.1 x24 x25) fun r26=>
 (cond (!r26.2.1)
 (some (a0,([110,111]:List UInt8),()))
 (ob (Cd (((),(),r26.1,[],0,()),(a0,Xf,()))) (se (fun y33=>(ob (Vd y33.1.2.2.1 ([32]:List UInt8)) fun r35=>
 (cond (bl (ln Zb+ln r35.1) Wa)
 (some (y33.2.1,(ap Zb r35.1),()))
 none))) (fun z34=>none))))))
 none))
 none)
 (some (a0,Za,())))
 (some (a0,Za,())))))
 (cond (a1==Ed)
 (cond (((ln a2:Nat):Int)==3)
 (cond (Rb (ln a2) 0)
 (ob a2[(tn 0)]? fun x36=>
 (cond (Rb (ln a2) 1)
 (ob a2[(tn 1)]? fun x37=>
 (cond (Rb (ln a2) 2)
 (ob a2[(tn 2)]? fun x38=>
 (ob (Xg a0 a0.1.1.1 a0.1.1.2.1 (x36,x37,x38,())) fun r39=>
 (some r39)))
 none))
 none))
 none)
 (cond (a1==([119,97,121]:List UInt8))
 (cond (((ln a2:Nat):Int)==2)
 (cond (Rb (ln a2) 0)
 (ob a2[(tn 0)]? fun x40=>
 (cond (Rb (ln a2) 1)
 (ob a2[(tn 1)]? fun x41=>
 (ob (Fg a0.1.1.1 x40 x41) fun r42=>
 (cond (!r42.2.1)
 (some (a0,([110,111]:List UInt8),()))
 (ob (Cd (((),(),r42.1,[],0,()),(a0,Xf,()))) (se (fun y49=>(ob (Vd y49.1.2.2.1 ([32]:List UInt8)) fun r51=>
 (cond (bl (ln Zb+ln r51.1) Wa)
 (some (y49.2.1,(ap Zb r51.1),()))
 none))) (fun z50=>none))))))
 none))
 none)
 (some (a0,Za,())))
 (some (a0,Za,()))))
 (cond (a1==([119,97,121]:List UInt8))
 (cond (((ln a2:Nat):Int)==2)
 (cond (Rb (ln a2) 0)
 (ob a2[(tn 0)]? fun x52=>
 (cond (Rb (ln a2) 1)
 (ob a2[(tn 1)]? fun x53=>
 (ob (Fg a0.1.1.1 x52 x53) fun r54=>
 (cond (!r54.2.1)
 (some (a0,([110,111]:List UInt8),()))
 (ob (Cd (((),(),r54.1,[],0,()),(a0,Xf,()))) (se (fun y61=>(ob (Vd y61.1.2.2.1 ([32]:List UInt8)) fun r63=>
 (cond (bl (ln Zb+ln r63.1) Wa)
 (some (y61.2.1,(ap Zb r63.1),()))
 none))) (fun z62=>none))))))
 none))
 none)
 (some (a0,Za,())))
 (some (a0,Za,()))))))
 (cond (a1==([117,112]:List UInt8))
 (cond (((ln a2:Nat):Int)==2)
 (cond (Rb (ln a2) 1)
 (ob a2[(tn 1)]? fun x64=>
 (cond (Rb (ln a2) 0)
 (ob a2[(tn 0)]? fun x65=>
 (ob (Er a0.1 (x64,x65,(a1==Ad),())) fun r66=>
 (ob (Hk a0 r66.1 r66.2.1 r66.2.2.1) fun r67=>
 (some r67))))
 none))
 none)
 (cond (a1==Jc)
 (cond (((ln a2:Nat):Int)==1)
 (cond (Rb (ln a2) 0)
 (ob a2[(tn 0)]? fun x68=>
 (ob (En a0.1 x68) fun r69=>
 (ob (Hk a0 r69.1 r69.2.1 r69.2.2.1) fun r70=>
 (some r70))))
 none)
 (cond (a1==Ed)
 (cond (((ln a2:Nat):Int)==3)
 (cond (Rb (ln a2) 0)
 (ob a2[(tn 0)]? fun x71=>
 (cond (Rb (ln a2) 1)
 (ob a2[(tn 1)]? fun x72=>
 (cond (Rb (ln a2) 2)
 (ob a2[(tn 2)]? fun x73=>
 (ob (Xg a0 a0.1.1.1 a0.1.1.2.1 (x71,x72,x73,())) fun r74=>
 (some r74)))
 none))
 none))
 none)
 (cond (a1==([119,97,121]:List UInt8))
 (cond (((ln a2:Nat):Int)==2)
 (cond (Rb (ln a2) 0)
 (ob a2[(tn 0)]? fun x75=>
 (cond (Rb (ln a2) 1)
 (ob a2[(tn 1)]? fun x76=>
 (ob (Fg a0.1.1.1 x75 x76) fun r77=>
 (cond (!r77.2.1)
 (some (a0,([110,111]:List UInt8),()))
 (ob (Cd (((),(),r77.1,[],0,()),(a0,Xf,()))) (se (fun y84=>(ob (Vd y84.1.2.2.1 ([32]:List UInt8)) fun r86=>
 (cond (bl (ln Zb+ln r86.1) Wa)
 (some (y84.2.1,(ap Zb r86.1),()))
 none))) (fun z85=>none))))))
 none))
 none)
 (some (a0,Za,())))
 (some (a0,Za,()))))
 (cond (a1==([119,97,121]:List UInt8))
 (cond (((ln a2:Nat):Int)==2)
 (cond (Rb (ln a2) 0)
 (ob a2[(tn 0)]? fun x87=>
 (cond (Rb (ln a2) 1)
 (ob a2[(tn 1)]? fun x88=>
 (ob (Fg a0.1.1.1 x87 x88) fun r89=>
 (cond (!r89.2.1)
 (some (a0,([110,111]:List UInt8),()))
 (ob (Cd (((),(),r89.1,[],0,()),(a0,Xf,()))) (se (fun y96=>(ob (Vd y96.1.2.2.1 ([32]:List UInt8)) fun r98=>
 (cond (bl (ln Zb+ln r98.1) Wa)
 (some (y96.2.1,(ap Zb r98.1),()))
 none))) (fun z97=>none))))))
 none))
 none)
 (some (a0,Za,())))
 (some (a0,Za,())))))
 (cond (a1==Ed)
 (cond (((ln a2:Nat):Int)==3)
 (cond (Rb (ln a2) 0)
 (ob a2[(tn 0)]? fun x99=>
 (cond (Rb (ln a2) 1)
 (ob a2[(tn 1)]? fun x100=>
 (cond (Rb (ln a2) 2)
 (ob a2[(tn 2)]? fun x101=>
 (ob (Xg a0 a0.1.1.1 a0.1.1.2.1 (x99,x100,x101,())) fun r102=>
 (some r102)))
 none))
 none))
 none)
 (cond (a1==([119,97,121]:List UInt8))
 (cond (((ln a2:Nat):Int)==2)
 (cond (Rb (ln a2) 0)
 (ob a2[(tn 0)]? fun x103=>
 (cond (Rb (ln a2) 1)
 (ob a2[(tn 1)]? fun x104=>
 (ob (Fg a0.1.1.1 x103 x104) fun r105=>
 (cond (!r105.2.1)
 (some (a0,([110,111]:List UInt8),()))
 (ob (Cd (((),(),r105.1,[],0,()),(a0,Xf,()))) (se (fun y112=>(ob (Vd y112.1.2.2.1 ([32]:List UInt8)) fun r114=>
 (cond (bl (ln Zb+ln r114.1) Wa)
 (some (y112.2.1,(ap Zb r114.1),()))
 none))) (fun z113=>none))))))
 none))
 none)
 (some (a0,Za,())))
 (some (a0,Za,()))))
 (cond (a1==([119,97,121]:List UInt8))
 (cond (((ln a2:Nat):Int)==2)
 (cond (Rb (ln a2) 0)
 (ob a2[(tn 0)]? fun x115=>
 (cond (Rb (ln a2) 1)
 (ob a2[(tn 1)]? fun x116=>
 (ob (Fg a0.1.1.1 x115 x116) fun r117=>
 (cond (!r117.2.1)
 (some (a0,([110,111]:List UInt8),()))
 (ob (Cd (((),(),r117.1,[],0,()),(a0,Xf,()))) (se (fun y124=>(ob (Vd y124.1.2.2.1 ([32]:List UInt8)) fun r126=>
 (cond (bl (ln Zb+ln r126.1) Wa)
 (some (y124.2.1,(ap Zb r126.1),()))
 none))) (fun z125=>none))))))
 none))
 none)
 (some (a0,Za,())))
 (some (a0,Za,()))))))
 (cond (a1==Jc)
 (cond (((ln a2:Nat):Int)==1)
 (cond (Rb (ln a2) 0)
 (ob a2[(tn 0)]? fun x127=>
 (ob (En a0.1 x127) fun r128=>
 (ob (Hk a0 r128.1 r128.2.1 r128.2.2.1) fun r129=>
 (some r129))))
 none)
 (cond (a1==Ed)
 (cond (((ln a2:Nat):Int)==3)
 (cond (Rb (ln a2) 0)
 (ob a2[(tn 0)]? fun x130=>
 (cond (Rb (ln a2) 1)
 (ob a2[(tn 1)]? fun x131=>
 (cond (Rb (ln a2) 2)
 (ob a2[(tn 2)]? fun x132=>
 (ob (Xg a0 a0.1.1.1 a0.1.1.2.1 (x130,x131,x132,())) fun r133=>
 (some r133)))
 none))
 none))
 none)
 (cond (a1==([119,97,121]:List UInt8))
 (cond (((ln a2:Nat):Int)==2)
 (cond (Rb (ln a2) 0)
 (ob a2[(tn 0)]? fun x134=>
 (cond (Rb (ln a2) 1)
 (ob a2[(tn 1)]? fun x135=>
 (ob (Fg a0.1.1.1 x134 x135) fun r136=>
 (cond (!r136.2.1)
 (some (a0,([110,111]:List UInt8),()))
 (ob (Cd (((),(),r136.1,[],0,()),(a0,Xf,()))) (se (fun y143=>(ob (Vd y143.1.2.2.1 ([32]:List UInt8)) fun r145=>
 (cond (bl (ln Zb+ln r145.1) Wa)
 (some (y143.2.1,(ap Zb r145.1),()))
 none))) (fun z144=>none))))))
 none))
 none)
 (some (a0,Za,())))
 (some (a0,Za,()))))
 (cond (a1==([119,97,121]:List UInt8))
 (cond (((ln a2:Nat):Int)==2)
 (cond (Rb (ln a2) 0)
 (ob a2[(tn 0)]? fun x146=>
 (cond (Rb (ln a2) 1)
 (ob a2[(tn 1)]? fun x147=>
 (ob (Fg a0.1.1.1 x146 x147) fun r148=>
 (cond (!r148.2.1)
 (some (a0,([110,111]:List UInt8),()))
 (ob (Cd (((),(),r148.1,[],0,()),(a0,Xf,()))) (se (fun y155=>(ob (Vd y155.1.2.2.1 ([32]:List UInt8)) fun r157=>
 (cond (bl (ln Zb+ln r157.1) Wa)
 (some (y155.2.1,(ap Zb r157.1),()))
 none))) (fun z156=>none))))))
 none))
 none)
 (some (a0,Za,())))
 (some (a0,Za,())))))
 (cond (a1==Ed)
 (cond (((ln a2:Nat):Int)==3)
 (cond (Rb (ln a2) 0)
 (ob a2[(tn 0)]? fun x158=>
 (cond (Rb (ln a2) 1)
 (ob a2[(tn 1)]? fun x159=>
 (cond (Rb (ln a2) 2)
 (ob a2[(tn 2)]? fun x160=>
 (ob (Xg a0 a0.1.1.1 a0.1.1.2.1 (x158,x159,x160,())) fun r161=>
 (some r161)))
 none))
 none))
 none)
 (cond (a1==([119,97,121]:List UInt8))
 (cond (((ln a2:Nat):Int)==2)
 (cond (Rb (ln a2) 0)
 (ob a2[(tn 0)]? fun x162=>
 (cond (Rb (ln a2) 1)
 (ob a2[(tn 1)]? fun x163=>
 (ob (Fg a0.1.1.1 x162 x163) fun r164=>
 (cond (!r164.2.1)
 (some (a0,([110,111]:List UInt8),()))
 (ob (Cd (((),(),r164.1,[],0,()),(a0,Xf,()))) (se (fun y171=>(ob (Vd y171.1.2.2.1 ([32]:List UInt8)) fun r173=>
 (cond (bl (ln Zb+ln r173.1) Wa)
 (some (y171.2.1,(ap Zb r173.1),()))
 none))) (fun z172=>none))))))
 none))
 none)
 (some (a0,Za,())))
 (some (a0,Za,()))))
 (cond (a1==([119,97,121]:List UInt8))
 (cond (((ln a2:Nat):Int)==2)
 (cond (Rb (ln a2) 0)
 (ob a2[(tn 0)]? fun x174=>
 (cond (Rb (ln a2) 1)
 (ob a2[(tn 1)]? fun x175=>
 (ob (Fg a0.1.1.1 x174 x175) fun r176=>
 (cond (!r176.2.1)
 (some (a0,([110,111]:List UInt8),()))
 (ob (Cd (((),(),r176.1,[],0,()),(a0,Xf,()))) (se (fun y183=>(ob (Vd y183.1.2.2.1 ([32]:List UInt8)) fun r185=>
 (cond (bl (ln Zb+ln r185.1) Wa)
 (some (y183.2.1,(ap Zb r185.1),()))
 none))) (fun z184=>none))))))
 none))
 none)
 (some (a0,Za,())))
 (some (a0,Za,())))))))
def TA(t4:Unit)(t6:Unit)(t7:Ke)(t18:Rd)(t19:Int)(b4:Qa)(b6:Qa):Option (((Unit×(Unit×(Ke×UL)))×Iz)⊕(((Unit×(Unit×(Ke×TL)))×Iz)⊕((Unit×Hi)×ZV))):=
 (cond (decide (t19<((ln t7:Nat):Int)))
 (cond (Rb (ln t7) t19)
 (ob t7[(tn t19)]? fun x16=>
 (ob (Vt x16) fun r17=>
 (cond (!r17.2.1)
 (some (.inr (.inr (((),Za,()),(b6,())))))
 (cond (bl (ln t18+ln ([r17.1]:List Int)) Wa)
 (some (.inl (((),(),t7,(ap t18 ([r17.1]:List Int)),(wr .i64 (t19+1)),()),(b4,b6,()))))
 none))))
 none)
 (some (.inr (.inl (((),(),t7,t18,()),(b4,b6,()))))))
def Ys:=Va fun x:((Unit×(Unit×(Ke×UL)))×Iz)=>TA x.1.1 x.1.2.1 x.1.2.2.1 x.1.2.2.2.1 x.1.2.2.2.2.1 x.2.1 x.2.2.1
def VB(a0:Qa)(a1:Cc):Option KU:=
 (ob (ZG a0) fun r1=>
 (cond (!r1.1)
 (some (Xf,([98,97,100]:List UInt8),()))
 (ob (UN a0) fun r2=>
 (ob (Rh a1 32) fun r3=>
 (cond (Nd (ln r3.1) 1 ((ln r3.1:Nat):Int))
 (ob (Vd (Hb r3.1 (tn 1) (tn ((ln r3.1:Nat):Int))) ([32]:List UInt8)) fun r4=>
 (cond (a1==[])
 (some (r2.1,[],()))
 (ob (Ib a1 0) fun c5=>
 (cond (((UInt8.toNat c5:Nat):Int)==35)
 (some (r2.1,[],()))
 (cond (((ln r3.1:Nat):Int)==1)
 (ob (TN r2.1 a1) fun r6=>
 (some (r2.1,r6.1,())))
 (cond (Rb (ln r3.1) 0)
 (ob r3.1[(tn 0)]? fun x7=>
 (cond (x7==ZN)
 (ob (WA r4.1) fun r8=>
 (cond (!r8.2.1)
 (some (r2.1,([110,111]:List UInt8),()))
 (ob (Xg r2.1 r8.1 r2.1.1.1.2.1 r2.1.1.2.1) fun r9=>
 (some r9))))
 (cond (x7==Kp)
 (ob (XD r4.1) fun r10=>
 (cond (!r10.2.1)
 (some (r2.1,([110,111]:List UInt8),()))
 (cond (bl (ln r2.1.1.1.2.1+ln ([r10.1]:List Uf)) Wa)
 (ob (Xg r2.1 r2.1.1.1.1 (ap r2.1.1.1.2.1 ([r10.1]:List Uf)) r2.1.1.2.1) fun r11=>
 (some r11))
 none)))
 (ob (Ys (((),(),r3.1,[],1,()),(Xf,r2.1,()))) (se (fun y18=>(cond (Rb (ln y18.1.2.2.1) 0)
 (ob y18.1.2.2.1[(tn 0)]? fun x20=>
 (ob (AE y18.2.2.1 x20 y18.1.2.2.2.1) fun r21=>
 (some r21)))
 none)) (fun z19=>(some (z19.2.1,z19.1.2.1,()))))))))
 none))))))
 none)))))
def Uu(a0:Qa)(a1:Cc):Option Id:=
 (cond (decide (((ln a1:Nat):Int)>1048576))
 (some (true,()))
 (ob (QG a0 1048576) fun r1=>
 (cond (decide (r1.1<0))
 (some (true,()))
 (ob (Xm a0) fun r2=>
 (ob (VB r2.1 a1) fun r3=>
 (ob (Xm a0) fun r4=>
 (ob (Aw r4.1 a1) fun r5=>
 (ob (Wm r5.1 r3.1) fun r6=>
 (cond (!r6.1)
 (some (false,()))
 (cond (r5.2.1 !=r3.2.1)
 (some (false,()))
 (ob (Xm a0) fun r7=>
 (ob (Wm r4.1 r7.1) fun r8=>
 (cond (!r8.1)
 (some (false,()))
 (ob (Xr r4.1 1) fun r9=>
 (cond (decide (r9.2.1<0))
 (some (false,()))
 (ob (Wm r5.1 r3.1) fun r10=>
 (cond (!r10.1)
 (some (false,()))
 (cond (r5.2.1 !=r3.2.1)
 (some (false,()))
 (ob (Xr r5.1 1) fun r11=>
 (ob (Wr ((((r5.1.1.1.1.1,r11.1.1.1.1.2.1,()),r11.1.1.1.2.1,r5.1.1.1.2.2.1,r11.1.1.1.2.2.2.1,r5.1.1.1.2.2.2.2),r5.1.1.2.1,r11.1.1.2.2.1,r5.1.1.2.2.2),r11.1.2.1,()) 1) fun r12=>
 (cond (decide (r12.1<0))
 (some (false,()))
 (cond (r12.1 !=r11.2.1)
 (some (false,()))
 (ob (Xm a0) fun r13=>
 (ob (Aw r13.1 a1) fun r14=>
 (ob (Wm r14.1 r3.1) fun r15=>
 (cond (!r15.1)
 (some (false,()))
 (cond (r14.2.1 !=r3.2.1)
 (some (false,()))
 (ob (Wr ((((r5.1.1.1.1.1,r11.1.1.1.1.2.1,()),r11.1.1.1.2.1,r5.1.1.1.2.2.1,r11.1.1.1.2.2.2.1,r5.1.1.1.2.2.2.2),r5.1.1.2.1,r11.1.1.2.2.1,r5.1.1.2.2.2),r11.1.2.1,()) 1) fun r16=>
 (cond (decide (r16.1<0))
 (some (false,()))
 (cond (r16.1 !=r11.2.1)
 (some (false,()))
 (some (true,()))))))))))))))))))))))))))))))))
end
theorem NaG(a:(List Int))(hr:Et (.sl int) a)(l:Nat)(hl:l≤Da):DR a (l:Int)=some (AO (Ja (.sl int) a) l,()):=Pan (e:=int) (F:=DR) a hr l hl rfl rfl
theorem Fap(a:Ca)(hr:Et Jb a)(l:Nat)(hl:l≤Da):VJ a (l:Int)=some (AO (Ja Jb a) l,()):=by
 unfold VJ
 have hs:Ja Jb a=Ja (.sl int) a.2.1:=by simp only[Ja,yc,js,jt]
 rw[NaG a.2.1 hr.2.1 (l) (by omega)]
 simp only[jb]
 by_cases h0:Ja (.sl int) a.2.1≤l
 case neg=>rw[Gi h0,Gi (by omega)];rfl
 rw[Fl h0,Aa (by omega)]
 simp only[zk]
 rw[Fl (by omega),hs]
 try simp only[Nat.sub_sub,jt]
theorem PaG(a:Lc)(hr:Et Fd a)(l:Nat)(hl:l≤Da):UI a (l:Int)=some (AO (Ja Fd a) l,()):=by
 unfold UI
 have hs:Ja Fd a=Ja Jb a.2.1:=by simp only[Ja,yc,js,jt]
 rw[Fap a.2.1 hr.2.1 (l) (by omega)]
 simp only[jb]
 by_cases h0:Ja Jb a.2.1≤l
 case neg=>rw[Gi h0,Gi (by omega)];rfl
 rw[Fl h0,Aa (by omega)]
 simp only[zk]
 rw[Fl (by omega),hs]
 try simp only[Nat.sub_sub,jt]
theorem LaB(a:(List Lc))(hr:Et (.sl Fd) a)(l:Nat)(hl:l≤Da):CN a (l:Int)=some (AO (Ja (.sl Fd) a) l,()):=szS (e:=Fd) (f:=UI) (F:=CN) a hr l hl PaG rfl
theorem SaG(a:(List Int))(hz:Ja (.sl int) a≤Da):ER a=some (a,()):=by
 have h20:Da=1048576:=rfl
 have hz':ja a+(zg (Ja int) a).sum≤Da:=hz
 have hl:=Naf (step:=fun x:(((List Int)×((List Int)×(Int×Unit)))×Unit)=>JD x.1.1 x.1.2.1 x.1.2.2.1) a (zT int) (fun o i=>((a,o,i,()),())) (fun o=>.inl ((o,()),())) (by
  intro k hk o ho
  simp only[JD]
  rw[Ba (show(k:Int)<(ja a:Int) by omega),Nb hk]
  simp only[zj,jb]
  rw[Ve,Ba (show k<ja o by omega)]
  simp[je (show k<ja o by omega)]) (by
  intro o
  simp[JD]) (by omega)
 unfold ER CF
 rw[Lau (by rw[Bg];omega)]
 simp only[zj]
 rw[show jy ((ja a:Nat):Int)=ja a by simp]
 erw[hl]
 rfl
theorem Kap(a:Ca)(hz:Ja Jb a≤Da):ZJ a=some (a,()):=by
 unfold ZJ
 have hs:Ja Jb a=Ja (.sl int) a.2.1:=by simp only[Ja,yc,js,jt]
 rw[SaG a.2.1 (by omega)]
 simp only[jb]
theorem TaG(a:Lc)(hz:Ja Fd a≤Da):XI a=some (a,()):=by
 unfold XI
 have hs:Ja Fd a=Ja Jb a.2.1:=by simp only[Ja,yc,js,jt]
 rw[Kap a.2.1 (by omega)]
 simp only[jb]
theorem SaB(a:(List Lc))(hz:Ja (.sl Fd) a≤Da):IV a=some (a,()):=toS (e:=Fd) _ _ (f:=XI) a hz TaG rfl
theorem CaD(a:(List Int))(hz:Ja (.sl int) a≤Ie):CR a a=some (true,()):=by
 have h40:Ie=1099511627776:=rfl
 have hz':ja a+(zg (Ja int) a).sum≤Ie:=hz
 have hl:=EF (step:=fun x:(((List Int)×((List Int)×(Int×Unit)))×Unit)=>DD x.1.1 x.1.2.1 x.1.2.2.1) (fun k=>((a,a,(k:Int),()),())) (ja a) (.inl ((),())) (by
  intro k hk
  simp only[DD]
  rw[Ba (show(k:Int)<(ja a:Int) by omega),Nb hk]
  simp only[zj,jb]
  rw[bne_self_eq_false']
  simp only[zk]
  rw[Gc (by omega)]) (by
  simp[DD])
 unfold CR WE
 rw[bne_self_eq_false']
 simp only[zk]
 erw[hl]
 rfl
theorem Iao(a:Ca)(hz:Ja Jb a≤Ie):PJ a a=some (true,()):=by
 unfold PJ
 have hs:Ja Jb a=Ja (.sl int) a.2.1:=by simp only[Ja,yc,js,jt]
 simp only[bne_self_eq_false',zk,jg,jb,CaD a.2.1 (by omega)]
theorem DaD(a:Lc)(hz:Ja Fd a≤Ie):NI a a=some (true,()):=by
 unfold NI
 have hs:Ja Fd a=Ja Jb a.2.1:=by simp only[Ja,yc,js,jt]
 simp only[bne_self_eq_false',zk,jg,jb,Iao a.2.1 (by omega)]
theorem Naz(a:(List Lc))(hz:Ja (.sl Fd) a≤Ie):TM a a=some (true,()):=eqS (e:=Fd) (f:=NI) (F:=TM) a hz DaD rfl
theorem Man(a:(List Ma))(hr:Et (.sl Db) a)(l:Nat)(hl:l≤Da):Gy a (l:Int)=some (AO (Ja (.sl Db) a) l,()):=Pan (e:=Db) (F:=Gy) a hr l hl rfl rfl
theorem Yah(a:(List (List Ma)))(hr:Et (.sl (.sl Db)) a)(l:Nat)(hl:l≤Da):ID a (l:Int)=some (AO (Ja (.sl (.sl Db)) a) l,()):=szS (e:=(.sl Db)) (f:=Gy) (F:=ID) a hr l hl Man rfl
theorem Eap(a:Ia)(hr:Et Xa a)(l:Nat)(hl:l≤Da):UJ a (l:Int)=some (AO (Ja Xa a) l,()):=by
 unfold UJ
 have hs:Ja Xa a=Ja (.sl (.sl Db)) a.2.1:=by simp only[Ja,yc,js,jt]
 rw[Yah a.2.1 hr.2.1 (l) (by omega)]
 simp only[jb]
 by_cases h0:Ja (.sl (.sl Db)) a.2.1≤l
 case neg=>rw[Gi h0,Gi (by omega)];rfl
 rw[Fl h0,Aa (by omega)]
 simp only[zk]
 rw[Fl (by omega),hs]
 try simp only[Nat.sub_sub,jt]
theorem F7(a:Ma)(hz:Ja Db a≤Da):Rt a=some (a,()):=by
 unfold Rt
 rfl
theorem Ran(a:(List Ma))(hz:Ja (.sl Db) a≤Da):RG a=some (a,()):=toS (e:=Db) _ _ (f:=Rt) a hz F7 rfl
theorem Aai(a:(List (List Ma)))(hz:Ja (.sl (.sl Db)) a≤Da):EN a=some (a,()):=toS (e:=(.sl Db)) _ _ (f:=RG) a hz Ran rfl
theorem Jap(a:Ia)(hz:Ja Xa a≤Da):YJ a=some (a,()):=by
 unfold YJ
 have hs:Ja Xa a=Ja (.sl (.sl Db)) a.2.1:=by simp only[Ja,yc,js,jt]
 rw[Aai a.2.1 (by omega)]
 simp only[jb]
theorem N6(a:Ma)(hz:Ja Db a≤Ie):Qt a a=some (true,()):=by
 unfold Qt
 have hs:Ja Db a=0:=by simp only[Ja,yc,js,jt]
 simp only[bne_self_eq_false',zk,jg,jb]
theorem Mak(a:(List Ma))(hz:Ja (.sl Db) a≤Ie):Ey a a=some (true,()):=eqS (e:=Db) (f:=Qt) (F:=Ey) a hz N6 rfl
theorem Xag(a:(List (List Ma)))(hz:Ja (.sl (.sl Db)) a≤Ie):CD a a=some (true,()):=eqS (e:=(.sl Db)) (f:=Ey) (F:=CD) a hz Mak rfl
theorem Hao(a:Ia)(hz:Ja Xa a≤Ie):OJ a a=some (true,()):=by
 unfold OJ
 have hs:Ja Xa a=Ja (.sl (.sl Db)) a.2.1:=by simp only[Ja,yc,js,jt]
 simp only[bne_self_eq_false',zk,jg,jb,Xag a.2.1 (by omega)]
theorem Kao(a:Ua)(hz:Ja Xb a≤Ie):RJ a a=some (true,()):=by
 unfold RJ
 have hs:Ja Xb a=0:=by simp only[Ja,yc,js,jt]
 simp only[bne_self_eq_false',zk,jg,jb]
theorem Map(a:Ua)(hz:Ja Xb a≤Da):AK a=some (a,()):=by
 unfold AK
 rfl
theorem Laz(a:Ya)(hz:Ja De a≤Ie):VE a a=some (true,()):=by
 unfold VE
 have hs:Ja De a=0:=by simp only[Ja,yc,js,jt]
 simp only[bne_self_eq_false',zk,jg,jb]
theorem Gao(a:(List Ya))(hz:Ja (.sl De) a≤Ie):NJ a a=some (true,()):=eqS (e:=De) (f:=VE) (F:=NJ) a hz Laz rfl
theorem Dap(a:(List Ya))(hr:Et (.sl De) a)(l:Nat)(hl:l≤Da):TJ a (l:Int)=some (AO (Ja (.sl De) a) l,()):=Pan (e:=De) (F:=TJ) a hr l hl rfl rfl
theorem MaB(a:(List Ua))(hr:Et (.sl Xb) a)(l:Nat)(hl:l≤Da):AF a (l:Int)=some (AO (Ja (.sl Xb) a) l,()):=Pan (e:=Xb) (F:=AF) a hr l hl rfl rfl
theorem Gap(a:(List (List Ua)))(hr:Et (.sl (.sl Xb)) a)(l:Nat)(hl:l≤Da):WJ a (l:Int)=some (AO (Ja (.sl (.sl Xb)) a) l,()):=szS (e:=(.sl Xb)) (f:=AF) (F:=WJ) a hr l hl MaB rfl
theorem HaB(a:(List Pa))(hr:Et (.sl Jf) a)(l:Nat)(hl:l≤Da):BN a (l:Int)=some (AO (Ja (.sl Jf) a) l,()):=Pan (e:=Jf) (F:=BN) a hr l hl rfl rfl
theorem Cap(a:Gb)(hr:Et Mb a)(l:Nat)(hl:l≤Da):SJ a (l:Int)=some (AO (Ja Mb a) l,()):=by
 unfold SJ
 have hs:Ja Mb a=Ja Xa a.1+(Ja (.sl (.sl Xb)) a.2.1+(Ja (.sl Jf) a.2.2.2.1)):=by simp only[Ja,yc,js,jt]
 rw[Eap a.1 hr.1 (l) (by omega)]
 simp only[jb]
 by_cases h0:Ja Xa a.1≤l
 case neg=>rw[Gi h0,Gi (by omega)];rfl
 rw[Fl h0,Aa (by omega)]
 simp only[zk]
 rw[Gap a.2.1 hr.2.1 (l-Ja Xa a.1) (by omega)]
 simp only[jb]
 by_cases h1:Ja (.sl (.sl Xb)) a.2.1≤l-Ja Xa a.1
 case neg=>rw[Gi h1,Gi (by omega)];rfl
 rw[Fl h1,Aa (by omega)]
 simp only[zk]
 rw[HaB a.2.2.2.1 hr.2.2.2.1 (l-Ja Xa a.1-Ja (.sl (.sl Xb)) a.2.1) (by omega)]
 simp only[jb]
 by_cases h2:Ja (.sl Jf) a.2.2.2.1≤l-Ja Xa a.1-Ja (.sl (.sl Xb)) a.2.1
 case neg=>rw[Gi h2,Gi (by omega)];rfl
 rw[Fl h2,Aa (by omega)]
 simp only[zk]
 rw[Fl (by omega),hs]
 try simp only[Nat.sub_sub,jt]
theorem Nan(a:Ab)(hr:Et Ac a)(l:Nat)(hl:l≤Da):PG a (l:Int)=some (AO (Ja Ac a) l,()):=by
 unfold PG
 have hs:Ja Ac a=Ja Mb a.1+(Ja (.sl De) a.2.2.1):=by simp only[Ja,yc,js,jt]
 rw[Cap a.1 hr.1 (l) (by omega)]
 simp only[jb]
 by_cases h0:Ja Mb a.1≤l
 case neg=>rw[Gi h0,Gi (by omega)];rfl
 rw[Fl h0,Aa (by omega)]
 simp only[zk]
 rw[Dap a.2.2.1 hr.2.2.1 (l-Ja Mb a.1) (by omega)]
 simp only[jb]
 by_cases h1:Ja (.sl De) a.2.2.1≤l-Ja Mb a.1
 case neg=>rw[Gi h1,Gi (by omega)];rfl
 rw[Fl h1,Aa (by omega)]
 simp only[zk]
 rw[Fl (by omega),hs]
 try simp only[Nat.sub_sub,jt]
theorem QaB(a:Ya)(hz:Ja De a≤Da):BF a=some (a,()):=by
 unfold BF
 rfl
theorem Iap(a:(List Ya))(hz:Ja (.sl De) a≤Da):ET a=some (a,()):=toS (e:=De) _ _ (f:=BF) a hz QaB rfl
theorem UaG(a:Ua)(hz:Ja Xb a≤Da):YI a=some (a,()):=by
 unfold YI
 rfl
theorem TaB(a:(List Ua))(hz:Ja (.sl Xb) a≤Da):GN a=some (a,()):=toS (e:=Xb) _ _ (f:=YI) a hz UaG rfl
theorem Lap(a:(List (List Ua)))(hz:Ja (.sl (.sl Xb)) a≤Da):FT a=some (a,()):=toS (e:=(.sl Xb)) _ _ (f:=GN) a hz TaB rfl
theorem RaG(a:Pa)(hz:Ja Jf a≤Da):WI a=some (a,()):=by
 unfold WI
 have hs:Ja Jf a=0:=by simp only[Ja,yc,js,jt]
 rw[F7 a.2.1 (by rw[BL rfl];exact zd _)]
 simp only[jb]
theorem RaB(a:(List Pa))(hz:Ja (.sl Jf) a≤Da):HV a=some (a,()):=toS (e:=Jf) _ _ (f:=WI) a hz RaG rfl
theorem Hap(a:Gb)(hz:Ja Mb a≤Da):XJ a=some (a,()):=by
 unfold XJ
 have hs:Ja Mb a=Ja Xa a.1+(Ja (.sl (.sl Xb)) a.2.1+(Ja (.sl Jf) a.2.2.2.1)):=by simp only[Ja,yc,js,jt]
 rw[Jap a.1 (by omega)]
 simp only[jb]
 rw[Lap a.2.1 (by omega)]
 simp only[jb]
 rw[RaB a.2.2.2.1 (by omega)]
 simp only[jb]
theorem San(a:Ab)(hz:Ja Ac a≤Da):SG a=some (a,()):=by
 unfold SG
 have hs:Ja Ac a=Ja Mb a.1+(Ja (.sl De) a.2.2.1):=by simp only[Ja,yc,js,jt]
 rw[Hap a.1 (by omega)]
 simp only[jb]
 rw[Map a.2.1 (by rw[BL rfl];exact zd _)]
 simp only[jb]
 rw[Iap a.2.2.1 (by omega)]
 simp only[jb]
theorem EaD(a:Ua)(hz:Ja Xb a≤Ie):OI a a=some (true,()):=by
 unfold OI
 have hs:Ja Xb a=0:=by simp only[Ja,yc,js,jt]
 simp only[bne_self_eq_false',zk,jg,jb]
theorem Oaz(a:(List Ua))(hz:Ja (.sl Xb) a≤Ie):XE a a=some (true,()):=eqS (e:=Xb) (f:=OI) (F:=XE) a hz EaD rfl
theorem Jao(a:(List (List Ua)))(hz:Ja (.sl (.sl Xb)) a≤Ie):QJ a a=some (true,()):=eqS (e:=(.sl Xb)) (f:=XE) (F:=QJ) a hz Oaz rfl
theorem BaD(a:Pa)(hz:Ja Jf a≤Ie):MI a a=some (true,()):=by
 unfold MI
 have hs:Ja Jf a=0:=by simp only[Ja,yc,js,jt]
 simp only[bne_self_eq_false',zk,jg,jb,N6 a.2.1 (by rw[BL rfl];exact zd _)]
theorem Maz(a:(List Pa))(hz:Ja (.sl Jf) a≤Ie):SM a a=some (true,()):=eqS (e:=Jf) (f:=MI) (F:=SM) a hz BaD rfl
theorem Fao(a:Gb)(hz:Ja Mb a≤Ie):MJ a a=some (true,()):=by
 unfold MJ
 have hs:Ja Mb a=Ja Xa a.1+(Ja (.sl (.sl Xb)) a.2.1+(Ja (.sl Jf) a.2.2.2.1)):=by simp only[Ja,yc,js,jt]
 simp only[bne_self_eq_false',zk,jg,jb,Hao a.1 (by omega),Jao a.2.1 (by omega),Maz a.2.2.2.1 (by omega)]
theorem Nak(a:Ab)(hz:Ja Ac a≤Ie):OG a a=some (true,()):=by
 unfold OG
 have hs:Ja Ac a=Ja Mb a.1+(Ja (.sl De) a.2.2.1):=by simp only[Ja,yc,js,jt]
 simp only[bne_self_eq_false',zk,jg,jb,Fao a.1 (by omega),Kao a.2.1 (by rw[BL rfl];exact zd _),Gao a.2.2.1 (by omega)]
theorem Qan(a:Qa)(hr:Et Bc a)(l:Nat)(hl:l≤Da):QG a (l:Int)=some (AO (Ja Bc a) l,()):=by
 unfold QG
 have hs:Ja Bc a=Ja Ac a.1+(Ja (.sl Fd) a.2.1):=by simp only[Ja,yc,js,jt]
 rw[Nan a.1 hr.1 (l) (by omega)]
 simp only[jb]
 by_cases h0:Ja Ac a.1≤l
 case neg=>rw[Gi h0,Gi (by omega)];rfl
 rw[Fl h0,Aa (by omega)]
 simp only[zk]
 rw[LaB a.2.1 hr.2.1 (l-Ja Ac a.1) (by omega)]
 simp only[jb]
 by_cases h1:Ja (.sl Fd) a.2.1≤l-Ja Ac a.1
 case neg=>rw[Gi h1,Gi (by omega)];rfl
 rw[Fl h1,Aa (by omega)]
 simp only[zk]
 rw[Fl (by omega),hs]
 try simp only[Nat.sub_sub,jt]
theorem Uan(a:Qa)(hz:Ja Bc a≤Da):Xm a=some (a,()):=by
 unfold Xm
 have hs:Ja Bc a=Ja Ac a.1+(Ja (.sl Fd) a.2.1):=by simp only[Ja,yc,js,jt]
 rw[San a.1 (by omega)]
 simp only[jb]
 rw[SaB a.2.1 (by omega)]
 simp only[jb]
theorem Z2(a:Qa)(hz:Ja Bc a≤Ie):Wm a a=some (true,()):=by
 unfold Wm
 have hs:Ja Bc a=Ja Ac a.1+(Ja (.sl Fd) a.2.1):=by simp only[Ja,yc,js,jt]
 simp only[bne_self_eq_false',zk,jg,jb,Nak a.1 (by omega),Naz a.2.1 (by omega)]
theorem Qao(a:(List Int))(k:Nat)(hk:k+8*Ja (.sl int) a≤Ie):∃(a':(List Int)) (k':Nat),k≤k'∧k'≤k+8*Ja (.sl int) a∧DT a (k:Int)=some (a',((k':Int),()))∧CT a' (k:Int)=some ((k':Int),())∧kf (.sl int) a a':=UW (e:=int) (RM:=Ax) (RH:=Zw) (fun _ _=>rfl) (fun _ _=>rfl) (by
 have h40:Ie=1099511627776:=rfl
 intro o k i hi hB
 have hw:j4 .i64 (((k:Nat):Int)+1)=(((k+1):Nat):Int):=Gc (by omega)
 refine⟨((k:Nat):Int),k+1,by omega,by omega,?_,?_⟩
 ·simp only[Ax]
  rw[Ba (show(i:Int)<(ja o:Int) by omega)]
  simp only[hw,zj,Ve,j7,Ba hi,jn,je hi,qm hi,jb,List.set_set,z3,zk]
 ·intro o2 hi2 h2
  simp only[Zw]
  rw[Ba (show(i:Int)<(ja o2:Int) by omega),Nb hi2,h2]
  simp only[hw,zj,jb,bne_self_eq_false',zk,z3]) (by
 intro o k
 simp only[Ax]
 rw[Aa (by omega)]
 rfl) (by
 intro o k
 simp only[Zw]
 rw[Aa (by omega)]
 rfl) a k hk
theorem Dam(a:(List Lc))(k:Nat)(hk:k+8*Ja (.sl Fd) a≤Ie):∃(a':(List Lc)) (k':Nat),k≤k'∧k'≤k+8*Ja (.sl Fd) a∧TP a (k:Int)=some (a',((k':Int),()))∧QP a' (k:Int)=some ((k':Int),())∧kf (.sl Fd) a a':=UW (e:=Fd) (RM:=Zu) (RH:=Wu) (fun _ _=>rfl) (fun _ _=>rfl) (by
 have h40:Ie=1099511627776:=rfl
 intro o k i hi hB
 have hs:Ja Fd o[i]=Ja (.sl int) o[i].2.1.2.1:=by simp only[Ja,yc,js,jt]
 have w0:j4 .i64 (((k:Nat):Int)+1)=(((k+1):Nat):Int):=Gc (by omega)
 have w1:j4 .i64 ((((k+1):Nat):Int)+1)=((((k+1)+1):Nat):Int):=Gc (by omega)
 obtain⟨y0,k0,g0,i0,m0,n0,_⟩:=Qao o[i].2.1.2.1 ((k+1)+1) (by omega)
 have d0:decide ((k0:Int)<0)=false:=Aa (by omega)
 refine⟨(((k:Nat):Int),((((k+1):Nat):Int),y0,()),()),k0,by omega,by omega,?_,?_⟩
 ·simp only[Zu]
  rw[Ba (show(i:Int)<(ja o:Int) by omega)]
  simp only[w0,w1,m0,zj,Ve,j7,Ba hi,jn,je hi,qm hi,jb,List.set_set,z3,zk]
 ·intro o2 hi2 h2
  simp only[Wu]
  rw[Ba (show(i:Int)<(ja o2:Int) by omega),Nb hi2,h2]
  simp only[w0,w1,n0,d0,zj,jb,bne_self_eq_false',zk,z3]) (by
 intro o k
 simp only[Zu]
 rw[Aa (by omega)]
 rfl) (by
 intro o k
 simp only[Wu]
 rw[Aa (by omega)]
 rfl) a k hk
theorem Yad(a:(List Ma))(k:Nat)(hk:k+8*Ja (.sl Db) a≤Ie):∃(a':(List Ma)) (k':Nat),k≤k'∧k'≤k+8*Ja (.sl Db) a∧QK a (k:Int)=some (a',((k':Int),()))∧PK a' (k:Int)=some ((k':Int),())∧kf (.sl Db) a a':=UW (e:=Db) (RM:=Hq) (RH:=Gq) (fun _ _=>rfl) (fun _ _=>rfl) (by
 have h40:Ie=1099511627776:=rfl
 intro o k i hi hB
 have hw:j4 .i64 (((k:Nat):Int)+1)=(((k+1):Nat):Int)∧j4 .i64 ((((k+1):Nat):Int)+1)=(((k+2):Nat):Int)∧j4 .i64 ((((k+2):Nat):Int)+1)=(((k+3):Nat):Int)∧j4 .i64 ((((k+3):Nat):Int)+1)=(((k+4):Nat):Int):=⟨Gc (by omega),Gc (by omega),Gc (by omega),Gc (by omega)⟩
 obtain⟨w0,w1,w2,w3⟩:=hw
 refine⟨(((k:Nat):Int),(((k+1):Nat):Int),(((k+2):Nat):Int),(((k+3):Nat):Int),()),k+4,by omega,by omega,?_,?_⟩
 ·simp only[Hq]
  rw[Ba (show(i:Int)<(ja o:Int) by omega)]
  simp only[w0,w1,w2,w3,zj,Ve,j7,Ba hi,jn,je hi,qm hi,jb,List.set_set,z3,zk]
 ·intro o2 hi2 h2
  simp only[Gq]
  rw[Ba (show(i:Int)<(ja o2:Int) by omega),Nb hi2,h2]
  simp only[w0,w1,w2,w3,zj,jb,bne_self_eq_false',zk,z3]) (by
 intro o k
 simp only[Hq]
 rw[Aa (by omega)]
 rfl) (by
 intro o k
 simp only[Gq]
 rw[Aa (by omega)]
 rfl) a k hk
theorem Qab(a:(List (List Ma)))(k:Nat)(hk:k+8*Ja (.sl (.sl Db)) a≤Ie):∃(a':(List (List Ma))) (k':Nat),k≤k'∧k'≤k+8*Ja (.sl (.sl Db)) a∧WH a (k:Int)=some (a',((k':Int),()))∧VH a' (k:Int)=some ((k':Int),())∧kf (.sl (.sl Db)) a a':=UW (e:=(.sl Db)) (RM:=Ro) (RH:=Qo) (fun _ _=>rfl) (fun _ _=>rfl) (by
 have h40:Ie=1099511627776:=rfl
 intro o k i hi hB
 obtain⟨y0,k0,g0,i0,m0,n0,_⟩:=Yad o[i] k (by omega)
 have d0:decide ((k0:Int)<0)=false:=Aa (by omega)
 refine⟨y0,k0,by omega,by omega,?_,?_⟩
 ·simp only[Ro]
  rw[Ba (show(i:Int)<(ja o:Int) by omega)]
  simp only[m0,zj,Ve,j7,Ba hi,jn,je hi,qm hi,jb,List.set_set,z3,zk]
 ·intro o2 hi2 h2
  simp only[Qo]
  rw[Ba (show(i:Int)<(ja o2:Int) by omega),Nb hi2,h2]
  simp only[n0,d0,zj,jb,bne_self_eq_false',zk,z3]) (by
 intro o k
 simp only[Ro]
 rw[Aa (by omega)]
 rfl) (by
 intro o k
 simp only[Qo]
 rw[Aa (by omega)]
 rfl) a k hk
theorem Lah(a:Ia)(k:Nat)(hk:k+8*Ja Xa a≤Ie):∃(a':Ia) (k':Nat),k≤k'∧k'≤k+8*Ja Xa a∧HD a (k:Int)=some (a',((k':Int),()))∧FD a' (k:Int)=some ((k':Int),())∧kf Xa a a':=by
 have h40:Ie=1099511627776:=rfl
 have hs:Ja Xa a=Ja (.sl (.sl Db)) a.2.1:=by simp only[Ja,yc,js,jt]
 obtain⟨x0,k0,g0,i0,m0,n0,f0⟩:=Qab a.2.1 k (by omega)
 refine⟨(a.1,x0,()),k0,by omega,by omega,?_,?_,Dy _ _,f0,rfl⟩
 ·unfold HD
  simp only[m0,jb]
 ·unfold FD
  simp only[n0,jb]
  rw[Aa (by omega)]
  simp only[zk]
theorem Kah(a:(List Ya))(k:Nat)(hk:k+8*Ja (.sl De) a≤Ie):∃(a':(List Ya)) (k':Nat),k≤k'∧k'≤k+8*Ja (.sl De) a∧YM a (k:Int)=some (a',((k':Int),()))∧VM a' (k:Int)=some ((k':Int),())∧kf (.sl De) a a':=UW (e:=De) (RM:=Ws) (RH:=Us) (fun _ _=>rfl) (fun _ _=>rfl) (by
 have h40:Ie=1099511627776:=rfl
 intro o k i hi hB
 have hw:j4 .i64 (((k:Nat):Int)+1)=(((k+1):Nat):Int)∧j4 .i64 ((((k+1):Nat):Int)+1)=(((k+2):Nat):Int)∧j4 .i64 ((((k+2):Nat):Int)+1)=(((k+3):Nat):Int):=⟨Gc (by omega),Gc (by omega),Gc (by omega)⟩
 obtain⟨w0,w1,w2⟩:=hw
 refine⟨(((k:Nat):Int),(((k+1):Nat):Int),(ye (((k+2):Nat):Int) 3==0),()),k+3,by omega,by omega,?_,?_⟩
 ·simp only[Ws]
  rw[Ba (show(i:Int)<(ja o:Int) by omega)]
  simp only[w0,w1,w2,zj,Ve,j7,Ba hi,jn,je hi,qm hi,jb,List.set_set,z3,zk]
 ·intro o2 hi2 h2
  simp only[Us]
  rw[Ba (show(i:Int)<(ja o2:Int) by omega),Nb hi2,h2]
  simp only[w0,w1,w2,zj,jb,bne_self_eq_false',zk,z3]) (by
 intro o k
 simp only[Ws]
 rw[Aa (by omega)]
 rfl) (by
 intro o k
 simp only[Us]
 rw[Aa (by omega)]
 rfl) a k hk
theorem Eam(a:(List Ua))(k:Nat)(hk:k+8*Ja (.sl Xb) a≤Ie):∃(a':(List Ua)) (k':Nat),k≤k'∧k'≤k+8*Ja (.sl Xb) a∧UP a (k:Int)=some (a',((k':Int),()))∧RP a' (k:Int)=some ((k':Int),())∧kf (.sl Xb) a a':=UW (e:=Xb) (RM:=Av) (RH:=Xu) (fun _ _=>rfl) (fun _ _=>rfl) (by
 have h40:Ie=1099511627776:=rfl
 intro o k i hi hB
 have hw:j4 .i64 (((k:Nat):Int)+1)=(((k+1):Nat):Int)∧j4 .i64 ((((k+1):Nat):Int)+1)=(((k+2):Nat):Int)∧j4 .i64 ((((k+2):Nat):Int)+1)=(((k+3):Nat):Int):=⟨Gc (by omega),Gc (by omega),Gc (by omega)⟩
 obtain⟨w0,w1,w2⟩:=hw
 refine⟨(((k:Nat):Int),(((k+1):Nat):Int),(((k+2):Nat):Int),()),k+3,by omega,by omega,?_,?_⟩
 ·simp only[Av]
  rw[Ba (show(i:Int)<(ja o:Int) by omega)]
  simp only[w0,w1,w2,zj,Ve,j7,Ba hi,jn,je hi,qm hi,jb,List.set_set,z3,zk]
 ·intro o2 hi2 h2
  simp only[Xu]
  rw[Ba (show(i:Int)<(ja o2:Int) by omega),Nb hi2,h2]
  simp only[w0,w1,w2,zj,jb,bne_self_eq_false',zk,z3]) (by
 intro o k
 simp only[Av]
 rw[Aa (by omega)]
 rfl) (by
 intro o k
 simp only[Xu]
 rw[Aa (by omega)]
 rfl) a k hk
theorem Mah(a:(List (List Ua)))(k:Nat)(hk:k+8*Ja (.sl (.sl Xb)) a≤Ie):∃(a':(List (List Ua))) (k':Nat),k≤k'∧k'≤k+8*Ja (.sl (.sl Xb)) a∧AN a (k:Int)=some (a',((k':Int),()))∧XM a' (k:Int)=some ((k':Int),())∧kf (.sl (.sl Xb)) a a':=UW (e:=(.sl Xb)) (RM:=Xs) (RH:=Vs) (fun _ _=>rfl) (fun _ _=>rfl) (by
 have h40:Ie=1099511627776:=rfl
 intro o k i hi hB
 obtain⟨y0,k0,g0,i0,m0,n0,_⟩:=Eam o[i] k (by omega)
 have d0:decide ((k0:Int)<0)=false:=Aa (by omega)
 refine⟨y0,k0,by omega,by omega,?_,?_⟩
 ·simp only[Xs]
  rw[Ba (show(i:Int)<(ja o:Int) by omega)]
  simp only[m0,zj,Ve,j7,Ba hi,jn,je hi,qm hi,jb,List.set_set,z3,zk]
 ·intro o2 hi2 h2
  simp only[Vs]
  rw[Ba (show(i:Int)<(ja o2:Int) by omega),Nb hi2,h2]
  simp only[n0,d0,zj,jb,bne_self_eq_false',zk,z3]) (by
 intro o k
 simp only[Xs]
 rw[Aa (by omega)]
 rfl) (by
 intro o k
 simp only[Vs]
 rw[Aa (by omega)]
 rfl) a k hk
theorem Cam(a:(List Pa))(k:Nat)(hk:k+8*Ja (.sl Jf) a≤Ie):∃(a':(List Pa)) (k':Nat),k≤k'∧k'≤k+8*Ja (.sl Jf) a∧SP a (k:Int)=some (a',((k':Int),()))∧PP a' (k:Int)=some ((k':Int),())∧kf (.sl Jf) a a':=UW (e:=Jf) (RM:=Yu) (RH:=Vu) (fun _ _=>rfl) (fun _ _=>rfl) (by
 have h40:Ie=1099511627776:=rfl
 intro o k i hi hB
 have hw:j4 .i64 (((k:Nat):Int)+1)=(((k+1):Nat):Int)∧j4 .i64 ((((k+1):Nat):Int)+1)=(((k+2):Nat):Int)∧j4 .i64 ((((k+2):Nat):Int)+1)=(((k+3):Nat):Int)∧j4 .i64 ((((k+3):Nat):Int)+1)=(((k+4):Nat):Int)∧j4 .i64 ((((k+4):Nat):Int)+1)=(((k+5):Nat):Int):=⟨Gc (by omega),Gc (by omega),Gc (by omega),Gc (by omega),Gc (by omega)⟩
 obtain⟨w0,w1,w2,w3,w4⟩:=hw
 refine⟨(((k:Nat):Int),((((k+1):Nat):Int),(((k+2):Nat):Int),(((k+3):Nat):Int),(((k+4):Nat):Int),()),()),k+5,by omega,by omega,?_,?_⟩
 ·simp only[Yu]
  rw[Ba (show(i:Int)<(ja o:Int) by omega)]
  simp only[w0,w1,w2,w3,w4,zj,Ve,j7,Ba hi,jn,je hi,qm hi,jb,List.set_set,z3,zk]
 ·intro o2 hi2 h2
  simp only[Vu]
  rw[Ba (show(i:Int)<(ja o2:Int) by omega),Nb hi2,h2]
  simp only[w0,w1,w2,w3,w4,zj,jb,bne_self_eq_false',zk,z3]) (by
 intro o k
 simp only[Yu]
 rw[Aa (by omega)]
 rfl) (by
 intro o k
 simp only[Vu]
 rw[Aa (by omega)]
 rfl) a k hk
theorem Jah(a:Gb)(k:Nat)(hk:k+8*Ja Mb a≤Ie):∃(a':Gb) (k':Nat),k≤k'∧k'≤k+8*Ja Mb a∧GD a (k:Int)=some (a',((k':Int),()))∧ED a' (k:Int)=some ((k':Int),())∧kf Mb a a':=by
 have h40:Ie=1099511627776:=rfl
 have hs:Ja Mb a=Ja Xa a.1+(Ja (.sl (.sl Xb)) a.2.1+(Ja (.sl Jf) a.2.2.2.1)):=by simp only[Ja,yc,js,jt]
 obtain⟨x0,k0,g0,i0,m0,n0,f0⟩:=Lah a.1 k (by omega)
 obtain⟨x1,k1,g1,i1,m1,n1,f1⟩:=Mah a.2.1 k0 (by omega)
 obtain⟨x2,k2,g2,i2,m2,n2,f2⟩:=Cam a.2.2.2.1 k1 (by omega)
 refine⟨(x0,x1,a.2.2.1,x2,a.2.2.2.2.1,a.2.2.2.2.2.1,()),k2,by omega,by omega,?_,?_,f0,f1,Dy _ _,f2,Dy _ _,Dy _ _,rfl⟩
 ·unfold GD
  simp only[kf,true_and,and_true]at f0
  simp only[m0,m1,m2,jb]
  simp only[jc,Prod.ext_iff,f0,and_self]
 ·unfold ED
  simp only[n0,jb]
  rw[Aa (by omega)]
  simp only[zk]
  simp only[n1,jb]
  rw[Aa (by omega)]
  simp only[zk]
  simp only[n2,jb]
  rw[Aa (by omega)]
  simp only[zk]
theorem Zad(a:Ab)(k:Nat)(hk:k+8*Ja Ac a≤Ie):∃(a':Ab) (k':Nat),k≤k'∧k'≤k+8*Ja Ac a∧MA a (k:Int)=some (a',((k':Int),()))∧LA a' (k:Int)=some ((k':Int),())∧kf Ac a a':=by
 have h40:Ie=1099511627776:=rfl
 have hs:Ja Ac a=Ja Mb a.1+(Ja (.sl De) a.2.2.1):=by simp only[Ja,yc,js,jt]
 obtain⟨x0,k0,g0,i0,m0,n0,f0⟩:=Jah a.1 k (by omega)
 obtain⟨x1,k1,g1,i1,m1,n1,f1⟩:=Kah a.2.2.1 k0 (by omega)
 refine⟨(x0,a.2.1,x1,a.2.2.2.1,a.2.2.2.2.1,a.2.2.2.2.2.1,a.2.2.2.2.2.2.1,()),k1,by omega,by omega,?_,?_,f0,Dy _ _,f1,Dy _ _,Dy _ _,Dy _ _,Dy _ _,rfl⟩
 ·unfold MA
  simp only[kf,true_and,and_true]at f0
  simp only[m0,m1,jb]
  simp only[jc,Prod.ext_iff,f0,and_self]
 ·unfold LA
  simp only[n0,jb]
  rw[Aa (by omega)]
  simp only[zk]
  simp only[n1,jb]
  rw[Aa (by omega)]
  simp only[zk]
theorem AZ(a:Qa)(k:Nat)(hk:k+8*Ja Bc a≤Ie):∃(a':Qa) (k':Nat),k≤k'∧k'≤k+8*Ja Bc a∧Xr a (k:Int)=some (a',((k':Int),()))∧Wr a' (k:Int)=some ((k':Int),())∧kf Bc a a':=by
 have h40:Ie=1099511627776:=rfl
 have hs:Ja Bc a=Ja Ac a.1+(Ja (.sl Fd) a.2.1):=by simp only[Ja,yc,js,jt]
 obtain⟨x0,k0,g0,i0,m0,n0,f0⟩:=Zad a.1 k (by omega)
 obtain⟨x1,k1,g1,i1,m1,n1,f1⟩:=Dam a.2.1 k0 (by omega)
 refine⟨(x0,x1,()),k1,by omega,by omega,?_,?_,f0,f1,rfl⟩
 ·unfold Xr
  simp only[kf,true_and,and_true]at f0
  simp only[m0,m1,jb]
  simp only[jc,Prod.ext_iff,f0,and_self]
 ·unfold Wr
  simp only[n0,jb]
  rw[Aa (by omega)]
  simp only[zk]
  simp only[n1,jb]
  rw[Aa (by omega)]
  simp only[zk]
def Dd(k c m n:Int):Prop:=
 ((k=0∨k=1∨k=10)∧c=0∧m=0∧n=0)∨
 (k=2∧n=0∧(c=0∨1≤c∧c≤56)∧(m=0∨1≤m∧m≤15)∧(c≠0∨m≠0))∨
 ((k=3∨k=4)∧c=0∧m=0∧1≤n∧n≤3)∨
 ((k=5∨k=9)∧c=0∧m=0∧0≤n∧n≤3)∨
 (k=6∧1≤c∧c≤56∧1≤m∧m≤15∧n=0)∨
 (k=7∧1≤c∧c≤56∧m=0∧1≤n∧n≤3)∨
 (k=8∧c=0∧1≤m∧m≤15∧n=0)
noncomputable def Ub(a:Ma):Bool:=open Classical in decide (Dd a.1 a.2.1 a.2.2.1 a.2.2.2.1)
theorem Yb(a:Ma):Ub a=true↔Dd a.1 a.2.1 a.2.2.1 a.2.2.2.1:=by simp[Ub]
theorem Um(c:Int):Tq c=some (decide (1≤c∧c≤56),()):=by
 simp only[Tq,Uk,Vk]
 apply Kd;simp only[Ae,decide_eq_true_eq,LU,TZ,jq,and_false,false_and,or_false,false_or,and_true,true_and,not_true_eq_false,not_false_eq_true];try omega
theorem VY(c:Int):Hw c=some (decide (1≤c∧c≤15),()):=by
 simp only[Hw,Uk,Vk]
 apply Kd;simp only[Ae,decide_eq_true_eq,LU,TZ,jq,and_false,false_and,or_false,false_or,and_true,true_and,not_true_eq_false,not_false_eq_true];try omega
theorem MW(c:Int):Wx c=some (decide (1≤c∧c≤3),()):=by
 simp only[Wx,Uk,Vk]
 apply Kd;simp only[Ae,decide_eq_true_eq,LU,TZ,jq,and_false,false_and,or_false,false_or,and_true,true_and,not_true_eq_false,not_false_eq_true];try omega
theorem Bd(c a b:Int):Yc c a b=some (decide (a≤c∧c≤b),()):=by
 simp only[Yc,Uk,Vk]
 apply Kd;simp only[Ae,decide_eq_true_eq,LU,TZ,jq,and_false,false_and,or_false,false_or,and_true,true_and,not_true_eq_false,not_false_eq_true];try omega
theorem Rm(a:Ma):Cj a=some (Ub a,()):=by
 obtain⟨k,c,m,n,u⟩:=a
 have key:∀k c m n:Int,Cj (k,c,m,n,u)=some (Ub (k,c,m,n,u),()):=by
  intro k c m n
  simp only[Cj,Um,VY,MW,Bd,jb,Uk,Vk]
  by_cases h0:k=0
  ·subst h0;apply Kd;rw[Yb];simp[Dd,Ae];try omega
  by_cases h1:k=1
  ·subst h1;apply Kd;rw[Yb];simp[Dd,Ae];try omega
  by_cases h2:k=2
  ·subst h2;apply Kd;rw[Yb];simp[Dd,Ae];intro hn;(repeat' split)<;>omega
  by_cases h3:k=3
  ·subst h3;apply Kd;rw[Yb];simp[Dd,Ae];try omega
  by_cases h4:k=4
  ·subst h4;apply Kd;rw[Yb];simp[Dd,Ae];try omega
  by_cases h5:k=5
  ·subst h5;apply Kd;rw[Yb];simp[Dd,Ae];try omega
  by_cases h6:k=6
  ·subst h6;apply Kd;rw[Yb];simp[Dd,Ae];try omega
  by_cases h7:k=7
  ·subst h7;apply Kd;rw[Yb];simp[Dd,Ae];try omega
  by_cases h8:k=8
  ·subst h8;apply Kd;rw[Yb];simp[Dd,Ae];try omega
  by_cases h9:k=9
  ·subst h9;apply Kd;rw[Yb];simp[Dd,Ae];try omega
  by_cases h10:k=10
  ·subst h10;apply Kd;rw[Yb];simp[Dd,Ae];try omega
  have g:∀j:Int,(k==j)=decide (k=j):=fun j=>by rw[qo];simp
  apply Kd;rw[Yb];simp[Dd,Ae,h0,h1,h2,h3,h4,h5,h6,h7,h8,h9,h10]
 exact key k c m n
theorem Ds(a:Ma):Nk a=some (Ub a,()):=by
 obtain⟨k,c,m,n,u⟩:=a
 have key:∀k c m n:Int,Nk (k,c,m,n,u)=some (Ub (k,c,m,n,u),()):=by
  intro k c m n
  simp only[Nk,Um,VY,MW,Bd,jb,Uk,Vk]
  by_cases h0:k=0
  ·subst h0;apply Kd;rw[Yb];simp[Dd,Ae];try omega
  by_cases h1:k=1
  ·subst h1;apply Kd;rw[Yb];simp[Dd,Ae];try omega
  by_cases h2:k=2
  ·subst h2;apply Kd;rw[Yb];simp[Dd,Ae];intro hn;(repeat' split)<;>omega
  by_cases h3:k=3
  ·subst h3;apply Kd;rw[Yb];simp[Dd,Ae];try omega
  by_cases h4:k=4
  ·subst h4;apply Kd;rw[Yb];simp[Dd,Ae];try omega
  by_cases h5:k=5
  ·subst h5;apply Kd;rw[Yb];simp[Dd,Ae];try omega
  by_cases h6:k=6
  ·subst h6;apply Kd;rw[Yb];simp[Dd,Ae];try omega
  by_cases h7:k=7
  ·subst h7;apply Kd;rw[Yb];simp[Dd,Ae];try omega
  by_cases h8:k=8
  ·subst h8;apply Kd;rw[Yb];simp[Dd,Ae];try omega
  by_cases h9:k=9
  ·subst h9;apply Kd;rw[Yb];simp[Dd,Ae];try omega
  by_cases h10:k=10
  ·subst h10;apply Kd;rw[Yb];simp[Dd,Ae];try omega
  have g:∀j:Int,(k==j)=decide (k=j):=fun j=>by rw[qo];simp
  apply Kd;rw[Yb];simp[Dd,Ae,h0,h1,h2,h3,h4,h5,h6,h7,h8,h9,h10]
 exact key k c m n
noncomputable def Tl(nl:Nat)(i:Nat)(a:Ma):Bool:=Ub a&&!(((i:Int)==0)&&(a.1==1))&&!((a.1 !=9)&&decide (a.2.2.2.1≥(nl:Int)))
noncomputable def Zr(keys:Int)(nl:Nat)(i:Nat)(l:List Ma):Bool:=((ja l:Int)==keys)&&Ig (fun _ a=>Tl nl i a) 0 l
noncomputable def Uc(m:Ia):Bool:=
 decide (1≤m.1∧m.1≤32)&&decide (1≤m.2.1.length∧m.2.1.length≤4)&&Ig (fun i l=>Zr m.1 m.2.1.length i l) 0 m.2.1
theorem G8(m:Ia)(i:Nat)(l:List Ma)(L:List (List Ma))(n:Int)(t:Int)(hl:l.length<9223372036854775807):
 Aq (((),(i:Int),L,n,t,l,(l.length:Int),(0:Int),()),(m,()))=
  some (cond (Ig (fun _ a=>Tl m.2.1.length i a) 0 l) (.inl (((),L,n,t,()),(m,()))) (.inr ((false,()),()))):=by
 unfold Aq
 refine Kh (step:=_) l (fun _ a=>Tl m.2.1.length i a) (fun j=>(((),(i:Int),L,n,t,l,(l.length:Int),j,()),(m,()))) _ _ ?_ ?_ hl
 ·intro k hk
  simp only[SH]
  rw[Ba (show(k:Int)<(l.length:Int) by omega),Nb hk]
  simp only[zj,jb,Tl,Rm]
  cases Ub l[k]<;>cases((i:Int)==0)<;>cases(l[k].1==1)<;>cases(l[k].1 !=9)<;>cases decide (l[k].2.2.2.1≥(m.2.1.length:Int))<;>rfl
 ·simp[SH]
theorem Vi(m:Ia)(hz:Ja Xa m≤Da):Am m=some (Uc m,()):=by
 have h20:Da=1048576:=rfl
 have hz':m.2.1.length+(zg (Ja (.sl Db)) m.2.1).sum≤Da:=by
  have:Ja Xa m=Ja (.sl (.sl Db)) m.2.1:=by simp only[Ja,yc,js]
  rw[this]at hz;exact hz
 have hl:∀k (hk:k<m.2.1.length),m.2.1[k].length≤Da:=by
  intro k hk
  have:=Sv (f:=Ja (.sl Db)) hk
  have h2:m.2.1[k].length≤Ja (.sl Db) m.2.1[k]:=Nat.le_add_right _ _
  omega
 have hloop:Zp (((),m.2.1,((ja m.2.1:Nat):Int),(0:Int),()),(m,()))=
  some (cond (Ig (fun i l=>Zr m.1 m.2.1.length i l) 0 m.2.1) (.inl ((),())) (.inr ((false,()),()))):=by
  unfold Zp
  refine Kh (step:=_) m.2.1 (fun i l=>Zr m.1 m.2.1.length i l) (fun j=>(((),m.2.1,((ja m.2.1:Nat):Int),j,()),(m,()))) _ _ ?_ ?_ (by omega)
  ·intro k hk
   have:=hl k hk
   simp only[QH]
   rw[Ba (show(k:Int)<(m.2.1.length:Int) by omega),Nb hk]
   simp only[zj,jb,Zr]
   rw[G8 m k _ _ _ _ (by omega)]
   show(cond (!((m.2.1[k].length:Int)==m.1)) _ _)=_
   cases((m.2.1[k].length:Int)==m.1)<;>cases Ig (fun _ a=>Tl m.2.1.length k a) 0 m.2.1[k]<;>rfl
  ·simp[QH]
 unfold Am
 rw[hloop]
 simp only[jb,Uaf,Uk,Vk]
 apply Kd
 simp only[Ae,Uc,jd,decide_eq_true_eq,jq,and_false,false_or,and_true,or_false]
 generalize Ig (fun i l=>Zr m.1 m.2.1.length i l) 0 m.2.1=b
 constructor
 ·rintro⟨h1,h2,h3,h4,h5⟩;exact⟨⟨by omega,by omega⟩,h5⟩
 ·rintro⟨⟨h1,h2⟩,h5⟩;exact⟨by omega,by omega,by omega,by omega,h5⟩
theorem H9(m:Ia)(i:Nat)(hi:i<m.2.1.length)(hl:m.2.1[i].length<9223372036854775807):
 Oq (((),(i:Int),(0:Int),()),(m,()))=
  some (cond (Ig (fun _ a=>Tl m.2.1.length i a) 0 m.2.1[i]) (.inl (((),(i:Int),()),(m,()))) (.inr ((false,()),()))):=by
 unfold Oq
 refine Kh (step:=_) m.2.1[i] (fun _ a=>Tl m.2.1.length i a) (fun j=>(((),(i:Int),j,()),(m,()))) _ _ ?_ ?_ hl
 ·intro k hk
  simp only[AI]
  rw[Nb hi]
  simp only[jb]
  rw[Ba (show(k:Int)<(m.2.1[i].length:Int) by omega),Nb hk]
  simp only[zj,jb,Tl,Ds]
  cases Ub m.2.1[i][k]<;>cases((i:Int)==0)<;>cases(m.2.1[i][k].1==1)<;>cases(m.2.1[i][k].1 !=9)<;>cases decide (m.2.1[i][k].2.2.2.1≥(m.2.1.length:Int))<;>rfl
 ·simp[AI,Nb hi]
theorem Sk(m:Ia)(hz:Ja Xa m≤Da):Cm m=some (Uc m,()):=by
 have h20:Da=1048576:=rfl
 have hz':m.2.1.length+(zg (Ja (.sl Db)) m.2.1).sum≤Da:=by
  have:Ja Xa m=Ja (.sl (.sl Db)) m.2.1:=by simp only[Ja,yc,js]
  rw[this]at hz;exact hz
 have hl:∀k (hk:k<m.2.1.length),m.2.1[k].length≤Da:=by
  intro k hk
  have:=Sv (f:=Ja (.sl Db)) hk
  have h2:m.2.1[k].length≤Ja (.sl Db) m.2.1[k]:=Nat.le_add_right _ _
  omega
 have hloop:Nq (((),(0:Int),()),(m,()))=
  some (cond (Ig (fun i l=>Zr m.1 m.2.1.length i l) 0 m.2.1) (.inl (((),()),(m,()))) (.inr ((false,()),()))):=by
  unfold Nq
  refine Kh (step:=_) m.2.1 (fun i l=>Zr m.1 m.2.1.length i l) (fun j=>(((),j,()),(m,()))) _ _ ?_ ?_ (by omega)
  ·intro k hk
   have:=hl k hk
   simp only[ZH]
   rw[Ba (show(k:Int)<(m.2.1.length:Int) by omega),Nb hk]
   simp only[zj,jb,Zr]
   rw[H9 m k hk (by omega)]
   show(cond (!((m.2.1[k].length:Int)==m.1)) _ _)=_
   cases((m.2.1[k].length:Int)==m.1)<;>cases Ig (fun _ a=>Tl m.2.1.length k a) 0 m.2.1[k]<;>rfl
  ·simp[ZH]
 unfold Cm
 rw[hloop]
 simp only[jb,Uaf,Uk,Vk,Bd]
 apply Kd
 simp only[Ae,Uc,jd,decide_eq_true_eq,jq,and_false,false_or,and_true,or_false]
 generalize Ig (fun i l=>Zr m.1 m.2.1.length i l) 0 m.2.1=b
 constructor
 ·rintro⟨h1,h2,h3⟩;exact⟨⟨by omega,by omega⟩,h1⟩
 ·rintro⟨⟨h1,h2⟩,h5⟩;exact⟨h5,by omega,by omega⟩
theorem UB{n:Nat}(h:n≤62):Te .i64 1 (n:Int)=((2^n:Nat):Int):=by
 unfold Te
 have h1:min (jy (n:Int)) (IntKind.bits .i64)=n:=by
  show min (jy (n:Int)) 64=n
  rw[jn];omega
 rw[h1,Int.one_mul]
 have h2:(2:Int)^n=((2^n:Nat):Int):=by simp
 have h3:2^n≤2^62:=Nat.pow_le_pow_right (by omega) h
 rw[h2]
 clear h1 h2
 generalize 2^n=z at h3
 rw[Mf (by omega) (by omega)]
structure FE(m:Ia):Prop where
 k1:1≤m.1
 k2:m.1≤32
 l1:1≤m.2.1.length
 l2:m.2.1.length≤4
 row:∀i (h:i<m.2.1.length),(m.2.1[i].length:Int)=m.1
 act:∀i (h:i<m.2.1.length) k (hk:k<m.2.1[i].length),Tl m.2.1.length i m.2.1[i][k]=true
theorem Be{m:Ia}(h:Uc m=true):FE m:=by
 simp only[Uc,jd,decide_eq_true_eq]at h
 obtain⟨⟨h1,h2⟩,h3⟩:=h
 rw[Bz]at h3
 refine⟨h1.1,h1.2,h2.1,h2.2,fun i hi=>?_,fun i hi k hk=>?_⟩
 ·have:=h3 i hi
  simp only[js,Zr,jd,beq_iff_eq]at this
  exact this.1
 ·have:=h3 i hi
  simp only[js,Zr,jd,beq_iff_eq]at this
  have:=Bz.1 this.2 k hk
  simpa using this
theorem GF{nl i:Nat}{a:Ma}(h:Tl nl i a=true):Ub a=true:=by
 simp only[Tl,jd]at h
 exact h.1.1
theorem BZ{nl i:Nat}{a:Ma}(h:Tl nl i a=true)(hk:a.1≠9):a.2.2.2.1<(nl:Int):=by
 simp only[Tl,jd,yn,Bool.and_eq_false_iff]at h
 rcases h.2 with h|h
 ·simp at h;exact absurd h hk
 ·simpa using h
def Im(m k:Int):Int:=Ih .i64 (Cy .i64 m k) 1
theorem ZQ(m:Int){k:Int}(h:0≤k):Ew m k=some (Im m k,()):=by
 unfold Ew
 rw[Ba h];rfl
def Kbo:Ma:=(0,0,0,0,())
def Ui(L:List (List Ma))(i k:Nat):Ma:=(L.getD i []).getD k Kbo
theorem UO{L:List (List Ma)}{i k:Nat}(hi:i<L.length)(hk:k<L[i].length):Ui L i k=L[i][k]:=by
 simp[Ui,qf,hi,hk]
theorem Lad{α:Type}{L:List (List Ma)}{i k:Nat}(hi:i<L.length)(hk:k<L[i].length)(K:Ma→Option α):
 (jz (Ib L (i:Int)) fun x=>jz (Ib x (k:Int)) K)=K (Ui L i k):=by
 rw[Nb hi]
 simp only[jb]
 rw[Nb hk,UO hi hk]
 rfl
def Tf(L:List (List Ma))(on:Int)(k:Nat):Nat→Nat
 |0=>0
 |n+1=>cond ((Im on ((n+1:Nat):Int)==1)&&((Ui L (n+1) k).1 !=1)) (n+1) (Tf L on k n)
theorem U3{L:List (List Ma)}{on:Int}{k:Nat}:∀n,Tf L on k n≤n
 |0=>jo _
 |n+1=>by
  simp only[Tf]
  cases((Im on ((n+1:Nat):Int)==1)&&((Ui L (n+1) k).1 !=1))with
  |true=>exact jo _
  |false=>exact Nat.le_succ_of_le (U3 n)
theorem NW{m:Ia}(hm:FE m)(on:Int){k:Nat}(hk:(k:Int)<m.1):∀n:Nat,n<m.2.1.length→
 Ak ((on,(k:Int),(),(n:Int),()),(m,()))=some (cond (Tf m.2.1 on k n==0) (.inl ((),())) (.inr ((((Tf m.2.1 on k n:Nat):Int),()),())))
 |0,_=>by
  unfold Ak
  rw[IN]
  rfl
 |n+1,h=>by
  have hrow:=hm.row (n+1) h
  unfold Ak
  rw[IN]
  simp only[DV]
  rw[Ba (show(((n+1:Nat):Int))>0 by omega),ZQ on (show(0:Int)≤((n+1:Nat):Int) by omega)]
  simp only[zj,jb]
  rw[Lad h (by omega),Mf (by have:=hm.l2;omega) (by have:=hm.l2;omega),show(((n+1:Nat):Int)-1)=(n:Int) by omega]
  have ih:=NW hm on hk n (by omega)
  unfold Ak at ih
  simp only[Tf]
  cases h1:(Im on ((n+1:Nat):Int)==1)with
  |false=>
   simp only[qi,zk,jb,qg]
   exact ih
  |true=>
   cases h2:((Ui m.2.1 (n+1) k).1 !=1)with
   |true=>rfl
   |false=>
    simp only[Bool.and_false,zj,zk,jb,qg]
    exact ih
theorem MM{m:Ia}(hm:FE m)(on:Int){k:Nat}(hk:(k:Int)<m.1):
 Xx m on (k:Int)=some (((Tf m.2.1 on k (m.2.1.length-1):Nat):Int),()):=by
 have h1:=hm.l1
 have h2:=hm.l2
 unfold Xx
 rw[Mf (by omega) (by omega),show((m.2.1.length:Int)-1)=((m.2.1.length-1:Nat):Int) by omega,NW hm on hk _ (by omega)]
 cases h:(Tf m.2.1 on k (m.2.1.length-1)==0)with
 |false=>rfl
 |true=>
  have h':Tf m.2.1 on k (m.2.1.length-1)=0:=by simpa using h
  rw[h'];rfl
theorem FX{m:Ia}(hm:FE m)(on:Int){k:Nat}(hk:(k:Int)<m.1):∀n:Nat,n<m.2.1.length→
 Bk ((on,(k:Int),(),(n:Int),()),(m,()))=some (cond (Tf m.2.1 on k n==0) (.inl ((),())) (.inr ((((Tf m.2.1 on k n:Nat):Int),()),())))
 |0,_=>by
  unfold Bk
  rw[IN]
  rfl
 |n+1,h=>by
  have hrow:=hm.row (n+1) h
  unfold Bk
  rw[IN]
  simp only[VV]
  rw[Ba (show(((n+1:Nat):Int))>0 by omega),Ba (show(0:Int)≤((n+1:Nat):Int) by omega)]
  simp only[zj]
  rw[Lad h (by omega),Mf (by have:=hm.l2;omega) (by have:=hm.l2;omega),show(((n+1:Nat):Int)-1)=(n:Int) by omega]
  have ih:=FX hm on hk n (by omega)
  unfold Bk at ih
  simp only[Tf]
  show jz (cond (Im on ((n+1:Nat):Int)==1) _ _) _=_
  cases h1:(Im on ((n+1:Nat):Int)==1)with
  |false=>
   simp only[qi,zk,jb,qg]
   exact ih
  |true=>
   cases h2:((Ui m.2.1 (n+1) k).1 !=1)with
   |true=>rfl
   |false=>
    simp only[Bool.and_false,zj,zk,jb,qg]
    exact ih
def Mg(m:Ia)(on:Int)(k:Nat):Nat:=Tf m.2.1 on k (m.2.1.length-1)
theorem DF{m:Ia}(hm:FE m)(on:Int)(k:Nat):Mg m on k<m.2.1.length:=by
 have:=U3 (L:=m.2.1) (on:=on) (k:=k) (m.2.1.length-1)
 have:=hm.l1
 unfold Mg
 omega
theorem Dac{m:Ia}(hz:Ja Xa m≤Da)(hv:Uc m=true)(on:Int){k:Nat}(hk:(k:Int)<m.1):
 RN m on (k:Int)=some (((Mg m on k:Nat):Int),()):=by
 have hm:=Be hv
 have h1:=hm.l1
 have h2:=hm.l2
 have h3:=hm.k2
 unfold RN
 rw[Sk m hz,hv,Mf (n:=m.1-1) (by omega) (by omega)]
 simp only[jb,jg,zk,Bd]
 rw[Ba (show(0:Int)≤(k:Int)∧(k:Int)≤m.1-1 by omega),Mf (by omega) (by omega),show((m.2.1.length:Int)-1)=((m.2.1.length-1:Nat):Int) by omega,FX hm on hk _ (by omega)]
 simp only[jg,zk,jb]
 show _=some (((Tf m.2.1 on k (m.2.1.length-1):Nat):Int),())
 cases h:(Tf m.2.1 on k (m.2.1.length-1)==0)with
 |false=>rfl
 |true=>
  have h':Tf m.2.1 on k (m.2.1.length-1)=0:=by simpa using h
  rw[h'];rfl
theorem WK{m:Ia}(hz:Ja Xa m≤Da)(hv:Uc m=true)(on:Int){k:Nat}(hk:(k:Int)<m.1):
 Tt m on (k:Int)=some (Ui m.2.1 (Mg m on k) k,()):=by
 have hm:=Be hv
 have hl:=DF hm on k
 have hrow:=hm.row _ hl
 unfold Tt
 rw[Dac hz hv on hk]
 simp only[jb]
 rw[Aa (by omega)]
 simp only[zk]
 rw[Lad hl (by omega)]
def XL(f:Int)(a:Ma):Int:=cond (a.1==4) (Kt .i64 f (Te .i64 1 a.2.2.2.1)) (cond (a.1==5) (Kj .i64 (Te .i64 1 a.2.2.2.1) 1) f)
theorem Zai{nl i:Nat}{a:Ma}(h:Tl nl i a=true)(hk:a.1=3∨a.1=4∨a.1=5∨a.1=7):0≤a.2.2.2.1∧a.2.2.2.1<(nl:Int)∧a.2.2.2.1≤3:=by
 have h1:=GF h
 rw[Yb]at h1
 have h2:=BZ h (by rcases hk with hk|hk|hk|hk<;>rw[hk]<;>decide)
 unfold Dd at h1
 omega
theorem YR{m:Ia}(hm:FE m)(f:Int){k:Nat}(hk:(k:Int)<m.1):
 Qu m f (k:Int)=some (XL f (Ui m.2.1 (Mg m f k) k),()):=by
 have hl:=DF hm f k
 have hrow:=hm.row _ hl
 have hact:=hm.act _ hl k (by omega)
 rw[←UO hl (by omega)]at hact
 unfold Qu
 rw[MM hm f hk]
 simp only[jb]
 rw[show Tf m.2.1 f k (m.2.1.length-1)=Mg m f k from rfl,Lad hl (by omega)]
 generalize Ui m.2.1 (Mg m f k) k=a at hact
 unfold XL
 cases h4:(a.1==4)with
 |true=>
  rw[Ba (Zai hact (.inr (.inl (by simpa using h4)))).1];rfl
 |false=>
  cases h5:(a.1==5)with
  |true=>rw[Ba (Zai hact (.inr (.inr (.inl (by simpa using h5))))).1];rfl
  |false=>rfl
theorem Yaa{f:Int}(h0:0≤f)(h1:f<16)(h2:f.tmod 2=0):∀n:Nat,n<4→Im (Fe .i64 1 f) ((n+1:Nat):Int)=Im f ((n+1:Nat):Int):=by
 have:f=0∨f=1∨f=2∨f=3∨f=4∨f=5∨f=6∨f=7∨f=8∨f=9∨f=10∨f=11∨f=12∨f=13∨f=14∨f=15:=by omega
 clear h0 h1 h2
 rcases this with rfl|rfl|rfl|rfl|rfl|rfl|rfl|rfl|rfl|rfl|rfl|rfl|rfl|rfl|rfl|rfl<;>decide
theorem ZX{L:List (List Ma)}{on on':Int}{k:Nat}:∀n:Nat,(∀j:Nat,j<n→Im on ((j+1:Nat):Int)=Im on' ((j+1:Nat):Int))→Tf L on k n=Tf L on' k n
 |0,_=>rfl
 |n+1,h=>by
  simp only[Tf]
  rw[h n (by omega),ZX n fun j hj=>h j (by omega)]
theorem Lao{m:Ia}{f:Int}{b:Bool}(hz:Ja Xa m≤Da)(h:Ei m f=some (b,()))(hb:b=true):Uc m=true∧0≤f∧f<16∧f.tmod 2=0:=by
 unfold Ei at h
 rw[Vi m hz]at h
 cases hk:Uc m with
 |false=>rw[hk]at h;simp at h;rw[hb]at h;simp at h
 |true=>
  have hm:=Be hk
  rw[hk]at h
  simp only[jb,zj,show((2:Int)==0)=false from rfl,zk]at h
  by_cases h1:f≥0
  case neg=>rw[Aa h1]at h;simp at h;rw[hb]at h;simp at h
  rw[Ba h1]at h
  cases h2:(f.tmod 2==0)with
  |false=>rw[h2]at h;simp at h;rw[hb]at h;simp at h
  |true=>
   rw[h2,Ba (show(0:Int)≤(m.2.1.length:Int) by omega),UB (by have:=hm.l2;omega)]at h
   simp only[zj,jc,jh,and_true]at h
   rw[hb,decide_eq_true_eq]at h
   have h3:=hm.l2
   have h4:2^m.2.1.length≤2^4:=Nat.pow_le_pow_right (by omega) h3
   exact⟨rfl,h1,by omega,by simpa using h2⟩
noncomputable def Qf(a:Ma):Bool:=Ub a&&((a.1==6)||(a.1==7))
noncomputable def CJ(a:Ma):Ma:=cond (Qf a) (2,a.2.1,0,0,()) a
noncomputable def MP(a:Ma):Ma:=cond (Qf a) (cond (a.1==6) (2,0,a.2.2.1,0,()) (3,0,0,a.2.2.2.1,())) a
theorem TH(a:Ma):Zq a=some (Qf a,()):=by
 unfold Zq Qf
 rw[Rm]
 cases Ub a<;>cases(a.1==6)<;>rfl
theorem Ix(a:Ma):Dn a=some (Qf a,()):=by
 unfold Dn Qf
 rw[Ds]
 cases Ub a<;>cases(a.1==6)<;>rfl
theorem Zag(a:Ma):WT a=some (CJ a,()):=by
 unfold WT CJ
 rw[TH]
 cases Qf a<;>rfl
theorem Qah(a:Ma):BU a=some (CJ a,()):=by
 unfold BU CJ
 rw[Ix]
 cases Qf a<;>rfl
theorem Sae(a:Ma):HR a=some (MP a,()):=by
 unfold HR MP
 rw[Ix]
 cases Qf a<;>cases(a.1==6)<;>rfl
def Sd{α:Type}(p:α→Bool):Nat→List α→Int
 |_,[]=>-1
 |k,x::xs=>cond (p x) (k:Int) (Sd p (k+1) xs)
def Ay{α β:Type}:α⊕β→Bool
 |.inl _=>true
 |.inr _=>false
noncomputable def Iy(s:Int)(x:Pa):Bool:=decide (0≤x.1∧x.1≤31)&&(!(Im s x.1==1)&&(Ub x.2.1&&(!(x.2.1.1==1)&&(!(x.2.1.1==6)&&!(x.2.1.1==7)))))
noncomputable def Rz(s:Int)(x:Pa):Int⊕Unit:=cond (Iy s x) (.inl (Fe .i64 s (Te .i64 1 x.1))) (.inr ())
noncomputable def Eaj(l:List Pa):Int⊕Unit:=Cb (fun _ s x=>Rz s x) 0 0 l
noncomputable def Of(l:List Pa):Bool:=Ay (Eaj l)
theorem HG(l:List Pa)(hn:l.length≤Da):Ln l=some (Of l,()):=by
 have h20:Da=1048576:=rfl
 have hl:=Ug (step:=fun x=>UC x.1.1 x.1.2.1 x.1.2.2.1 x.1.2.2.2.1) l (fun _ s x=>Rz s x) (fun s i=>((s,l,((ja l:Nat):Int),i,()),()))
  (fun _=>.inl ((),())) (fun _=>.inr ((false,()),())) (fun _ _=>True) (by
   intro k hk s _
   refine⟨?_,fun _ _=>trivial⟩
   simp only[UC]
   rw[Ba (show(k:Int)<(ja l:Int) by omega),Nb hk]
   simp only[zj,jb]
   generalize l[k]=x
   simp only[Rz,Iy,Rm,jb]
   by_cases h1:0≤x.1
   ·rw[Aa (show¬x.1<0 by omega),ZQ s h1]
    by_cases h2:x.1≤31
    ·rw[Aa (show¬x.1>31 by omega),Ba (show 0≤x.1∧x.1≤31 from⟨h1,h2⟩),Ba h1]
     simp only[jb,zk]
     cases Im s x.1==1<;>cases Ub x.2.1<;>cases x.2.1.1==1<;>cases x.2.1.1==6<;>cases x.2.1.1==7<;>rfl
    ·rw[Ba (show x.1>31 by omega),Aa (show¬(0≤x.1∧x.1≤31) by omega)];rfl
   ·rw[Ba (show x.1<0 by omega),Aa (show¬(0≤x.1∧x.1≤31) by omega)];rfl)
  (by
   intro s _
   simp only[UC]
   rw[Aa (by omega)];rfl) (by omega) 0 trivial
 unfold Ln PE
 erw[hl]
 show jz (some _) _=_
 simp only[jb,Of,Eaj]
 cases Cb (fun x s x=>Rz s x) 0 0 l<;>rfl
theorem YG(l:List Pa)(hn:l.length≤Da):Pw l=some (Of l,()):=by
 have h20:Da=1048576:=rfl
 have hl:=Ug (step:=fun x=>UD x.1.1 x.1.2.1 x.1.2.2.1) l (fun _ s x=>Rz s x) (fun s i=>((l,s,i,()),()))
  (fun _=>.inl ((),())) (fun _=>.inr ((false,()),())) (fun _ _=>True) (by
   intro k hk s _
   refine⟨?_,fun _ _=>trivial⟩
   simp only[UD]
   rw[Ba (show(k:Int)<(ja l:Int) by omega),Nb hk]
   simp only[zj,jb]
   generalize l[k]=x
   simp only[Rz,Iy,Ds,Ix,Bd,jb,Qf]
   by_cases h1:0≤x.1∧x.1≤31
   ·rw[Ba h1,Ba h1.1]
    simp only[Im]
    cases Ih .i64 (Cy .i64 s x.1) 1==1<;>cases Ub x.2.1<;>cases x.2.1.1==1<;>cases x.2.1.1==6<;>cases x.2.1.1==7<;>rfl
   ·rw[Aa h1];rfl)
  (by
   intro s _
   simp only[UD]
   rw[Aa (by omega)];rfl) (by omega) 0 trivial
 unfold Pw SF
 erw[hl]
 show jz (some _) _=_
 simp only[jb,Of,Eaj]
 cases Cb (fun x s x=>Rz s x) 0 0 l<;>rfl
structure Nx(x:Pa):Prop where
 lo:0≤x.1
 hi:x.1≤31
 act:Ub x.2.1=true
 n1:x.2.1.1≠1
 n6:x.2.1.1≠6
 n7:x.2.1.1≠7
theorem LaF{s:Int}{x:Pa}(h:Iy s x=true):Nx x∧Im s x.1≠1:=by
 simp only[Iy,jd,decide_eq_true_eq,yn,beq_eq_false_iff_ne]at h
 exact⟨⟨h.1.1,h.1.2,h.2.2.1,h.2.2.2.1,h.2.2.2.2.1,h.2.2.2.2.2⟩,h.2.1⟩
theorem Aal:∀{l:List Pa} {k:Nat} {s:Int},Ay (Cb (fun _ s x=>Rz s x) k s l)=true→∀x∈l,Nx x
 |[],_,_,_,x,hx=>by simp at hx
 |y::l,k,s,h,x,hx=>by
  simp only[Cb,Rz]at h
  cases hc:Iy s y with
  |false=>rw[hc]at h;simp[Ay]at h
  |true=>
   rw[hc]at h
   simp only[zj]at h
   rcases jp.1 hx with rfl|hx
   ·exact(LaF hc).1
   ·exact Aal h x hx
theorem Tu{l:List Pa}(h:Of l=true):∀x∈l,Nx x:=Aal h
def LD(l:List Pa):Int:=Vc (fun _ s (x:Pa)=>Fe .i64 s (Te .i64 1 x.1)) 0 0 l
theorem CV(l:List Pa)(hn:l.length≤Da)(hx:∀x∈l,Nx x):Pt l=some (LD l,()):=by
 have h20:Da=1048576:=rfl
 have hl:=(Ue (step:=fun x=>Xw x.1.1 x.1.2.1 x.1.2.2.1 x.1.2.2.2.1) l (fun _ s (x:Pa)=>Fe .i64 s (Te .i64 1 x.1)) (fun s i=>((s,l,((ja l:Nat):Int),i,()),()))
  (fun s=>.inl ((s,()),())) (fun _ _=>True) (by
   intro k hk s _
   refine⟨?_,trivial⟩
   simp only[Xw]
   rw[Ba (show(k:Int)<(ja l:Int) by omega),Nb hk]
   simp only[zj,jb]
   rw[Ba (hx _ (qj hk)).lo];rfl)
  (by
   intro s _
   simp only[Xw]
   rw[Aa (by omega)];rfl) (by omega) 0 trivial).1
 unfold Pt EA
 erw[hl]
 rfl
theorem Waa{α β:Type}(p:β→Bool)(f:α→β):∀(xs:List α) (k:Nat),Sd p k (xs.map f)=Sd (fun x=>p (f x)) k xs
 |[],_=>rfl
 |x::xs,k=>by simp only[ym,Sd,Waa p f xs]
theorem Dz{α:Type}(p:α→Bool):∀(xs:List α) (k:Nat),Sd p k xs=-1∨∃j:Nat,j<xs.length∧Sd p k xs=((k+j:Nat):Int)
 |[],_=>.inl rfl
 |x::xs,k=>by
  simp only[Sd]
  cases p x with
  |true=>exact .inr ⟨0,by simp,by simp⟩
  |false=>
   rcases Dz p xs (k+1)with h|⟨j,h1,h2⟩
   ·exact .inl h
   ·exact .inr ⟨j+1,by simp;omega,by simp only[zk];rw[h2];omega⟩
theorem E3{α:Type}(p:α→Bool):∀(xs:List α) (k:Nat),(Cb (fun k (_:Unit) x=>cond (p x) (.inr (k:Int)) (.inl ())) k () xs:Unit⊕Int)=if Sd p k xs=-1 then .inl ()else .inr (Sd p k xs)
 |[],_=>rfl
 |x::xs,k=>by
  rcases Bool.eq_false_or_eq_true (p x)with hp|hp
  ·simp only[Cb,Sd,hp,zj];rw[if_neg (by omega)]
  ·simp only[Cb,Sd,hp,zk];exact E3 p xs (k+1)
theorem FR{X R α:Type}{step:X→Option (X⊕R)}(xs:List α)(p:α→Bool)(I:Int→X)(no:R)(yes:Int→R)
 (h:∀k (hk:k<xs.length),step (I (k:Int))=some (cond (p xs[k]) (.inr (yes (k:Int))) (.inl (I (j4 .i64 ((k:Int)+1))))))
 (he:step (I (xs.length:Int))=some (.inr no)) (hn:xs.length<9223372036854775807):
 Va step (I 0)=some (if Sd p 0 xs=-1 then no else yes (Sd p 0 xs)):=by
 have:=Ug (step:=step) xs (fun k (_:Unit) x=>cond (p x) (.inr (k:Int)) (.inl ())) (fun _ i=>I i) (fun _=>no) yes (fun _ _=>True) (fun k hk s _=>by
  refine⟨?_,fun _ _=>trivial⟩
  rw[h k hk]
  cases p xs[k]<;>rfl) (fun _ _=>he) hn () trivial
 rw[this,E3]
 by_cases hc:Sd p 0 xs=-1
 ·rw[if_pos hc,if_pos hc]
 ·rw[if_neg hc,if_neg hc]
def Xd(h:Pa):Rc:=(h.2.1.2.1,h.2.1.2.2.1,())
def Wi(c m:Int)(h:Pa):Bool:=(h.2.1.2.1==c)&&(h.2.1.2.2.1==m)
theorem WY(l:List Rc)(c:Rc)(hn:l.length≤Da):KI l c=some (Sd (fun x=>QC Zh x c) 0 l,()):=by
 have h20:Da=1048576:=rfl
 have hl:=FR (step:=fun x=>BD x.1.1 x.1.2.1 x.1.2.2.1 x.1.2.2.2.1 x.2.1) l (fun x=>QC Zh x c) (fun i=>(((),l,((ja l:Nat):Int),i,()),(c,())))
  (.inl ((),())) (fun i=>.inr ((i,()),())) (by
   intro k hk
   simp only[BD]
   rw[Ba (show(k:Int)<(ja l:Int) by omega),Nb hk]
   simp only[zj,jb]
   cases QC Zh l[k] c<;>rfl) (by
   simp only[BD]
   rw[Aa (by omega)];rfl) (by omega)
 unfold KI TE
 erw[hl]
 simp only[jb]
 by_cases hc:Sd (fun x=>QC Zh x c) 0 l=-1
 ·rw[if_pos hc,hc];rfl
 ·rw[if_neg hc];rfl
theorem FQ(l:List Pa)(x:Ua)(hn:l.length≤Da):Vq l x=some (Sd (Wi x.2.1 x.2.2.1) 0 l,()):=by
 have h20:Da=1048576:=rfl
 have hl:=FR (step:=fun y=>CE y.1.1 y.1.2.1 y.1.2.2.1 y.2.1) l (Wi x.2.1 x.2.2.1) (fun i=>((l,(),i,()),(x,())))
  (.inl ((),())) (fun i=>.inr ((i,()),())) (by
   intro k hk
   simp only[CE]
   rw[Ba (show(k:Int)<(ja l:Int) by omega),Nb hk]
   simp only[zj,jb,Wi]
   cases l[k].2.1.2.1==x.2.1<;>cases l[k].2.1.2.2.1==x.2.2.1<;>rfl) (by
   simp only[CE]
   rw[Aa (by omega)];rfl) (by omega)
 unfold Vq ZF
 erw[hl]
 simp only[jb]
 by_cases hc:Sd (Wi x.2.1 x.2.2.1) 0 l=-1
 ·rw[if_pos hc,hc];rfl
 ·rw[if_neg hc];rfl
theorem Yab(L:List Pa)(c m:Int):Sd (fun x=>QC Zh x (c,m,())) 0 (L.map Xd)=Sd (Wi c m) 0 L:=by
 rw[Waa]
 congr 1
 funext h
 simp only[Xd,QC,Wi,Bool.and_true]
def Ai{α:Type}(l:List α)(r:Nat):List α:=jf (Hb l 0 r) (Hb l (r+1) l.length)
theorem H7{α:Type}{l:List α}{r:Nat}(h:r<l.length):(Ai l r).length=l.length-1:=by
 simp[Ai,Hb];omega
theorem I7{α β:Type}(f:α→β)(l:List α)(r:Nat):Ai (l.map f) r=(Ai l r).map f:=by
 simp[Ai,Hb,List.map_take,List.map_drop]
 rw[List.take_of_length_le (by simp)]
theorem U2{α:Type}{l:List α}{r:Nat}(h:r<l.length):Nd (ja l) 0 (r:Int)=true∧Nd (ja l) ((r+1:Nat):Int) ((ja l:Nat):Int)=true:=by
 simp only[Nd,jd,decide_eq_true_eq]
 omega
theorem CI(l:List Pa){r:Nat}(h:r<l.length)(hn:l.length≤Da):Yg l (r:Int)=some (Ai l r,()):=by
 have h20:Da=1048576:=rfl
 have hc:=U2 h
 unfold Yg
 rw[Gc (by omega),hc.1,hc.2]
 have e1:jx (ja ([]:List Pa)+ja (Hb l (jy 0) (jy (r:Int)))) Wa=true:=ji (by simp[Hb];rw[Bg];omega)
 have e2:jx (ja (jf ([]:List Pa) (Hb l (jy 0) (jy (r:Int))))+ja (Hb l (jy ((r+1:Nat):Int)) (jy ((ja l:Nat):Int)))) Wa=true:=
  ji (by simp[Hb];rw[Bg];omega)
 rw[e1,e2]
 simp only[zj]
 rfl
noncomputable def Bp(x:Ua)(r:Int):Bool:=Ub (2,x.2.1,x.2.2.1,0,())&&(((x.1==0)&&!decide (r≥0))||(((x.1==1)&&!decide (r≥0))||((x.1==2)&&decide (r≥0))))
def Di(x:Ua):Pa:=(0,(2,x.2.1,x.2.2.1,0,()),())
def JN(x:Ua)(L:List Pa)(r:Int):List Pa:=cond (x.1==1) (jf L [Di x]) (cond (x.1==2) (Ai L r.toNat) L)
noncomputable def Zn(L:List Pa)(x:Ua):List Pa⊕Unit:=cond (Bp x (Sd (Wi x.2.1 x.2.2.1) 0 L)) (.inl (JN x L (Sd (Wi x.2.1 x.2.2.1) 0 L))) (.inr ())
theorem Vad{L L':List Pa}{x:Ua}(h:Zn L x=.inl L'):L'.length≤L.length+1:=by
 unfold Zn at h
 cases hc:Bp x (Sd (Wi x.2.1 x.2.2.1) 0 L)with
 |false=>rw[hc]at h;simp at h
 |true=>
  rw[hc]at h
  simp only[zj,ze]at h
  rw[←h]
  unfold JN
  cases x.1==1 with
  |true=>simp
  |false=>
   cases x.1==2 with
   |true=>simp[Ai,Hb];omega
   |false=>simp
theorem Vah(l:List Ua)(k:Nat)(hk:k<l.length)(L:List Pa)(hL:L.length≤k)(hn:l.length≤Da):
 Es l L (k:Int)=some (match Zn L l[k]with|.inl L'=>.inl ((l,L',j4 .i64 ((k:Int)+1),()),())|.inr _=>.inr (.inr ((false,()),()))):=by
 have h20:Da=1048576:=rfl
 simp only[Es]
 rw[Ba (show(k:Int)<(ja l:Int) by omega),Nb hk]
 simp only[zj,jb]
 rw[FQ L l[k] (by omega)]
 simp only[jb,Bd,Xt,Ds,Zn,Bp,JN,Di]
 generalize hx:l[k]=x
 generalize hr:Sd (Wi x.2.1 x.2.2.1) 0 L=r
 have hble:jx (ja L+ja [Di x]) Wa=true:=ji (by simp[Bg];omega)
 have hble':jx (ja L+ja ([((0:Int),((2:Int),x.2.1,x.2.2.1,(0:Int),()),())]:List Pa)) Wa=true:=hble
 have hw:decide (r≥0)=true→Yg L r=some (Ai L r.toNat,()):=by
  intro h
  rcases Dz (Wi x.2.1 x.2.2.1) L 0 with h1|⟨j,h1,h2⟩
  ·rw[hr]at h1;rw[h1]at h;simp at h
  ·rw[hr]at h2
   have:r=(j:Int):=by omega
   rw[this,CI L h1 (by omega)]
   simp
 by_cases k0:x.1=0
 ·simp only[k0]
  cases Ub ((2:Int),x.2.1,x.2.2.1,(0:Int),())<;>cases decide (r≥0)<;>rfl
 by_cases k1:x.1=1
 ·simp only[k1]
  rw[hble']
  cases Ub ((2:Int),x.2.1,x.2.2.1,(0:Int),())<;>cases decide (r≥0)<;>rfl
 by_cases k2:x.1=2
 ·simp only[k2]
  cases hd:decide (r≥0)with
  |false=>cases Ub ((2:Int),x.2.1,x.2.2.1,(0:Int),())<;>rfl
  |true=>
   rw[hw hd]
   cases Ub ((2:Int),x.2.1,x.2.2.1,(0:Int),())<;>rfl
 ·have e0:(x.1==0)=false:=by simpa using k0
  have e1:(x.1==1)=false:=by simpa using k1
  have e2:(x.1==2)=false:=by simpa using k2
  rw[Aa (show¬(0≤x.1∧x.1≤2) by omega),e0,e1,e2]
  cases Ub ((2:Int),x.2.1,x.2.2.1,(0:Int),())<;>rfl
theorem Gah(l:List Ua)(k:Nat)(hk:k<l.length)(L:List Pa)(hL:L.length≤k)(hn:l.length≤Da):
 Rr (L.map Xd) l ((ja l:Nat):Int) (k:Int)=
  some (match Zn L l[k]with|.inl L'=>.inl ((L'.map Xd,l,((ja l:Nat):Int),j4 .i64 ((k:Int)+1),()),())|.inr _=>.inr (.inr ((false,()),()))):=by
 have h20:Da=1048576:=rfl
 simp only[Rr]
 rw[Ba (show(k:Int)<(ja l:Int) by omega),Nb hk]
 simp only[zj,jb]
 rw[WY (L.map Xd) _ (by simp;omega),Yab]
 simp only[jb,Rm,Zn,Bp,JN,Di]
 generalize hx:l[k]=x
 generalize hr:Sd (Wi x.2.1 x.2.2.1) 0 L=r
 have hble:jx (ja (L.map Xd)+ja ([(x.2.1,x.2.2.1,())]:List Rc)) Wa=true:=ji (by simp[Bg];omega)
 have happ:jf (L.map Xd) ([(x.2.1,x.2.2.1,())]:List Rc)=(jf L [((0:Int),((2:Int),x.2.1,x.2.2.1,(0:Int),()),())]).map Xd:=by
  show _++_=zg Xd (_++_)
  rw[yy];rfl
 by_cases k0:x.1=0
 ·simp only[k0]
  cases Ub ((2:Int),x.2.1,x.2.2.1,(0:Int),())<;>cases decide (r≥0)<;>rfl
 by_cases k1:x.1=1
 ·simp only[k1]
  rw[hble,happ]
  cases Ub ((2:Int),x.2.1,x.2.2.1,(0:Int),())<;>cases decide (r≥0)<;>rfl
 by_cases k2:x.1=2
 ·simp only[k2]
  rcases Dz (Wi x.2.1 x.2.2.1) L 0 with h1|⟨j,h1,h2⟩
  ·rw[hr]at h1
   rw[h1]
   cases Ub ((2:Int),x.2.1,x.2.2.1,(0:Int),())<;>rfl
  ·rw[hr]at h2
   have hrj:r=(j:Int):=by omega
   rw[hrj]
   have hj:j<(L.map Xd).length:=by simpa using h1
   have hc:=U2 hj
   rw[Gc (k:=j) (by omega),hc.1,hc.2,Aa (show¬(j:Int)<0 by omega),Ba (show(j:Int)≥0 by omega)]
   have e1:jx (ja (Hb (L.map Xd) (jy 0) (jy (j:Int)))+ja (Hb (L.map Xd) (jy ((j+1:Nat):Int)) (jy ((ja (L.map Xd):Nat):Int)))) Wa=true:=
    ji (by simp[Hb];rw[Bg];omega)
   have e2:jf (Hb (L.map Xd) (jy 0) (jy (j:Int))) (Hb (L.map Xd) (jy ((j+1:Nat):Int)) (jy ((ja (L.map Xd):Nat):Int)))=(Ai L (jy (j:Int))).map Xd:=by
    rw[←I7]
    simp[Ai]
   rw[e1,e2]
   cases Ub ((2:Int),x.2.1,x.2.2.1,(0:Int),())<;>rfl
 ·have e0:(x.1==0)=false:=by simpa using k0
  have e1:(x.1==1)=false:=by simpa using k1
  have e2:(x.1==2)=false:=by simpa using k2
  rw[e0,e1,e2]
  cases Ub ((2:Int),x.2.1,x.2.2.1,(0:Int),())<;>rfl
noncomputable def W3(l:List Ua):List Pa⊕Unit:=Cb (fun _ L x=>Zn L x) 0 [] l
noncomputable def Kc(l:List Ua):Bool:=decide (l.length≤8)&&(match W3 l with|.inl L=>((L.length:Int)==0)|.inr _=>false)
theorem QN(l:List Ua)(hn:l.length≤Da):Ny l=some (Kc l,()):=by
 have h20:Da=1048576:=rfl
 have hl:=Ug (step:=fun x=>Es x.1.1 x.1.2.1 x.1.2.2.1) l (fun _ L x=>Zn L x) (fun L i=>((l,L,i,()),()))
  (fun L=>.inl ((l,L,()),())) (fun _=>.inr ((false,()),())) (fun k L=>L.length≤k) (by
   intro k hk L hL
   refine⟨?_,fun L' h=>by have:=Vad h;omega⟩
   rw[Vah l k hk L hL hn]
   cases Zn L l[k]<;>rfl) (by
   intro s _
   simp only[Es]
   rw[Aa (by omega)];rfl) (by omega) [] (by simp)
 unfold Ny GC
 erw[hl]
 simp only[jb,Kc,W3]
 cases Cb (fun x L x=>Zn L x) 0 [] l with
 |inl L=>
  simp only[qg]
  by_cases h:l.length≤8
  ·rw[Ba (show((ja l:Nat):Int)≤8 by omega),Ba h];rfl
  ·rw[Aa (show¬((ja l:Nat):Int)≤8 by omega),Aa h];rfl
 |inr u=>cases decide (l.length≤8)<;>rfl
theorem VC(l:List Ua)(hn:l.length≤Da):Qr l=some (Kc l,()):=by
 have h20:Da=1048576:=rfl
 unfold Qr Kc
 by_cases h:l.length≤8
 ·rw[Aa (show¬((ja l:Nat):Int)>8 by omega),Ba h]
  have hl:=Ug (step:=fun x=>Rr x.1.1 x.1.2.1 x.1.2.2.1 x.1.2.2.2.1) l (fun _ L x=>Zn L x) (fun L i=>((L.map Xd,l,((ja l:Nat):Int),i,()),()))
   (fun L=>.inl ((L.map Xd,()),())) (fun _=>.inr ((false,()),())) (fun k L=>L.length≤k) (by
    intro k hk L hL
    refine⟨?_,fun L' h=>by have:=Vad h;omega⟩
    rw[Gah l k hk L hL hn]
    cases Zn L l[k]<;>rfl) (by
    intro s _
    simp only[Rr]
    rw[Aa (by omega)];rfl) (by omega) [] (by simp)
  unfold BC
  erw[hl]
  simp only[W3]
  cases Cb (fun x L x=>Zn L x) 0 [] l with
  |inl L=>
   show some _=some _
   simp only[yu]
   rfl
  |inr u=>rfl
 ·rw[Ba (show((ja l:Nat):Int)>8 by omega),Aa h];rfl
noncomputable def Io(keys:Int)(nl:Nat)(x:Pa):Bool:=!decide (x.1≥keys)&&!((x.2.1.1 !=9)&&decide (x.2.1.2.2.2.1≥(nl:Int)))
noncomputable def Tg(e:Gb):Bool:=
 Uc e.1&&(decide (e.2.1.length≤4)&&(Of e.2.2.2.1&&(Ig (fun _ m=>Kc m) 0 e.2.1&&(Ig (fun _ x=>Io e.1.1 e.1.2.1.length x) 0 e.2.2.2.1&&
  (decide (0≤e.2.2.1∧e.2.2.1<((2^e.1.2.1.length:Nat):Int))&&((ye e.2.2.1 2==0)&&decide (0≤e.2.2.2.2.1∧e.2.2.2.2.1≤15)))))))
theorem Pl(e:Gb):Ja Mb e=Ja Xa e.1+(Ja (.sl (.sl Xb)) e.2.1+Ja (.sl Jf) e.2.2.2.1):=by
 simp only[Ja,yc,js]
theorem Yt(l:List Pa):Ja (.sl Jf) l=l.length:=Lp (e:=Jf) rfl l
theorem Daf(l:List Ua):Ja (.sl Xb) l=l.length:=Lp (e:=Xb) rfl l
theorem Caf{e:Ty}(l:List (T e)):ja l≤Ja (.sl e) l:=Nat.le_add_right _ _
theorem OaG{e:Ty}{l:List (T e)}{k:Nat}(hk:k<ja l):Ja e (List.get l ⟨k,hk⟩)≤Ja (.sl e) l:=
 qa (Sv (f:=Ja e) hk) (Nat.le_add_left _ _)
theorem Gab(e:Gb)(hz:Ja Mb e≤Da):Yp (((),e.2.1,((ja e.2.1:Nat):Int),(0:Int),()),(e,()))=
 some (cond (Ig (fun _ m=>Kc m) 0 e.2.1) (.inl (((),()),(e,()))) (.inr ((false,()),()))):=by
 have h20:Da=1048576:=rfl
 rw[Pl]at hz
 have hl:=Caf (e:=.sl Xb) e.2.1
 unfold Yp
 refine Kh (step:=fun x=>Tw x.1.1 x.1.2.1 x.1.2.2.1 x.1.2.2.2.1 x.2.1) e.2.1 (fun _ m=>Kc m) (fun i=>(((),e.2.1,((ja e.2.1:Nat):Int),i,()),(e,()))) _ _ ?_ ?_ (by omega)
 ·intro k hk
  simp only[Tw]
  have hk2:(k:Int)<((ja e.2.1:Nat):Int):=by omega
  rw[Ba hk2,Nb hk]
  simp only[zj,jb]
  have he:=OaG (e:=.sl Xb) hk
  rw[Daf]at he
  rw[VC e.2.1[k] (by have:(List.get e.2.1 ⟨k,hk⟩)=e.2.1[k]:=rfl;rw[this]at he;omega)]
  simp only[jb]
  cases Kc e.2.1[k]<;>rfl
 ·simp only[Tw]
  rw[Aa (by omega)];rfl
theorem Gac(e:Gb)(hz:Ja Mb e≤Da):Lq (((),(0:Int),()),(e,()))=
 some (cond (Ig (fun _ m=>Kc m) 0 e.2.1) (.inl (((),()),(e,()))) (.inr ((false,()),()))):=by
 have h20:Da=1048576:=rfl
 rw[Pl]at hz
 have hl:=Caf (e:=.sl Xb) e.2.1
 unfold Lq
 refine Kh (step:=fun x=>Dx x.1.1 x.1.2.1 x.2.1) e.2.1 (fun _ m=>Kc m) (fun i=>(((),i,()),(e,()))) _ _ ?_ ?_ (by omega)
 ·intro k hk
  simp only[Dx]
  have hk2:(k:Int)<((ja e.2.1:Nat):Int):=by omega
  rw[Ba hk2,Nb hk]
  simp only[zj,jb]
  have he:=OaG (e:=.sl Xb) hk
  rw[Daf]at he
  rw[QN e.2.1[k] (by have:(List.get e.2.1 ⟨k,hk⟩)=e.2.1[k]:=rfl;rw[this]at he;omega)]
  simp only[jb]
  cases Kc e.2.1[k]<;>rfl
 ·simp only[Dx]
  rw[Aa (by omega)];rfl
theorem Dah(e:Gb)(hz:Ja Mb e≤Da):No (((),((ja e.1.2.1:Nat):Int),e.2.2.2.1,((ja e.2.2.2.1:Nat):Int),(0:Int),()),(e,()))=
 some (cond (Ig (fun _ x=>Io e.1.1 e.1.2.1.length x) 0 e.2.2.2.1) (.inl (((),((ja e.1.2.1:Nat):Int),()),(e,()))) (.inr ((false,()),()))):=by
 have h20:Da=1048576:=rfl
 rw[Pl,Yt]at hz
 unfold No
 refine Kh (step:=fun x=>Eu x.1.1 x.1.2.1 x.1.2.2.1 x.1.2.2.2.1 x.1.2.2.2.2.1 x.2.1) e.2.2.2.1 (fun _ x=>Io e.1.1 e.1.2.1.length x)
  (fun i=>(((),((ja e.1.2.1:Nat):Int),e.2.2.2.1,((ja e.2.2.2.1:Nat):Int),i,()),(e,()))) _ _ ?_ ?_ (by omega)
 ·intro k hk
  simp only[Eu]
  have hk2:(k:Int)<((ja e.2.2.2.1:Nat):Int):=by omega
  rw[Ba hk2,Nb hk]
  simp only[zj,jb,Io]
  cases decide (e.2.2.2.1[k].1≥e.1.1)<;>cases(e.2.2.2.1[k].2.1.1 !=9)<;>cases decide (e.2.2.2.1[k].2.1.2.2.2.1≥((ja e.1.2.1:Nat):Int))<;>rfl
 ·simp only[Eu]
  rw[Aa (by omega)];rfl
theorem Uah(e:Gb)(hz:Ja Mb e≤Da):Mq (((),(0:Int),()),(e,()))=
 some (cond (Ig (fun _ x=>Io e.1.1 e.1.2.1.length x) 0 e.2.2.2.1) (.inl (((),()),(e,()))) (.inr ((false,()),()))):=by
 have h20:Da=1048576:=rfl
 rw[Pl,Yt]at hz
 unfold Mq
 refine Kh (step:=fun x=>Gx x.1.1 x.1.2.1 x.2.1) e.2.2.2.1 (fun _ x=>Io e.1.1 e.1.2.1.length x) (fun i=>(((),i,()),(e,()))) _ _ ?_ ?_ (by omega)
 ·intro k hk
  simp only[Gx]
  have hk2:(k:Int)<((ja e.2.2.2.1:Nat):Int):=by omega
  rw[Ba hk2,Nb hk]
  simp only[zj,jb,Io]
  cases decide (e.2.2.2.1[k].1≥e.1.1)<;>cases(e.2.2.2.1[k].2.1.1 !=9)<;>cases decide (e.2.2.2.1[k].2.1.2.2.2.1≥((ja e.1.2.1:Nat):Int))<;>rfl
 ·simp only[Gx]
  rw[Aa (by omega)];rfl
theorem AV(e:Gb)(hz:Ja Mb e≤Da):JB e=some (Tg e,()):=by
 have h20:Da=1048576:=rfl
 have hz':=hz
 rw[Pl,Yt]at hz'
 unfold JB Tg
 rw[Vi e.1 (by omega)]
 cases hk:Uc e.1 with
 |false=>rfl
 |true=>
  simp only[jb,jg,zk,jk]
  by_cases h4:e.2.1.length≤4
  ·rw[Aa (show¬((ja e.2.1:Nat):Int)>4 by omega),Ba h4,HG _ (by omega)]
   simp only[jb,zk,jk]
   cases hh:Of e.2.2.2.1 with
   |false=>rfl
   |true=>
    simp only[jg,zk,jk]
    rw[Gab e hz]
    have hl:=(Be hk).l2
    by_cases ho:0≤e.2.2.2.2.1∧e.2.2.2.2.1≤15
    ·rw[Aa (show¬e.2.2.2.2.1<0 by omega),Aa (show¬e.2.2.2.2.1>15 by omega),Ba ho]
     simp only[zk,jb,Bool.and_true]
     cases Ig (fun _ m=>Kc m) 0 e.2.1 with
     |false=>rfl
     |true=>
      simp only[zj,qg,jk]
      rw[Dah e hz]
      cases Ig (fun _ x=>Io e.1.1 e.1.2.1.length x) 0 e.2.2.2.1 with
      |false=>rfl
      |true=>
       simp only[zj,jb,qg,jk]
       rw[UB (by omega),Ba (show(0:Int)≤((ja e.1.2.1:Nat):Int) by omega)]
       have e2:((2:Int)==0)=false:=rfl
       rw[e2]
       simp only[zk,zj]
       by_cases hf:0≤e.2.2.1
       ·rw[Ba (show e.2.2.1≥0 from hf)]
        by_cases hf2:e.2.2.1<((2^e.1.2.1.length:Nat):Int)
        ·rw[Ba hf2,Ba (show 0≤e.2.2.1∧e.2.2.1<((2^e.1.2.1.length:Nat):Int)from⟨hf,hf2⟩)]
         cases ye e.2.2.1 2==0<;>rfl
        ·rw[Aa hf2,Aa (show¬(0≤e.2.2.1∧e.2.2.1<((2^e.1.2.1.length:Nat):Int))from fun h=>hf2 h.2)]
         cases ye e.2.2.1 2==0<;>rfl
       ·rw[Aa (show¬e.2.2.1≥0 from hf),Aa (show¬(0≤e.2.2.1∧e.2.2.1<((2^e.1.2.1.length:Nat):Int))from fun h=>hf h.1)]
        rfl
    ·have hr:(Ig (fun _ m=>Kc m) 0 e.2.1&&(Ig (fun _ x=>Io e.1.1 e.1.2.1.length x) 0 e.2.2.2.1&&(decide (0≤e.2.2.1∧e.2.2.1<((2^e.1.2.1.length:Nat):Int))&&((ye e.2.2.1 2==0)&&decide (0≤e.2.2.2.2.1∧e.2.2.2.2.1≤15)))))=false:=by
      rw[Aa ho];simp
     rw[hr]
     by_cases h1:e.2.2.2.2.1<0
     ·rw[Ba h1];rfl
     ·rw[Aa h1,Ba (show e.2.2.2.2.1>15 by omega)];rfl
  ·rw[Ba (show((ja e.2.1:Nat):Int)>4 by omega),Aa h4];rfl
theorem UA(e:Gb)(hz:Ja Mb e≤Da):Hp e=some (Tg e,()):=by
 have h20:Da=1048576:=rfl
 have hz':=hz
 rw[Pl,Yt]at hz'
 unfold Hp Tg
 rw[Sk e.1 (by omega)]
 cases hk:Uc e.1 with
 |false=>rfl
 |true=>
  simp only[jb,jg,zk,jk]
  by_cases h4:e.2.1.length≤4
  ·rw[Aa (show¬((ja e.2.1:Nat):Int)>4 by omega),Ba h4,YG _ (by omega)]
   simp only[jb,zk,jk]
   cases hh:Of e.2.2.2.1 with
   |false=>rfl
   |true=>
    simp only[jg,zk,jk]
    rw[Gac e hz]
    have hl:=(Be hk).l2
    cases Ig (fun _ m=>Kc m) 0 e.2.1 with
    |false=>rfl
    |true=>
     simp only[zj,jb,qg,jk]
     rw[Uah e hz]
     cases Ig (fun _ x=>Io e.1.1 e.1.2.1.length x) 0 e.2.2.2.1 with
     |false=>rfl
     |true=>
      simp only[zj,jb,qg,jk,Bd]
      have hp:(2^e.1.2.1.length:Nat)≤16:=Nat.pow_le_pow_right (n:=2) (by omega) hl
      rw[UB (by omega),Ba (show(0:Int)≤((ja e.1.2.1:Nat):Int) by omega)]
      generalize(2^e.1.2.1.length:Nat)=P2 at hp⊢
      rw[Mf (by omega) (by omega)]
      have e2:((2:Int)==0)=false:=rfl
      rw[e2]
      simp only[zk,zj,jb]
      have e3:decide (0≤e.2.2.1∧e.2.2.1≤(P2:Int)-1)=decide (0≤e.2.2.1∧e.2.2.1<(P2:Int)):=by
       rw[decide_eq_decide];omega
      rw[e3]
      cases decide (0≤e.2.2.1∧e.2.2.1<(P2:Int))<;>cases ye e.2.2.1 2==0<;>rfl
  ·rw[Ba (show((ja e.2.1:Nat):Int)>4 by omega),Aa h4];rfl
def Pj(x:Ya):Bool:=decide (0≤x.1∧x.1≤1000000)&&decide (0≤x.2.1∧x.2.1≤31)
theorem KW(x:Ya):OE x=some (Pj x,()):=by
 unfold OE Pj
 simp only[Uk,Vk]
 apply Kd
 simp only[Ae,decide_eq_true_eq,jq,and_false,or_false,jd]
 omega
theorem DX(x:Ya):RF x=some (Pj x,()):=by
 unfold RF Pj
 simp only[Bd,jb,Uk,Vk]
 apply Kd
 simp only[Ae,decide_eq_true_eq,jq,and_false,or_false,jd]
def Bu(s:Int×Int)(x:Ya):Bool:=Pj x&&(!decide (s.1>x.1)&&!(x.2.2.1==(Im s.2 x.2.1==1)))
def KE(s:Int×Int)(x:Ya):(Int×Int)⊕Unit:=cond (Bu s x) (.inl (x.1,Kt .i64 s.2 (Te .i64 1 x.2.1))) (.inr ())
def Yak(l:List Ya)(d:Int):(Int×Int)⊕Unit:=Cb (fun _ s x=>KE s x) 0 (0,d) l
def FL(l:List Ya)(d:Int):Int×Bool:=cond (decide (l.length≤64)) (match Yak l d with|.inl s=>(s.2,true)|.inr _=>(0,false)) (0,false)
theorem Xn{x:Ya}(h:Pj x=true):0≤x.1∧x.1≤1000000∧0≤x.2.1∧x.2.1≤31:=by
 simp only[Pj,jd,decide_eq_true_eq]at h
 omega
theorem Sad(l:List Ya)(d:Int)(hn:l.length≤Da):AR l d=some ((FL l d).1,(FL l d).2,()):=by
 have h20:Da=1048576:=rfl
 unfold AR FL
 by_cases h64:l.length≤64
 ·rw[Aa (show¬((ja l:Nat):Int)>64 by omega),Ba h64]
  have hl:=Ug (step:=fun x=>ZC x.1.1 x.1.2.1 x.1.2.2.1 x.1.2.2.2.1 x.1.2.2.2.2.1) l (fun _ s x=>KE s x) (fun s i=>((l,s.2,l,((ja l:Nat):Int),i,()),()))
   (fun s=>.inl ((s.2,()),())) (fun _=>.inr (((0:Int),false,()),())) (fun k s=>(k=0→s.1=0)∧∀hk:k-1<l.length,0<k→s.1=l[k-1].1) (by
    intro k hk s ⟨hs0,hs1⟩
    refine⟨?_,?_⟩
    ·simp only[ZC]
     rw[Ba (show(k:Int)<((ja l:Nat):Int) by omega),Nb hk]
     simp only[zj,jb,KW,KE,Bu]
     generalize hx:l[k]=x
     cases hev:Pj x with
     |false=>rfl
     |true=>
      have hkey:=Xn hev
      simp only[jg,zk,jk]
      rw[ZQ s.2 hkey.2.2.1,Ba hkey.2.2.1]
      simp only[jb,zj]
      by_cases h0:k=0
      ·subst h0
       rw[Aa (show¬((0:Nat):Int)>0 by omega),Aa (show¬s.1>x.1 by rw[hs0 rfl];omega)]
       cases(x.2.2.1==(Im s.2 x.2.1==1))<;>rfl
      ·rw[Ba (show(k:Int)>0 by omega),Mf (by omega) (by omega),show(k:Int)-1=((k-1:Nat):Int) by omega,Nb (show k-1<l.length by omega)]
       rw[hs1 (by omega) (by omega)]
       simp only[jb,zj]
       cases decide (l[k-1].1>x.1)<;>cases(x.2.2.1==(Im s.2 x.2.1==1))<;>rfl
    ·intro s' h
     unfold KE at h
     cases hc:Bu s l[k]with
     |false=>rw[hc]at h;simp at h
     |true=>
      rw[hc]at h
      simp only[zj,ze]at h
      refine⟨by omega,fun _ _=>?_⟩
      rw[←h]
      simp only[Nat.add_sub_cancel])
   (by
    intro s _
    simp only[ZC]
    rw[Aa (by omega)];rfl) (by omega) (0,d) ⟨fun _=>rfl,fun _ h=>absurd h (by omega)⟩
  unfold RE
  erw[hl]
  simp only[zk,jb,Yak,zj]
  cases Cb (fun x s x=>KE s x) 0 (0,d) l<;>rfl
 ·rw[Ba (show((ja l:Nat):Int)>64 by omega),Aa h64];rfl
def GV(keys:Int)(l:List Ya):Bool:=Ig (fun _ (x:Ya)=>!decide (x.2.1≥keys)) 0 l
def Gf(q:List Ya)(d keys:Int):Bool:=GV keys q&&(FL q d).2
theorem PT(q:List Ya)(d keys:Int)(hn:q.length≤Da):Dr q d keys=some (Gf q d keys,()):=by
 have h20:Da=1048576:=rfl
 have hl:=Kh (step:=fun x=>Ru x.1.1 x.1.2.1 x.1.2.2.1 x.1.2.2.2.1 x.1.2.2.2.2.1 x.1.2.2.2.2.2.1) q (fun _ (x:Ya)=>!decide (x.2.1≥keys)) (fun i=>((q,d,keys,q,((ja q:Nat):Int),i,()),()))
  (.inl ((q,d,()),())) (.inr ((false,()),())) (by
   intro k hk
   simp only[Ru]
   rw[Ba (show(k:Int)<((ja q:Nat):Int) by omega),Nb hk]
   simp only[zj,jb]
   cases decide (q[k].2.1≥keys)<;>rfl) (by
   simp only[Ru]
   rw[Aa (by omega)];rfl) (by omega)
 unfold Dr Yx Gf GV
 erw[hl]
 simp only[jb]
 cases Ig (fun _ (x:Ya)=>!decide (x.2.1≥keys)) 0 q with
 |false=>rfl
 |true=>simp only[zj,qg,Sad q d hn,jb];rfl
def Ps(keys:Int)(s:Int×Int)(x:Ya):(Int×Int)⊕Unit:=cond (Bu s x&&!decide (x.2.1≥keys)) (.inl (x.1,Kt .i64 s.2 (Te .i64 1 x.2.1))) (.inr ())
theorem WQ(keys:Int):∀(l:List Ya) (k:Nat) (s:Int×Int),Ay (Cb (fun _ s x=>Ps keys s x) k s l)=(Ig (fun _ (x:Ya)=>!decide (x.2.1≥keys)) k l&&Ay (Cb (fun _ s x=>KE s x) k s l))
 |[],_,_=>rfl
 |x::l,k,s=>by
  simp only[Cb,Ig,Ps,KE]
  cases Bu s x with
  |false=>simp[Ay]
  |true=>
   cases decide (x.2.1≥keys)with
   |true=>simp[Ay]
   |false=>simp only[jk,j8,zj];exact WQ keys l (k+1) _
theorem JS(q:List Ya)(d keys:Int)(hn:q.length≤Da):Nv q d keys 0=some (Gf q d keys,()):=by
 have h20:Da=1048576:=rfl
 have hl:=Ug (step:=fun x=>Ct x.1.1 x.1.2.1 x.1.2.2.1 x.1.2.2.2.1 x.1.2.2.2.2.1) q (fun _ s x=>Ps keys s x) (fun s i=>((q,s.2,keys,s.1,i,()),()))
  (fun s=>.inl ((q,()),())) (fun _=>.inr ((false,()),())) (fun _ _=>True) (by
   intro k hk s _
   refine⟨?_,fun _ _=>trivial⟩
   simp only[Ct]
   rw[Ba (show(k:Int)<((ja q:Nat):Int) by omega),Nb hk]
   simp only[zj,jb,DX,Ps,Bu]
   generalize q[k]=x
   cases hev:Pj x with
   |false=>rfl
   |true=>
    have hkey:=Xn hev
    simp only[jg,zk,jk,Im]
    rw[Ba hkey.2.2.1]
    simp only[gt_iff_lt]
    cases decide (x.2.1≥keys)<;>cases decide (x.1<s.1)<;>cases(x.2.2.1==(Ih .i64 (Cy .i64 s.2 x.2.1) 1==1))<;>rfl)
  (by
   intro s _
   simp only[Ct]
   rw[Aa (by omega)];rfl) (by omega) (0,d) trivial
 unfold Nv Rw
 erw[hl]
 have hsp:=WQ keys q 0 (0,d)
 simp only[jb,Gf,GV,FL,Yak]
 by_cases h64:q.length≤64
 ·rw[Ba h64]
  cases h1:Cb (fun _ s x=>Ps keys s x) 0 (0,d) q with
  |inl s=>
   rw[h1]at hsp
   simp only[Ay]at hsp
   cases h2:Cb (fun _ s x=>KE s x) 0 (0,d) q with
   |inl s2=>
    rw[h2]at hsp
    simp only[Ay,Bool.and_true]at hsp
    rw[←hsp]
    simp only[qg]
    rw[Ba (show((ja q:Nat):Int)≤64 by omega)];rfl
   |inr u=>rw[h2]at hsp;simp[Ay]at hsp
  |inr u=>
   rw[h1]at hsp
   simp only[Ay]at hsp
   cases h2:Cb (fun _ s x=>KE s x) 0 (0,d) q with
   |inl s2=>
    rw[h2]at hsp
    simp only[Ay,Bool.and_true]at hsp
    rw[←hsp];rfl
   |inr u=>cases Ig (fun _ (x:Ya)=>!decide (x.2.1≥keys)) 0 q<;>rfl
 ·rw[Aa h64]
  cases h1:Cb (fun _ s x=>Ps keys s x) 0 (0,d) q with
  |inl s=>simp only[qg];rw[Aa (show¬((ja q:Nat):Int)≤64 by omega)];cases Ig (fun _ (x:Ya)=>!decide (x.2.1≥keys)) 0 q<;>rfl
  |inr u=>cases Ig (fun _ (x:Ya)=>!decide (x.2.1≥keys)) 0 q<;>rfl
def Yk(t:DL):Bool:=decide (1≤t.1∧t.1≤1000)&&(decide (0≤t.2.1∧t.2.1≤1000)&&decide (0≤t.2.2.1∧t.2.2.1≤2))
theorem NT(t:DL):KB t=some (Yk t,()):=by
 unfold KB Yk
 simp only[Uk,Vk]
 apply Kd
 simp only[Ae,decide_eq_true_eq,jq,and_false,or_false,jd]
 omega
theorem QT(t:DL):MB t=some (Yk t,()):=by
 unfold MB Yk
 simp only[Bd,jb,Uk,Vk]
 apply Kd
 simp only[Ae,decide_eq_true_eq,jq,and_false,or_false,jd]
theorem EX(e:Gb)(hn:e.2.2.2.1.length≤Da)(hx:∀x∈e.2.2.2.1,Nx x):UF e=some (LD e.2.2.2.1,()):=by
 have h20:Da=1048576:=rfl
 have hl:=(Ue (step:=fun x=>YA x.1.1 x.1.2.1 x.1.2.2.1 x.2.1) e.2.2.2.1 (fun _ s (x:Pa)=>Fe .i64 s (Te .i64 1 x.1)) (fun s i=>(((),s,i,()),(e,())))
  (fun s=>.inl ((s,()),())) (fun _ _=>True) (by
   intro k hk s _
   refine⟨?_,trivial⟩
   simp only[YA]
   rw[Ba (show(k:Int)<((ja e.2.2.2.1:Nat):Int) by omega),Nb hk]
   have hk':=hx _ (qj hk)
   simp only[zj,jb,CY,Bd]
   rw[Ba (show 0≤e.2.2.2.1[k].1∧e.2.2.2.1[k].1≤31 from⟨hk'.lo,hk'.hi⟩),Ba hk'.lo];rfl)
  (by
   intro s _
   simp only[YA]
   rw[Aa (by omega)];rfl) (by omega) 0 trivial).1
 unfold UF IC
 erw[hl]
 rfl
def LJ(l:List Ya):Int:=(l.getD (l.length-1) (0,0,false,())).1
def Lh(l:List Ya)(t:Int):Bool:=((l.length:Int)==0)||decide (LJ l≤t)
theorem D8{l:List Ya}(h:0<l.length)(hn:l.length≤Da):∃x,Ib l (j4 .i64 (((ja l:Nat):Int)-1))=some x∧x.1=LJ l:=by
 have h20:Da=1048576:=rfl
 refine⟨l[l.length-1],?_,?_⟩
 ·rw[Mf (by omega) (by omega),show((ja l:Nat):Int)-1=((l.length-1:Nat):Int) by omega,Nb (by omega)]
 ·simp[LJ,qu,je (show l.length-1<l.length by omega)]
theorem OT(l:List Ya)(t:Int)(hn:l.length≤Da):Cr l t=some (Lh l t,()):=by
 unfold Cr Lh
 by_cases h0:l.length=0
 ·simp[h0]
 ·obtain⟨x,h1,h2⟩:=D8 (l:=l) (by omega) hn
  rw[h1,show(((l.length:Nat):Int)==0)=false by simp;intro h;rw[h]at h0;simp at h0]
  simp only[zk,jb,h2,yw]
noncomputable def Od(d:Ab):Bool:=
 Tg d.1&&(Yk d.2.1&&(decide (0≤d.2.2.2.1∧d.2.2.2.1≤1000000)&&(decide (0≤d.2.2.2.2.1∧d.2.2.2.2.1≤d.2.2.2.1)&&(Gf d.2.2.1 (LD d.1.2.2.2.1) d.1.1.1&&(Lh d.2.2.1 d.2.2.2.1&&
  (decide (0≤d.2.2.2.2.2.1∧d.2.2.2.2.2.1≤d.1.1.1)&&decide (0≤d.2.2.2.2.2.2.1∧d.2.2.2.2.2.2.1≤d.2.2.2.1)))))))
theorem VU(d:Ab):Ja Ac d=Ja Mb d.1+Ja (.sl De) d.2.2.1:=by
 simp only[Ja,yc,js]
theorem AL(l:List Ya):Ja (.sl De) l=l.length:=Lp (e:=De) rfl l
theorem UQ{e:Gb}(h:Tg e=true):Of e.2.2.2.1=true:=by
 simp only[Tg,jd]at h
 exact h.2.2.1
theorem PH(d:Ab)(hz:Ja Ac d≤Da):Yq d=some (Od d,()):=by
 have hz':=hz
 rw[VU,AL]at hz'
 have hz2:=hz'
 rw[Pl,Yt]at hz2
 unfold Yq Od
 rw[AV _ (by omega)]
 cases he:Tg d.1 with
 |false=>rfl
 |true=>
  have hh:=Tu (UQ he)
  simp only[jb,jg,zk,jk,NT]
  cases Yk d.2.1 with
  |false=>rfl
  |true=>
   rw[CV _ (by omega) hh]
   simp only[jb,jg,zk,jk]
   rw[PT _ _ _ (by omega),OT _ _ (by omega)]
   simp only[jb]
   have key:∀a b c e f g h i j k:Bool,cond a (some (false,())) (cond b (some (false,())) (cond c (some (false,())) (cond e (some (false,())) (cond (!f) (some (false,())) (cond (!g) (some (false,())) (cond h (cond i (cond j (some (k,())) (some (false,()))) (some (false,()))) (some (false,()))))))))=
    some ((((!a&&!b)&&((!c&&!e)&&(f&&(g&&((h&&i)&&(j&&k)))))),()):Bool×Unit):=by
    intro a b c e f g h i j k
    cases a<;>cases b<;>cases c<;>cases e<;>cases f<;>cases g<;>cases h<;>cases i<;>cases j<;>cases k<;>rfl
   erw[key]
   apply Kd
   simp only[jd,yn,decide_eq_true_eq,decide_eq_false_iff_not]
   constructor
   ·rintro⟨⟨h1,h2⟩,⟨h3,h4⟩,h5,h6,⟨h7,h8⟩,h9,h10⟩
    exact⟨⟨by omega,by omega⟩,⟨by omega,by omega⟩,h5,h6,⟨h7,h8⟩,h9,h10⟩
   ·rintro⟨⟨h1,h2⟩,⟨h3,h4⟩,h5,h6,⟨h7,h8⟩,h9,h10⟩
    exact⟨⟨by omega,by omega⟩,⟨by omega,by omega⟩,h5,h6,⟨h7,h8⟩,h9,h10⟩
theorem YH(d:Ab)(hz:Ja Ac d≤Da):Gr d=some (Od d,()):=by
 have hz':=hz
 rw[VU,AL]at hz'
 have hz2:=hz'
 rw[Pl,Yt]at hz2
 unfold Gr Od
 rw[UA _ (by omega)]
 cases he:Tg d.1 with
 |false=>rfl
 |true=>
  have hh:=Tu (UQ he)
  simp only[jb,jg,zk,jk,QT,Bd]
  cases Yk d.2.1 with
  |false=>rfl
  |true=>
   rw[EX _ (by omega) hh]
   simp only[jb,jg,zk,jk]
   rw[JS _ _ _ (by omega)]
   simp only[jb,Lh]
   by_cases h0:d.2.2.1.length=0
   ·rw[Aa (show¬((ja d.2.2.1:Nat):Int)>0 by omega),show(((d.2.2.1.length:Nat):Int)==0)=true by simp[h0]]
    simp only[zk,Bool.true_or,jk]
    cases decide (0≤d.2.2.2.1∧d.2.2.2.1≤1000000)<;>cases decide (0≤d.2.2.2.2.1∧d.2.2.2.2.1≤d.2.2.2.1)<;>cases Gf d.2.2.1 (LD d.1.2.2.2.1) d.1.1.1<;>cases decide (0≤d.2.2.2.2.2.1∧d.2.2.2.2.2.1≤d.1.1.1)<;>rfl
   ·obtain⟨x,h1,h2⟩:=D8 (l:=d.2.2.1) (by omega) (by omega)
    rw[Ba (show((ja d.2.2.1:Nat):Int)>0 by omega),h1,show(((d.2.2.1.length:Nat):Int)==0)=false by simp;intro h;rw[h]at h0;simp at h0]
    simp only[zj,jb,yw,h2]
    have e1:decide (LJ d.2.2.1>d.2.2.2.1)=!decide (LJ d.2.2.1≤d.2.2.2.1):=by
     rw[qo];simp only[decide_eq_true_eq,yn,decide_eq_false_iff_not];omega
    rw[e1]
    cases decide (0≤d.2.2.2.1∧d.2.2.2.1≤1000000)<;>cases decide (0≤d.2.2.2.2.1∧d.2.2.2.2.1≤d.2.2.2.1)<;>cases Gf d.2.2.1 (LD d.1.2.2.2.1) d.1.1.1<;>cases decide (LJ d.2.2.1≤d.2.2.2.1)<;>cases decide (0≤d.2.2.2.2.2.1∧d.2.2.2.2.2.1≤d.1.1.1)<;>rfl

def MK{S:Type}(g:Nat→S→S):Nat→S→S
 |0,s=>s
 |n+1,s=>g n (MK g n s)
theorem V6{X R S:Type}{step:X→Option (X⊕R)}(n:Nat)(hn:n<9223372036854775807)(g:Nat→S→S)(s0:S)(I:S→Int→X)(out:S→R)
 (h:∀k,k<n→step (I (MK g k s0) (k:Int))=some (.inl (I (g k (MK g k s0)) (j4 .i64 ((k:Int)+1))))) (he:step (I (MK g n s0) (n:Int))=some (.inr (out (MK g n s0)))):
 Va step (I s0 0)=some (out (MK g n s0)):=by
 have:=EF (step:=step) (fun k=>I (MK g k s0) (k:Int)) n (out (MK g n s0)) (fun k hk=>by
  rw[h k hk,Gc (by omega)];rfl) he
 exact this
theorem CU{e:Ty}{c:Nat}:∀{w:List (T e)},(∀x∈w,Ja e x≤c)→Ja (.sl e) w≤(c+1)*w.length
 |[],_=>by simp[Ja]
 |x::r,h=>by
  have h1:=h x (by simp)
  have h2:Ja (.sl e) r≤(c+1)*r.length:=CU fun y hy=>h y (by simp[hy])
  have h3:Ja (.sl e) r=ja r+(zg (Ja e) r).sum:=rfl
  have h4:Ja (.sl e) (x::r)=(ja r+1)+(Ja e x+(zg (Ja e) r).sum):=by simp[Ja]
  rw[h4,jw,Nat.mul_add]
  omega
theorem Ob{n:Nat}(h:n≤1073741824):jx n Wa=true:=ji h
end KF
