/- An evaluator of Go functions on plain data, its soundness, and plain laws on what the functions compute, part 4 (conditions: as each lemma tells). -/
import Derived.Test.YtenekdhofnoalaaDoorC
import Derived.Test.YtenekdhofnoalaaDoorRows
set_option linter.unusedSimpArgs false
set_option linter.unusedVariables false
namespace Go.Proofs
open Go.Shelf
def Tryd.lays_strings_Split_ren : Go.Shelf.Ren := ⟨fun | 146 => 75 | 221 => 85 | 268 => 92 | 138 => 93 | 143 => 94 | 195 => 102 | 197 => 103 | 218 => 104 | 219 => 105 | 260 => 108 | 217 => 109 | 225 => 110 | 224 => 111 | 267 => 112 | 266 => 113 | 314 => 114 | n => n, fun | 9 => 9 | 31 => 62 | 3 => 3 | 4 => 4 | 0 => 0 | 105 => 133 | 21 => 21 | 5 => 5 | 46 => 130 | 119 => 139 | 139 => 142 | 138 => 141 | 146 => 143 | 51 => 128 | n => n, fun | 1 => 1 | 3 => 4 | 4 => 5 | n => n⟩
theorem Tryd.lays_strings_Split : Go.Proofs.LaysM.n146 Tryd.prog Tryd.lays_strings_Split_ren := {
 mixed := by kernel_rfl
 f138 := Tryd.func93.trans (congrArg some (by kernel_rfl))
 f143 := Tryd.func94.trans (congrArg some (by kernel_rfl))
 f146 := Tryd.func75.trans (congrArg some (by kernel_rfl))
 f195 := Tryd.func102.trans (congrArg some (by kernel_rfl))
 f197 := Tryd.func103.trans (congrArg some (by kernel_rfl))
 f217 := Tryd.func109.trans (congrArg some (by kernel_rfl))
 f218 := Tryd.func104.trans (congrArg some (by kernel_rfl))
 f219 := Tryd.func105.trans (congrArg some (by kernel_rfl))
 f221 := Tryd.func85.trans (congrArg some (by kernel_rfl))
 f224 := Tryd.func111.trans (congrArg some (by kernel_rfl))
 f225 := Tryd.func110.trans (congrArg some (by kernel_rfl))
 f260 := Tryd.func108.trans (congrArg some (by kernel_rfl))
 f266 := Tryd.func113.trans (congrArg some (by kernel_rfl))
 f267 := Tryd.func112.trans (congrArg some (by kernel_rfl))
 f268 := Tryd.func92.trans (congrArg some (by kernel_rfl))
 f314 := Tryd.func114.trans (congrArg some (by kernel_rfl))
 t0 := Tryd.underlying0
 a0 := Tryd.isAgg0
 z0 := Tryd.sizeOf0
 v0 := Tryd.zeroValue0
 t3 := Tryd.underlying3
 a3 := Tryd.isAgg3
 z3 := Tryd.sizeOf3
 v3 := Tryd.zeroValue3
 t4 := Tryd.underlying4
 a4 := Tryd.isAgg4
 z4 := Tryd.sizeOf4
 v4 := Tryd.zeroValue4
 t5 := Tryd.underlying5
 a5 := Tryd.isAgg5
 z5 := Tryd.sizeOf5
 v5 := Tryd.zeroValue5
 t9 := Tryd.underlying9
 a9 := Tryd.isAgg9
 z9 := Tryd.sizeOf9
 v9 := Tryd.zeroValue9
 t21 := Tryd.underlying21
 a21 := Tryd.isAgg21
 z21 := Tryd.sizeOf21
 v21 := Tryd.zeroValue21
 t31 := Tryd.underlying62
 a31 := Tryd.isAgg62
 z31 := Tryd.sizeOf62
 v31 := Tryd.zeroValue62
 t46 := Tryd.underlying130
 a46 := Tryd.isAgg130
 z46 := Tryd.sizeOf130
 v46 := Tryd.zeroValue130
 t51 := Tryd.underlying128
 a51 := Tryd.isAgg128
 z51 := Tryd.sizeOf128
 v51 := Tryd.zeroValue128
 t105 := Tryd.underlying133
 a105 := Tryd.isAgg133
 z105 := Tryd.sizeOf133
 v105 := Tryd.zeroValue133
 t119 := Tryd.underlying139
 a119 := Tryd.isAgg139
 z119 := Tryd.sizeOf139
 t138 := Tryd.underlying141
 a138 := Tryd.isAgg141
 z138 := Tryd.sizeOf141
 v138 := Tryd.zeroValue141
 t139 := Tryd.underlying142
 a139 := Tryd.isAgg142
 z139 := Tryd.sizeOf142
 v139 := Tryd.zeroValue142
 t146 := Tryd.underlying143
 a146 := Tryd.isAgg143
 z146 := Tryd.sizeOf143
 v146 := Tryd.zeroValue143
 g1 := by kernel_rfl
 g3 := by kernel_rfl
 g4 := by kernel_rfl
 i0 := by kernel_rfl
 i3 := by kernel_rfl
 i4 := by kernel_rfl
 i5 := by kernel_rfl
 i9 := by kernel_rfl
 i21 := by kernel_rfl
 i31 := by kernel_rfl
 i46 := by kernel_rfl
 i51 := by kernel_rfl
 i105 := by kernel_rfl
 i138 := by kernel_rfl
 i139 := by kernel_rfl
 i146 := by kernel_rfl
 m1 := by kernel_rfl
 s1_3 := fun w h => Go.Proofs.cell_of_shapedOpen_int (zero := #[.int .i64 0]) (t := 3) h (of_decide_eq_true (by kernel_rfl)) (by kernel_rfl) rfl (by kernel_rfl) (by kernel_rfl) Tryd.underlying3
 m3 := by kernel_rfl
 m4 := by kernel_rfl }
end Go.Proofs
namespace KF
open Go Go.Proofs Go.Proofs.Tryd
def GT : List (Nat × Ty) := [(3, int), (4, .b), (5, Dl), (9, .s), (22, (.sl (.sl Ta))), (24, Ra), (27, (.sl (.sl Ta))), (29, Ra), (33, (.sl Yd)), (54, Yd), (57, (.sl int)), (62, (.sl .s)), (72, (.sl Ta)), (76, (.sl Ta)), (78, Ta), (85, (.sl Dl)), (92, Ta)]
def GA : List (Nat × Ty × Nat) := []
theorem RJ : ((GT.all fun x => Zb Tryd.prog x.2 x.1) && (GA.all fun x => Xu Tryd.prog x.1 x.2.1 x.2.2)) = true := by kernel_rfl
theorem JF : Tryd.prog.follows .mixedOrders = true := by kernel_rfl
noncomputable abbrev II : Ph := JE (Tryd.lays_strings_Split_ren.g 1)
noncomputable section
abbrev WP : Program := Tryd.prog
abbrev WF := List (Nat × Mb)
abbrev WL := List (Nat × Hb)
abbrev WG (z : Bool) (fs : WF) (m : List (Nat × Nat)) (v l : List Nat) : Tc := ⟨GT, fs, m, z, GA, v, l⟩
def WO (fs : WF) : Prop := ∀ z m v l, Ah WP II (WG z fs m v l)
theorem GO : WO [] := fun _ _ _ _ => TB RJ
theorem wc {f : Nat} {s : Mb} {fs : WF} (e : WO fs) (h : Al WP II f s) : WO ((f, s) :: fs) := fun z m v l => Ah.cons h (e z m v l)
theorem FO {f : Nat} {s : Mb} {fs : WF} (e : WO fs) (h : La fs f = some s) : Al WP II f s := (e true [] [] []).fn f s h
theorem Gg {z : Bool} {fs : WF} {m : List (Nat × Nat)} {v l : List Nat} {L : WL} {fn : Func} {i : Nat} (r : Nat) {ls : Hb} {R : ls.inT.X → Option (ls.inT.X ⊕ (ls.outT.X ⊕ ls.retT.X))}
 (h3 : ls.F = Cb R) (h1 : Ve (lp fn i) = some r := by kernel_rfl) (h2 : (La L r) = some ls := by kernel_rfl) (h4 : ∀ x, Lo (WG z fs m v l) L ls (lp fn i) x = R x := by intro _; kernel_rfl) : Cc (WG z fs m v l) L (lp fn i) := ZC h1 h2 h3 h4
theorem Nf {f : Nat} {fn : Func} {pt rt : Ty} {fr : List Bool} {F : T pt → Option (T rt)} {fs : WF} (e : WO fs) (hf : WP.funcs[f]? = some fn)
 (hb : (fn.body.isSome && !(fn.name == "runtime.NumGoroutine") && Nat.ble pt.npar fn.ntmps && Nat.beq (Nc (fn.body.getD .skip)).length 0) = true := by kernel_rfl)
 (hF : ∀ x, VB (WG true fs [] [] []) [] fn pt rt fr x = F x := by intro _; kernel_rfl) : WO ((f, .pu pt rt fr F) :: fs) := wc e (Xv (e _ _ _ _) JF hf hb Ac hF)
theorem Um {k : Nat} {L : WL} {m : List (Nat × Nat)} {v l : List Nat} {f : Nat} {fn : Func} {pt rt : Ty} {fr : List Bool} {F : T pt → Option (T rt)} {fs : WF} (e : WO fs) (hf : WP.funcs[f]? = some fn) (hL : ∀ i, i < k → Cc (WG true fs m v l) L (lp fn i))
 (hb : (fn.body.isSome && !(fn.name == "runtime.NumGoroutine") && Nat.ble pt.npar fn.ntmps && Nat.beq (Nc (fn.body.getD .skip)).length k) = true := by kernel_rfl)
 (hF : ∀ x, VB (WG true fs m v l) L fn pt rt fr x = F x := by intro _; kernel_rfl) : WO ((f, .pu pt rt fr F) :: fs) := wc e (Xv (e _ _ _ _) JF hf hb hL hF)
theorem TF {k : Nat} {L : WL} {m : List (Nat × Nat)} {v l : List Nat} {f : Nat} {fn : Func} {τ pt rt : Ty} {fr : List Bool} {F : T τ → T pt → Option (T τ × T rt)} {fs : WF} (e : WO fs) (hf : WP.funcs[f]? = some fn) (hL : ∀ i, i < k → Cc (WG false fs m v l) L (lp fn i))
 (hb : (fn.body.isSome && !(fn.name == "runtime.NumGoroutine") && Nat.ble (pt.npar + 1) fn.ntmps && Nat.beq (Nc (fn.body.getD .skip)).length k) = true := by kernel_rfl)
 (hF : ∀ x0 x, Vw (WG false fs m v l) L fn τ pt rt fr x0 x = F x0 x := by intro _ _; kernel_rfl) : WO ((f, .io τ pt rt fr F) :: fs) := wc e (GD (e _ _ _ _) rfl JF hf hb hL hF)
theorem RL : ∀ w, II.p w → ∃ m, w.cell? ⟨Tryd.lays_strings_Split_ren.g 1, 0, none⟩ = some (.int .i64 m) := fun _ h => h
abbrev Hc : TD := .data int
abbrev Kj : Ty := .sl Ta
abbrev Bi : Ty := .p int .u
abbrev Tk : Ty := .p .b .u
abbrev Rq : Ty := .p Ta .u
abbrev Dz : TD := .own 200001 Yd true
abbrev Ks : TD := .data Ra
abbrev Sq : Ty := .sl Yd
abbrev Hx : TD := .data (.sl Kj)
abbrev CN : Mb := .pu (.p Kj Bi) Bi [true] (fun x => Hh x.1 x.2.1)
abbrev UD : WF := (40, CN) :: ([] : WF)
theorem QK : WO UD := Nf GO func40
abbrev TM : Mb := .pu (.p (.sl Kj) Bi) Bi [true] (fun x => Oi x.1 x.2.1)
abbrev VG : WF := (22, TM) :: UD
def GC : Hb := ⟨27, ⟨[(0, Hx), (1, Hc), (5, Hc)], []⟩, 0, ⟨[(1, Hc)], []⟩, ⟨[(4, Hc)], []⟩, Ak⟩
def YL : WL := [(5, GC)]
theorem QI : Cc (WG true UD [] [] []) YL (lp f22 0) := Gg 5 (ls := GC) rfl
theorem HK : WO VG := Um QK func22 (Ub QI Ac)
abbrev MO : Mb := .pu (.p Ra Bi) Bi [true] (fun x => Ik x.1 x.2.1)
abbrev UJ : WF := (6, MO) :: VG
theorem JO : WO UJ := Nf HK func6
abbrev RN : Mb := .pu Rq Rq [true] (fun x => Ei x.1)
abbrev ZD : WF := (64, RN) :: UJ
theorem FL : WO ZD := Nf JO func64
abbrev HN : Mb := .pu (.p Kj .u) (.p Kj .u) [true] (fun x => Gj x.1)
abbrev VD : WF := (45, HN) :: ZD
def RC : Hb := ⟨23, ⟨[(0, (.data Kj)), (3, (.own 200001 Ta true)), (4, Hc)], []⟩, 0, ⟨[(3, (.own 200001 Ta true))], []⟩, ⟨[], []⟩, Xk⟩
def DM : WL := [(3, RC)]
theorem BJ : Cc (WG true ZD [] [] []) DM (lp f45 0) := Gg 3 (ls := RC) rfl
theorem VK : WO VD := Um FL func45 (Ub BJ Ac)
abbrev WM : Mb := .pu (.p (.sl Kj) .u) (.p (.sl Kj) .u) [true] (fun x => Il x.1)
abbrev XG : WF := (25, WM) :: VD
def JC : Hb := ⟨23, ⟨[(0, Hx), (3, (.own 200001 Kj true)), (4, Hc)], []⟩, 0, ⟨[(3, (.own 200001 Kj true))], []⟩, ⟨[], []⟩, Bk⟩
def ZL : WL := [(3, JC)]
theorem TI : Cc (WG true VD [] [] []) ZL (lp f25 0) := Gg 3 (ls := JC) rfl
theorem KK : WO XG := Um VK func25 (Ub TI Ac)
abbrev NO : Mb := .pu (.p Ra .u) (.p Ra .u) [true] (fun x => Hf x.1)
abbrev VJ : WF := (8, NO) :: XG
theorem KO : WO VJ := Nf KK func8
abbrev GN : Mb := .pu RF Tk [true] (fun x => Td x.1 x.2.1 x.2.2.1)
abbrev DH : WF := (44, GN) :: VJ
theorem UK : WO DH := Nf KO func44
abbrev FN : Mb := .pu Rq Tk [true] (fun x => Og x.1)
abbrev Xz : WF := (43, FN) :: DH
theorem TK : WO Xz := Nf UK func43
abbrev VM : Mb := .pu (.p Ra .u) Tk [true] (fun x => Fi x.1)
abbrev QD : WF := (24, VM) :: Xz
def IC : Hb := ⟨74, ⟨[(1, (.ptr 1 [])), (3, Hc), (4, Hc)], [(1, Ra, Ks)]⟩, 2, ⟨[(1, (.ptr 1 [])), (3, Hc)], [(1, Ra, Ks)]⟩, ⟨[(2, (.data .b))], []⟩, Yf⟩
def HC : Hb := ⟨74, ⟨[(1, (.ptr 1 [])), (3, Hc)], [(1, Ra, Ks)]⟩, 0, ⟨[(1, (.ptr 1 []))], [(1, Ra, Ks)]⟩, ⟨[(2, (.data .b))], []⟩, Xf⟩
def SH : WL := [(7, IC), (2, HC)]
theorem SI : Cc (WG true Xz [] [] []) SH (lp f24 1) := Gg 7 (ls := IC) rfl
theorem RI : Cc (WG true Xz [] [] []) SH (lp f24 0) := Gg 2 (ls := HC) rfl
theorem JK : WO QD := Um TK func24 (Ub SI (Ub RI Ac))
abbrev CO : Mb := .pu (.p .s (.p Dl .u)) (.p (.sl .s) .u) [true] (fun x => Tl x.1 x.2.1)
abbrev QH : WF := (83, CO) :: QD
def XC : Hb := ⟨36, ⟨[(0, (.data .s)), (1, (.data Dl)), (5, (.own 200001 .s true)), (6, Hc), (7, Hc)], []⟩, 0, ⟨[(5, (.own 200001 .s true))], []⟩, ⟨[], []⟩, Mh⟩
def HM : WL := [(4, XC)]
theorem HJ : Cc (WG true QD [] [] []) HM (lp f83 0) := Gg 4 (ls := XC) rfl
theorem QL : WO QH := Um JK func83 (Ub HJ Ac)
abbrev YN : Mb := .pu .u (.p (.sl .s) .u) [true] (fun x => Nl)
abbrev MH : WF := (72, YN) :: QH
theorem ML : WO MH := Nf QL func72
abbrev NN : Mb := .pu Bi (.p .s .u) [true] (fun x => Mf x.1)
abbrev GH : WF := (53, NN) :: MH
theorem BL : WO GH := Nf ML func53
abbrev PN : Mb := .pu Yn (.p .s .u) [true] (fun x => Ye x.1 x.2.1)
abbrev Zz : WF := (62, PN) :: GH
theorem DL : WO Zz := Nf BL func62
abbrev DN : Mb := .pu (.p Dl .u) Yn [true, true] (fun x => Cn x.1)
abbrev BH : WF := (41, DN) :: Zz
def PC : Hb := ⟨23, ⟨[(0, (.data Dl)), (4, Hc), (5, Hc)], []⟩, 2, ⟨[(0, (.data Dl)), (4, Hc)], []⟩, ⟨[(2, Hc), (3, Hc)], []⟩, Qc⟩
def OC : Hb := ⟨23, ⟨[(0, (.data Dl)), (4, Hc)], []⟩, 0, ⟨[], []⟩, ⟨[(2, Hc), (3, Hc)], []⟩, Sj⟩
def UH : WL := [(5, PC), (2, OC)]
theorem ZI : Cc (WG true Zz [] [] []) UH (lp f41 1) := Gg 5 (ls := PC) rfl
theorem YI : Cc (WG true Zz [] [] []) UH (lp f41 0) := Gg 2 (ls := OC) rfl
theorem RK : WO BH := Um DL func41 (Ub ZI (Ub YI Ac))
abbrev AO : Mb := .pu Rq Tk [true] (fun x => Jj x.1)
abbrev OH : WF := (81, AO) :: BH
theorem OL : WO OH := Nf RK func81
abbrev QN : Mb := .pu Rq Rq [true] (fun x => Dn x.1)
abbrev YD : WF := (63, QN) :: OH
theorem EL : WO YD := Nf OL func63
abbrev EN : Mb := .pu (.p Ra Yn) Bi [true] (fun x => Ii x.1 x.2.1 x.2.2.1)
abbrev CH : WF := (42, EN) :: YD
def QC : Hb := ⟨50, ⟨[(1, Hc), (2, Hc), (3, (.ptr 3 [])), (7, Hc)], [(3, Ra, Ks)]⟩, 0, ⟨[], []⟩, ⟨[(6, Hc)], []⟩, Ze⟩
def CM : WL := [(2, QC)]
theorem AJ : Cc (WG true YD [] [] []) CM (lp f42 0) := Gg 2 (ls := QC) rfl
theorem SK : WO CH := Um EL func42 (Ub AJ Ac)
abbrev UM : Mb := .pu (.p Ra (.p Dl Bi)) (.p Sq .u) [true] (fun x => Ml x.1 x.2.1 x.2.2.1)
abbrev PD : WF := (23, UM) :: CH
theorem IK : WO PD := Nf SK func23
abbrev LM : Mb := .pu (.p Ra (.p .s .u)) (.p Sq Tk) [true, true] (fun x => Kh x.1 x.2.1)
abbrev RG : WF := (11, LM) :: PD
def BC : Hb := ⟨43, ⟨[(1, (.data .s)), (2, (.ptr 2 [])), (6, Dz), (7, Hc)], [(2, Ra, Ks)]⟩, 0, ⟨[(6, Dz)], []⟩, ⟨[(4, Dz), (5, (.data .b))], []⟩, Lh⟩
def SL : WL := [(5, BC)]
theorem LI : Cc (WG true PD [] [] []) SL (lp f11 0) := Gg 5 (ls := BC) rfl
theorem BK : WO RG := Um IK func11 (Ub LI Ac)
abbrev SN : Mb := .pu Bi Tk [true] (fun x => Wg x.1)
abbrev JH : WF := (65, SN) :: RG
theorem GL : WO JH := Nf BK func65
abbrev TN : Mb := .pu Bi Tk [true] (fun x => Xg x.1)
abbrev KH : WF := (66, TN) :: JH
theorem HL : WO KH := Nf GL func66
abbrev UN : Mb := .pu Bi Tk [true] (fun x => Fh x.1)
abbrev LH : WF := (67, UN) :: KH
theorem IL : WO LH := Nf HL func67
abbrev IN : Mb := .pu Rq Tk [true] (fun x => Lg x.1)
abbrev Yz : WF := (46, IN) :: LH
theorem WK : WO Yz := Nf IL func46
abbrev XM : Mb := .pu (.p Ra .u) Tk [true] (fun x => Gk x.1)
abbrev YG : WF := (26, XM) :: Yz
def LC : Hb := ⟨73, ⟨[(1, (.ptr 1 [])), (3, Hc), (28, Hx), (29, Hc), (30, Hc), (40, (.data Kj)), (41, Hc), (42, Hc)], [(1, Ra, Ks)]⟩, 2, ⟨[(1, (.ptr 1 [])), (28, Hx), (29, Hc), (30, Hc)], [(1, Ra, Ks)]⟩, ⟨[(2, (.data .b))], []⟩, Tf⟩
def KC : Hb := ⟨73, ⟨[(1, (.ptr 1 [])), (28, Hx), (29, Hc), (30, Hc)], [(1, Ra, Ks)]⟩, 0, ⟨[], []⟩, ⟨[(2, (.data .b))], []⟩, Sf⟩
def TH : WL := [(9, LC), (4, KC)]
theorem VI : Cc (WG true Yz [] [] []) TH (lp f26 1) := Gg 9 (ls := LC) rfl
theorem UI : Cc (WG true Yz [] [] []) TH (lp f26 0) := Gg 4 (ls := KC) rfl
theorem LK : WO YG := Um WK func26 (Ub VI (Ub UI Ac))
abbrev ZN : Mb := .pu (.p .s (.p .s .u)) (.p (.sl .s) .u) [true] (fun x => strings_Split x.1 x.2.1)
abbrev NH : WF := (75, ZN) :: YG
theorem NL : WO NH := wc LK (Wy Tryd.lays_strings_Split (by kernel_rfl) RL)
abbrev ON : Mb := .pu Bi (.p .s .u) [true] (fun x => Bb x.1)
abbrev HH : WF := (58, ON) :: NH
theorem CL : WO HH := Nf NL func58
abbrev VN : Mb := .pu Yn (.p .s .u) [true] (fun x => We x.1 x.2.1)
abbrev AA : WF := (68, VN) :: HH
theorem JL : WO AA := Nf CL func68
abbrev JN : Mb := .pu (.p Dl .u) Yn [true, true] (fun x => Xm x.1)
abbrev EH : WF := (47, JN) :: AA
def TC : Hb := ⟨27, ⟨[(0, (.data Dl)), (5, Hc), (6, Hc), (7, (.own 200101 int true)), (8, Hc), (9, Hc)], []⟩, 2, ⟨[(0, (.data Dl)), (7, (.own 200101 int true)), (8, Hc), (9, Hc)], []⟩, ⟨[(2, Hc), (3, Hc)], []⟩, Pc⟩
def SC : Hb := ⟨27, ⟨[(0, (.data Dl)), (7, (.own 200001 int true)), (8, Hc), (9, Hc)], []⟩, 0, ⟨[], []⟩, ⟨[(2, Hc), (3, Hc)], []⟩, Oj⟩
def VH : WL := [(5, TC), (2, SC)]
theorem DJ : Cc (WG true AA [] [] []) VH (lp f47 1) := Gg 5 (ls := TC) rfl
theorem CJ : Cc (WG true AA [] [] []) VH (lp f47 0) := Gg 2 (ls := SC) rfl
theorem XK : WO EH := Um JL func47 (Ub DJ (Ub CJ Ac))
abbrev BO : Mb := .pu Rq Tk [true] (fun x => Ej x.1)
abbrev PH : WF := (82, BO) :: EH
theorem PL : WO PH := Nf XK func82
abbrev WN : Mb := .pu Rq Rq [true] (fun x => Ym x.1)
abbrev AE : WF := (69, WN) :: PH
theorem KL : WO AE := Nf PL func69
abbrev KN : Mb := .pu (.p Ra Yn) Bi [true] (fun x => Gi x.1 x.2.1 x.2.2.1)
abbrev FH : WF := (48, KN) :: AE
def UC : Hb := ⟨40, ⟨[(1, Hc), (2, Hc), (12, (.data Kj)), (13, Hc), (14, Hc)], []⟩, 0, ⟨[], []⟩, ⟨[(6, Hc)], []⟩, Qg⟩
def EM : WL := [(2, UC)]
theorem EJ : Cc (WG true AE [] [] []) EM (lp f48 0) := Gg 2 (ls := UC) rfl
theorem YK : WO FH := Um KL func48 (Ub EJ Ac)
abbrev YM : Mb := .pu (.p Ra (.p Dl Bi)) (.p Sq Tk) [true, true] (fun x => Fj x.1 x.2.1 x.2.2.1)
abbrev RD : WF := (27, YM) :: FH
theorem MK : WO RD := Nf YK func27
abbrev MM : Mb := .pu (.p Ra (.p .s .u)) (.p Sq Tk) [true, true] (fun x => Ag x.1 x.2.1)
abbrev SG : WF := (12, MM) :: RD
def CC : Hb := ⟨42, ⟨[(1, (.data .s)), (2, (.ptr 2 [])), (6, Dz), (7, Hc)], [(2, Ra, Ks)]⟩, 0, ⟨[(6, Dz)], []⟩, ⟨[(4, Dz), (5, (.data .b))], []⟩, Eh⟩
def TL : WL := [(5, CC)]
theorem MI : Cc (WG true RD [] [] []) TL (lp f12 0) := Gg 5 (ls := CC) rfl
theorem CK : WO SG := Um MK func12 (Ub MI Ac)
abbrev AN : Mb := .pu TJ Tk [true] (fun x => Xi x.1 x.2.1)
abbrev SD : WF := (29, AN) :: SG
theorem OK : WO SD := Nf CK func29
abbrev NM : Mb := .pu (.p Sq (.p Sq .u)) Tk [true] (fun x => Mg x.1 x.2.1)
abbrev TG : WF := (13, NM) :: SD
def DC : Hb := ⟨27, ⟨[(0, (.data Sq)), (1, (.data Sq)), (5, Hc)], []⟩, 0, ⟨[], []⟩, ⟨[(4, (.data .b))], []⟩, Gl⟩
def UL : WL := [(4, DC)]
theorem NI : Cc (WG true SD [] [] []) UL (lp f13 0) := Gg 4 (ls := DC) rfl
theorem DK : WO TG := Um OK func13 (Ub NI Ac)
abbrev XN : Mb := .pu (.p Ta Rq) Tk [true] (fun x => Di x.1 x.2.1)
abbrev BE : WF := (70, XN) :: TG
theorem LL : WO BE := Nf DK func70
abbrev LN : Mb := .pu (.p Kj (.p Kj .u)) Tk [true] (fun x => Gh x.1 x.2.1)
abbrev WD : WF := (49, LN) :: BE
def VC : Hb := ⟨27, ⟨[(0, (.data Kj)), (1, (.data Kj)), (5, Hc)], []⟩, 0, ⟨[], []⟩, ⟨[(4, (.data .b))], []⟩, Wk⟩
def FM : WL := [(4, VC)]
theorem FJ : Cc (WG true BE [] [] []) FM (lp f49 0) := Gg 4 (ls := VC) rfl
theorem ZK : WO WD := Um LL func49 (Ub FJ Ac)
abbrev ZM : Mb := .pu (.p (.sl Kj) (.p (.sl Kj) .u)) Tk [true] (fun x => Li x.1 x.2.1)
abbrev ZG : WF := (28, ZM) :: WD
def MC : Hb := ⟨27, ⟨[(0, Hx), (1, Hx), (5, Hc)], []⟩, 0, ⟨[], []⟩, ⟨[(4, (.data .b))], []⟩, Xj⟩
def AM : WL := [(4, MC)]
theorem WI : Cc (WG true WD [] [] []) AM (lp f28 0) := Gg 4 (ls := MC) rfl
theorem NK : WO ZG := Um ZK func28 (Ub WI Ac)
abbrev KM : Mb := .pu (.p Ra (.p Ra .u)) Tk [true] (fun x => Hk x.1 x.2.1)
abbrev MD : WF := (10, KM) :: ZG
theorem AK : WO MD := Nf NK func10
abbrev MN : Mb := .io Kj Bi Bi [true] (fun x0 x => Nk x0 x.1)
abbrev XD : WF := (50, MN) :: MD
def WC : Hb := ⟨41, ⟨[(0, (.own 500000 Ta true)), (1, Hc), (5, Hc)], []⟩, 0, ⟨[(0, (.own 500000 Ta true)), (1, Hc)], []⟩, ⟨[], []⟩, Lj⟩
def GM : WL := [(2, WC)]
theorem GJ : Cc (WG false MD [] [] []) GM (lp f50 0) := Gg 2 (ls := WC) rfl
theorem AL : WO XD := TF AK func50 (Ub GJ Ac)
abbrev BN : Mb := .io (.sl Kj) Bi Bi [true] (fun x0 x => Pj x0 x.1)
abbrev AH : WF := (30, BN) :: XD
def NC : Hb := ⟨19, ⟨[(0, (.own 500000 Kj true)), (1, Hc), (5, Hc)], []⟩, 0, ⟨[(0, (.own 500000 Kj true)), (1, Hc)], []⟩, ⟨[], []⟩, Yi⟩
def BM : WL := [(2, NC)]
theorem XI : Cc (WG false XD [(3999, 500000)] [] []) BM (lp f30 0) := Gg 2 (ls := NC) rfl
theorem PK : WO AH := TF AL func30 (Ub XI Ac)
abbrev OM : Mb := .io Ra Bi Bi [true] (fun x0 x => Ni x0 x.1)
abbrev ND : WF := (14, OM) :: AH
theorem EK : WO ND := TF (L := []) (m := []) (v := []) (l := []) PK func14 Ac
abbrev QM : Mb := .io Sq Bi Bi [true] (fun x0 x => Hl x0 x.1)
abbrev OD : WF := (15, QM) :: ND
def EC : Hb := ⟨36, ⟨[(0, (.own 500000 Yd true)), (1, Hc), (5, Hc)], []⟩, 0, ⟨[(0, (.own 500000 Yd true)), (1, Hc)], []⟩, ⟨[], []⟩, Zj⟩
def VL : WL := [(2, EC)]
theorem OI : Cc (WG false ND [] [] []) VL (lp f15 0) := Gg 2 (ls := EC) rfl
theorem FK : WO OD := TF EK func15 (Ub OI Ac)
abbrev SM : Mb := .pu (.p Sq Bi) Bi [true] (fun x => Mi x.1 x.2.1)
abbrev UG : WF := (16, SM) :: OD
def FC : Hb := ⟨42, ⟨[(0, (.data Sq)), (1, Hc), (5, Hc)], []⟩, 0, ⟨[(1, Hc)], []⟩, ⟨[(4, Hc)], []⟩, Yj⟩
def XL : WL := [(2, FC)]
theorem PI : Cc (WG true OD [] [] []) XL (lp f16 0) := Gg 2 (ls := FC) rfl
theorem GK : WO UG := Um FK func16 (Ub PI Ac)
abbrev XJ : Mb := .pu (.p Ra (.p .s .u)) Tk [true] (fun x => Af x.1 x.2.1)
abbrev LO : WF := (4, XJ) :: UG
theorem HO : WO LO := Nf GK func4
theorem An : Al Tryd.prog II 4 XJ := FO HO (by kernel_rfl)
end
end KF
