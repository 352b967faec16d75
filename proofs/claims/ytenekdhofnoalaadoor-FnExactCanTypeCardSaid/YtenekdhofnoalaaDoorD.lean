/- An evaluator of Go functions on plain data, its soundness, and plain laws on what the functions compute, part 4 (conditions: as each lemma tells). -/
import Derived.Test.YtenekdhofnoalaaDoorC
import Derived.Test.YtenekdhofnoalaaDoorRows
set_option linter.unusedSimpArgs false
set_option linter.unusedVariables false
namespace Go.Proofs
open Go.Shelf
def Tryd.lays_strings_Split_ren : Go.Shelf.Ren := ⟨fun | 146 => 75 | 221 => 85 | 268 => 92 | 138 => 93 | 143 => 94 | 195 => 102 | 197 => 103 | 218 => 104 | 219 => 105 | 260 => 108 | 217 => 109 | 225 => 110 | 224 => 111 | 267 => 112 | 266 => 113 | 314 => 114 | n => n, fun | 9 => 9 | 31 => 62 | 3 => 3 | 4 => 4 | 0 => 0 | 105 => 133 | 21 => 21 | 5 => 5 | 46 => 130 | 119 => 139 | 139 => 142 | 138 => 141 | 146 => 143 | 51 => 128 | n => n, fun | 1 => 1 | 3 => 4 | 4 => 5 | n => n⟩
theorem Tryd.lays_strings_Split : Go.Proofs.LaysM.n146 Tryd.prog Tryd.lays_strings_Split_ren := {
 mixed := by kernel_rfl
 f138 := Tryd.func93.trans (congrArg some (by kernel_rfl))
 f143 := Tryd.func94.trans (congrArg some (by kernel_rfl))
 f146 := Tryd.func75.trans (congrArg some (by kernel_rfl))
 f195 := Tryd.func102.trans (congrArg some (by kernel_rfl))
 f197 := Tryd.func103.trans (congrArg some (by kernel_rfl))
 f217 := Tryd.func109.trans (congrArg some (by kernel_rfl))
 f218 := Tryd.func104.trans (congrArg some (by kernel_rfl))
 f219 := Tryd.func105.trans (congrArg some (by kernel_rfl))
 f221 := Tryd.func85.trans (congrArg some (by kernel_rfl))
 f224 := Tryd.func111.trans (congrArg some (by kernel_rfl))
 f225 := Tryd.func110.trans (congrArg some (by kernel_rfl))
 f260 := Tryd.func108.trans (congrArg some (by kernel_rfl))
 f266 := Tryd.func113.trans (congrArg some (by kernel_rfl))
 f267 := Tryd.func112.trans (congrArg some (by kernel_rfl))
 f268 := Tryd.func92.trans (congrArg some (by kernel_rfl))
 f314 := Tryd.func114.trans (congrArg some (by kernel_rfl))
 t0 := Tryd.underlying0
 a0 := Tryd.isAgg0
 z0 := Tryd.sizeOf0
 v0 := Tryd.zeroValue0
 t3 := Tryd.underlying3
 a3 := Tryd.isAgg3
 z3 := Tryd.sizeOf3
 v3 := Tryd.zeroValue3
 t4 := Tryd.underlying4
 a4 := Tryd.isAgg4
 z4 := Tryd.sizeOf4
 v4 := Tryd.zeroValue4
 t5 := Tryd.underlying5
 a5 := Tryd.isAgg5
 z5 := Tryd.sizeOf5
 v5 := Tryd.zeroValue5
 t9 := Tryd.underlying9
 a9 := Tryd.isAgg9
 z9 := Tryd.sizeOf9
 v9 := Tryd.zeroValue9
 t21 := Tryd.underlying21
 a21 := Tryd.isAgg21
 z21 := Tryd.sizeOf21
 v21 := Tryd.zeroValue21
 t31 := Tryd.underlying62
 a31 := Tryd.isAgg62
 z31 := Tryd.sizeOf62
 v31 := Tryd.zeroValue62
 t46 := Tryd.underlying130
 a46 := Tryd.isAgg130
 z46 := Tryd.sizeOf130
 v46 := Tryd.zeroValue130
 t51 := Tryd.underlying128
 a51 := Tryd.isAgg128
 z51 := Tryd.sizeOf128
 v51 := Tryd.zeroValue128
 t105 := Tryd.underlying133
 a105 := Tryd.isAgg133
 z105 := Tryd.sizeOf133
 v105 := Tryd.zeroValue133
 t119 := Tryd.underlying139
 a119 := Tryd.isAgg139
 z119 := Tryd.sizeOf139
 t138 := Tryd.underlying141
 a138 := Tryd.isAgg141
 z138 := Tryd.sizeOf141
 v138 := Tryd.zeroValue141
 t139 := Tryd.underlying142
 a139 := Tryd.isAgg142
 z139 := Tryd.sizeOf142
 v139 := Tryd.zeroValue142
 t146 := Tryd.underlying143
 a146 := Tryd.isAgg143
 z146 := Tryd.sizeOf143
 v146 := Tryd.zeroValue143
 g1 := by kernel_rfl
 g3 := by kernel_rfl
 g4 := by kernel_rfl
 i0 := by kernel_rfl
 i3 := by kernel_rfl
 i4 := by kernel_rfl
 i5 := by kernel_rfl
 i9 := by kernel_rfl
 i21 := by kernel_rfl
 i31 := by kernel_rfl
 i46 := by kernel_rfl
 i51 := by kernel_rfl
 i105 := by kernel_rfl
 i138 := by kernel_rfl
 i139 := by kernel_rfl
 i146 := by kernel_rfl
 m1 := by kernel_rfl
 s1_3 := fun w h => Go.Proofs.cell_of_shapedOpen_int (zero := #[.int .i64 0]) (t := 3) h (of_decide_eq_true (by kernel_rfl)) (by kernel_rfl) rfl (by kernel_rfl) (by kernel_rfl) Tryd.underlying3
 m3 := by kernel_rfl
 m4 := by kernel_rfl }
end Go.Proofs
namespace KF
open Go Go.Proofs Go.Proofs.Tryd
def GT : List (Nat × Ty) := [(3, int), (4, .b), (5, Zj), (9, .s), (22, (.sl (.sl Ab))), (24, Ra), (27, (.sl (.sl Ab))), (29, Ra), (33, (.sl Lt)), (54, Lt), (57, (.sl int)), (62, (.sl .s)), (72, (.sl Ab)), (76, (.sl Ab)), (78, Ab), (85, (.sl Zj)), (92, Ab)]
def GA : List (Nat × Ty × Nat) := []
theorem YG : ((GT.all fun x => Xb Tryd.prog x.2 x.1) && (GA.all fun x => Ot Tryd.prog x.1 x.2.1 x.2.2)) = true := by kernel_rfl
theorem XG : Tryd.prog.follows .mixedOrders = true := by kernel_rfl
noncomputable abbrev II : Ug := CC (Tryd.lays_strings_Split_ren.g 1)
noncomputable section
abbrev WP : Program := Tryd.prog
abbrev WF := List (Nat × Qb)
abbrev WL := List (Nat × Nb)
abbrev WG (z : Bool) (fs : WF) (m : List (Nat × Nat)) (v l : List Nat) : Pc := ⟨GT, fs, m, z, GA, v, l⟩
def WO (fs : WF) : Prop := ∀ z m v l, Sh WP II (WG z fs m v l)
theorem OK : WO [] := fun _ _ _ _ => AA YG
theorem wc {f : Nat} {s : Qb} {fs : WF} (e : WO fs) (h : Pl WP II f s) : WO ((f, s) :: fs) := fun z m v l => Sh.cons h (e z m v l)
theorem NK {f : Nat} {s : Qb} {fs : WF} (e : WO fs) (h : La fs f = some s) : Pl WP II f s := (e true [] [] []).fn f s h
theorem Rh {z : Bool} {fs : WF} {m : List (Nat × Nat)} {v l : List Nat} {L : WL} {fn : Func} {i : Nat} (r : Nat) {ls : Nb} {R : ls.inT.X → Option (ls.inT.X ⊕ (ls.outT.X ⊕ ls.retT.X))}
 (h3 : ls.F = Ob R) (h1 : Pe (lp fn i) = some r := by kernel_rfl) (h2 : (La L r) = some ls := by kernel_rfl) (h4 : ∀ x, Dn (WG z fs m v l) L ls (lp fn i) x = R x := by intro _; kernel_rfl) : Ad (WG z fs m v l) L (lp fn i) := ZA h1 h2 h3 h4
theorem Jf {f : Nat} {fn : Func} {pt rt : Ty} {fr : List Bool} {F : T pt → Option (T rt)} {fs : WF} (e : WO fs) (hf : WP.funcs[f]? = some fn)
 (hb : (fn.body.isSome && !(fn.name == "runtime.NumGoroutine") && Nat.ble pt.npar fn.ntmps && Nat.beq (Vc (fn.body.getD .skip)).length 0) = true := by kernel_rfl)
 (hF : ∀ x, BA (WG true fs [] [] []) [] fn pt rt fr x = F x := by intro _; kernel_rfl) : WO ((f, .pu pt rt fr F) :: fs) := wc e (Ju (e _ _ _ _) XG hf hb Bd hF)
theorem Gn {k : Nat} {L : WL} {m : List (Nat × Nat)} {v l : List Nat} {f : Nat} {fn : Func} {pt rt : Ty} {fr : List Bool} {F : T pt → Option (T rt)} {fs : WF} (e : WO fs) (hf : WP.funcs[f]? = some fn) (hL : ∀ i, i < k → Ad (WG true fs m v l) L (lp fn i))
 (hb : (fn.body.isSome && !(fn.name == "runtime.NumGoroutine") && Nat.ble pt.npar fn.ntmps && Nat.beq (Vc (fn.body.getD .skip)).length k) = true := by kernel_rfl)
 (hF : ∀ x, BA (WG true fs m v l) L fn pt rt fr x = F x := by intro _; kernel_rfl) : WO ((f, .pu pt rt fr F) :: fs) := wc e (Ju (e _ _ _ _) XG hf hb hL hF)
theorem UI : ∀ w, II.p w → ∃ m, w.cell? ⟨Tryd.lays_strings_Split_ren.g 1, 0, none⟩ = some (.int .i64 m) := fun _ h => h
abbrev Xc : TD := .data int
abbrev Ik : Ty := .sl Ab
abbrev Lp : Ty := .p Ab .u
abbrev Mp : TD := .data Ra
abbrev Jk : Ty := .p .b .u
abbrev Em : Ty := .p int .u
abbrev Nv : TD := .data (.sl Ik)
abbrev MJ : Qb := .pu (.p Ik Em) Em [true] (fun x => Mg x.1 x.2.1)
abbrev NB : WF := (40, MJ) :: ([] : WF)
theorem TH : WO NB := Jf OK func40
abbrev FJ : Qb := .pu (.p (.sl Ik) Em) Em [true] (fun x => Vh x.1 x.2.1)
abbrev IE : WF := (22, FJ) :: NB
def IA : Nb := ⟨27, ⟨[(0, Nv), (1, Xc), (5, Xc)], []⟩, 0, ⟨[(1, Xc)], []⟩, ⟨[(4, Xc)], []⟩, Dj⟩
def VI : WL := [(5, IA)]
theorem VF : Ad (WG true NB [] [] []) VI (lp f22 0) := Rh 5 (ls := IA) rfl
theorem MH : WO IE := Gn TH func22 (Ic VF Bd)
abbrev XK : Qb := .pu (.p Ra Em) Em [true] (fun x => Lj x.1 x.2.1)
abbrev CH : WF := (6, XK) :: IE
theorem QK : WO CH := Jf MH func6
abbrev AK : Qb := .pu Lp Lp [true] (fun x => Lh x.1)
abbrev SB : WF := (64, AK) :: CH
theorem HI : WO SB := Jf QK func64
abbrev RJ : Qb := .pu (.p Ik .u) (.p Ik .u) [true] (fun x => Li x.1)
abbrev PB : WF := (45, RJ) :: SB
def SA : Nb := ⟨23, ⟨[(0, (.data Ik)), (3, (.own 200001 Ab true)), (4, Xc)], []⟩, 0, ⟨[(3, (.own 200001 Ab true))], []⟩, ⟨[], []⟩, Uj⟩
def ZI : WL := [(3, SA)]
theorem GG : Ad (WG true SB [] [] []) ZI (lp f45 0) := Rh 3 (ls := SA) rfl
theorem YH : WO PB := Gn HI func45 (Ic GG Bd)
abbrev IJ : Qb := .pu (.p (.sl Ik) .u) (.p (.sl Ik) .u) [true] (fun x => Ck x.1)
abbrev KE : WF := (25, IJ) :: PB
def LA : Nb := ⟨23, ⟨[(0, Nv), (3, (.own 200001 Ik true)), (4, Xc)], []⟩, 0, ⟨[(3, (.own 200001 Ik true))], []⟩, ⟨[], []⟩, Ej⟩
def WI : WL := [(3, LA)]
theorem ZF : Ad (WG true PB [] [] []) WI (lp f25 0) := Rh 3 (ls := LA) rfl
theorem PH : WO KE := Gn YH func25 (Ic ZF Bd)
abbrev ZK : Qb := .pu (.p Ra .u) (.p Ra .u) [true] (fun x => Vf x.1)
abbrev EH : WF := (8, ZK) :: KE
theorem SK : WO EH := Jf PH func8
abbrev QJ : Qb := .pu JD Jk [true] (fun x => Pd x.1 x.2.1 x.2.2.1)
abbrev OB : WF := (44, QJ) :: EH
theorem XH : WO OB := Jf SK func44
abbrev LK : Qb := .pu (.p .s (.p Zj .u)) (.p (.sl .s) .u) [true] (fun x => Sk x.1 x.2.1)
abbrev AF : WF := (83, LK) :: OB
def XA : Nb := ⟨36, ⟨[(0, (.data .s)), (1, (.data Zj)), (5, (.own 200001 .s true)), (6, Xc), (7, Xc)], []⟩, 0, ⟨[(5, (.own 200001 .s true))], []⟩, ⟨[], []⟩, Qg⟩
def CJ : WL := [(4, XA)]
theorem LG : Ad (WG true OB [] [] []) CJ (lp f83 0) := Rh 4 (ls := XA) rfl
theorem TI : WO AF := Gn XH func83 (Ic LG Bd)
abbrev HK : Qb := .pu .u (.p (.sl .s) .u) [true] (fun x => Hk)
abbrev WE : WF := (72, HK) :: AF
theorem PI : WO WE := Jf TI func72
abbrev WJ : Qb := .pu Em (.p .s .u) [true] (fun x => Af x.1)
abbrev RE : WF := (53, WJ) :: WE
theorem DI : WO RE := Jf PI func53
abbrev YJ : Qb := .pu Rm (.p .s .u) [true] (fun x => Se x.1 x.2.1)
abbrev Ey : WF := (62, YJ) :: RE
theorem FI : WO Ey := Jf DI func62
abbrev NJ : Qb := .pu (.p Zj .u) Rm [true, true] (fun x => Vl x.1)
abbrev NE : WF := (41, NJ) :: Ey
def QA : Nb := ⟨23, ⟨[(0, (.data Zj)), (4, Xc), (5, Xc)], []⟩, 2, ⟨[(0, (.data Zj)), (4, Xc)], []⟩, ⟨[(2, Xc), (3, Xc)], []⟩, Lc⟩
def PA : Nb := ⟨23, ⟨[(0, (.data Zj)), (4, Xc)], []⟩, 0, ⟨[], []⟩, ⟨[(2, Xc), (3, Xc)], []⟩, Xi⟩
def DF : WL := [(5, QA), (2, PA)]
theorem EG : Ad (WG true Ey [] [] []) DF (lp f41 1) := Rh 5 (ls := QA) rfl
theorem DG : Ad (WG true Ey [] [] []) DF (lp f41 0) := Rh 2 (ls := PA) rfl
theorem UH : WO NE := Gn FI func41 (Ic EG (Ic DG Bd))
abbrev PJ : Qb := .pu Lp Jk [true] (fun x => Wf x.1)
abbrev Cy : WF := (43, PJ) :: NE
theorem WH : WO Cy := Jf UH func43
abbrev HJ : Qb := .pu (.p Ra .u) Jk [true] (fun x => Bf x.1)
abbrev JE : WF := (24, HJ) :: Cy
def KA : Nb := ⟨74, ⟨[(1, (.ptr 1 [])), (3, Xc), (4, Xc)], [(1, Ra, Mp)]⟩, 2, ⟨[(1, (.ptr 1 [])), (3, Xc)], [(1, Ra, Mp)]⟩, ⟨[(2, (.data .b))], []⟩, Hf⟩
def JA : Nb := ⟨74, ⟨[(1, (.ptr 1 [])), (3, Xc)], [(1, Ra, Mp)]⟩, 0, ⟨[(1, (.ptr 1 []))], [(1, Ra, Mp)]⟩, ⟨[(2, (.data .b))], []⟩, Gf⟩
def BF : WL := [(7, KA), (2, JA)]
theorem YF : Ad (WG true Cy [] [] []) BF (lp f24 1) := Rh 7 (ls := KA) rfl
theorem XF : Ad (WG true Cy [] [] []) BF (lp f24 0) := Rh 2 (ls := JA) rfl
theorem OH : WO JE := Gn WH func24 (Ic YF (Ic XF Bd))
abbrev JK : Qb := .pu Lp Jk [true] (fun x => Oi x.1)
abbrev YE : WF := (81, JK) :: JE
theorem RI : WO YE := Jf OH func81
abbrev ZJ : Qb := .pu Lp Lp [true] (fun x => Wl x.1)
abbrev RB : WF := (63, ZJ) :: YE
theorem GI : WO RB := Jf RI func63
abbrev OJ : Qb := .pu (.p Ra Rm) Em [true] (fun x => Oh x.1 x.2.1 x.2.2.1)
abbrev OE : WF := (42, OJ) :: RB
def RA : Nb := ⟨50, ⟨[(1, Xc), (2, Xc), (3, (.ptr 3 [])), (7, Xc)], [(3, Ra, Mp)]⟩, 0, ⟨[], []⟩, ⟨[(6, Xc)], []⟩, Ue⟩
def YI : WL := [(2, RA)]
theorem FG : Ad (WG true RB [] [] []) YI (lp f42 0) := Rh 2 (ls := RA) rfl
theorem VH : WO OE := Gn GI func42 (Ic FG Bd)
abbrev GJ : Qb := .pu (.p Ra (.p Zj Em)) (.p (.sl Lt) .u) [true] (fun x => Rg x.1 x.2.1 x.2.2.1)
abbrev LB : WF := (23, GJ) :: OE
theorem NH : WO LB := Jf VH func23
abbrev YK : Qb := .pu (.p Ra (.p .s .u)) Jk [true] (fun x => Gi x.1 x.2.1)
abbrev DH : WF := (7, YK) :: LB
def FD : Nb := ⟨21, ⟨[(1, (.data .s)), (2, (.ptr 2 [])), (5, Xc)], [(2, Ra, Mp)]⟩, 0, ⟨[(2, (.ptr 2 []))], [(2, Ra, Mp)]⟩, ⟨[(4, (.data .b))], []⟩, Rf⟩
def VK : WL := [(2, FD)]
theorem AH : Ad (WG true LB [] [] []) VK (lp f7 0) := Rh 2 (ls := FD) rfl
theorem RK : WO DH := Gn NH func7 (Ic AH Bd)
abbrev BK : Qb := .pu Em Jk [true] (fun x => Dg x.1)
abbrev TE : WF := (65, BK) :: DH
theorem JI : WO TE := Jf RK func65
abbrev CK : Qb := .pu Em Jk [true] (fun x => Eg x.1)
abbrev UE : WF := (66, CK) :: TE
theorem KI : WO UE := Jf JI func66
abbrev DK : Qb := .pu Em Jk [true] (fun x => Kg x.1)
abbrev VE : WF := (67, DK) :: UE
theorem LI : WO VE := Jf KI func67
abbrev SJ : Qb := .pu Lp Jk [true] (fun x => Uf x.1)
abbrev Dy : WF := (46, SJ) :: VE
theorem ZH : WO Dy := Jf LI func46
abbrev JJ : Qb := .pu (.p Ra .u) Jk [true] (fun x => Jj x.1)
abbrev LE : WF := (26, JJ) :: Dy
def NA : Nb := ⟨73, ⟨[(1, (.ptr 1 [])), (3, Xc), (28, Nv), (29, Xc), (30, Xc), (40, (.data Ik)), (41, Xc), (42, Xc)], [(1, Ra, Mp)]⟩, 2, ⟨[(1, (.ptr 1 [])), (28, Nv), (29, Xc), (30, Xc)], [(1, Ra, Mp)]⟩, ⟨[(2, (.data .b))], []⟩, Df⟩
def MA : Nb := ⟨73, ⟨[(1, (.ptr 1 [])), (28, Nv), (29, Xc), (30, Xc)], [(1, Ra, Mp)]⟩, 0, ⟨[], []⟩, ⟨[(2, (.data .b))], []⟩, Cf⟩
def CF : WL := [(9, NA), (4, MA)]
theorem BG : Ad (WG true Dy [] [] []) CF (lp f26 1) := Rh 9 (ls := NA) rfl
theorem AG : Ad (WG true Dy [] [] []) CF (lp f26 0) := Rh 4 (ls := MA) rfl
theorem QH : WO LE := Gn ZH func26 (Ic BG (Ic AG Bd))
abbrev IK : Qb := .pu (.p .s (.p .s .u)) (.p (.sl .s) .u) [true] (fun x => strings_Split x.1 x.2.1)
abbrev XE : WF := (75, IK) :: LE
theorem QI : WO XE := wc QH (Zw Tryd.lays_strings_Split (by kernel_rfl) UI)
abbrev XJ : Qb := .pu Em (.p .s .u) [true] (fun x => Wa x.1)
abbrev SE : WF := (58, XJ) :: XE
theorem EI : WO SE := Jf QI func58
abbrev EK : Qb := .pu Rm (.p .s .u) [true] (fun x => Qe x.1 x.2.1)
abbrev Gy : WF := (68, EK) :: SE
theorem MI : WO Gy := Jf EI func68
abbrev TJ : Qb := .pu (.p Zj .u) Rm [true, true] (fun x => Rl x.1)
abbrev PE : WF := (47, TJ) :: Gy
def UA : Nb := ⟨27, ⟨[(0, (.data Zj)), (5, Xc), (6, Xc), (7, (.own 200101 int true)), (8, Xc), (9, Xc)], []⟩, 2, ⟨[(0, (.data Zj)), (7, (.own 200101 int true)), (8, Xc), (9, Xc)], []⟩, ⟨[(2, Xc), (3, Xc)], []⟩, Kc⟩
def TA : Nb := ⟨27, ⟨[(0, (.data Zj)), (7, (.own 200001 int true)), (8, Xc), (9, Xc)], []⟩, 0, ⟨[], []⟩, ⟨[(2, Xc), (3, Xc)], []⟩, Ui⟩
def EF : WL := [(5, UA), (2, TA)]
theorem IG : Ad (WG true Gy [] [] []) EF (lp f47 1) := Rh 5 (ls := UA) rfl
theorem HG : Ad (WG true Gy [] [] []) EF (lp f47 0) := Rh 2 (ls := TA) rfl
theorem AI : WO PE := Gn MI func47 (Ic IG (Ic HG Bd))
abbrev KK : Qb := .pu Lp Jk [true] (fun x => Ji x.1)
abbrev ZE : WF := (82, KK) :: PE
theorem SI : WO ZE := Jf AI func82
abbrev FK : Qb := .pu Lp Lp [true] (fun x => Sl x.1)
abbrev TB : WF := (69, FK) :: ZE
theorem NI : WO TB := Jf SI func69
abbrev UJ : Qb := .pu (.p Ra Rm) Em [true] (fun x => Mh x.1 x.2.1 x.2.2.1)
abbrev QE : WF := (48, UJ) :: TB
def VA : Nb := ⟨40, ⟨[(1, Xc), (2, Xc), (12, (.data Ik)), (13, Xc), (14, Xc)], []⟩, 0, ⟨[], []⟩, ⟨[(6, Xc)], []⟩, Yf⟩
def AJ : WL := [(2, VA)]
theorem JG : Ad (WG true TB [] [] []) AJ (lp f48 0) := Rh 2 (ls := VA) rfl
theorem BI : WO QE := Gn NI func48 (Ic JG Bd)
abbrev KJ : Qb := .pu (.p Ra (.p Zj Em)) (.p (.sl Lt) Jk) [true, true] (fun x => Ki x.1 x.2.1 x.2.2.1)
abbrev MB : WF := (27, KJ) :: QE
theorem RH : WO MB := Jf BI func27
abbrev AL : Qb := .pu (.p Ra (.p .s .u)) Jk [true] (fun x => Ci x.1 x.2.1)
abbrev FH : WF := (9, AL) :: MB
def GD : Nb := ⟨27, ⟨[(1, (.data .s)), (2, (.ptr 2 [])), (5, Xc)], [(2, Ra, Mp)]⟩, 0, ⟨[], []⟩, ⟨[(4, (.data .b))], []⟩, Qh⟩
def WK : WL := [(4, GD)]
theorem BH : Ad (WG true MB [] [] []) WK (lp f9 0) := Rh 4 (ls := GD) rfl
theorem TK : WO FH := Gn RH func9 (Ic BH Bd)
abbrev GK : Qb := .pu (.p Ab Lp) Jk [true] (fun x => Kh x.1 x.2.1)
abbrev UB : WF := (70, GK) :: FH
theorem OI : WO UB := Jf TK func70
abbrev VJ : Qb := .pu (.p Ik (.p Ik .u)) Jk [true] (fun x => Lg x.1 x.2.1)
abbrev QB : WF := (49, VJ) :: UB
def WA : Nb := ⟨27, ⟨[(0, (.data Ik)), (1, (.data Ik)), (5, Xc)], []⟩, 0, ⟨[], []⟩, ⟨[(4, (.data .b))], []⟩, Tj⟩
def BJ : WL := [(4, WA)]
theorem KG : Ad (WG true UB [] [] []) BJ (lp f49 0) := Rh 4 (ls := WA) rfl
theorem CI : WO QB := Gn OI func49 (Ic KG Bd)
abbrev LJ : Qb := .pu (.p (.sl Ik) (.p (.sl Ik) .u)) Jk [true] (fun x => Uh x.1 x.2.1)
abbrev ME : WF := (28, LJ) :: QB
def OA : Nb := ⟨27, ⟨[(0, Nv), (1, Nv), (5, Xc)], []⟩, 0, ⟨[], []⟩, ⟨[(4, (.data .b))], []⟩, Cj⟩
def XI : WL := [(4, OA)]
theorem CG : Ad (WG true QB [] [] []) XI (lp f28 0) := Rh 4 (ls := OA) rfl
theorem SH : WO ME := Gn CI func28 (Ic CG Bd)
abbrev EJ : Qb := .pu (.p Ra (.p Ra .u)) Jk [true] (fun x => Kj x.1 x.2.1)
abbrev HE : WF := (10, EJ) :: ME
theorem LH : WO HE := Jf SH func10
abbrev IH : Qb := .pu (.p Ra (.p .s .u)) Jk [true] (fun x => Qf x.1 x.2.1)
abbrev UK : WF := (3, IH) :: HE
theorem PK : WO UK := Jf LH func3
theorem Sm : Pl Tryd.prog II 3 IH := NK PK (by kernel_rfl)
end
end KF
