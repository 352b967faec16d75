/- An evaluator of Go functions on plain data, its soundness, and plain laws on what the functions compute, part 5 (conditions: as each lemma tells). -/
import Derived.Test.YtkddlfhcedaggaaD
import Derived.Test.YtkddlfhcedaggaaRows
set_option linter.unusedSimpArgs false
set_option linter.unusedVariables false
namespace KF
open Go Go.Proofs Go.Proofs.Try
def GT : List (Nat × Ty) := [(3, int), (4, .b), (5, Ps), (22, (.sl Ps)), (24, (.sl (.sl Wc))), (26, Za), (30, (.sl (.sl Pg))), (31, (.sl Sp)), (33, Pc), (38, (.sl He)), (54, Wc), (63, (.sl int)), (65, He), (76, (.sl Wc)), (87, Sp), (104, Ge), (105, (.sl Pg)), (124, (.sl We)), (126, Pg), (128, We)]
def GA : List (Nat × Ty × Nat) := []
theorem RZ : ((GT.all fun x => Rc Try.prog x.2 x.1) && (GA.all fun x => Wz Try.prog x.1 x.2.1 x.2.2)) = true := by kernel_rfl
theorem WI : Try.prog.follows .mixedOrders = true := by kernel_rfl
noncomputable abbrev II : Jg := DI
noncomputable section
abbrev WP : Program := Try.prog
abbrev WF := List (Nat × Mb)
abbrev WL := List (Nat × Eb)
abbrev WG (z : Bool) (fs : WF) (m : List (Nat × Nat)) (v l : List Nat) : Jd := ⟨GT, fs, m, z, GA, v, l⟩
def WO (fs : WF) : Prop := ∀ z m v l, Vg WP II (WG z fs m v l)
theorem B6 : WO [] := fun _ _ _ _ => IE RZ
theorem wc {f : Nat} {s : Mb} {fs : WF} (e : WO fs) (h : Bg WP II f s) : WO ((f, s) :: fs) := fun z m v l => Vg.cons h (e z m v l)
theorem QZ {f : Nat} {s : Mb} {fs : WF} (e : WO fs) (h : Ua fs f = some s) : Bg WP II f s := (e true [] [] []).fn f s h
theorem Ye {z : Bool} {fs : WF} {m : List (Nat × Nat)} {v l : List Nat} {L : WL} {fn : Func} {i : Nat} (r : Nat) {ls : Eb} {R : ls.inT.X → Option (ls.inT.X ⊕ (ls.outT.X ⊕ ls.retT.X))}
 (h3 : ls.F = Vb R) (h1 : Kg (lp fn i) = some r := by kernel_rfl) (h2 : (Ua L r) = some ls := by kernel_rfl) (h4 : ∀ x, Xt (WG z fs m v l) L ls (lp fn i) x = R x := by intro _; kernel_rfl) : Tb (WG z fs m v l) L (lp fn i) := SE h1 h2 h3 h4
theorem Jk {f : Nat} {fn : Func} {pt rt : Ty} {fr : List Bool} {F : T pt → Option (T rt)} {fs : WF} (e : WO fs) (hf : WP.funcs[f]? = some fn)
 (hb : (fn.body.isSome && !(fn.name == "runtime.NumGoroutine") && Nat.ble pt.npar fn.ntmps && Nat.beq (Vc (fn.body.getD .skip)).length 0) = true := by kernel_rfl)
 (hF : ∀ x, UN (WG true fs [] [] []) [] fn pt rt fr x = F x := by intro _; kernel_rfl) : WO ((f, .pu pt rt fr F) :: fs) := wc e (Wx (e _ _ _ _) WI hf hb Hb hF)
theorem An {k : Nat} {L : WL} {m : List (Nat × Nat)} {v l : List Nat} {f : Nat} {fn : Func} {pt rt : Ty} {fr : List Bool} {F : T pt → Option (T rt)} {fs : WF} (e : WO fs) (hf : WP.funcs[f]? = some fn) (hL : ∀ i, i < k → Tb (WG true fs m v l) L (lp fn i))
 (hb : (fn.body.isSome && !(fn.name == "runtime.NumGoroutine") && Nat.ble pt.npar fn.ntmps && Nat.beq (Vc (fn.body.getD .skip)).length k) = true := by kernel_rfl)
 (hF : ∀ x, UN (WG true fs m v l) L fn pt rt fr x = F x := by intro _; kernel_rfl) : WO ((f, .pu pt rt fr F) :: fs) := wc e (Wx (e _ _ _ _) WI hf hb hL hF)
theorem IF {k : Nat} {L : WL} {m : List (Nat × Nat)} {v l : List Nat} {f : Nat} {fn : Func} {vw cv : Bool} {τ pt rt : Ty} {fr : List Bool} {F : T τ → T pt → Option (T τ × T rt)} {fs : WF} (e : WO fs) (hf : WP.funcs[f]? = some fn) (hL : ∀ i, i < k → Tb (WG false fs m v l) L (lp fn i))
 (hb : (fn.body.isSome && !(fn.name == "runtime.NumGoroutine") && Nat.ble (pt.npar + 1) fn.ntmps && Nat.beq (Vc (fn.body.getD .skip)).length k) = true := by kernel_rfl)
 (hF : ∀ x0 x, IG (WG false fs m v l) L fn vw cv τ pt rt fr x0 x = F x0 x := by intro _ _; kernel_rfl) : WO ((f, .bx vw cv τ pt rt fr F) :: fs) := wc e (YP (e _ _ _ _) rfl WI hf hb hL hF)
theorem P0 {k : Nat} {L : WL} {m : List (Nat × Nat)} {v l : List Nat} {f : Nat} {fn : Func} {pt τ : Ty} {F : T pt → Option (T τ)} {fs : WF} (e : WO fs) (hf : WP.funcs[f]? = some fn) (hL : ∀ i, i < k → Tb (WG true fs m v l) L (lp fn i))
 (hb : (fn.body.isSome && !(fn.name == "runtime.NumGoroutine") && Nat.ble pt.npar fn.ntmps && Nat.beq (Vc (fn.body.getD .skip)).length k) = true := by kernel_rfl)
 (hF : ∀ x, JG (WG true fs m v l) L fn pt τ x = F x := by intro _; kernel_rfl) : WO ((f, .nw pt τ F) :: fs) := wc e (AQ (e _ _ _ _) WI hf hb hL hF)
abbrev Cb : TD := .data int
abbrev Po : Ty := .sl Wc
abbrev SB : TD := .pr Cb (.pr (.own 200001 Po true) .un)
abbrev Wl : Ty := .p int .u
abbrev Wj : Ty := .p .b .u
abbrev Rs : TD := .data Za
abbrev Dz : Ty := .p int (.p .o .u)
abbrev Ez : Ty := .p Za .u
abbrev Qs : Ty := .sl He
abbrev Jv : Ty := .p Wc .u
abbrev Zp : TD := .ptr 3 []
abbrev Aq : Ty := .sl Pg
abbrev Bq : Ty := .sl Sp
abbrev ZC : TD := .own 200001 int true
abbrev YG : TD := .own 200101 Wc true
abbrev Yo : TD := .data .b
abbrev Km : Ty := .sl int
abbrev BE : TD := .pr Cb (.pr (.data Km) .un)
abbrev Lr : TD := .ptr 2 []
abbrev Mr : TD := .ptr 1 []
abbrev Uw : TD := .data (.sl Po)
abbrev AE : TD := .pr Cb (.pr Uw .un)
abbrev O6 : Mb := .pu (.p (.sl Ps) .u) Wj [true] (fun x => Hq x.1)
abbrev MW : WF := (6, O6) :: ([] : WF)
theorem G6 : WO MW := Jk B6 func6
abbrev A5 : Mb := .nw (.p (.sl Ps) .u) Ge (fun x => Bs x.1)
abbrev IW : WF := (55, A5) :: MW
def YO : Eb := ⟨32, ⟨[(0, (.data (.sl Ps))), (3, Cb), (4, Cb)], []⟩, 0, ⟨[(0, (.data (.sl Ps))), (3, Cb)], []⟩, ⟨[], []⟩, Mn⟩
def D3 : WL := [(3, YO)]
theorem OY : Tb (WG true MW [] [] []) D3 (lp f55 0) := Ye 3 (ls := YO) rfl
theorem U1 : WO IW := P0 G6 func55 (Kb OY Hb)
abbrev K4 : Mb := .nw (.p (.sl Ps) Wl) Ge (fun x => Vn x.1 x.2.1)
abbrev ZV : WF := (29, K4) :: IW
theorem B1 : WO ZV := P0 (L := []) (m := []) (v := []) (l := []) U1 func29 Hb
abbrev C5 : Mb := .bx true false Ge .u Wl [true] (fun x0 x => Th x0)
abbrev JW : WF := (57, C5) :: ZV
theorem W1 : WO JW := IF (L := []) (m := []) (v := []) (l := []) B1 func57 Hb
abbrev Q4 : Mb := .bx true false Ge Wl Wl [true] (fun x0 x => Wa x0 x.1)
abbrev DW : WF := (35, Q4) :: JW
theorem J1 : WO DW := IF (L := []) (m := []) (v := []) (l := []) W1 func35 Hb
abbrev Q5 : Mb := .bx true false Ge Wl Wj [true] (fun x0 x => Ol x0 x.1)
abbrev VW : WF := (73, Q5) :: DW
theorem L2 : WO VW := IF (L := []) (m := []) (v := []) (l := []) J1 func73 Hb
abbrev P5 : Mb := .bx true false Ge Wl Jv [true] (fun x0 x => Tq x0 x.1)
abbrev CL : WF := (72, P5) :: VW
theorem K2 : WO CL := IF (L := []) (m := []) (v := []) (l := []) L2 func72 Hb
abbrev Y4 : Mb := .bx true false Ge Wl Ez [true] (fun x0 x => Uq x0 x.1)
abbrev HW : WF := (53, Y4) :: CL
def XO : Eb := ⟨48, ⟨[(0, (.ptr 500000 [])), (1, Cb), (4, (.ptr 4 [])), (5, Cb), (6, (.ptr 6 [])), (7, Cb), (8, YG), (9, Cb)], [(500000, Ge, (.data Ge)), (4, Za, (.pr Cb (.pr (.own 200102 Po true) .un))), (6, Za, (.pr Cb (.pr (.own 200103 Po true) .un)))]⟩, 2, ⟨[(0, (.ptr 500000 [])), (1, Cb), (4, (.ptr 4 [])), (5, Cb), (6, (.ptr 6 [])), (7, Cb), (8, YG)], [(500000, Ge, (.data Ge)), (4, Za, (.pr Cb (.pr (.own 200102 Po true) .un))), (6, Za, (.pr Cb (.pr (.own 200103 Po true) .un)))]⟩, ⟨[], []⟩, Ym⟩
def VO : Eb := ⟨48, ⟨[(0, (.ptr 500000 [])), (1, Cb), (4, (.ptr 4 [])), (5, Cb), (6, (.ptr 6 [])), (7, Cb)], [(500000, Ge, (.data Ge)), (4, Za, SB), (6, Za, (.pr Cb (.pr (.own 200002 Po true) .un)))]⟩, 0, ⟨[(0, (.ptr 500000 [])), (4, (.ptr 4 [])), (6, (.ptr 6 []))], [(500000, Ge, (.data Ge)), (4, Za, SB), (6, Za, (.pr Cb (.pr (.own 200002 Po true) .un)))]⟩, ⟨[], []⟩, Xm⟩
def EX : WL := [(8, XO), (4, VO)]
theorem NY : Tb (WG false CL [] [] []) EX (lp f53 1) := Ye 8 (ls := XO) rfl
theorem MY : Tb (WG false CL [] [] []) EX (lp f53 0) := Ye 4 (ls := VO) rfl
theorem S1 : WO HW := IF K2 func53 (Kb NY (Kb MY Hb))
abbrev Z4 : Mb := .bx true true Ge (.p Km .u) Wl [true] (fun x0 x => Hn x0 x.1)
abbrev RQ : WF := (54, Z4) :: HW
theorem T1 : WO RQ := IF (L := []) (m := []) (v := []) (l := []) S1 func54 Hb
abbrev J4 : Mb := .bx true false Ge Wl Ez [true] (fun x0 x => Pp x0 x.1)
abbrev YV : WF := (28, J4) :: RQ
def JO : Eb := ⟨49, ⟨[(0, (.ptr 500000 [])), (1, Cb), (4, (.ptr 4 [])), (5, (.ptr 5 [])), (6, Cb)], [(500000, Ge, (.data Ge)), (4, Za, AE), (5, Za, SB)]⟩, 0, ⟨[(0, (.ptr 500000 [])), (4, (.ptr 4 [])), (5, (.ptr 5 []))], [(500000, Ge, (.data Ge)), (4, Za, AE), (5, Za, SB)]⟩, ⟨[], []⟩, Vl⟩
def X2 : WL := [(3, JO)]
theorem CY : Tb (WG false RQ [(8998, 200001), (4999, 200001)] [] []) X2 (lp f28 0) := Ye 3 (ls := JO) rfl
theorem A1 : WO YV := IF T1 func28 (Kb CY Hb)
abbrev P6 : Mb := .pu Ge Ez [true] (fun x => Bj x.1 x.2.1 x.2.2.1)
abbrev UW : WF := (7, P6) :: YV
theorem H6 : WO UW := Jk A1 func7
abbrev L4 : Mb := .pu Ez Ez [true] (fun x => Zg x.1)
abbrev AW : WF := (30, L4) :: UW
def KO : Eb := ⟨25, ⟨[(2, Lr), (3, Zp), (10, Uw), (11, Cb), (12, Cb)], [(2, Za, AE), (3, Za, SB)]⟩, 0, ⟨[(2, Lr), (3, Zp)], [(2, Za, AE), (3, Za, SB)]⟩, ⟨[], []⟩, Hj⟩
def Y2 : WL := [(3, KO)]
theorem DY : Tb (WG true UW [] [] []) Y2 (lp f30 0) := Ye 3 (ls := KO) rfl
theorem C1 : WO AW := An H6 func30 (Kb DY Hb)
abbrev K5 : Mb := .pu Wl Wj [true] (fun x => Ml x.1)
abbrev QW : WF := (66, K5) :: AW
theorem E2 : WO QW := Jk C1 func66
abbrev L5 : Mb := .pu Wl Wj [true] (fun x => Jj x.1)
abbrev RW : WF := (67, L5) :: QW
theorem H2 : WO RW := Jk E2 func67
abbrev N5 : Mb := .pu Wl Wj [true] (fun x => Dk x.1)
abbrev SW : WF := (68, N5) :: RW
theorem I2 : WO SW := Jk H2 func68
abbrev X4 : Mb := .pu Jv Wj [true] (fun x => Wf x.1)
abbrev AL : WF := (45, X4) :: SW
theorem Q1 : WO AL := Jk I2 func45
abbrev M4 : Mb := .pu Ez Wj [true] (fun x => Ni x.1)
abbrev BW : WF := (31, M4) :: AL
def MO : Eb := ⟨73, ⟨[(1, Mr), (3, Cb), (28, Uw), (29, Cb), (30, Cb), (40, (.data Po)), (41, Cb), (42, Cb)], [(1, Za, Rs)]⟩, 2, ⟨[(1, Mr), (28, Uw), (29, Cb), (30, Cb)], [(1, Za, Rs)]⟩, ⟨[(2, Yo)], []⟩, Kh⟩
def LO : Eb := ⟨73, ⟨[(1, Mr), (28, Uw), (29, Cb), (30, Cb)], [(1, Za, Rs)]⟩, 0, ⟨[], []⟩, ⟨[(2, Yo)], []⟩, Jh⟩
def CX : WL := [(9, MO), (4, LO)]
theorem FY : Tb (WG true AL [] [] []) CX (lp f31 1) := Ye 9 (ls := MO) rfl
theorem EY : Tb (WG true AL [] [] []) CX (lp f31 0) := Ye 4 (ls := LO) rfl
theorem D1 : WO BW := An Q1 func31 (Kb FY (Kb EY Hb))
abbrev N4 : Mb := .pu We Wl [true] (fun x => Gj x.1 x.2.1)
abbrev OG : WF := (32, N4) :: BW
theorem E1 : WO OG := Jk D1 func32
abbrev R6 : Mb := .pu Ez Wl [true] (fun x => Xg x.1)
abbrev CT : WF := (9, R6) :: OG
def JP : Eb := ⟨50, ⟨[(1, Mr), (3, Cb), (4, Cb), (13, Cb), (14, Cb), (17, Uw), (18, Cb), (19, Cb), (24, (.data Po)), (25, Cb), (26, Cb)], [(1, Za, Rs)]⟩, 4, ⟨[(1, Mr), (3, Cb), (13, Cb), (14, Cb), (17, Uw), (18, Cb), (19, Cb)], [(1, Za, Rs)]⟩, ⟨[], []⟩, Dg⟩
def XT : Eb := ⟨50, ⟨[(1, Mr), (3, Cb), (13, Cb), (14, Cb), (17, Uw), (18, Cb), (19, Cb)], [(1, Za, Rs)]⟩, 2, ⟨[(1, Mr), (3, Cb), (13, Cb), (14, Cb)], [(1, Za, Rs)]⟩, ⟨[], []⟩, Mg⟩
def WT : Eb := ⟨50, ⟨[(1, Mr), (3, Cb), (13, Cb), (14, Cb)], [(1, Za, Rs)]⟩, 0, ⟨[(3, Cb)], []⟩, ⟨[], []⟩, Fj⟩
def FX : WL := [(10, JP), (7, XT), (5, WT)]
theorem YY : Tb (WG true OG [] [] []) FX (lp f9 2) := Ye 10 (ls := JP) rfl
theorem ZZ : Tb (WG true OG [] [] []) FX (lp f9 1) := Ye 7 (ls := XT) rfl
theorem YZ : Tb (WG true OG [] [] []) FX (lp f9 0) := Ye 5 (ls := WT) rfl
theorem J6 : WO CT := An E1 func9 (Kb YY (Kb ZZ (Kb YZ Hb)))
abbrev Q6 : Mb := .pu Ez Ez [true] (fun x => Gg x.1)
abbrev YW : WF := (8, Q6) :: CT
def VT : Eb := ⟨40, ⟨[(2, Lr), (3, Zp), (4, Cb), (5, Cb), (6, YG), (17, (.hol 200102 Po [] Po YG)), (18, Cb), (19, Cb), (25, Cb), (26, Cb)], [(2, Za, AE), (3, Za, (.pr Cb (.pr (.hol 200102 Po [] Po YG) .un)))]⟩, 2, ⟨[(2, Lr), (3, Zp), (4, Cb), (17, (.hol 200101 Po [] Po (.own 200102 Wc true))), (18, Cb), (19, Cb)], [(2, Za, AE), (3, Za, (.pr Cb (.pr (.hol 200101 Po [] Po (.own 200102 Wc true)) .un)))]⟩, ⟨[], []⟩, Ve⟩
def UT : Eb := ⟨40, ⟨[(2, Lr), (3, Zp), (4, Cb), (17, (.own 200001 Po true)), (18, Cb), (19, Cb)], [(2, Za, AE), (3, Za, SB)]⟩, 0, ⟨[(2, Lr), (3, Zp)], [(2, Za, AE), (3, Za, SB)]⟩, ⟨[], []⟩, Ki⟩
def L0 : WL := [(9, VT), (6, UT)]
theorem XZ : Tb (WG true CT [(14999, 200101)] [] []) L0 (lp f8 1) := Ye 9 (ls := VT) rfl
theorem WZ : Tb (WG true CT [(14999, 200101)] [] []) L0 (lp f8 0) := Ye 6 (ls := UT) rfl
theorem I6 : WO YW := An J6 func8 (Kb XZ (Kb WZ Hb))
abbrev O4 : Mb := .pu (.p (.sl Aq) .u) (.p (.sl Aq) .u) [true] (fun x => Vi x.1)
abbrev NQ : WF := (33, O4) :: YW
def NO : Eb := ⟨19, ⟨[(3, (.own 200001 Aq true)), (6, (.data (.sl Aq))), (7, Cb), (8, Cb)], []⟩, 0, ⟨[(3, (.own 200001 Aq true))], []⟩, ⟨[], []⟩, Ij⟩
def Z2 : WL := [(3, NO)]
theorem GY : Tb (WG true YW [] [] []) Z2 (lp f33 0) := Ye 3 (ls := NO) rfl
theorem H1 : WO NQ := An I6 func33 (Kb GY Hb)
abbrev V4 : Mb := .pu (.p Bq .u) Wj [true] (fun x => Lg x.1)
abbrev PQ : WF := (40, V4) :: NQ
def UO : Eb := ⟨46, ⟨[(3, Cb), (6, (.data Bq)), (7, Cb), (8, Cb)], []⟩, 0, ⟨[], []⟩, ⟨[(2, Yo)], []⟩, Nm⟩
def C3 : WL := [(3, UO)]
theorem LY : Tb (WG true NQ [] [] []) C3 (lp f40 0) := Ye 3 (ls := UO) rfl
theorem O1 : WO PQ := An H1 func40 (Kb LY Hb)
abbrev R5 : Mb := .pu (.p (.sl We) (.p We .u)) Wl [true] (fun x => Sn x.1 x.2.1)
abbrev UQ : WF := (74, R5) :: PQ
def DP : Eb := ⟨19, ⟨[(3, Zp), (7, (.data (.sl We))), (8, Cb), (9, Cb)], [(3, We, (.data We))]⟩, 0, ⟨[], []⟩, ⟨[(4, Cb)], []⟩, Sm⟩
def J3 : WL := [(2, DP)]
theorem TY : Tb (WG true PQ [] [] []) J3 (lp f74 0) := Ye 2 (ls := DP) rfl
theorem M2 : WO UQ := An O1 func74 (Kb TY Hb)
abbrev B5 : Mb := .pu (.p Aq .u) Wj [true] (fun x => Om x.1)
abbrev BL : WF := (56, B5) :: UQ
def ZO : Eb := ⟨62, ⟨[(3, (.own 200001 We true)), (11, (.data Aq)), (12, Cb), (13, Cb)], []⟩, 0, ⟨[(3, (.own 200001 We true))], []⟩, ⟨[(2, Yo)], []⟩, Sl⟩
def E3 : WL := [(5, ZO)]
theorem PY : Tb (WG true UQ [] [] []) E3 (lp f56 0) := Ye 5 (ls := ZO) rfl
theorem V1 : WO BL := An M2 func56 (Kb PY Hb)
abbrev P4 : Mb := .pu (.p Pc .u) Wj [true] (fun x => Ch x.1)
abbrev CW : WF := (34, P4) :: BL
def PO : Eb := ⟨92, ⟨[(1, Mr), (35, (.data (.sl Aq))), (36, Cb), (37, Cb)], [(1, Pc, (.data Pc))]⟩, 0, ⟨[(1, Mr)], [(1, Pc, (.data Pc))]⟩, ⟨[(2, Yo)], []⟩, Ih⟩
def YJ : Eb := ⟨92, ⟨[(1, Mr), (5, Cb), (50, (.data Bq)), (51, Cb), (52, Cb)], [(1, Pc, (.data Pc))]⟩, 2, ⟨[(1, Mr), (5, Cb)], [(1, Pc, (.data Pc))]⟩, ⟨[(2, Yo)], []⟩, Wg⟩
def DX : WL := [(4, PO), (11, YJ)]
theorem HY : Tb (WG true BL [] [] []) DX (lp f34 0) := Ye 4 (ls := PO) rfl
theorem QU : Tb (WG true BL [] [] []) DX (lp f34 1) := Ye 11 (ls := YJ) rfl
theorem I1 : WO CW := An V1 func34 (Kb QU (Kb HY Hb))
abbrev Z3 : Mb := .pu (.p Za (.p (.sl Aq) .u)) (.p Pc Wj) [true, true] (fun x => Uh x.1 x.2.1)
abbrev ZK : WF := (10, Z3) :: CW
theorem Q0 : WO ZK := Jk I1 func10
abbrev A4 : Mb := .pu (.p Za Ez) Wj [true] (fun x => Ip x.1 x.2.1)
abbrev VV : WF := (11, A4) :: ZK
def DO : Eb := ⟨68, ⟨[(2, Lr), (3, Zp), (5, Cb), (6, Cb)], [(2, Za, Rs), (3, Za, Rs)]⟩, 2, ⟨[(2, Lr), (3, Zp), (5, Cb)], [(2, Za, Rs), (3, Za, Rs)]⟩, ⟨[(4, Yo)], []⟩, Ii⟩
def CO : Eb := ⟨68, ⟨[(2, Lr), (3, Zp), (5, Cb)], [(2, Za, Rs), (3, Za, Rs)]⟩, 0, ⟨[], []⟩, ⟨[(4, Yo)], []⟩, Ul⟩
def BX : WL := [(9, DO), (4, CO)]
theorem YX : Tb (WG true ZK [] [] []) BX (lp f11 1) := Ye 9 (ls := DO) rfl
theorem XX : Tb (WG true ZK [] [] []) BX (lp f11 0) := Ye 4 (ls := CO) rfl
theorem S0 : WO VV := An Q0 func11 (Kb YX (Kb XX Hb))
abbrev B4 : Mb := .pu Ge Wl [true] (fun x => Cj x.1 x.2.1 x.2.2.1)
abbrev IQ : WF := (12, B4) :: VV
theorem T0 : WO IQ := Jk S0 func12
abbrev R4 : Mb := .pu (.p Pc Wl) Wl [true] (fun x => Ll x.1 x.2.1)
abbrev EW : WF := (36, R4) :: IQ
def QO : Eb := ⟨21, ⟨[(1, Cb), (8, (.data Bq)), (9, Cb), (10, Cb)], []⟩, 0, ⟨[], []⟩, ⟨[(4, Cb)], []⟩, Mm⟩
def A3 : WL := [(2, QO)]
theorem IY : Tb (WG true IQ [] [] []) A3 (lp f36 0) := Ye 2 (ls := QO) rfl
theorem K1 : WO EW := An T0 func36 (Kb IY Hb)
abbrev W4 : Mb := .pu (.p Pc .u) (.p Pc .u) [true] (fun x => Ui x.1)
abbrev QQ : WF := (42, W4) :: EW
theorem P1 : WO QQ := Jk K1 func42
abbrev H4 : Mb := .pu (.p int (.p Bq .u)) Wl [true] (fun x => Dh x.1 x.2.1)
abbrev MQ : WF := (17, H4) :: QQ
def HO : Eb := ⟨39, ⟨[(5, Cb), (21, (.data Bq)), (22, Cb), (23, Cb)], []⟩, 0, ⟨[(5, Cb)], []⟩, ⟨[], []⟩, Qf⟩
def W2 : WL := [(7, HO)]
theorem BY : Tb (WG true QQ [] [] []) W2 (lp f17 0) := Ye 7 (ls := HO) rfl
theorem Y0 : WO MQ := An P1 func17 (Kb BY Hb)
abbrev D5 : Mb := .pu (.p Za We) Wl [true] (fun x => Ep x.1 x.2.1 x.2.2.1)
abbrev KW : WF := (58, D5) :: MQ
def AP : Eb := ⟨33, ⟨[(1, Cb), (2, Cb), (3, Zp), (7, Cb)], [(3, Za, Rs)]⟩, 0, ⟨[], []⟩, ⟨[(6, Cb)], []⟩, Bf⟩
def G3 : WL := [(2, AP)]
theorem QY : Tb (WG true MQ [] [] []) G3 (lp f58 0) := Ye 2 (ls := AP) rfl
theorem X1 : WO KW := An Y0 func58 (Kb QY Hb)
abbrev I4 : Mb := .pu Jv Wj [true] (fun x => Bk x.1)
abbrev XV : WF := (24, I4) :: KW
theorem Z0 : WO XV := Jk X1 func24
abbrev E5 : Mb := .pu Jv Jv [true] (fun x => Qq x.1)
abbrev LW : WF := (59, E5) :: XV
theorem Y1 : WO LW := Jk Z0 func59
abbrev F5 : Mb := .pu Jv Jv [true] (fun x => Wr x.1)
abbrev NW : WF := (60, F5) :: LW
theorem Z1 : WO NW := Jk Y1 func60
abbrev S5 : Mb := .pu Wl Wj [true] (fun x => Am x.1)
abbrev WW : WF := (75, S5) :: NW
theorem N2 : WO WW := Jk Z1 func75
abbrev G5 : Mb := .bx false false Pc Jv Jv [true] (fun x0 x => Kj x0 x.1)
abbrev OW : WF := (61, G5) :: WW
theorem A2 : WO OW := IF (L := []) (m := []) (v := []) (l := []) N2 func61 Hb
abbrev O5 : Mb := .pu (.p Km .u) (.p Km .u) [true] (fun x => Gl x.1)
abbrev TW : WF := (69, O5) :: OW
theorem J2 : WO TW := Jk A2 func69
abbrev V5 : Mb := .io Km .u .u [] (fun x0 _ => sort_Ints x0)
abbrev XQ : WF := (80, V5) :: TW
end
end KF
namespace Go.Proofs
open Go.Shelf
def Try.lays_sort_Ints_ren : Go.Shelf.Ren := ⟨fun | 191 => 80 | 189 => 83 | 125 => 85 | 257 => 84 | 128 => 95 | 129 => 96 | 294 => 86 | 295 => 87 | 296 => 88 | 297 => 89 | 298 => 90 | 299 => 91 | 216 => 92 | 300 => 93 | 301 => 94 | 328 => 97 | 329 => 98 | 330 => 99 | 331 => 100 | 332 => 101 | 215 => 102 | 343 => 103 | n => n, fun | 28 => 63 | 0 => 0 | 3 => 3 | 46 => 130 | 51 => 147 | 53 => 149 | 4 => 4 | 183 => 140 | 182 => 139 | 131 => 117 | 5 => 5 | 9 => 9 | 218 => 150 | 222 => 154 | 228 => 156 | 229 => 120 | n => n, fun | n => n⟩
theorem Try.lays_sort_Ints : Go.Proofs.Lays.n191 Try.prog Try.lays_sort_Ints_ren := {
 mixed := by kernel_rfl
 f125 := Try.func85.trans (congrArg some (by kernel_rfl))
 f128 := Try.func95.trans (congrArg some (by kernel_rfl))
 f129 := Try.func96.trans (congrArg some (by kernel_rfl))
 f189 := Try.func83.trans (congrArg some (by kernel_rfl))
 f191 := Try.func80.trans (congrArg some (by kernel_rfl))
 f215 := Try.func102.trans (congrArg some (by kernel_rfl))
 f216 := Try.func92.trans (congrArg some (by kernel_rfl))
 f257 := Try.func84.trans (congrArg some (by kernel_rfl))
 f294 := Try.func86.trans (congrArg some (by kernel_rfl))
 f295 := Try.func87.trans (congrArg some (by kernel_rfl))
 f296 := Try.func88.trans (congrArg some (by kernel_rfl))
 f297 := Try.func89.trans (congrArg some (by kernel_rfl))
 f298 := Try.func90.trans (congrArg some (by kernel_rfl))
 f299 := Try.func91.trans (congrArg some (by kernel_rfl))
 f300 := Try.func93.trans (congrArg some (by kernel_rfl))
 f301 := Try.func94.trans (congrArg some (by kernel_rfl))
 f328 := Try.func97.trans (congrArg some (by kernel_rfl))
 f329 := Try.func98.trans (congrArg some (by kernel_rfl))
 f330 := Try.func99.trans (congrArg some (by kernel_rfl))
 f331 := Try.func100.trans (congrArg some (by kernel_rfl))
 f332 := Try.func101.trans (congrArg some (by kernel_rfl))
 f343 := Try.func103.trans (congrArg some (by kernel_rfl))
 t0 := Try.underlying0
 a0 := Try.isAgg0
 z0 := Try.sizeOf0
 v0 := Try.zeroValue0
 t3 := Try.underlying3
 a3 := Try.isAgg3
 z3 := Try.sizeOf3
 v3 := Try.zeroValue3
 t4 := Try.underlying4
 a4 := Try.isAgg4
 z4 := Try.sizeOf4
 v4 := Try.zeroValue4
 t5 := Try.underlying5
 a5 := Try.isAgg5
 z5 := Try.sizeOf5
 v5 := Try.zeroValue5
 t9 := Try.underlying9
 a9 := Try.isAgg9
 z9 := Try.sizeOf9
 v9 := Try.zeroValue9
 t28 := Try.underlying63
 a28 := Try.isAgg63
 z28 := Try.sizeOf63
 v28 := Try.zeroValue63
 t46 := Try.underlying130
 a46 := Try.isAgg130
 z46 := Try.sizeOf130
 v46 := Try.zeroValue130
 t51 := Try.underlying147
 a51 := Try.isAgg147
 z51 := Try.sizeOf147
 v51 := Try.zeroValue147
 t53 := Try.underlying149
 a53 := Try.isAgg149
 z53 := Try.sizeOf149
 v53 := Try.zeroValue149
 t131 := Try.underlying117
 a131 := Try.isAgg117
 z131 := Try.sizeOf117
 v131 := Try.zeroValue117
 t182 := Try.underlying139
 a182 := Try.isAgg139
 z182 := Try.sizeOf139
 v182 := Try.zeroValue139
 t183 := Try.underlying140
 a183 := Try.isAgg140
 z183 := Try.sizeOf140
 v183 := Try.zeroValue140
 t218 := Try.underlying150
 a218 := Try.isAgg150
 z218 := Try.sizeOf150
 v218 := Try.zeroValue150
 t222 := Try.underlying154
 a222 := Try.isAgg154
 z222 := Try.sizeOf154
 v222 := Try.zeroValue154
 t228 := Try.underlying156
 a228 := Try.isAgg156
 z228 := Try.sizeOf156
 v228 := Try.zeroValue156
 t229 := Try.underlying120
 a229 := Try.isAgg120
 z229 := Try.sizeOf120
 v229 := Try.zeroValue120 }
end Go.Proofs
namespace KF
open Go Go.Proofs Go.Proofs.Try
noncomputable section
theorem R2 : WO XQ := wc J2 (ZM Try.lays_sort_Ints (by kernel_rfl))
abbrev W5 : Mb := .pu (.p Km Wl) Wj [true] (fun x => Sq x.1 x.2.1)
abbrev YQ : WF := (81, W5) :: XQ
def HP : Eb := ⟨17, ⟨[(1, Cb), (7, (.data Km)), (8, Cb), (9, Cb)], []⟩, 0, ⟨[], []⟩, ⟨[(4, Yo)], []⟩, Rm⟩
def N3 : WL := [(2, HP)]
theorem WY : Tb (WG true XQ [] [] []) N3 (lp f81 0) := Ye 2 (ls := HP) rfl
theorem S2 : WO YQ := An R2 func81 (Kb WY Hb)
abbrev U5 : Mb := .pu (.p Km .u) (.p Km .u) [true] (fun x => Ck x.1)
abbrev WQ : WF := (77, U5) :: YQ
def GP : Eb := ⟨31, ⟨[(4, ZC), (11, (.own 200002 int true)), (12, Cb), (13, Cb)], []⟩, 0, ⟨[(4, ZC)], []⟩, ⟨[], []⟩, Tl⟩
def L3 : WL := [(5, GP)]
theorem VY : Tb (WG true YQ [] [] []) L3 (lp f77 0) := Ye 5 (ls := GP) rfl
theorem Q2 : WO WQ := An S2 func77 (Kb VY Hb)
abbrev I5 : Mb := .pu (.p Bq .u) (.p He .u) [true] (fun x => Wb x.1)
abbrev TQ : WF := (63, I5) :: WQ
def CP : Eb := ⟨45, ⟨[(2, Lr), (3, Zp), (4, ZC), (11, (.data Bq)), (12, Cb), (13, Cb)], [(2, He, BE), (3, He, BE)]⟩, 0, ⟨[(2, Lr), (3, Zp), (4, ZC)], [(2, He, BE), (3, He, BE)]⟩, ⟨[], []⟩, Tk⟩
def I3 : WL := [(6, CP)]
theorem SY : Tb (WG true WQ [] [] []) I3 (lp f63 0) := Ye 6 (ls := CP) rfl
theorem C2 : WO TQ := An Q2 func63 (Kb SY Hb)
abbrev T5 : Mb := .pu (.p He (.p (.sl We) .u)) (.p He .u) [true] (fun x => Fd x.1 x.2.1)
abbrev VQ : WF := (76, T5) :: TQ
def EP : Eb := ⟨37, ⟨[(4, (.ptr 4 [])), (5, (.ptr 5 [])), (6, ZC), (15, (.data (.sl We))), (16, Cb), (17, Cb)], [(4, He, BE), (5, He, BE)]⟩, 0, ⟨[(4, (.ptr 4 [])), (5, (.ptr 5 [])), (6, ZC)], [(4, He, BE), (5, He, BE)]⟩, ⟨[], []⟩, Ek⟩
def K3 : WL := [(4, EP)]
theorem UY : Tb (WG true TQ [] [] []) K3 (lp f76 0) := Ye 4 (ls := EP) rfl
theorem P2 : WO VQ := An C2 func76 (Kb UY Hb)
abbrev H5 : Mb := .pu (.p Bq (.p Aq .u)) (.p Qs .u) [true] (fun x => Uf x.1 x.2.1)
abbrev SQ : WF := (62, H5) :: VQ
def BP : Eb := ⟨74, ⟨[(5, (.ptr 5 [])), (6, (.own 200001 He true)), (7, (.own 200002 We true)), (22, (.data Aq)), (23, Cb), (24, Cb)], [(5, He, (.pr Cb (.pr (.own 200003 int true) .un)))]⟩, 0, ⟨[(6, (.own 200001 He true))], []⟩, ⟨[], []⟩, Bi⟩
def H3 : WL := [(7, BP)]
theorem RY : Tb (WG true VQ [] [] []) H3 (lp f62 0) := Ye 7 (ls := BP) rfl
theorem B2 : WO SQ := An P2 func62 (Kb RY Hb)
abbrev X5 : Mb := .pu (.p Km (.p Km .u)) Wj [true] (fun x => Zn x.1 x.2.1)
abbrev ZW : WF := (82, X5) :: SQ
def IP : Eb := ⟨26, ⟨[(0, (.data Km)), (1, (.data Km)), (12, Cb), (13, Cb)], []⟩, 0, ⟨[], []⟩, ⟨[(4, Yo)], []⟩, Wk⟩
def O3 : WL := [(4, IP)]
theorem XY : Tb (WG true SQ [] [] []) O3 (lp f82 0) := Ye 4 (ls := IP) rfl
theorem T2 : WO ZW := An B2 func82 (Kb XY Hb)
abbrev KZ : Mb := .pu (.p He (.p He .u)) Wj [true] (fun x => Ti x.1 x.2.1)
abbrev XW : WF := (78, KZ) :: ZW
theorem UV : WO XW := Jk T2 func78
abbrev J5 : Mb := .co (.p He (.p Qs .u)) (.p Qs .u) [true] (fun x => Qc x.1 x.2.1)
abbrev PW : WF := (64, J5) :: XW
def K0 : List (Nat × Ty) := [(3, int), (38, (.sl Dz)), (65, Dz)]
theorem AX : ((K0.all fun x => Rc Try.prog x.2 x.1) && (([] : List (Nat × Ty × Nat)).all fun x => Wz Try.prog x.1 x.2.1 x.2.2)) = true := by kernel_rfl
@[reducible] def ER (c : T Oc → T Oc → Option Bool) : Mb := .pu (.p Dz (.p (.sl Dz) .u)) (.p (.sl Dz) .u) [true] (fun x => VL c x.1 x.2.1)
def PN (c : T Oc → T Oc → Option Bool) : Jd := ⟨K0, [(78, UD c)], [], true, [], [], []⟩
theorem DR (I : Jg) (c : T Oc → T Oc → Option Bool) (h : Bg Try.prog I 78 (UD c)) : Vg Try.prog I (PN c) := Vg.cons h (IE AX)
def CE (c : T Oc → T Oc → Option Bool) : Eb := ⟨25, ⟨[(2, Lr), (5, (.own 200001 Dz true)), (8, (.data (.sl Dz))), (9, Cb), (10, Cb)], [(2, Dz, (.data Dz))]⟩, 0, ⟨[(5, (.own 200001 Dz true))], []⟩, ⟨[], []⟩, Il c⟩
def QN (c : T Oc → T Oc → Option Bool) : List (Nat × Eb) := [(3, CE c)]
theorem XL (c : T Oc → T Oc → Option Bool) : Tb (PN c) (QN c) (lp Try.f64 0) := SE (r := 3) (ls := CE c) (R := fun x => Cq c x.1.1 x.1.2.1 x.1.2.2.1 x.1.2.2.2.1 x.1.2.2.2.2.1 x.2.1) (by kernel_rfl) (by kernel_rfl) rfl (fun x => by kernel_rfl)
theorem FR (I : Jg) (c : T Oc → T Oc → Option Bool) (h : Bg Try.prog I 78 (UD c)) : Bg Try.prog I 64 (ER c) := Wx (L := QN c) (k := 1) (DR I c h) WI Try.func64 (by kernel_rfl) (Kb (XL c) Hb) (fun x => by kernel_rfl)
theorem D2 : WO PW := wc UV (ZP (f2 := 78) (SR := fun x => Ti x.1 x.2.1) (same := Fo) QS (QZ (s := KZ) UV (by kernel_rfl)) (fun I c h => ⟨_, FR I c h, IU c⟩))
abbrev S4 : Mb := .pu (.p Pc (.p int Wj)) (.p Pc (.p Qs .u)) [true, true] (fun x => Xr x.1 x.2.1 x.2.2.1)
abbrev FW : WF := (37, S4) :: PW
theorem L1 : WO FW := Jk D2 func37
abbrev C4 : Mb := .pu (.p Pc (.p int Wj)) (.p Pc (.p Qs Wj)) [true, true, true] (fun x => Rf x.1 x.2.1 x.2.2.1)
abbrev WV : WF := (13, C4) :: FW
theorem U0 : WO WV := Jk L1 func13
abbrev T4 : Mb := .pu (.p Pc Wl) (.p Pc (.p Qs .u)) [true, true] (fun x => Fp x.1 x.2.1)
abbrev GW : WF := (38, T4) :: WV
theorem M1 : WO GW := Jk U0 func38
abbrev D4 : Mb := .pu (.p Pc Wl) (.p Pc (.p Qs Wj)) [true, true, true] (fun x => Ci x.1 x.2.1)
abbrev JQ : WF := (14, D4) :: GW
theorem V0 : WO JQ := Jk M1 func14
abbrev U4 : Mb := .pu (.p Km (.p Km .u)) Wj [true] (fun x => Ao x.1 x.2.1)
abbrev OQ : WF := (39, U4) :: JQ
def SO : Eb := ⟨26, ⟨[(0, (.data Km)), (1, (.data Km)), (5, Cb)], []⟩, 0, ⟨[], []⟩, ⟨[(4, Yo)], []⟩, Zk⟩
def B3 : WL := [(4, SO)]
theorem JY : Tb (WG true JQ [] [] []) B3 (lp f39 0) := Ye 4 (ls := SO) rfl
theorem N1 : WO OQ := An V0 func39 (Kb JY Hb)
abbrev E4 : Mb := .pu (.p Qs (.p Qs .u)) Wj [true] (fun x => Hg x.1 x.2.1)
abbrev KQ : WF := (15, E4) :: OQ
def EO : Eb := ⟨42, ⟨[(0, (.data Qs)), (1, (.data Qs)), (5, Cb)], []⟩, 0, ⟨[], []⟩, ⟨[(4, Yo)], []⟩, Li⟩
def U2 : WL := [(4, EO)]
theorem ZX : Tb (WG true OQ [] [] []) U2 (lp f15 0) := Ye 4 (ls := EO) rfl
theorem W0 : WO KQ := An N1 func15 (Kb ZX Hb)
abbrev G4 : Mb := .pu (.p Bq (.p Bq .u)) Wj [true] (fun x => Oi x.1 x.2.1)
abbrev LQ : WF := (16, G4) :: KQ
def GO : Eb := ⟨26, ⟨[(0, (.data Bq)), (1, (.data Bq)), (5, Cb)], []⟩, 0, ⟨[], []⟩, ⟨[(4, Yo)], []⟩, Yk⟩
def V2 : WL := [(4, GO)]
theorem AY : Tb (WG true KQ [] [] []) V2 (lp f16 0) := Ye 4 (ls := GO) rfl
theorem X0 : WO LQ := An W0 func16 (Kb AY Hb)
abbrev N0 : Mb := .pu (.p (.sl Ps) .u) Wj [true] (fun x => Hl x.1)
abbrev K6 : WF := (3, N0) :: LQ
def TO : Eb := ⟨155, ⟨[(0, (.data (.sl Ps))), (5, Cb), (6, (.ptr 6 [])), (8, (.ptr 8 [])), (10, Cb)], [(6, Pc, (.pr SB (.pr (.own 200002 Aq true) (.pr Cb (.pr (.own 200003 Sp true) (.data (.p int Wj))))))), (8, Pc, (.pr (.pr Cb (.pr (.own 200004 Po true) .un)) (.pr (.own 200005 Aq true) (.pr Cb (.pr (.own 200006 Sp true) (.data (.p int Wj)))))))]⟩, 0, ⟨[], []⟩, ⟨[(2, Yo)], []⟩, Fk⟩
def L6 : WL := [(11, TO)]
theorem KY : Tb (WG true LQ [] [] []) L6 (lp f3 0) := Ye 11 (ls := TO) rfl
theorem F6 : WO K6 := An X0 func3 (Kb KY Hb)
theorem Az : Bg Try.prog II 3 N0 := QZ F6 (by kernel_rfl)
end
end KF
