/- An evaluator of Go functions on plain data, its soundness, and plain laws on what the functions compute, part 4 (conditions: as each lemma tells). -/
import Derived.Test.YtdgeblmmmffgfaaC
import Derived.Test.YtdgeblmmmffgfaaRows
set_option linter.unusedSimpArgs false
set_option linter.unusedVariables false
namespace KF
open Go Go.Proofs Go.Proofs.Try
def GT : List (Nat × Ty) := [(3, int), (4, .b), (22, (.sl (.sl Pa))), (24, Ra), (26, (.sl int)), (29, (.sl (.sl Pa))), (31, Ra), (56, (.sl Pa)), (69, (.sl (.sl int))), (70, (.sl .b)), (74, (.mp int (.sl int))), (90, Pa), (101, (.sl Pa)), (128, Pa)]
def GA : List (Nat × Ty × Nat) := []
theorem WM : ((GT.all fun x => Ob Try.prog x.2 x.1) && (GA.all fun x => Ow Try.prog x.1 x.2.1 x.2.2)) = true := by kernel_rfl
theorem HI : Try.prog.follows .mixedOrders = true := by kernel_rfl
noncomputable abbrev II : Hr := FN
noncomputable section
abbrev WP : Program := Try.prog
abbrev WF := List (Nat × Sb)
abbrev WL := List (Nat × Ib)
abbrev WG (z : Bool) (fs : WF) (m : List (Nat × Nat)) (v l : List Nat) : Mc := ⟨GT, fs, m, z, GA, v, l⟩
def WO (fs : WF) : Prop := ∀ z m v l, Kg WP II (WG z fs m v l)
theorem BR : WO [] := fun _ _ _ _ => FE WM
theorem wc {f : Nat} {s : Sb} {fs : WF} (e : WO fs) (h : Jm WP II f s) : WO ((f, s) :: fs) := fun z m v l => Kg.cons h (e z m v l)
theorem AR {f : Nat} {s : Sb} {fs : WF} (e : WO fs) (h : Na fs f = some s) : Jm WP II f s := (e true [] [] []).fn f s h
theorem Hg {z : Bool} {fs : WF} {m : List (Nat × Nat)} {v l : List Nat} {L : WL} {fn : Func} {i : Nat} (r : Nat) {ls : Ib} {R : ls.inT.X → Option (ls.inT.X ⊕ (ls.outT.X ⊕ ls.retT.X))}
 (h3 : ls.F = Pb R) (h1 : Te (lp fn i) = some r := by kernel_rfl) (h2 : (Na L r) = some ls := by kernel_rfl) (h4 : ∀ x, Gp (WG z fs m v l) L ls (lp fn i) x = R x := by intro _; kernel_rfl) : Kc (WG z fs m v l) L (lp fn i) := OF h1 h2 h3 h4
theorem Kh {f : Nat} {fn : Func} {pt rt : Ty} {fr : List Bool} {F : T pt → Option (T rt)} {fs : WF} (e : WO fs) (hf : WP.funcs[f]? = some fn)
 (hb : (fn.body.isSome && !(fn.name == "runtime.NumGoroutine") && Nat.ble pt.npar fn.ntmps && Nat.beq (Pc (fn.body.getD .skip)).length 0) = true := by kernel_rfl)
 (hF : ∀ x, IE (WG true fs [] [] []) [] fn pt rt fr x = F x := by intro _; kernel_rfl) : WO ((f, .pu pt rt fr F) :: fs) := wc e (Ay (e _ _ _ _) HI hf hb Gc hF)
theorem Po {k : Nat} {L : WL} {m : List (Nat × Nat)} {v l : List Nat} {f : Nat} {fn : Func} {pt rt : Ty} {fr : List Bool} {F : T pt → Option (T rt)} {fs : WF} (e : WO fs) (hf : WP.funcs[f]? = some fn) (hL : ∀ i, i < k → Kc (WG true fs m v l) L (lp fn i))
 (hb : (fn.body.isSome && !(fn.name == "runtime.NumGoroutine") && Nat.ble pt.npar fn.ntmps && Nat.beq (Pc (fn.body.getD .skip)).length k) = true := by kernel_rfl)
 (hF : ∀ x, IE (WG true fs m v l) L fn pt rt fr x = F x := by intro _; kernel_rfl) : WO ((f, .pu pt rt fr F) :: fs) := wc e (Ay (e _ _ _ _) HI hf hb hL hF)
theorem UI {k : Nat} {L : WL} {m : List (Nat × Nat)} {v l : List Nat} {f : Nat} {fn : Func} {τ pt rt : Ty} {fr : List Bool} {F : T τ → T pt → Option (T τ × T rt)} {fs : WF} (e : WO fs) (hf : WP.funcs[f]? = some fn) (hL : ∀ i, i < k → Kc (WG false fs m v l) L (lp fn i))
 (hb : (fn.body.isSome && !(fn.name == "runtime.NumGoroutine") && Nat.ble (pt.npar + 1) fn.ntmps && Nat.beq (Pc (fn.body.getD .skip)).length k) = true := by kernel_rfl)
 (hF : ∀ x0 x, Az (WG false fs m v l) L fn τ pt rt fr x0 x = F x0 x := by intro _ _; kernel_rfl) : WO ((f, .io τ pt rt fr F) :: fs) := wc e (XF (e _ _ _ _) rfl HI hf hb hL hF)
abbrev Xc : TD := .data int
abbrev Wj : Ty := .sl Pa
abbrev Ji : Ty := .p int .u
abbrev Xn : TD := .data Ra
abbrev Mj : Ty := .sl int
abbrev Jn : Ty := .p .b .u
abbrev Nx : Ty := .p Ra Ji
abbrev Nz : TD := .data (.sl Wj)
abbrev HQ : Sb := .pu (.p Wj Ji) Ji [true] (fun x => Gh x.1 x.2.1)
abbrev MG : WF := (60, HQ) :: ([] : WF)
theorem CO : WO MG := Kh BR func60
abbrev YP : Sb := .pu (.p (.sl Wj) Ji) Ji [true] (fun x => Ni x.1 x.2.1)
abbrev FK : WF := (35, YP) :: MG
def XE : Ib := ⟨27, ⟨[(0, Nz), (1, Xc), (5, Xc)], []⟩, 0, ⟨[(1, Xc)], []⟩, ⟨[(4, Xc)], []⟩, Ak⟩
def BP : WL := [(5, XE)]
theorem QL : Kc (WG true MG [] [] []) BP (lp f35 0) := Hg 5 (ls := XE) rfl
theorem TN : WO FK := Po CO func35 (Xb QL Gc)
abbrev JR : Sb := .pu Nx Ji [true] (fun x => Mk x.1 x.2.1)
abbrev CN : WF := (7, JR) :: FK
theorem FR : WO CN := Kh TN func7
abbrev VQ : Sb := .pu (.p Pa .u) (.p Pa .u) [true] (fun x => Bi x.1)
abbrev QG : WF := (88, VQ) :: CN
theorem SO : WO QG := Kh FR func88
abbrev LQ : Sb := .pu (.p Wj .u) (.p Wj .u) [true] (fun x => Hj x.1)
abbrev NG : WF := (64, LQ) :: QG
def GF : Ib := ⟨23, ⟨[(0, (.data Wj)), (3, (.own 200001 Pa true)), (4, Xc)], []⟩, 0, ⟨[(3, (.own 200001 Pa true))], []⟩, ⟨[], []⟩, Gl⟩
def GP : WL := [(3, GF)]
theorem AM : Kc (WG true QG [] [] []) GP (lp f64 0) := Hg 3 (ls := GF) rfl
theorem GO : WO NG := Po SO func64 (Xb AM Gc)
abbrev BQ : Sb := .pu (.p (.sl Wj) .u) (.p (.sl Wj) .u) [true] (fun x => Sl x.1)
abbrev GK : WF := (38, BQ) :: NG
def ZE : Ib := ⟨23, ⟨[(0, Nz), (3, (.own 200001 Wj true)), (4, Xc)], []⟩, 0, ⟨[(3, (.own 200001 Wj true))], []⟩, ⟨[], []⟩, Bk⟩
def CP : WL := [(3, ZE)]
theorem SL : Kc (WG true NG [] [] []) CP (lp f38 0) := Hg 3 (ls := ZE) rfl
theorem WN : WO GK := Po GO func38 (Xb SL Gc)
abbrev KR : Sb := .pu (.p Ra .u) (.p Ra .u) [true] (fun x => Ff x.1)
abbrev DN : WF := (9, KR) :: GK
theorem GR : WO DN := Kh WN func9
abbrev JQ : Sb := .pu Cz Jn [true] (fun x => Be x.1 x.2.1 x.2.2.1)
abbrev LK : WF := (62, JQ) :: DN
theorem EO : WO LK := Kh GR func62
abbrev TQ : Sb := .pu (.p Pa .u) Jn [true] (fun x => Ci x.1)
abbrev OC : WF := (86, TQ) :: LK
theorem QO : WO OC := Kh EO func86
abbrev IQ : Sb := .pu (.p Ra .u) Jn [true] (fun x => Di x.1)
abbrev KK : WF := (61, IQ) :: OC
def FF : Ib := ⟨74, ⟨[(1, (.ptr 1 [])), (3, Xc), (4, Xc)], [(1, Ra, Xn)]⟩, 2, ⟨[(1, (.ptr 1 [])), (3, Xc)], [(1, Ra, Xn)]⟩, ⟨[(2, (.data .b))], []⟩, Sf⟩
def EF : Ib := ⟨74, ⟨[(1, (.ptr 1 [])), (3, Xc)], [(1, Ra, Xn)]⟩, 0, ⟨[(1, (.ptr 1 []))], [(1, Ra, Xn)]⟩, ⟨[(2, (.data .b))], []⟩, Rf⟩
def UK : WL := [(7, FF), (2, EF)]
theorem ZL : Kc (WG true OC [] [] []) UK (lp f61 1) := Hg 7 (ls := FF) rfl
theorem YL : Kc (WG true OC [] [] []) UK (lp f61 0) := Hg 2 (ls := EF) rfl
theorem DO : WO KK := Po QO func61 (Xb ZL (Xb YL Gc))
abbrev ZP : Sb := .pu Nx Jn [true] (fun x => Dg x.1 x.2.1)
abbrev JG : WF := (36, ZP) :: KK
theorem UN : WO JG := Kh DO func36
abbrev AN : Sb := .pu (.p Ra No) Ji [true] (fun x => Xl x.1 x.2.1 x.2.2.1)
abbrev JI : WF := (100, AN) :: JG
def SB : Ib := ⟨45, ⟨[(1, Xc), (2, Xc), (3, (.ptr 3 [])), (7, Xc)], [(3, Ra, Xn)]⟩, 0, ⟨[], []⟩, ⟨[(6, Xc)], []⟩, Sd⟩
def XM : WL := [(4, SB)]
theorem EJ : Kc (WG true JG [] [] []) XM (lp f100 0) := Hg 4 (ls := SB) rfl
theorem VM : WO JI := Po UN func100 (Xb EJ Gc)
abbrev UQ : Sb := .pu (.p Ra No) (.p Pa .u) [true] (fun x => Pk x.1 x.2.1 x.2.2.1)
abbrev QK : WF := (87, UQ) :: JI
theorem RO : WO QK := Kh VM func87
abbrev KQ : Sb := .pu (.p Ra No) Ji [true] (fun x => Oi x.1 x.2.1 x.2.2.1)
abbrev MC : WF := (63, KQ) :: QK
theorem FO : WO MC := Kh RO func63
abbrev AQ : Sb := .pu Nx (.p (.sl Mj) (.p (.sl .b) .u)) [true, true] (fun x => Lj x.1 x.2.1)
abbrev KG : WF := (37, AQ) :: MC
def TB : Ib := ⟨70, ⟨[(2, (.ptr 2 [])), (6, (.own 200101 Mj true)), (7, (.own 200102 .b true)), (8, (.own 200103 int true)), (9, Xc), (10, Xc), (11, Xc)], [(2, Ra, Xn)]⟩, 2, ⟨[(2, (.ptr 2 [])), (6, (.own 200101 Mj true)), (7, (.own 200102 .b true)), (8, (.own 200103 int true)), (9, Xc)], [(2, Ra, Xn)]⟩, ⟨[], []⟩, We⟩
def YE : Ib := ⟨70, ⟨[(2, (.ptr 2 [])), (6, (.own 200001 Mj true)), (7, (.own 200002 .b true)), (8, (.own 200003 int true)), (9, Xc)], [(2, Ra, Xn)]⟩, 0, ⟨[(6, (.own 200001 Mj true)), (7, (.own 200002 .b true))], []⟩, ⟨[], []⟩, Ae⟩
def SK : WL := [(10, TB), (6, YE)]
theorem FJ : Kc (WG true MC [(15013, 200101)] [] []) SK (lp f37 1) := Hg 10 (ls := TB) rfl
theorem RL : Kc (WG true MC [(15013, 200101)] [] []) SK (lp f37 0) := Hg 6 (ls := YE) rfl
theorem VN : WO KG := Po FO func37 (Xb FJ (Xb RL Gc))
abbrev TP : Sb := .pu Nx (.p Mj .u) [true] (fun x => Je x.1 x.2.1)
abbrev CK : WF := (16, TP) :: KG
def TE : Ib := ⟨36, ⟨[(5, (.own 200001 int true)), (7, (.own 200002 .b true)), (8, Xc)], []⟩, 0, ⟨[(5, (.own 200001 int true))], []⟩, ⟨[], []⟩, Cg⟩
def ZO : WL := [(6, TE)]
theorem ML : Kc (WG true KG [] [] []) ZO (lp f16 0) := Hg 6 (ls := TE) rfl
theorem PN : WO CK := Po VN func16 (Xb ML Gc)
abbrev QQ : Sb := .pu Ji Jn [true] (fun x => Ei x.1)
abbrev NK : WF := (83, QQ) :: CK
theorem MO : WO NK := Kh PN func83
abbrev RQ : Sb := .pu Ji Jn [true] (fun x => Wg x.1)
abbrev OK : WF := (84, RQ) :: NK
theorem NO : WO OK := Kh MO func84
abbrev SQ : Sb := .pu Ji Jn [true] (fun x => Dh x.1)
abbrev PK : WF := (85, SQ) :: OK
theorem PO : WO PK := Kh NO func85
abbrev GQ : Sb := .pu (.p Pa .u) Jn [true] (fun x => Zh x.1)
abbrev LC : WF := (59, GQ) :: PK
theorem BO : WO LC := Kh PO func59
abbrev XP : Sb := .pu (.p Ra .u) Jn [true] (fun x => Hk x.1)
abbrev EK : WF := (34, XP) :: LC
def WE : Ib := ⟨73, ⟨[(1, (.ptr 1 [])), (3, Xc), (28, Nz), (29, Xc), (30, Xc), (40, (.data Wj)), (41, Xc), (42, Xc)], [(1, Ra, Xn)]⟩, 2, ⟨[(1, (.ptr 1 [])), (28, Nz), (29, Xc), (30, Xc)], [(1, Ra, Xn)]⟩, ⟨[(2, (.data .b))], []⟩, Nf⟩
def VE : Ib := ⟨73, ⟨[(1, (.ptr 1 [])), (28, Nz), (29, Xc), (30, Xc)], [(1, Ra, Xn)]⟩, 0, ⟨[], []⟩, ⟨[(2, (.data .b))], []⟩, Mf⟩
def RK : WL := [(9, WE), (4, VE)]
theorem PL : Kc (WG true LC [] [] []) RK (lp f34 1) := Hg 9 (ls := WE) rfl
theorem OL : Kc (WG true LC [] [] []) RK (lp f34 0) := Hg 4 (ls := VE) rfl
theorem SN : WO EK := Po BO func34 (Xb PL (Xb OL Gc))
abbrev VP : Sb := .pu Nx Jn [true] (fun x => Gd x.1 x.2.1)
abbrev DK : WF := (21, VP) :: EK
theorem RN : WO DK := Kh SN func21
abbrev XQ : Sb := .pu No Ji [true] (fun x => Sq x.1 x.2.1)
abbrev SG : WF := (91, XQ) :: DK
theorem UO : WO SG := Kh RN func91
abbrev PQ : Sb := .pu (.p Ra No) Ji [true] (fun x => Pl x.1 x.2.1 x.2.2.1)
abbrev MK : WF := (71, PQ) :: SG
def JF : Ib := ⟨33, ⟨[(1, Xc), (2, Xc), (3, (.ptr 3 [])), (7, Xc)], [(3, Ra, Xn)]⟩, 0, ⟨[], []⟩, ⟨[(6, Xc)], []⟩, Rd⟩
def JP : WL := [(2, JF)]
theorem DM : Kc (WG true SG [] [] []) JP (lp f71 0) := Hg 2 (ls := JF) rfl
theorem LO : WO MK := Po UO func71 (Xb DM Gc)
abbrev FQ : Sb := .pu (.p Ra No) Ji [true] (fun x => Qg x.1 x.2.1 x.2.2.1)
abbrev JK : WF := (45, FQ) :: MK
theorem AO : WO JK := Kh LO func45
abbrev MQ : Sb := .pu (.p Mj .u) (.p Mj .u) [true] (fun x => Ik x.1)
abbrev NC : WF := (65, MQ) :: JK
theorem HO : WO NC := Kh AO func65
abbrev CQ : Sb := .pu Nx (.p (.mp int Mj) .u) [false] (fun x => Xo x.1 x.2.1)
abbrev LG : WF := (39, CQ) :: NC
def BF : Ib := ⟨57, ⟨[(2, (.ptr 2 [])), (5, (.mpo 200101 int Mj)), (6, (.own 200102 int true)), (7, Xc), (26, Xc), (27, Xc)], [(2, Ra, Xn)]⟩, 2, ⟨[(2, (.ptr 2 [])), (5, (.mpo 200101 int Mj)), (6, (.own 200102 int true))], [(2, Ra, Xn)]⟩, ⟨[], []⟩, Th⟩
def AF : Ib := ⟨57, ⟨[(2, (.ptr 2 [])), (5, (.mpo 200001 int Mj)), (6, (.own 200002 int true))], [(2, Ra, Xn)]⟩, 0, ⟨[(5, (.mpo 200001 int Mj))], []⟩, ⟨[], []⟩, Yf⟩
def TK : WL := [(7, BF), (3, AF)]
theorem UL : Kc (WG true NC [(12010, 1000000050), (15999, 1000200001)] [24] []) TK (lp f39 1) := Hg 7 (ls := BF) rfl
theorem TL : Kc (WG true NC [(12010, 1000000050), (15999, 1000200001)] [24] []) TK (lp f39 0) := Hg 3 (ls := AF) rfl
theorem XN : WO LG := Po HO func39 (Xb UL (Xb TL Gc))
abbrev UP : Sb := .pu Nx (.p Mj .u) [true] (fun x => Md x.1 x.2.1)
abbrev IG : WF := (17, UP) :: LG
def UE : Ib := ⟨33, ⟨[(5, (.data (.mp int Mj))), (6, (.own 200001 int true)), (17, Xc)], []⟩, 0, ⟨[(6, (.own 200001 int true))], []⟩, ⟨[], []⟩, Xf⟩
def AP : WL := [(6, UE)]
theorem NL : Kc (WG true LG [] [] []) AP (lp f17 0) := Hg 6 (ls := UE) rfl
theorem QN : WO IG := Po XN func17 (Xb NL Gc)
abbrev OP : Sb := .pu (.p Mj (.p Mj .u)) Jn [true] (fun x => Fi x.1 x.2.1)
abbrev AK : WF := (11, OP) :: IG
def QE : Ib := ⟨26, ⟨[(0, (.data Mj)), (1, (.data Mj)), (5, Xc)], []⟩, 0, ⟨[], []⟩, ⟨[(4, (.data .b))], []⟩, Aj⟩
def VO : WL := [(4, QE)]
theorem JL : Kc (WG true IG [] [] []) VO (lp f11 0) := Hg 4 (ls := QE) rfl
theorem KN : WO AK := Po QN func11 (Xb JL Gc)
abbrev WQ : Sb := .pu (.p Pa (.p Pa .u)) Jn [true] (fun x => Ai x.1 x.2.1)
abbrev RG : WF := (89, WQ) :: AK
theorem TO : WO RG := Kh KN func89
abbrev NQ : Sb := .pu (.p Wj (.p Wj .u)) Jn [true] (fun x => Fh x.1 x.2.1)
abbrev OG : WF := (66, NQ) :: RG
def HF : Ib := ⟨27, ⟨[(0, (.data Wj)), (1, (.data Wj)), (5, Xc)], []⟩, 0, ⟨[], []⟩, ⟨[(4, (.data .b))], []⟩, Fl⟩
def HP : WL := [(4, HF)]
theorem BM : Kc (WG true RG [] [] []) HP (lp f66 0) := Hg 4 (ls := HF) rfl
theorem JO : WO OG := Po TO func66 (Xb BM Gc)
abbrev DQ : Sb := .pu (.p (.sl Wj) (.p (.sl Wj) .u)) Jn [true] (fun x => Ki x.1 x.2.1)
abbrev HK : WF := (40, DQ) :: OG
def CF : Ib := ⟨27, ⟨[(0, Nz), (1, Nz), (5, Xc)], []⟩, 0, ⟨[], []⟩, ⟨[(4, (.data .b))], []⟩, Zj⟩
def DP : WL := [(4, CF)]
theorem VL : Kc (WG true OG [] [] []) DP (lp f40 0) := Hg 4 (ls := CF) rfl
theorem YN : WO HK := Po JO func40 (Xb VL Gc)
abbrev PP : Sb := .pu (.p Ra (.p Ra .u)) Jn [true] (fun x => Kk x.1 x.2.1)
abbrev FG : WF := (12, PP) :: HK
theorem LN : WO FG := Kh YN func12
abbrev OQ : Sb := .io Wj Ji Ji [true] (fun x0 x => Tk x0 x.1)
abbrev PG : WF := (67, OQ) :: FG
def IF : Ib := ⟨41, ⟨[(0, (.own 500000 Pa true)), (1, Xc), (5, Xc)], []⟩, 0, ⟨[(0, (.own 500000 Pa true)), (1, Xc)], []⟩, ⟨[], []⟩, Nj⟩
def IP : WL := [(2, IF)]
theorem CM : Kc (WG false FG [] [] []) IP (lp f67 0) := Hg 2 (ls := IF) rfl
theorem KO : WO PG := UI LN func67 (Xb CM Gc)
abbrev EQ : Sb := .io (.sl Wj) Ji Ji [true] (fun x0 x => Qj x0 x.1)
abbrev IK : WF := (41, EQ) :: PG
def DF : Ib := ⟨19, ⟨[(0, (.own 500000 Wj true)), (1, Xc), (5, Xc)], []⟩, 0, ⟨[(0, (.own 500000 Wj true)), (1, Xc)], []⟩, ⟨[], []⟩, Bj⟩
def EP : WL := [(2, DF)]
theorem XL : Kc (WG false PG [(3999, 500000)] [] []) EP (lp f41 0) := Hg 2 (ls := DF) rfl
theorem ZN : WO IK := UI KO func41 (Xb XL Gc)
abbrev QP : Sb := .io Ra Ji Ji [true] (fun x0 x => Mi x0 x.1)
abbrev GG : WF := (13, QP) :: IK
theorem MN : WO GG := UI (L := []) (m := []) (v := []) (l := []) ZN func13 Gc
abbrev RP : Sb := .io Mj Ji Ji [true] (fun x0 x => Gn x0 x.1)
abbrev HG : WF := (14, RP) :: GG
def RE : Ib := ⟨19, ⟨[(0, (.own 500000 int true)), (1, Xc), (5, Xc)], []⟩, 0, ⟨[(0, (.own 500000 int true)), (1, Xc)], []⟩, ⟨[], []⟩, Rl⟩
def XO : WL := [(2, RE)]
theorem KL : Kc (WG false GG [] [] []) XO (lp f14 0) := Hg 2 (ls := RE) rfl
theorem NN : WO HG := UI MN func14 (Xb KL Gc)
abbrev SP : Sb := .pu (.p Mj Ji) Ji [true] (fun x => Lk x.1 x.2.1)
abbrev BK : WF := (15, SP) :: HG
def SE : Ib := ⟨21, ⟨[(0, (.data Mj)), (1, Xc), (5, Xc)], []⟩, 0, ⟨[(1, Xc)], []⟩, ⟨[(4, Xc)], []⟩, Ql⟩
def YO : WL := [(2, SE)]
theorem LL : Kc (WG true HG [] [] []) YO (lp f15 0) := Hg 2 (ls := SE) rfl
theorem ON : WO BK := Po NN func15 (Xb LL Gc)
abbrev HN : Sb := .pu Nx Jn [true] (fun x => Ge x.1 x.2.1)
abbrev HR : WF := (4, HN) :: BK
theorem ER : WO HR := Kh ON func4
theorem Fm : Jm Try.prog II 4 HN := AR ER (by kernel_rfl)
end
end KF
