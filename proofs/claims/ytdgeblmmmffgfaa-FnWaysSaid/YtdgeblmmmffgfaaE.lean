/- An evaluator of Go functions on plain data, its soundness, and plain laws on what the functions compute, part 5 (conditions: as each lemma tells). -/
import Derived.Test.YtdgeblmmmffgfaaD
import Derived.Test.YtdgeblmmmffgfaaRows
set_option linter.unusedSimpArgs false
set_option linter.unusedVariables false
namespace KF
open Go Go.Proofs Go.Proofs.Try
def GT : List (Nat × Ty) := [(3, int), (4, .b), (5, Wt), (26, (.sl int)), (29, (.sl (.sl Vc))), (31, Sa), (40, (.sl Wt)), (47, (.sl (.sl Od))), (48, (.sl Rh)), (50, Zb), (53, (.sl Md)), (56, (.sl Vc)), (74, (.mp int (.sl int))), (90, Vc), (109, Ke), (111, (.sl Od)), (115, Rh), (120, Md), (133, (.sl De)), (135, Od), (137, De)]
def GA : List (Nat × Ty × Nat) := []
theorem NY : ((GT.all fun x => Hc Try.prog x.2 x.1) && (GA.all fun x => Lz Try.prog x.1 x.2.1 x.2.2)) = true := by kernel_rfl
theorem BI : Try.prog.follows .mixedOrders = true := by kernel_rfl
noncomputable abbrev II : Sf := LZ
noncomputable section
abbrev WP : Program := Try.prog
abbrev WF := List (Nat × Kb)
abbrev WL := List (Nat × Hb)
abbrev WG (z : Bool) (fs : WF) (m : List (Nat × Nat)) (v l : List Nat) : Fd := ⟨GT, fs, m, z, GA, v, l⟩
def WO (fs : WF) : Prop := ∀ z m v l, Eg WP II (WG z fs m v l)
theorem U4 : WO [] := fun _ _ _ _ => BE NY
theorem wc {f : Nat} {s : Kb} {fs : WF} (e : WO fs) (h : Zf WP II f s) : WO ((f, s) :: fs) := fun z m v l => Eg.cons h (e z m v l)
theorem GY {f : Nat} {s : Kb} {fs : WF} (e : WO fs) (h : Ra fs f = some s) : Zf WP II f s := (e true [] [] []).fn f s h
theorem Hf {z : Bool} {fs : WF} {m : List (Nat × Nat)} {v l : List Nat} {L : WL} {fn : Func} {i : Nat} (r : Nat) {ls : Hb} {R : ls.inT.X → Option (ls.inT.X ⊕ (ls.outT.X ⊕ ls.retT.X))}
 (h3 : ls.F = Yb R) (h1 : Gg (lp fn i) = some r := by kernel_rfl) (h2 : (Ra L r) = some ls := by kernel_rfl) (h4 : ∀ x, Mt (WG z fs m v l) L ls (lp fn i) x = R x := by intro _; kernel_rfl) : Bc (WG z fs m v l) L (lp fn i) := IE h1 h2 h3 h4
theorem Mh {f : Nat} {fn : Func} {pt rt : Ty} {fr : List Bool} {F : T pt → Option (T rt)} {fs : WF} (e : WO fs) (hf : WP.funcs[f]? = some fn)
 (hb : (fn.body.isSome && !(fn.name == "runtime.NumGoroutine") && Nat.ble pt.npar fn.ntmps && Nat.beq (Ad (fn.body.getD .skip)).length 0) = true := by kernel_rfl)
 (hF : ∀ x, VM (WG true fs [] [] []) [] fn pt rt fr x = F x := by intro _; kernel_rfl) : WO ((f, .pu pt rt fr F) :: fs) := wc e (Sx (e _ _ _ _) BI hf hb Jb hF)
theorem Kn {k : Nat} {L : WL} {m : List (Nat × Nat)} {v l : List Nat} {f : Nat} {fn : Func} {pt rt : Ty} {fr : List Bool} {F : T pt → Option (T rt)} {fs : WF} (e : WO fs) (hf : WP.funcs[f]? = some fn) (hL : ∀ i, i < k → Bc (WG true fs m v l) L (lp fn i))
 (hb : (fn.body.isSome && !(fn.name == "runtime.NumGoroutine") && Nat.ble pt.npar fn.ntmps && Nat.beq (Ad (fn.body.getD .skip)).length k) = true := by kernel_rfl)
 (hF : ∀ x, VM (WG true fs m v l) L fn pt rt fr x = F x := by intro _; kernel_rfl) : WO ((f, .pu pt rt fr F) :: fs) := wc e (Sx (e _ _ _ _) BI hf hb hL hF)
theorem VE {k : Nat} {L : WL} {m : List (Nat × Nat)} {v l : List Nat} {f : Nat} {fn : Func} {vw cv : Bool} {τ pt rt : Ty} {fr : List Bool} {F : T τ → T pt → Option (T τ × T rt)} {fs : WF} (e : WO fs) (hf : WP.funcs[f]? = some fn) (hL : ∀ i, i < k → Bc (WG false fs m v l) L (lp fn i))
 (hb : (fn.body.isSome && !(fn.name == "runtime.NumGoroutine") && Nat.ble (pt.npar + 1) fn.ntmps && Nat.beq (Ad (fn.body.getD .skip)).length k) = true := by kernel_rfl)
 (hF : ∀ x0 x, TF (WG false fs m v l) L fn vw cv τ pt rt fr x0 x = F x0 x := by intro _ _; kernel_rfl) : WO ((f, .bx vw cv τ pt rt fr F) :: fs) := wc e (SO (e _ _ _ _) rfl BI hf hb hL hF)
theorem NZ {k : Nat} {L : WL} {m : List (Nat × Nat)} {v l : List Nat} {f : Nat} {fn : Func} {pt τ : Ty} {F : T pt → Option (T τ)} {fs : WF} (e : WO fs) (hf : WP.funcs[f]? = some fn) (hL : ∀ i, i < k → Bc (WG true fs m v l) L (lp fn i))
 (hb : (fn.body.isSome && !(fn.name == "runtime.NumGoroutine") && Nat.ble pt.npar fn.ntmps && Nat.beq (Ad (fn.body.getD .skip)).length k) = true := by kernel_rfl)
 (hF : ∀ x, UF (WG true fs m v l) L fn pt τ x = F x := by intro _; kernel_rfl) : WO ((f, .nw pt τ F) :: fs) := wc e (UO (e _ _ _ _) BI hf hb hL hF)
abbrev Lb : TD := .data int
abbrev Ti : Ty := .p int .u
abbrev Cj : Ty := .p .b .u
abbrev Nl : TD := .data .b
abbrev Gv : TD := .own 200001 int true
abbrev Xt : Ty := .p int (.p .o .u)
abbrev Bj : Ty := .sl int
abbrev Gw : TD := .data Bj
abbrev Tw : TD := .pr Lb (.pr Gw .un)
abbrev Nm : Ty := .sl Vc
abbrev KB : TD := .pr Lb (.pr (.data (.sl Nm)) .un)
abbrev BW : TD := .pr (.pr Lb (.pr (.own 200002 Nm true) .un)) (.pr (.own 200003 (.sl Od) true) (.pr Lb (.pr (.own 200004 Rh true) (.data (.p int Cj)))))
abbrev UI : TD := .pr Lb (.pr (.own 200001 Nm true) .un)
abbrev IZ : TD := .pr (.pr Lb (.pr (.own 200005 Nm true) .un)) (.pr (.own 200006 (.sl Od) true) (.pr Lb (.pr (.own 200007 Rh true) (.data (.p int Cj)))))
abbrev JZ : TD := .pr (.pr Lb (.pr (.own 200201 Nm true) .un)) (.pr (.own 200202 (.sl Od) true) (.pr Lb (.pr (.own 200203 Rh true) (.data (.p int Cj)))))
abbrev Hv : Ty := .p Vc .u
abbrev LG : TD := .own 200001 Md true
abbrev U2 : Kb := .pu (.p (.sl Wt) .u) Cj [true] (fun x => Xp x.1)
abbrev IP : WF := (18, U2) :: ([] : WF)
theorem QZ : WO IP := Mh U4 func18
abbrev Q3 : Kb := .nw (.p (.sl Wt) .u) Ke (fun x => Sr x.1)
abbrev ZU : WF := (55, Q3) :: IP
def ON : Hb := ⟨32, ⟨[(0, (.data (.sl Wt))), (3, Lb), (4, Lb)], []⟩, 0, ⟨[(0, (.data (.sl Wt))), (3, Lb)], []⟩, ⟨[], []⟩, Tm⟩
def V1 : WL := [(3, ON)]
theorem WW : Bc (WG true IP [] [] []) V1 (lp f55 0) := Hf 3 (ls := ON) rfl
theorem M0 : WO ZU := NZ QZ func55 (Nb WW Jb)
abbrev G3 : Kb := .nw (.p (.sl Wt) Ti) Ke (fun x => Gn x.1 x.2.1)
abbrev UU : WF := (43, G3) :: ZU
theorem B0 : WO UU := NZ (L := []) (m := []) (v := []) (l := []) M0 func43 Jb
abbrev V3 : Kb := .bx true false Ke .u Ti [true] (fun x0 x => Bh x0)
abbrev BV : WF := (70, V3) :: UU
theorem S0 : WO BV := VE (L := []) (m := []) (v := []) (l := []) B0 func70 Jb
abbrev H3 : Kb := .bx true false Ke Ti Ti [true] (fun x0 x => Ua x0 x.1)
abbrev VU : WF := (44, H3) :: BV
theorem C0 : WO VU := VE (L := []) (m := []) (v := []) (l := []) S0 func44 Jb
abbrev D4 : Kb := .bx true false Ke Ti Cj [true] (fun x0 x => Rk x0 x.1)
abbrev FV : WF := (82, D4) :: VU
theorem A1 : WO FV := VE (L := []) (m := []) (v := []) (l := []) C0 func82 Jb
abbrev I4 : Kb := .bx true false Ke Ti Hv [true] (fun x0 x => Lq x0 x.1)
abbrev GK : WF := (90, I4) :: FV
theorem E1 : WO GK := VE (L := []) (m := []) (v := []) (l := []) A1 func90 Jb
abbrev T3 : Kb := .bx true false Ke Ti (.p Sa .u) [true] (fun x0 x => Mq x0 x.1)
abbrev AV : WF := (68, T3) :: GK
def TN : Hb := ⟨48, ⟨[(0, (.ptr 500000 [])), (1, Lb), (4, (.ptr 4 [])), (5, Lb), (6, (.ptr 6 [])), (7, Lb), (8, (.own 200101 Vc true)), (9, Lb)], [(500000, Ke, (.data Ke)), (4, Sa, (.pr Lb (.pr (.own 200102 Nm true) .un))), (6, Sa, (.pr Lb (.pr (.own 200103 Nm true) .un)))]⟩, 2, ⟨[(0, (.ptr 500000 [])), (1, Lb), (4, (.ptr 4 [])), (5, Lb), (6, (.ptr 6 [])), (7, Lb), (8, (.own 200101 Vc true))], [(500000, Ke, (.data Ke)), (4, Sa, (.pr Lb (.pr (.own 200102 Nm true) .un))), (6, Sa, (.pr Lb (.pr (.own 200103 Nm true) .un)))]⟩, ⟨[], []⟩, Cm⟩
def SN : Hb := ⟨48, ⟨[(0, (.ptr 500000 [])), (1, Lb), (4, (.ptr 4 [])), (5, Lb), (6, (.ptr 6 [])), (7, Lb)], [(500000, Ke, (.data Ke)), (4, Sa, UI), (6, Sa, (.pr Lb (.pr (.own 200002 Nm true) .un)))]⟩, 0, ⟨[(0, (.ptr 500000 [])), (4, (.ptr 4 [])), (6, (.ptr 6 []))], [(500000, Ke, (.data Ke)), (4, Sa, UI), (6, Sa, (.pr Lb (.pr (.own 200002 Nm true) .un)))]⟩, ⟨[], []⟩, Bm⟩
def TV : WL := [(8, TN), (4, SN)]
theorem BX : Bc (WG false GK [] [] []) TV (lp f68 1) := Hf 8 (ls := TN) rfl
theorem AX : Bc (WG false GK [] [] []) TV (lp f68 0) := Hf 4 (ls := SN) rfl
theorem Q0 : WO AV := VE E1 func68 (Nb BX (Nb AX Jb))
abbrev U3 : Kb := .bx true true Ke (.p Bj .u) Ti [true] (fun x0 x => Lm x0 x.1)
abbrev OP : WF := (69, U3) :: AV
theorem R0 : WO OP := VE (L := []) (m := []) (v := []) (l := []) Q0 func69 Jb
abbrev E3 : Kb := .bx true false Ke Ti (.p Sa .u) [true] (fun x0 x => Hp x0 x.1)
abbrev TU : WF := (42, E3) :: OP
def KN : Hb := ⟨49, ⟨[(0, (.ptr 500000 [])), (1, Lb), (4, (.ptr 4 [])), (5, (.ptr 5 [])), (6, Lb)], [(500000, Ke, (.data Ke)), (4, Sa, KB), (5, Sa, UI)]⟩, 0, ⟨[(0, (.ptr 500000 [])), (4, (.ptr 4 [])), (5, (.ptr 5 []))], [(500000, Ke, (.data Ke)), (4, Sa, KB), (5, Sa, UI)]⟩, ⟨[], []⟩, Yk⟩
def S1 : WL := [(3, KN)]
theorem SW : Bc (WG false OP [(8998, 200001), (4999, 200001)] [] []) S1 (lp f42 0) := Hf 3 (ls := KN) rfl
theorem A0 : WO TU := VE R0 func42 (Nb SW Jb)
abbrev V2 : Kb := .pu Ke (.p Sa .u) [true] (fun x => Gi x.1 x.2.1 x.2.2.1)
abbrev LU : WF := (19, V2) :: TU
theorem RZ : WO LU := Mh A0 func19
abbrev W2 : Kb := .pu Ke Ti [true] (fun x => Hi x.1 x.2.1 x.2.2.1)
abbrev MU : WF := (20, W2) :: LU
theorem SZ : WO MU := Mh RZ func20
abbrev E4 : Kb := .pu Ti Cj [true] (fun x => Nk x.1)
abbrev GV : WF := (83, E4) :: MU
theorem B1 : WO GV := Mh SZ func83
abbrev G4 : Kb := .pu Ti Cj [true] (fun x => Oi x.1)
abbrev HV : WF := (84, G4) :: GV
theorem C1 : WO HV := Mh B1 func84
abbrev H4 : Kb := .pu Ti Cj [true] (fun x => Ij x.1)
abbrev IV : WF := (85, H4) :: HV
theorem D1 : WO IV := Mh C1 func85
abbrev R3 : Kb := .pu Hv Cj [true] (fun x => Tf x.1)
abbrev DK : WF := (59, R3) :: IV
theorem N0 : WO DK := Mh D1 func59
abbrev C3 : Kb := .pu (.p Sa .u) Cj [true] (fun x => Kk x.1)
abbrev QU : WF := (34, C3) :: DK
def HN : Hb := ⟨73, ⟨[(1, (.ptr 1 [])), (3, Lb), (28, (.data (.sl Nm))), (29, Lb), (30, Lb), (40, (.data Nm)), (41, Lb), (42, Lb)], [(1, Sa, (.data Sa))]⟩, 2, ⟨[(1, (.ptr 1 [])), (28, (.data (.sl Nm))), (29, Lb), (30, Lb)], [(1, Sa, (.data Sa))]⟩, ⟨[(2, Nl)], []⟩, Xg⟩
def GN : Hb := ⟨73, ⟨[(1, (.ptr 1 [])), (28, (.data (.sl Nm))), (29, Lb), (30, Lb)], [(1, Sa, (.data Sa))]⟩, 0, ⟨[], []⟩, ⟨[(2, Nl)], []⟩, Wg⟩
def PV : WL := [(9, HN), (4, GN)]
theorem PW : Bc (WG true DK [] [] []) PV (lp f34 1) := Hf 9 (ls := HN) rfl
theorem OW : Bc (WG true DK [] [] []) PV (lp f34 0) := Hf 4 (ls := GN) rfl
theorem YZ : WO QU := Kn N0 func34 (Nb PW (Nb OW Jb))
abbrev X2 : Kb := .pu (.p Sa Ti) Cj [true] (fun x => Nf x.1 x.2.1)
abbrev NU : WF := (21, X2) :: QU
theorem TZ : WO NU := Mh YZ func21
abbrev J4 : Kb := .pu De Ti [true] (fun x => Ds x.1 x.2.1)
abbrev SP : WF := (91, J4) :: NU
theorem H1 : WO SP := Mh TZ func91
abbrev W3 : Kb := .pu (.p Sa De) Ti [true] (fun x => Jj x.1 x.2.1 x.2.2.1)
abbrev CV : WF := (71, W3) :: SP
def UN : Hb := ⟨33, ⟨[(1, Lb), (2, Lb), (3, (.ptr 3 [])), (7, Lb)], [(3, Sa, (.data Sa))]⟩, 0, ⟨[], []⟩, ⟨[(6, Lb)], []⟩, Ze⟩
def W1 : WL := [(2, UN)]
theorem CX : Bc (WG true SP [] [] []) W1 (lp f71 0) := Hf 2 (ls := UN) rfl
theorem T0 : WO CV := Kn H1 func71 (Nb CX Jb)
abbrev I3 : Kb := .pu (.p Sa De) Ti [true] (fun x => Ci x.1 x.2.1 x.2.2.1)
abbrev WU : WF := (45, I3) :: CV
theorem D0 : WO WU := Mh T0 func45
abbrev S3 : Kb := .pu (.p Bj .u) (.p Bj .u) [true] (fun x => Uf x.1)
abbrev EK : WF := (65, S3) :: WU
theorem P0 : WO EK := Mh D0 func65
abbrev D3 : Kb := .pu (.p Sa Ti) (.p (.mp int Bj) .u) [false] (fun x => Tq x.1 x.2.1)
abbrev SU : WF := (39, D3) :: EK
def JN : Hb := ⟨57, ⟨[(2, (.ptr 2 [])), (5, (.mpo 200101 int Bj)), (6, (.own 200102 int true)), (7, Lb), (26, Lb), (27, Lb)], [(2, Sa, (.data Sa))]⟩, 2, ⟨[(2, (.ptr 2 [])), (5, (.mpo 200101 int Bj)), (6, (.own 200102 int true))], [(2, Sa, (.data Sa))]⟩, ⟨[], []⟩, Ck⟩
def IN : Hb := ⟨57, ⟨[(2, (.ptr 2 [])), (5, (.mpo 200001 int Bj)), (6, (.own 200002 int true))], [(2, Sa, (.data Sa))]⟩, 0, ⟨[(5, (.mpo 200001 int Bj))], []⟩, ⟨[], []⟩, Jh⟩
def QV : WL := [(7, JN), (3, IN)]
theorem RW : Bc (WG true EK [(12010, 1000000050), (15999, 1000200001)] [24] []) QV (lp f39 1) := Hf 7 (ls := JN) rfl
theorem QW : Bc (WG true EK [(12010, 1000000050), (15999, 1000200001)] [24] []) QV (lp f39 0) := Hf 3 (ls := IN) rfl
theorem ZZ : WO SU := Kn P0 func39 (Nb RW (Nb QW Jb))
abbrev S2 : Kb := .pu (.p Sa De) (.p Bj Cj) [false, true] (fun x => Vo x.1 x.2.1 x.2.2.1)
abbrev GP : WF := (10, S2) :: SU
theorem OZ : WO GP := Mh ZZ func10
abbrev T2 : Kb := .pu (.p Sa Ti) (.p Bj .u) [true] (fun x => Vi x.1 x.2.1)
abbrev HP : WF := (17, T2) :: GP
def DN : Hb := ⟨33, ⟨[(5, (.data (.mp int Bj))), (6, Gv), (17, Lb)], []⟩, 0, ⟨[(6, Gv)], []⟩, ⟨[], []⟩, Hh⟩
def P1 : WL := [(6, DN)]
theorem LW : Bc (WG true GP [] [] []) P1 (lp f17 0) := Hf 6 (ls := DN) rfl
theorem PZ : WO HP := Kn OZ func17 (Nb LW Jb)
abbrev Y2 : Kb := .pu (.p Bj Ti) Cj [true] (fun x => Yp x.1 x.2.1)
abbrev OU : WF := (22, Y2) :: HP
def EN : Hb := ⟨18, ⟨[(0, Gw), (1, Lb), (5, Lb)], []⟩, 0, ⟨[], []⟩, ⟨[(4, Nl)], []⟩, Zo⟩
def Q1 : WL := [(2, EN)]
theorem MW : Bc (WG true HP [] [] []) Q1 (lp f22 0) := Hf 2 (ls := EN) rfl
theorem UZ : WO OU := Kn PZ func22 (Nb MW Jb)
abbrev Z2 : Kb := .pu (.p Sa De) Ti [true] (fun x => Xh x.1 x.2.1 x.2.2.1)
abbrev JP : WF := (23, Z2) :: OU
theorem VZ : WO JP := Mh UZ func23
abbrev J3 : Kb := .pu (.p Sa .u) (.p Sa .u) [true] (fun x => Ai x.1)
abbrev KP : WF := (46, J3) :: JP
def LN : Hb := ⟨25, ⟨[(2, (.ptr 2 [])), (3, (.ptr 3 [])), (10, (.data (.sl Nm))), (11, Lb), (12, Lb)], [(2, Sa, KB), (3, Sa, UI)]⟩, 0, ⟨[(2, (.ptr 2 [])), (3, (.ptr 3 []))], [(2, Sa, KB), (3, Sa, UI)]⟩, ⟨[], []⟩, Mi⟩
def T1 : WL := [(3, LN)]
theorem TW : Bc (WG true JP [] [] []) T1 (lp f46 0) := Hf 3 (ls := LN) rfl
theorem E0 : WO KP := Kn VZ func46 (Nb TW Jb)
abbrev K3 : Kb := .pu (.p (.sl (.sl Od)) .u) (.p (.sl (.sl Od)) .u) [true] (fun x => Bi x.1)
abbrev LP : WF := (47, K3) :: KP
def MN : Hb := ⟨19, ⟨[(3, (.own 200001 (.sl Od) true)), (6, (.data (.sl (.sl Od)))), (7, Lb), (8, Lb)], []⟩, 0, ⟨[(3, (.own 200001 (.sl Od) true))], []⟩, ⟨[], []⟩, Ni⟩
def U1 : WL := [(3, MN)]
theorem UW : Bc (WG true KP [] [] []) U1 (lp f47 0) := Hf 3 (ls := MN) rfl
theorem G0 : WO LP := Kn E0 func47 (Nb UW Jb)
abbrev X3 : Kb := .pu (.p (.sl Rh) .u) Cj [true] (fun x => Ig x.1)
abbrev PP : WF := (72, X3) :: LP
def VN : Hb := ⟨46, ⟨[(3, Lb), (6, (.data (.sl Rh))), (7, Lb), (8, Lb)], []⟩, 0, ⟨[], []⟩, ⟨[(2, Nl)], []⟩, Ql⟩
def X1 : WL := [(3, VN)]
theorem DX : Bc (WG true LP [] [] []) X1 (lp f72 0) := Hf 3 (ls := VN) rfl
theorem U0 : WO PP := Kn G0 func72 (Nb DX Jb)
abbrev K4 : Kb := .pu (.p (.sl De) (.p De .u)) Ti [true] (fun x => An x.1 x.2.1)
abbrev TP : WF := (92, K4) :: PP
def ZN : Hb := ⟨19, ⟨[(3, (.ptr 3 [])), (7, (.data (.sl De))), (8, Lb), (9, Lb)], [(3, De, (.data De))]⟩, 0, ⟨[], []⟩, ⟨[(4, Lb)], []⟩, Wl⟩
def B2 : WL := [(2, ZN)]
theorem HX : Bc (WG true PP [] [] []) B2 (lp f92 0) := Hf 2 (ls := ZN) rfl
theorem I1 : WO TP := Kn U0 func92 (Nb HX Jb)
abbrev Y3 : Kb := .pu (.p (.sl Od) .u) Cj [true] (fun x => Rl x.1)
abbrev FK : WF := (73, Y3) :: TP
def WN : Hb := ⟨62, ⟨[(3, (.own 200001 De true)), (11, (.data (.sl Od))), (12, Lb), (13, Lb)], []⟩, 0, ⟨[(3, (.own 200001 De true))], []⟩, ⟨[(2, Nl)], []⟩, Vk⟩
def Y1 : WL := [(5, WN)]
theorem EX : Bc (WG true TP [] [] []) Y1 (lp f73 0) := Hf 5 (ls := WN) rfl
theorem V0 : WO FK := Kn I1 func73 (Nb EX Jb)
abbrev L3 : Kb := .pu (.p Zb .u) Cj [true] (fun x => Rg x.1)
abbrev XU : WF := (48, L3) :: FK
def NN : Hb := ⟨92, ⟨[(1, (.ptr 1 [])), (35, (.data (.sl (.sl Od)))), (36, Lb), (37, Lb)], [(1, Zb, (.data Zb))]⟩, 0, ⟨[(1, (.ptr 1 []))], [(1, Zb, (.data Zb))]⟩, ⟨[(2, Nl)], []⟩, Vg⟩
def EJ : Hb := ⟨92, ⟨[(1, (.ptr 1 [])), (5, Lb), (50, (.data (.sl Rh))), (51, Lb), (52, Lb)], [(1, Zb, (.data Zb))]⟩, 2, ⟨[(1, (.ptr 1 [])), (5, Lb)], [(1, Zb, (.data Zb))]⟩, ⟨[(2, Nl)], []⟩, Og⟩
def RV : WL := [(4, NN), (11, EJ)]
theorem VW : Bc (WG true FK [] [] []) RV (lp f48 0) := Hf 4 (ls := NN) rfl
theorem NT : Bc (WG true FK [] [] []) RV (lp f48 1) := Hf 11 (ls := EJ) rfl
theorem H0 : WO XU := Kn V0 func48 (Nb NT (Nb VW Jb))
abbrev A3 : Kb := .pu (.p Sa (.p (.sl (.sl Od)) .u)) (.p Zb Cj) [true, true] (fun x => Gm x.1 x.2.1)
abbrev PU : WF := (24, A3) :: XU
theorem WZ : WO PU := Mh H0 func24
abbrev N3 : Kb := .pu (.p Zb .u) (.p Zb .u) [true] (fun x => Pg x.1)
abbrev MP : WF := (49, N3) :: PU
theorem J0 : WO MP := Mh WZ func49
abbrev Z3 : Kb := .pu (.p Zb Ti) Ti [true] (fun x => Zm x.1 x.2.1)
abbrev QP : WF := (74, Z3) :: MP
def XN : Hb := ⟨21, ⟨[(1, Lb), (8, (.data (.sl Rh))), (9, Lb), (10, Lb)], []⟩, 0, ⟨[], []⟩, ⟨[(4, Lb)], []⟩, Pl⟩
def Z1 : WL := [(2, XN)]
theorem FX : Bc (WG true MP [] [] []) Z1 (lp f74 0) := Hf 2 (ls := XN) rfl
theorem W0 : WO QP := Kn J0 func74 (Nb FX Jb)
abbrev L4 : Kb := .pu (.p int (.p (.sl Rh) .u)) Ti [true] (fun x => Lk x.1 x.2.1)
abbrev JV : WF := (93, L4) :: QP
def AO : Hb := ⟨39, ⟨[(5, Lb), (21, (.data (.sl Rh))), (22, Lb), (23, Lb)], []⟩, 0, ⟨[(5, Lb)], []⟩, ⟨[], []⟩, Of⟩
def C2 : WL := [(7, AO)]
theorem IX : Bc (WG true QP [] [] []) C2 (lp f93 0) := Hf 7 (ls := AO) rfl
theorem J1 : WO JV := Kn W0 func93 (Nb IX Jb)
abbrev YY : Kb := .pu Hv Cj [true] (fun x => Hj x.1)
abbrev UR : WF := (101, YY) :: JV
theorem HY : WO UR := Mh J1 func101
abbrev M4 : Kb := .pu Hv Hv [true] (fun x => Xy x.1)
abbrev KV : WF := (94, M4) :: UR
theorem K1 : WO KV := Mh HY func94
abbrev N4 : Kb := .pu Hv Hv [true] (fun x => Pr x.1)
abbrev LV : WF := (95, N4) :: KV
theorem L1 : WO LV := Mh K1 func95
abbrev ZY : Kb := .pu Ti Cj [true] (fun x => Fl x.1)
abbrev VR : WF := (102, ZY) :: LV
theorem IY : WO VR := Mh L1 func102
abbrev O4 : Kb := .bx false false Zb Hv Hv [true] (fun x0 x => Ok x0 x.1)
abbrev MV : WF := (96, O4) :: VR
theorem M1 : WO MV := VE (L := []) (m := []) (v := []) (l := []) IY func96 Jb
abbrev CZ : Kb := .io Bj .u .u [] (fun x0 _ => sort_Ints x0)
abbrev BK : WF := (105, CZ) :: MV
end
end KF
namespace Go.Proofs
open Go.Shelf
def Try.lays_sort_Ints_ren : Go.Shelf.Ren := ⟨fun | 191 => 105 | 189 => 107 | 125 => 109 | 257 => 108 | 128 => 119 | 129 => 120 | 294 => 110 | 295 => 111 | 296 => 112 | 297 => 113 | 298 => 114 | 299 => 115 | 216 => 116 | 300 => 117 | 301 => 118 | 328 => 121 | 329 => 122 | 330 => 123 | 331 => 124 | 332 => 125 | 215 => 126 | 343 => 127 | n => n, fun | 28 => 26 | 0 => 0 | 3 => 3 | 46 => 131 | 51 => 159 | 53 => 161 | 4 => 4 | 183 => 151 | 182 => 150 | 131 => 156 | 5 => 5 | 9 => 9 | 218 => 162 | 222 => 166 | 228 => 168 | 229 => 169 | n => n, fun | n => n⟩
theorem Try.lays_sort_Ints : Go.Proofs.Lays.n191 Try.prog Try.lays_sort_Ints_ren := {
 mixed := by kernel_rfl
 f125 := Try.func109.trans (congrArg some (by kernel_rfl))
 f128 := Try.func119.trans (congrArg some (by kernel_rfl))
 f129 := Try.func120.trans (congrArg some (by kernel_rfl))
 f189 := Try.func107.trans (congrArg some (by kernel_rfl))
 f191 := Try.func105.trans (congrArg some (by kernel_rfl))
 f215 := Try.func126.trans (congrArg some (by kernel_rfl))
 f216 := Try.func116.trans (congrArg some (by kernel_rfl))
 f257 := Try.func108.trans (congrArg some (by kernel_rfl))
 f294 := Try.func110.trans (congrArg some (by kernel_rfl))
 f295 := Try.func111.trans (congrArg some (by kernel_rfl))
 f296 := Try.func112.trans (congrArg some (by kernel_rfl))
 f297 := Try.func113.trans (congrArg some (by kernel_rfl))
 f298 := Try.func114.trans (congrArg some (by kernel_rfl))
 f299 := Try.func115.trans (congrArg some (by kernel_rfl))
 f300 := Try.func117.trans (congrArg some (by kernel_rfl))
 f301 := Try.func118.trans (congrArg some (by kernel_rfl))
 f328 := Try.func121.trans (congrArg some (by kernel_rfl))
 f329 := Try.func122.trans (congrArg some (by kernel_rfl))
 f330 := Try.func123.trans (congrArg some (by kernel_rfl))
 f331 := Try.func124.trans (congrArg some (by kernel_rfl))
 f332 := Try.func125.trans (congrArg some (by kernel_rfl))
 f343 := Try.func127.trans (congrArg some (by kernel_rfl))
 t0 := Try.underlying0
 a0 := Try.isAgg0
 z0 := Try.sizeOf0
 v0 := Try.zeroValue0
 t3 := Try.underlying3
 a3 := Try.isAgg3
 z3 := Try.sizeOf3
 v3 := Try.zeroValue3
 t4 := Try.underlying4
 a4 := Try.isAgg4
 z4 := Try.sizeOf4
 v4 := Try.zeroValue4
 t5 := Try.underlying5
 a5 := Try.isAgg5
 z5 := Try.sizeOf5
 v5 := Try.zeroValue5
 t9 := Try.underlying9
 a9 := Try.isAgg9
 z9 := Try.sizeOf9
 v9 := Try.zeroValue9
 t28 := Try.underlying26
 a28 := Try.isAgg26
 z28 := Try.sizeOf26
 v28 := Try.zeroValue26
 t46 := Try.underlying131
 a46 := Try.isAgg131
 z46 := Try.sizeOf131
 v46 := Try.zeroValue131
 t51 := Try.underlying159
 a51 := Try.isAgg159
 z51 := Try.sizeOf159
 v51 := Try.zeroValue159
 t53 := Try.underlying161
 a53 := Try.isAgg161
 z53 := Try.sizeOf161
 v53 := Try.zeroValue161
 t131 := Try.underlying156
 a131 := Try.isAgg156
 z131 := Try.sizeOf156
 v131 := Try.zeroValue156
 t182 := Try.underlying150
 a182 := Try.isAgg150
 z182 := Try.sizeOf150
 v182 := Try.zeroValue150
 t183 := Try.underlying151
 a183 := Try.isAgg151
 z183 := Try.sizeOf151
 v183 := Try.zeroValue151
 t218 := Try.underlying162
 a218 := Try.isAgg162
 z218 := Try.sizeOf162
 v218 := Try.zeroValue162
 t222 := Try.underlying166
 a222 := Try.isAgg166
 z222 := Try.sizeOf166
 v222 := Try.zeroValue166
 t228 := Try.underlying168
 a228 := Try.isAgg168
 z228 := Try.sizeOf168
 v228 := Try.zeroValue168
 t229 := Try.underlying169
 a229 := Try.isAgg169
 z229 := Try.sizeOf169
 v229 := Try.zeroValue169 }
end Go.Proofs
namespace KF
open Go Go.Proofs Go.Proofs.Try
noncomputable section
theorem LY : WO BK := wc M1 (AM Try.lays_sort_Ints (by kernel_rfl))
abbrev DZ : Kb := .pu (.p Bj Ti) Cj [true] (fun x => Iq x.1 x.2.1)
abbrev CK : WF := (106, DZ) :: BK
def DJ : Hb := ⟨17, ⟨[(1, Lb), (7, Gw), (8, Lb), (9, Lb)], []⟩, 0, ⟨[], []⟩, ⟨[(4, Nl)], []⟩, Vl⟩
def QY : WL := [(2, DJ)]
theorem MT : Bc (WG true BK [] [] []) QY (lp f106 0) := Hf 2 (ls := DJ) rfl
theorem MY : WO CK := Kn LY func106 (Nb MT Jb)
abbrev Q4 : Kb := .pu (.p Bj .u) (.p Bj .u) [true] (fun x => Tl x.1)
abbrev VP : WF := (99, Q4) :: CK
def CO : Hb := ⟨31, ⟨[(4, Gv), (11, (.own 200002 int true)), (12, Lb), (13, Lb)], []⟩, 0, ⟨[(4, Gv)], []⟩, ⟨[], []⟩, Xk⟩
def E2 : WL := [(5, CO)]
theorem KX : Bc (WG true CK [] [] []) E2 (lp f99 0) := Hf 5 (ls := CO) rfl
theorem O1 : WO VP := Kn MY func99 (Nb KX Jb)
abbrev C4 : Kb := .pu (.p (.sl Rh) .u) (.p Md .u) [true] (fun x => Ib x.1)
abbrev RP : WF := (77, C4) :: VP
def YN : Hb := ⟨45, ⟨[(2, (.ptr 2 [])), (3, (.ptr 3 [])), (4, Gv), (11, (.data (.sl Rh))), (12, Lb), (13, Lb)], [(2, Md, Tw), (3, Md, Tw)]⟩, 0, ⟨[(2, (.ptr 2 [])), (3, (.ptr 3 [])), (4, Gv)], [(2, Md, Tw), (3, Md, Tw)]⟩, ⟨[], []⟩, Xj⟩
def A2 : WL := [(6, YN)]
theorem GX : Bc (WG true VP [] [] []) A2 (lp f77 0) := Hf 6 (ls := YN) rfl
theorem Z0 : WO RP := Kn O1 func77 (Nb GX Jb)
abbrev AZ : Kb := .pu (.p Md (.p (.sl De) .u)) (.p Md .u) [true] (fun x => Ch x.1 x.2.1)
abbrev AK : WF := (103, AZ) :: RP
def BJ : Hb := ⟨37, ⟨[(4, (.ptr 4 [])), (5, (.ptr 5 [])), (6, Gv), (15, (.data (.sl De))), (16, Lb), (17, Lb)], [(4, Md, Tw), (5, Md, Tw)]⟩, 0, ⟨[(4, (.ptr 4 [])), (5, (.ptr 5 [])), (6, Gv)], [(4, Md, Tw), (5, Md, Tw)]⟩, ⟨[], []⟩, Io⟩
def OY : WL := [(4, BJ)]
theorem KT : Bc (WG true RP [] [] []) OY (lp f103 0) := Hf 4 (ls := BJ) rfl
theorem JY : WO AK := Kn Z0 func103 (Nb KT Jb)
abbrev P4 : Kb := .pu (.p (.sl Rh) (.p (.sl Od) .u)) (.p (.sl Md) .u) [true] (fun x => Qm x.1 x.2.1)
abbrev UP : WF := (97, P4) :: AK
def BO : Hb := ⟨74, ⟨[(5, (.ptr 5 [])), (6, LG), (7, (.own 200002 De true)), (22, (.data (.sl Od))), (23, Lb), (24, Lb)], [(5, Md, (.pr Lb (.pr (.own 200003 int true) .un)))]⟩, 0, ⟨[(6, LG)], []⟩, ⟨[], []⟩, Sl⟩
def D2 : WL := [(7, BO)]
theorem JX : Bc (WG true AK [] [] []) D2 (lp f97 0) := Hf 7 (ls := BO) rfl
theorem N1 : WO UP := Kn JY func97 (Nb JX Jb)
abbrev BZ : Kb := .pu (.p Bj (.p Bj .u)) Cj [true] (fun x => On x.1 x.2.1)
abbrev WR : WF := (104, BZ) :: UP
def CJ : Hb := ⟨26, ⟨[(0, Gw), (1, Gw), (12, Lb), (13, Lb)], []⟩, 0, ⟨[], []⟩, ⟨[(4, Nl)], []⟩, Bk⟩
def PY : WL := [(4, CJ)]
theorem LT : Bc (WG true UP [] [] []) PY (lp f104 0) := Hf 4 (ls := CJ) rfl
theorem KY : WO WR := Kn N1 func104 (Nb LT Jb)
abbrev AY : Kb := .pu (.p Md (.p Md .u)) Cj [true] (fun x => Zh x.1 x.2.1)
abbrev NV : WF := (98, AY) :: WR
theorem KU : WO NV := Mh KY func98
abbrev B4 : Kb := .co (.p Md (.p (.sl Md) .u)) (.p (.sl Md) .u) [true] (fun x => Vb x.1 x.2.1)
abbrev EV : WF := (76, B4) :: NV
def HZ : List (Nat × Ty) := [(3, int), (53, (.sl Xt)), (120, Xt)]
theorem OV : ((HZ.all fun x => Hc Try.prog x.2 x.1) && (([] : List (Nat × Ty × Nat)).all fun x => Lz Try.prog x.1 x.2.1 x.2.2)) = true := by kernel_rfl
@[reducible] def DQ (c : T Qc → T Qc → Option Bool) : Kb := .pu (.p Xt (.p (.sl Xt) .u)) (.p (.sl Xt) .u) [true] (fun x => WK c x.1 x.2.1)
def OM (c : T Qc → T Qc → Option Bool) : Fd := ⟨HZ, [(98, ND c)], [], true, [], [], []⟩
theorem CQ (I : Sf) (c : T Qc → T Qc → Option Bool) (h : Zf Try.prog I 98 (ND c)) : Eg Try.prog I (OM c) := Eg.cons h (BE OV)
def XD (c : T Qc → T Qc → Option Bool) : Hb := ⟨25, ⟨[(2, (.ptr 2 [])), (5, (.own 200001 Xt true)), (8, (.data (.sl Xt))), (9, Lb), (10, Lb)], [(2, Xt, (.data Xt))]⟩, 0, ⟨[(5, (.own 200001 Xt true))], []⟩, ⟨[], []⟩, Mk c⟩
def QM (c : T Qc → T Qc → Option Bool) : List (Nat × Hb) := [(3, XD c)]
theorem XK (c : T Qc → T Qc → Option Bool) : Bc (OM c) (QM c) (lp Try.f76 0) := IE (r := 3) (ls := XD c) (R := fun x => Qp c x.1.1 x.1.2.1 x.1.2.2.1 x.1.2.2.2.1 x.1.2.2.2.2.1 x.2.1) (by kernel_rfl) (by kernel_rfl) rfl (fun x => by kernel_rfl)
theorem EQ (I : Sf) (c : T Qc → T Qc → Option Bool) (h : Zf Try.prog I 98 (ND c)) : Zf Try.prog I 76 (DQ c) := Sx (L := QM c) (k := 1) (CQ I c h) BI Try.func76 (by kernel_rfl) (Nb (XK c) Jb) (fun x => by kernel_rfl)
theorem Y0 : WO EV := wc KU (TO (f2 := 98) (SR := fun x => Zh x.1 x.2.1) (same := Fp) JR (GY (s := AY) KU (by kernel_rfl)) (fun I c h => ⟨_, EQ I c h, US c⟩))
abbrev A4 : Kb := .pu (.p Zb (.p int Cj)) (.p Zb (.p (.sl Md) .u)) [true, true] (fun x => Qr x.1 x.2.1 x.2.2.1)
abbrev DV : WF := (75, A4) :: EV
theorem X0 : WO DV := Mh Y0 func75
abbrev O3 : Kb := .pu (.p Zb (.p int Cj)) (.p Zb (.p (.sl Md) Cj)) [true, true, true] (fun x => To x.1 x.2.1 x.2.2.1)
abbrev YU : WF := (50, O3) :: DV
theorem K0 : WO YU := Mh X0 func50
abbrev P3 : Kb := .pu (.p Zb Ti) (.p Zb (.p (.sl Md) .u)) [true, true] (fun x => Wo x.1 x.2.1)
abbrev NP : WF := (51, P3) :: YU
theorem L0 : WO NP := Mh K0 func51
abbrev B3 : Kb := .pu (.p Zb (.p Bj .u)) (.p Zb (.p (.sl Md) Cj)) [true, true, true] (fun x => Uo x.1 x.2.1)
abbrev BG : WF := (25, B3) :: NP
def FN : Hb := ⟨52, ⟨[(4, (.ptr 4 [])), (7, (.ptr 7 [])), (8, LG), (20, Gw), (21, Lb), (22, Lb)], [(4, Zb, BW), (7, Zb, IZ)]⟩, 0, ⟨[(4, (.ptr 4 [])), (7, (.ptr 7 [])), (8, LG)], [(4, Zb, BW), (7, Zb, IZ)]⟩, ⟨[(4, (.ptr 4 [])), (5, LG), (6, Nl)], [(4, Zb, BW)]⟩, Wk⟩
def R1 : WL := [(6, FN)]
theorem NW : Bc (WG true NP [] [] []) R1 (lp f25 0) := Hf 6 (ls := FN) rfl
theorem XZ : WO BG := Kn L0 func25 (Nb NW Jb)
abbrev MZ : Kb := .pu (.p (.sl Wt) .u) Cj [true] (fun x => Bn x.1)
abbrev Z4 : WF := (5, MZ) :: BG
def QN : Hb := ⟨175, ⟨[(3, (.ptr 3 [])), (4, Lb), (5, Lb), (6, Gw), (7, Nl), (8, (.own 200101 int true)), (9, Lb), (10, Gw), (11, Nl), (12, Lb)], [(3, Sa, KB)]⟩, 2, ⟨[(3, (.ptr 3 [])), (4, Lb), (5, Lb), (6, Gw), (7, Nl), (8, (.own 200101 int true)), (9, Lb)], [(3, Sa, KB)]⟩, ⟨[(2, Nl)], []⟩, Qh⟩
def PN : Hb := ⟨175, ⟨[(3, (.ptr 3 [])), (4, Lb), (5, Lb), (6, Gw), (7, Nl), (8, Gv), (9, Lb)], [(3, Sa, KB)]⟩, 0, ⟨[(3, (.ptr 3 [])), (4, Lb), (5, Lb), (6, Gw), (7, Nl)], [(3, Sa, KB)]⟩, ⟨[(2, Nl)], []⟩, Ph⟩
def RN : Hb := ⟨175, ⟨[(3, (.ptr 3 [])), (5, Lb), (6, Gw), (7, Nl), (15, Nl), (16, (.ptr 16 [])), (18, Nl), (19, Lb), (20, Lb)], [(3, Sa, KB), (16, Zb, JZ)]⟩, 4, ⟨[(5, Lb), (7, Nl), (15, Nl), (16, (.ptr 16 [])), (18, Nl), (19, Lb)], [(16, Zb, JZ)]⟩, ⟨[], []⟩, Af⟩
def SV : WL := [(15, QN), (11, PN), (25, RN)]
theorem YW : Bc (WG true BG [(6000, 1000101536)] [] []) SV (lp f5 1) := Hf 15 (ls := QN) rfl
theorem XW : Bc (WG true BG [(6000, 1000101536)] [] []) SV (lp f5 0) := Hf 11 (ls := PN) rfl
theorem ZW : Bc (WG true BG [(6000, 1000101536)] [] []) SV (lp f5 2) := Hf 25 (ls := RN) rfl
theorem Y4 : WO Z4 := Kn XZ func5 (Nb ZW (Nb YW (Nb XW Jb)))
theorem GC : Zf Try.prog II 5 MZ := GY Y4 (by kernel_rfl)
end
end KF
