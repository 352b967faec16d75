/- An evaluator of Go functions on plain data, its soundness, and plain laws on what the functions compute, part 5 (conditions: as each lemma tells). -/
import Derived.Test.YtkddlfhcedaggaaD
import Derived.Test.YtkddlfhcedaggaaRows
set_option linter.unusedSimpArgs false
set_option linter.unusedVariables false
namespace KF
open Go Go.Proofs Go.Proofs.Try
def GT : List (Nat × Ty) := [(3, int), (4, .b), (5, Ut), (22, (.sl Ut)), (24, (.sl (.sl Xc))), (26, Kb), (30, (.sl (.sl Hc))), (31, (.sl Yo)), (33, Tb), (38, (.sl Md)), (46, Hc), (48, (.sl Fl)), (50, Me), (54, Xc), (56, (.sl Eh)), (60, Fl), (63, (.sl int)), (65, Md), (67, Eh), (76, (.sl Xc)), (87, Yo), (104, Re), (105, (.sl Hc)), (124, (.sl Ke)), (126, Hc), (128, Ke)]
def GA : List (Nat × Ty × Nat) := []
theorem R2 : ((GT.all fun x => Yc Try.prog x.2 x.1) && (GA.all fun x => CC Try.prog x.1 x.2.1 x.2.2)) = true := by kernel_rfl
theorem HG : Try.prog.follows .mixedOrders = true := by kernel_rfl
noncomputable abbrev II : Of := TJ
noncomputable section
abbrev WP : Program := Try.prog
abbrev WF := List (Nat × Bb)
abbrev WL := List (Nat × Eb)
abbrev WG (z : Bool) (fs : WF) (m : List (Nat × Nat)) (v l : List Nat) : Od := ⟨GT, fs, m, z, GA, v, l⟩
def WO (fs : WF) : Prop := ∀ z m v l, Wg WP II (WG z fs m v l)
theorem Eaa : WO [] := fun _ _ _ _ => RG R2
theorem wc {f : Nat} {s : Bb} {fs : WF} (e : WO fs) (h : Cg WP II f s) : WO ((f, s) :: fs) := fun z m v l => Wg.cons h (e z m v l)
theorem P2 {f : Nat} {s : Bb} {fs : WF} (e : WO fs) (h : Va fs f = some s) : Cg WP II f s := (e true [] [] []).fn f s h
theorem Ze {z : Bool} {fs : WF} {m : List (Nat × Nat)} {v l : List Nat} {L : WL} {fn : Func} {i : Nat} (r : Nat) {ls : Eb} {R : ls.inT.X → Option (ls.inT.X ⊕ (ls.outT.X ⊕ ls.retT.X))}
 (h3 : ls.F = Cc R) (h1 : Bh (lp fn i) = some r := by kernel_rfl) (h2 : (Va L r) = some ls := by kernel_rfl) (h4 : ∀ x, Fw (WG z fs m v l) L ls (lp fn i) x = R x := by intro _; kernel_rfl) : Rb (WG z fs m v l) L (lp fn i) := AH h1 h2 h3 h4
theorem Eg {f : Nat} {fn : Func} {pt rt : Ty} {fr : List Bool} {F : T pt → Option (T rt)} {fs : WF} (e : WO fs) (hf : WP.funcs[f]? = some fn)
 (hb : (fn.body.isSome && !(fn.name == "runtime.NumGoroutine") && Nat.ble pt.npar fn.ntmps && Nat.beq (Wc (fn.body.getD .skip)).length 0) = true := by kernel_rfl)
 (hF : ∀ x, QP (WG true fs [] [] []) [] fn pt rt fr x = F x := by intro _; kernel_rfl) : WO ((f, .pu pt rt fr F) :: fs) := wc e (HA (e _ _ _ _) HG hf hb Za hF)
theorem Zj {k : Nat} {L : WL} {m : List (Nat × Nat)} {v l : List Nat} {f : Nat} {fn : Func} {pt rt : Ty} {fr : List Bool} {F : T pt → Option (T rt)} {fs : WF} (e : WO fs) (hf : WP.funcs[f]? = some fn) (hL : ∀ i, i < k → Rb (WG true fs m v l) L (lp fn i))
 (hb : (fn.body.isSome && !(fn.name == "runtime.NumGoroutine") && Nat.ble pt.npar fn.ntmps && Nat.beq (Wc (fn.body.getD .skip)).length k) = true := by kernel_rfl)
 (hF : ∀ x, QP (WG true fs m v l) L fn pt rt fr x = F x := by intro _; kernel_rfl) : WO ((f, .pu pt rt fr F) :: fs) := wc e (HA (e _ _ _ _) HG hf hb hL hF)
theorem wco {k : Nat} {L : WL} {m : List (Nat × Nat)} {v l : List Nat} {f : Nat} {fn : Func} {pt rt : Ty} {fr : List Bool} {F : T pt → Option (T rt)} {fs : WF} (e : WO fs) (hf : WP.funcs[f]? = some fn) (hL : ∀ i, i < k → Rb (WG false fs m v l) L (lp fn i))
 (hb : (fn.body.isSome && !(fn.name == "runtime.NumGoroutine") && Nat.ble pt.npar fn.ntmps && Nat.beq (Wc (fn.body.getD .skip)).length k) = true := by kernel_rfl)
 (hF : ∀ x, FI (WG false fs m v l) L fn pt rt fr x = F x := by intro _; kernel_rfl) : WO ((f, .co pt rt fr F) :: fs) := wc e (WR (e _ _ _ _) rfl HG hf hb hL hF)
theorem WB {k : Nat} {L : WL} {m : List (Nat × Nat)} {v l : List Nat} {f : Nat} {fn : Func} {vw cv : Bool} {τ pt rt : Ty} {fr : List Bool} {F : T τ → T pt → Option (T τ × T rt)} {fs : WF} (e : WO fs) (hf : WP.funcs[f]? = some fn) (hL : ∀ i, i < k → Rb (WG false fs m v l) L (lp fn i))
 (hb : (fn.body.isSome && !(fn.name == "runtime.NumGoroutine") && Nat.ble (pt.npar + 1) fn.ntmps && Nat.beq (Wc (fn.body.getD .skip)).length k) = true := by kernel_rfl)
 (hF : ∀ x0 x, EI (WG false fs m v l) L fn vw cv τ pt rt fr x0 x = F x0 x := by intro _ _; kernel_rfl) : WO ((f, .bx vw cv τ pt rt fr F) :: fs) := wc e (UR (e _ _ _ _) rfl HG hf hb hL hF)
theorem J3 {k : Nat} {L : WL} {m : List (Nat × Nat)} {v l : List Nat} {f : Nat} {fn : Func} {pt τ : Ty} {F : T pt → Option (T τ)} {fs : WF} (e : WO fs) (hf : WP.funcs[f]? = some fn) (hL : ∀ i, i < k → Rb (WG true fs m v l) L (lp fn i))
 (hb : (fn.body.isSome && !(fn.name == "runtime.NumGoroutine") && Nat.ble pt.npar fn.ntmps && Nat.beq (Wc (fn.body.getD .skip)).length k) = true := by kernel_rfl)
 (hF : ∀ x, GI (WG true fs m v l) L fn pt τ x = F x := by intro _; kernel_rfl) : WO ((f, .nw pt τ F) :: fs) := wc e (XR (e _ _ _ _) HG hf hb hL hF)
abbrev Ib : TD := .data int
abbrev Fg : Ty := .p .b .u
abbrev Bt : Ty := .sl Xc
abbrev IP : TD := .pr (.pr Ib (.pr (.own 200002 Bt true) .un)) (.pr (.own 200003 (.sl Hc) true) (.pr Ib (.pr (.own 200004 Yo true) (.data (.p int Fg)))))
abbrev E3 : TD := .pr (.pr (.pr Ib (.pr (.own 200006 Bt true) .un)) (.pr (.own 200007 (.sl Hc) true) (.pr Ib (.pr (.own 200008 Yo true) (.data (.p int Fg)))))) (.pr (.data Hc) (.pr (.own 200009 Fl true) (.data Xc)))
abbrev Yj : Ty := .p int .u
abbrev FL : TD := .pr Ib (.pr (.own 200001 Bt true) .un)
abbrev JB : Ty := .p int (.p .o .u)
abbrev WZ : TD := .pr (.pr Ib (.pr (.own 200005 Bt true) .un)) (.pr (.own 200006 (.sl Hc) true) (.pr Ib (.pr (.own 200007 Yo true) (.data (.p int Fg)))))
abbrev XZ : TD := .pr (.pr Ib (.pr (.own 200003 Bt true) .un)) (.pr (.own 200004 (.sl Hc) true) (.pr Ib (.pr (.own 200005 Yo true) (.data (.p int Fg)))))
abbrev DC : TD := .own 200001 Md true
abbrev Ok : TD := .data .b
abbrev Tq : Ty := .sl Md
abbrev Ap : Ty := .sl Yo
abbrev Mw : Ty := .p Xc .u
abbrev Nw : TD := .data Kb
abbrev Ol : Ty := .sl int
abbrev LG : TD := .pr Ib (.pr (.data Ol) .un)
abbrev SI : TD := .pr Ib (.pr (.data (.sl Bt)) .un)
abbrev Nr : TD := .ptr 4 []
abbrev PF : TD := .own 200001 int true
abbrev Vt : Ty := .sl Fl
abbrev G3 : TD := .pr (.pr SI (.pr (.data (.sl (.sl Hc))) (.pr Ib (.pr (.data Ap) (.data (.p int Fg)))))) (.pr (.data Hc) (.pr (.data Vt) (.data Xc)))
abbrev s_6 : Bb := .pu (.p (.sl Ut) .u) Fg [true] (fun x => Zr x.1)
abbrev YY : WF := (6, s_6) :: ([] : WF)
theorem E_6 : WO YY := Eg Eaa func6
abbrev B9 : Bb := .nw (.p (.sl Ut) .u) Re (fun x => Ku x.1)
abbrev UY : WF := (55, B9) :: YY
def WQ : Eb := ⟨32, ⟨[(0, (.data (.sl Ut))), (3, Ib), (4, Ib)], []⟩, 0, ⟨[(0, (.data (.sl Ut))), (3, Ib)], []⟩, ⟨[], []⟩, Fp⟩
def T6 : WL := [(3, WQ)]
theorem E1 : Rb (WG true YY [] [] []) T6 (lp f55 0) := Ze 3 (ls := WQ) rfl
theorem C5 : WO UY := J3 E_6 func55 (Jb E1 Za)
abbrev B8 : Bb := .nw (.p (.sl Ut) Yj) Re (fun x => Vm x.1 x.2.1)
abbrev FY : WF := (29, B8) :: UY
theorem B4 : WO FY := J3 (L := []) (m := []) (v := []) (l := []) C5 func29 Za
abbrev D9 : Bb := .bx true false Re .u Yj [true] (fun x0 x => Ci x0)
abbrev VY : WF := (57, D9) :: FY
theorem E5 : WO VY := WB (L := []) (m := []) (v := []) (l := []) B4 func57 Za
abbrev H8 : Bb := .bx true false Re Yj Yj [true] (fun x0 x => Xa x0 x.1)
abbrev JY : WF := (35, H8) :: VY
theorem I4 : WO JY := WB (L := []) (m := []) (v := []) (l := []) E5 func35 Za
abbrev T9 : Bb := .bx true false Re Yj Fg [true] (fun x0 x => Um x0 x.1)
abbrev IZ : WF := (73, T9) :: JY
theorem V5 : WO IZ := WB (L := []) (m := []) (v := []) (l := []) I4 func73 Za
abbrev S9 : Bb := .bx true false Re Yj Mw [true] (fun x0 x => Ws x0 x.1)
abbrev SM : WF := (72, S9) :: IZ
theorem U5 : WO SM := WB (L := []) (m := []) (v := []) (l := []) V5 func72 Za
abbrev Z8 : Bb := .bx true false Re Yj (.p Kb .u) [true] (fun x0 x => Xs x0 x.1)
abbrev TY : WF := (53, Z8) :: SM
def VQ : Eb := ⟨48, ⟨[(0, (.ptr 500000 [])), (1, Ib), (4, Nr), (5, Ib), (6, (.ptr 6 [])), (7, Ib), (8, (.own 200101 Xc true)), (9, Ib)], [(500000, Re, (.data Re)), (4, Kb, (.pr Ib (.pr (.own 200102 Bt true) .un))), (6, Kb, (.pr Ib (.pr (.own 200103 Bt true) .un)))]⟩, 2, ⟨[(0, (.ptr 500000 [])), (1, Ib), (4, Nr), (5, Ib), (6, (.ptr 6 [])), (7, Ib), (8, (.own 200101 Xc true))], [(500000, Re, (.data Re)), (4, Kb, (.pr Ib (.pr (.own 200102 Bt true) .un))), (6, Kb, (.pr Ib (.pr (.own 200103 Bt true) .un)))]⟩, ⟨[], []⟩, Oo⟩
def UQ : Eb := ⟨48, ⟨[(0, (.ptr 500000 [])), (1, Ib), (4, Nr), (5, Ib), (6, (.ptr 6 [])), (7, Ib)], [(500000, Re, (.data Re)), (4, Kb, FL), (6, Kb, (.pr Ib (.pr (.own 200002 Bt true) .un)))]⟩, 0, ⟨[(0, (.ptr 500000 [])), (4, Nr), (6, (.ptr 6 []))], [(500000, Re, (.data Re)), (4, Kb, FL), (6, Kb, (.pr Ib (.pr (.own 200002 Bt true) .un)))]⟩, ⟨[], []⟩, No⟩
def QZ : WL := [(8, VQ), (4, UQ)]
theorem D1 : Rb (WG false SM [] [] []) QZ (lp f53 1) := Ze 8 (ls := VQ) rfl
theorem C1 : Rb (WG false SM [] [] []) QZ (lp f53 0) := Ze 4 (ls := UQ) rfl
theorem A5 : WO TY := WB U5 func53 (Jb D1 (Jb C1 Za))
abbrev A9 : Bb := .bx true true Re (.p Ol .u) Yj [true] (fun x0 x => Dl x0 x.1)
abbrev WS : WF := (54, A9) :: TY
theorem B5 : WO WS := WB (L := []) (m := []) (v := []) (l := []) A5 func54 Za
abbrev A8 : Bb := .bx true false Re Yj (.p Kb .u) [true] (fun x0 x => Hr x0 x.1)
abbrev EY : WF := (28, A8) :: WS
def IQ : Eb := ⟨49, ⟨[(0, (.ptr 500000 [])), (1, Ib), (4, Nr), (5, (.ptr 5 [])), (6, Ib)], [(500000, Re, (.data Re)), (4, Kb, SI), (5, Kb, FL)]⟩, 0, ⟨[(0, (.ptr 500000 [])), (4, Nr), (5, (.ptr 5 []))], [(500000, Re, (.data Re)), (4, Kb, SI), (5, Kb, FL)]⟩, ⟨[], []⟩, Cn⟩
def K6 : WL := [(3, IQ)]
theorem P0 : Rb (WG false WS [(8998, 200001), (4999, 200001)] [] []) K6 (lp f28 0) := Ze 3 (ls := IQ) rfl
theorem A4 : WO EY := WB B5 func28 (Jb P0 Za)
abbrev s_7 : Bb := .pu Re (.p Kb .u) [true] (fun x => Pj x.1 x.2.1 x.2.2.1)
abbrev GZ : WF := (7, s_7) :: EY
theorem E_7 : WO GZ := Eg A4 func7
abbrev C8 : Bb := .pu (.p Kb .u) (.p Kb .u) [true] (fun x => Jj x.1)
abbrev NS : WF := (30, C8) :: GZ
def JQ : Eb := ⟨25, ⟨[(2, (.ptr 2 [])), (3, (.ptr 3 [])), (10, (.data (.sl Bt))), (11, Ib), (12, Ib)], [(2, Kb, SI), (3, Kb, FL)]⟩, 0, ⟨[(2, (.ptr 2 [])), (3, (.ptr 3 []))], [(2, Kb, SI), (3, Kb, FL)]⟩, ⟨[], []⟩, Sj⟩
def L6 : WL := [(3, JQ)]
theorem Q0 : Rb (WG true GZ [] [] []) L6 (lp f30 0) := Ze 3 (ls := JQ) rfl
theorem C4 : WO NS := Zj E_7 func30 (Jb Q0 Za)
abbrev F8 : Bb := .pu (.p (.sl (.sl Hc)) .u) (.p (.sl (.sl Hc)) .u) [true] (fun x => Kj x.1)
abbrev HY : WF := (33, F8) :: NS
def MQ : Eb := ⟨19, ⟨[(3, (.own 200001 (.sl Hc) true)), (6, (.data (.sl (.sl Hc)))), (7, Ib), (8, Ib)], []⟩, 0, ⟨[(3, (.own 200001 (.sl Hc) true))], []⟩, ⟨[], []⟩, Tj⟩
def M6 : WL := [(3, MQ)]
theorem U0 : Rb (WG true NS [] [] []) M6 (lp f33 0) := Ze 3 (ls := MQ) rfl
theorem G4 : WO HY := Zj C4 func33 (Jb U0 Za)
abbrev M9 : Bb := .pu Yj Fg [true] (fun x => Qm x.1)
abbrev CZ : WF := (66, M9) :: HY
theorem O5 : WO CZ := Eg G4 func66
abbrev N9 : Bb := .pu Yj Fg [true] (fun x => Uj x.1)
abbrev DZ : WF := (67, N9) :: CZ
theorem P5 : WO DZ := Eg O5 func67
abbrev O9 : Bb := .pu Yj Fg [true] (fun x => Wk x.1)
abbrev EZ : WF := (68, O9) :: DZ
theorem Q5 : WO EZ := Eg P5 func68
abbrev R8 : Bb := .pu Mw Fg [true] (fun x => Qg x.1)
abbrev QM : WF := (45, R8) :: EZ
theorem S4 : WO QM := Eg Q5 func45
abbrev D8 : Bb := .pu (.p Kb .u) Fg [true] (fun x => Mm x.1)
abbrev GY : WF := (31, D8) :: QM
def LQ : Eb := ⟨73, ⟨[(1, (.ptr 1 [])), (3, Ib), (28, (.data (.sl Bt))), (29, Ib), (30, Ib), (40, (.data Bt)), (41, Ib), (42, Ib)], [(1, Kb, Nw)]⟩, 2, ⟨[(1, (.ptr 1 [])), (28, (.data (.sl Bt))), (29, Ib), (30, Ib)], [(1, Kb, Nw)]⟩, ⟨[(2, Ok)], []⟩, Uh⟩
def KQ : Eb := ⟨73, ⟨[(1, (.ptr 1 [])), (28, (.data (.sl Bt))), (29, Ib), (30, Ib)], [(1, Kb, Nw)]⟩, 0, ⟨[], []⟩, ⟨[(2, Ok)], []⟩, Th⟩
def OZ : WL := [(9, LQ), (4, KQ)]
theorem T0 : Rb (WG true QM [] [] []) OZ (lp f31 1) := Ze 9 (ls := LQ) rfl
theorem S0 : Rb (WG true QM [] [] []) OZ (lp f31 0) := Ze 4 (ls := KQ) rfl
theorem D4 : WO GY := Zj S4 func31 (Jb T0 (Jb S0 Za))
abbrev E8 : Bb := .pu Ke Yj [true] (fun x => Ul x.1 x.2.1)
abbrev OS : WF := (32, E8) :: GY
theorem E4 : WO OS := Eg D4 func32
abbrev M8 : Bb := .pu (.p Ap .u) Fg [true] (fun x => Ch x.1)
abbrev RS : WF := (40, M8) :: OS
def QQ : Eb := ⟨46, ⟨[(3, Ib), (6, (.data Ap)), (7, Ib), (8, Ib)], []⟩, 0, ⟨[], []⟩, ⟨[(2, Ok)], []⟩, Co⟩
def P6 : WL := [(3, QQ)]
theorem Y0 : Rb (WG true OS [] [] []) P6 (lp f40 0) := Ze 3 (ls := QQ) rfl
theorem N4 : WO RS := Zj E4 func40 (Jb Y0 Za)
abbrev U9 : Bb := .pu (.p (.sl Ke) (.p Ke .u)) Yj [true] (fun x => Mp x.1 x.2.1)
abbrev BT : WF := (74, U9) :: RS
def ER : Eb := ⟨19, ⟨[(3, (.ptr 3 [])), (7, (.data (.sl Ke))), (8, Ib), (9, Ib)], [(3, Ke, (.data Ke))]⟩, 0, ⟨[], []⟩, ⟨[(4, Ib)], []⟩, Jo⟩
def A7 : WL := [(2, ER)]
theorem O1 : Rb (WG true RS [] [] []) A7 (lp f74 0) := Ze 2 (ls := ER) rfl
theorem W5 : WO BT := Zj N4 func74 (Jb O1 Za)
abbrev C9 : Bb := .pu (.p (.sl Hc) .u) Fg [true] (fun x => Eo x.1)
abbrev RM : WF := (56, C9) :: BT
def XQ : Eb := ⟨62, ⟨[(3, (.own 200001 Ke true)), (11, (.data (.sl Hc))), (12, Ib), (13, Ib)], []⟩, 0, ⟨[(3, (.own 200001 Ke true))], []⟩, ⟨[(2, Ok)], []⟩, Ym⟩
def U6 : WL := [(5, XQ)]
theorem H1 : Rb (WG true BT [] [] []) U6 (lp f56 0) := Ze 5 (ls := XQ) rfl
theorem D5 : WO RM := Zj W5 func56 (Jb H1 Za)
abbrev G8 : Bb := .pu (.p Tb .u) Fg [true] (fun x => Rg x.1)
abbrev IY : WF := (34, G8) :: RM
def NQ : Eb := ⟨92, ⟨[(1, (.ptr 1 [])), (35, (.data (.sl (.sl Hc)))), (36, Ib), (37, Ib)], [(1, Tb, (.data Tb))]⟩, 0, ⟨[(1, (.ptr 1 []))], [(1, Tb, (.data Tb))]⟩, ⟨[(2, Ok)], []⟩, Sh⟩
def PL : Eb := ⟨92, ⟨[(1, (.ptr 1 [])), (5, Ib), (50, (.data Ap)), (51, Ib), (52, Ib)], [(1, Tb, (.data Tb))]⟩, 2, ⟨[(1, (.ptr 1 [])), (5, Ib)], [(1, Tb, (.data Tb))]⟩, ⟨[(2, Ok)], []⟩, Ih⟩
def PZ : WL := [(4, NQ), (11, PL)]
theorem V0 : Rb (WG true RM [] [] []) PZ (lp f34 0) := Ze 4 (ls := NQ) rfl
theorem BX : Rb (WG true RM [] [] []) PZ (lp f34 1) := Ze 11 (ls := PL) rfl
theorem H4 : WO IY := Zj D5 func34 (Jb BX (Jb V0 Za))
abbrev L7 : Bb := .pu (.p Kb (.p (.sl (.sl Hc)) .u)) (.p Tb Fg) [true, true] (fun x => So x.1 x.2.1)
abbrev WX : WF := (10, L7) :: IY
theorem K3 : WO WX := Eg H4 func10
abbrev N8 : Bb := .bx true false Re .u (.p Hc .u) [true] (fun x0 x => Ds x0)
abbrev MY : WF := (41, N8) :: WX
theorem O4 : WO MY := WB (L := []) (m := []) (v := []) (l := []) K3 func41 Za
abbrev S7 : Bb := .pu (.p (.sl Ut) .u) (.p Hc .u) [true] (fun x => Sn x.1)
abbrev ZX : WF := (18, S7) :: MY
theorem S3 : WO ZX := Eg O4 func18
abbrev O8 : Bb := .pu (.p Tb .u) (.p Tb .u) [true] (fun x => Pf x.1)
abbrev NY : WF := (42, O8) :: ZX
theorem P4 : WO NY := Eg S3 func42
abbrev L9 : Bb := .pu (.p Hc .u) Fg [true] (fun x => Nm x.1)
abbrev ZS : WF := (65, L9) :: NY
theorem N5 : WO ZS := Eg P4 func65
abbrev W8 : Bb := .pu (.p Ap .u) Yj [true] (fun x => Cj x.1)
abbrev SY : WF := (50, W8) :: ZS
def SQ : Eb := ⟨19, ⟨[(3, Ib), (6, (.data Ap)), (7, Ib), (8, Ib)], []⟩, 0, ⟨[(3, Ib)], []⟩, ⟨[], []⟩, Wl⟩
def R6 : WL := [(3, SQ)]
theorem A1 : Rb (WG true ZS [] [] []) R6 (lp f50 0) := Ze 3 (ls := SQ) rfl
theorem X4 : WO SY := Zj N5 func50 (Jb A1 Za)
abbrev Y9 : Bb := .pu (.p Fl .u) Fg [true] (fun x => Bo x.1)
abbrev ET : WF := (79, Y9) :: SY
theorem A6 : WO ET := Eg X4 func79
abbrev Q9 : Bb := .pu (.p Vt Yj) (.p int Fg) [true, true] (fun x => Ss x.1 x.2.1)
abbrev AT : WF := (70, Q9) :: ET
def CR : Eb := ⟨53, ⟨[(0, (.data Vt)), (1, Ib), (11, (.data Vt)), (12, Ib), (13, Ib)], []⟩, 0, ⟨[(1, Ib)], []⟩, ⟨[(4, Ib), (5, Ok)], []⟩, Ho⟩
def Y6 : WL := [(4, CR)]
theorem M1 : Rb (WG true ET [] [] []) Y6 (lp f70 0) := Ze 4 (ls := CR) rfl
theorem S5 : WO AT := Zj A6 func70 (Jb M1 Za)
abbrev V8 : Bb := .pu (.p Vt Ke) Fg [true] (fun x => Hi x.1 x.2.1 x.2.2.1)
abbrev RY : WF := (49, V8) :: AT
def RQ : Eb := ⟨29, ⟨[(0, (.data Vt)), (1, Ib), (2, Ib), (11, (.data Vt)), (12, Ib), (13, Ib)], []⟩, 0, ⟨[(0, (.data Vt)), (1, Ib)], []⟩, ⟨[(6, Ok)], []⟩, Yk⟩
def Q6 : WL := [(2, RQ)]
theorem Z0 : Rb (WG true AT [] [] []) Q6 (lp f49 0) := Ze 2 (ls := RQ) rfl
theorem W4 : WO RY := Zj S5 func49 (Jb Z0 Za)
abbrev T8 : Bb := .pu (.p Vt Yj) Fg [true] (fun x => Gi x.1 x.2.1)
abbrev QY : WF := (47, T8) :: RY
theorem U4 : WO QY := Eg W4 func47
abbrev P8 : Bb := .pu (.p Me .u) Fg [true] (fun x => Ei x.1)
abbrev OY : WF := (43, P8) :: QY
theorem Q4 : WO OY := Eg U4 func43
abbrev T7 : Bb := .pu (.p Tb (.p Hc .u)) (.p Me Fg) [true, true] (fun x => Kn x.1 x.2.1)
abbrev AY : WF := (19, T7) :: OY
theorem T3 : WO AY := Eg Q4 func19
abbrev N7 : Bb := .pu Re Yj [true] (fun x => Mg x.1 x.2.1 x.2.2.1)
abbrev XX : WF := (12, N7) :: AY
theorem N3 : WO XX := Eg T3 func12
abbrev U8 : Bb := .pu (.p Me .u) (.p Me .u) [true] (fun x => Pi x.1)
abbrev TS : WF := (48, U8) :: XX
theorem V4 : WO TS := Eg N3 func48
abbrev I8 : Bb := .pu (.p Tb Yj) Yj [true] (fun x => Lp x.1 x.2.1)
abbrev KY : WF := (36, I8) :: TS
def OQ : Eb := ⟨21, ⟨[(1, Ib), (8, (.data Ap)), (9, Ib), (10, Ib)], []⟩, 0, ⟨[], []⟩, ⟨[(4, Ib)], []⟩, Ao⟩
def N6 : WL := [(2, OQ)]
theorem W0 : Rb (WG true TS [] [] []) N6 (lp f36 0) := Ze 2 (ls := OQ) rfl
theorem J4 : WO KY := Zj V4 func36 (Jb W0 Za)
abbrev P9 : Bb := .pu (.p Ol .u) (.p Ol .u) [true] (fun x => Bj x.1)
abbrev FZ : WF := (69, P9) :: KY
theorem R5 : WO FZ := Eg J4 func69
abbrev Z9 : Bb := .io Ol .u .u [] (fun x0 _ => sort_Ints x0)
abbrev FT : WF := (80, Z9) :: FZ
end
end KF
namespace Go.Proofs
open Go.Shelf
def Try.lays_sort_Ints_ren : Go.Shelf.Ren := ⟨fun | 191 => 80 | 189 => 83 | 125 => 85 | 257 => 84 | 128 => 95 | 129 => 96 | 294 => 86 | 295 => 87 | 296 => 88 | 297 => 89 | 298 => 90 | 299 => 91 | 216 => 92 | 300 => 93 | 301 => 94 | 328 => 97 | 329 => 98 | 330 => 99 | 331 => 100 | 332 => 101 | 215 => 102 | 343 => 103 | n => n, fun | 28 => 63 | 0 => 0 | 3 => 3 | 46 => 130 | 51 => 147 | 53 => 149 | 4 => 4 | 183 => 140 | 182 => 139 | 131 => 117 | 5 => 5 | 9 => 9 | 218 => 150 | 222 => 154 | 228 => 156 | 229 => 120 | n => n, fun | n => n⟩
theorem Try.lays_sort_Ints : Go.Proofs.Lays.n191 Try.prog Try.lays_sort_Ints_ren := {
 mixed := by kernel_rfl
 f125 := Try.func85.trans (congrArg some (by kernel_rfl))
 f128 := Try.func95.trans (congrArg some (by kernel_rfl))
 f129 := Try.func96.trans (congrArg some (by kernel_rfl))
 f189 := Try.func83.trans (congrArg some (by kernel_rfl))
 f191 := Try.func80.trans (congrArg some (by kernel_rfl))
 f215 := Try.func102.trans (congrArg some (by kernel_rfl))
 f216 := Try.func92.trans (congrArg some (by kernel_rfl))
 f257 := Try.func84.trans (congrArg some (by kernel_rfl))
 f294 := Try.func86.trans (congrArg some (by kernel_rfl))
 f295 := Try.func87.trans (congrArg some (by kernel_rfl))
 f296 := Try.func88.trans (congrArg some (by kernel_rfl))
 f297 := Try.func89.trans (congrArg some (by kernel_rfl))
 f298 := Try.func90.trans (congrArg some (by kernel_rfl))
 f299 := Try.func91.trans (congrArg some (by kernel_rfl))
 f300 := Try.func93.trans (congrArg some (by kernel_rfl))
 f301 := Try.func94.trans (congrArg some (by kernel_rfl))
 f328 := Try.func97.trans (congrArg some (by kernel_rfl))
 f329 := Try.func98.trans (congrArg some (by kernel_rfl))
 f330 := Try.func99.trans (congrArg some (by kernel_rfl))
 f331 := Try.func100.trans (congrArg some (by kernel_rfl))
 f332 := Try.func101.trans (congrArg some (by kernel_rfl))
 f343 := Try.func103.trans (congrArg some (by kernel_rfl))
 t0 := Try.underlying0
 a0 := Try.isAgg0
 z0 := Try.sizeOf0
 v0 := Try.zeroValue0
 t3 := Try.underlying3
 a3 := Try.isAgg3
 z3 := Try.sizeOf3
 v3 := Try.zeroValue3
 t4 := Try.underlying4
 a4 := Try.isAgg4
 z4 := Try.sizeOf4
 v4 := Try.zeroValue4
 t5 := Try.underlying5
 a5 := Try.isAgg5
 z5 := Try.sizeOf5
 v5 := Try.zeroValue5
 t9 := Try.underlying9
 a9 := Try.isAgg9
 z9 := Try.sizeOf9
 v9 := Try.zeroValue9
 t28 := Try.underlying63
 a28 := Try.isAgg63
 z28 := Try.sizeOf63
 v28 := Try.zeroValue63
 t46 := Try.underlying130
 a46 := Try.isAgg130
 z46 := Try.sizeOf130
 v46 := Try.zeroValue130
 t51 := Try.underlying147
 a51 := Try.isAgg147
 z51 := Try.sizeOf147
 v51 := Try.zeroValue147
 t53 := Try.underlying149
 a53 := Try.isAgg149
 z53 := Try.sizeOf149
 v53 := Try.zeroValue149
 t131 := Try.underlying117
 a131 := Try.isAgg117
 z131 := Try.sizeOf117
 v131 := Try.zeroValue117
 t182 := Try.underlying139
 a182 := Try.isAgg139
 z182 := Try.sizeOf139
 v182 := Try.zeroValue139
 t183 := Try.underlying140
 a183 := Try.isAgg140
 z183 := Try.sizeOf140
 v183 := Try.zeroValue140
 t218 := Try.underlying150
 a218 := Try.isAgg150
 z218 := Try.sizeOf150
 v218 := Try.zeroValue150
 t222 := Try.underlying154
 a222 := Try.isAgg154
 z222 := Try.sizeOf154
 v222 := Try.zeroValue154
 t228 := Try.underlying156
 a228 := Try.isAgg156
 z228 := Try.sizeOf156
 v228 := Try.zeroValue156
 t229 := Try.underlying120
 a229 := Try.isAgg120
 z229 := Try.sizeOf120
 v229 := Try.zeroValue120 }
end Go.Proofs
namespace KF
open Go Go.Proofs Go.Proofs.Try
noncomputable section
theorem B6 : WO FT := wc R5 (UO Try.lays_sort_Ints (by kernel_rfl))
abbrev Aaa : Bb := .pu (.p Ol Yj) Fg [true] (fun x => Ts x.1 x.2.1)
abbrev HT : WF := (81, Aaa) :: FT
def HR : Eb := ⟨17, ⟨[(1, Ib), (7, (.data Ol)), (8, Ib), (9, Ib)], []⟩, 0, ⟨[], []⟩, ⟨[(4, Ok)], []⟩, Io⟩
def D7 : WL := [(2, HR)]
theorem S1 : Rb (WG true FT [] [] []) D7 (lp f81 0) := Ze 2 (ls := HR) rfl
theorem C6 : WO HT := Zj B6 func81 (Jb S1 Za)
abbrev X9 : Bb := .pu (.p Ol .u) (.p Ol .u) [true] (fun x => Vk x.1)
abbrev DT : WF := (77, X9) :: HT
def GR : Eb := ⟨31, ⟨[(4, PF), (11, (.own 200002 int true)), (12, Ib), (13, Ib)], []⟩, 0, ⟨[(4, PF)], []⟩, ⟨[], []⟩, An⟩
def C7 : WL := [(5, GR)]
theorem Q1 : Rb (WG true HT [] [] []) C7 (lp f77 0) := Ze 5 (ls := GR) rfl
theorem Z5 : WO DT := Zj C6 func77 (Jb Q1 Za)
abbrev J9 : Bb := .pu (.p Ap .u) (.p Md .u) [true] (fun x => Lb x.1)
abbrev YS : WF := (63, J9) :: DT
def BR : Eb := ⟨45, ⟨[(2, (.ptr 2 [])), (3, (.ptr 3 [])), (4, PF), (11, (.data Ap)), (12, Ib), (13, Ib)], [(2, Md, LG), (3, Md, LG)]⟩, 0, ⟨[(2, (.ptr 2 [])), (3, (.ptr 3 [])), (4, PF)], [(2, Md, LG), (3, Md, LG)]⟩, ⟨[], []⟩, Sl⟩
def X6 : WL := [(6, BR)]
theorem L1 : Rb (WG true DT [] [] []) X6 (lp f63 0) := Ze 6 (ls := BR) rfl
theorem K5 : WO YS := Zj Z5 func63 (Jb L1 Za)
abbrev Baa : Bb := .pu (.p Ol (.p Ol .u)) Fg [true] (fun x => Xp x.1 x.2.1)
abbrev LZ : WF := (82, Baa) :: YS
def IR : Eb := ⟨26, ⟨[(0, (.data Ol)), (1, (.data Ol)), (12, Ib), (13, Ib)], []⟩, 0, ⟨[], []⟩, ⟨[(4, Ok)], []⟩, Xl⟩
def E7 : WL := [(4, IR)]
theorem T1 : Rb (WG true YS [] [] []) E7 (lp f82 0) := Ze 4 (ls := IR) rfl
theorem D6 : WO LZ := Zj K5 func82 (Jb T1 Za)
abbrev H2 : Bb := .pu (.p Md (.p Md .u)) Fg [true] (fun x => Ij x.1 x.2.1)
abbrev KZ : WF := (78, H2) :: LZ
theorem VX : WO KZ := Eg D6 func78
abbrev K9 : Bb := .co (.p Md (.p Tq .u)) (.p Tq .u) [true] (fun x => Wb x.1 x.2.1)
abbrev BZ : WF := (64, K9) :: KZ
def D3 : List (Nat × Ty) := [(3, int), (38, (.sl JB)), (65, JB)]
theorem MZ : ((D3.all fun x => Yc Try.prog x.2 x.1) && (([] : List (Nat × Ty × Nat)).all fun x => CC Try.prog x.1 x.2.1 x.2.2)) = true := by kernel_rfl
@[reducible] def NT (c : T Vc → T Vc → Option Bool) : Bb := .pu (.p JB (.p (.sl JB) .u)) (.p (.sl JB) .u) [true] (fun x => KN c x.1 x.2.1)
def LP (c : T Vc → T Vc → Option Bool) : Od := ⟨D3, [(78, FG c)], [], true, [], [], []⟩
theorem MT (I : Of) (c : T Vc → T Vc → Option Bool) (h : Cg Try.prog I 78 (FG c)) : Wg Try.prog I (LP c) := Wg.cons h (RG MZ)
def MG (c : T Vc → T Vc → Option Bool) : Eb := ⟨25, ⟨[(2, (.ptr 2 [])), (5, (.own 200001 JB true)), (8, (.data (.sl JB))), (9, Ib), (10, Ib)], [(2, JB, (.data JB))]⟩, 0, ⟨[(5, (.own 200001 JB true))], []⟩, ⟨[], []⟩, Pm c⟩
def MP (c : T Vc → T Vc → Option Bool) : List (Nat × Eb) := [(3, MG c)]
theorem LN (c : T Vc → T Vc → Option Bool) : Rb (LP c) (MP c) (lp Try.f64 0) := AH (r := 3) (ls := MG c) (R := fun x => Qr c x.1.1 x.1.2.1 x.1.2.2.1 x.1.2.2.2.1 x.1.2.2.2.2.1 x.2.1) (by kernel_rfl) (by kernel_rfl) rfl (fun x => by kernel_rfl)
theorem OT (I : Of) (c : T Vc → T Vc → Option Bool) (h : Cg Try.prog I 78 (FG c)) : Cg Try.prog I 64 (NT c) := HA (L := MP c) (k := 1) (MT I c h) HG Try.func64 (by kernel_rfl) (Jb (LN c) Za) (fun x => by kernel_rfl)
theorem L5 : WO BZ := wc VX (VR (f2 := 78) (SR := fun x => Ij x.1 x.2.1) (same := Rn) EV (P2 (s := H2) VX (by kernel_rfl)) (fun I c h => ⟨_, OT I c h, QW c⟩))
abbrev K8 : Bb := .pu (.p Tb Yj) (.p Tb (.p Tq .u)) [true, true] (fun x => Gh x.1 x.2.1)
abbrev PS : WF := (38, K8) :: BZ
theorem L4 : WO PS := Eg L5 func38
abbrev R7 : Bb := .pu (.p int (.p Ap .u)) Yj [true] (fun x => Sg x.1 x.2.1)
abbrev JS : WF := (17, R7) :: PS
def EQ : Eb := ⟨39, ⟨[(5, Ib), (21, (.data Ap)), (22, Ib), (23, Ib)], []⟩, 0, ⟨[(5, Ib)], []⟩, ⟨[], []⟩, Jf⟩
def G6 : WL := [(7, EQ)]
theorem K0 : Rb (WG true PS [] [] []) G6 (lp f17 0) := Ze 7 (ls := EQ) rfl
theorem R3 : WO JS := Zj L4 func17 (Jb K0 Za)
abbrev E9 : Bb := .pu (.p Kb Ke) Yj [true] (fun x => Xk x.1 x.2.1 x.2.2.1)
abbrev WY : WF := (58, E9) :: JS
def YQ : Eb := ⟨33, ⟨[(1, Ib), (2, Ib), (3, (.ptr 3 [])), (7, Ib)], [(3, Kb, Nw)]⟩, 0, ⟨[], []⟩, ⟨[(6, Ib)], []⟩, Tf⟩
def V6 : WL := [(2, YQ)]
theorem I1 : Rb (WG true JS [] [] []) V6 (lp f58 0) := Ze 2 (ls := YQ) rfl
theorem F5 : WO WY := Zj R3 func58 (Jb I1 Za)
abbrev Q8 : Bb := .pu (.p Kb Ke) Yj [true] (fun x => Cv x.1 x.2.1 x.2.2.1)
abbrev PY : WF := (44, Q8) :: WY
theorem R4 : WO PY := Eg F5 func44
abbrev U7 : Bb := .pu (.p Kb Ke) Mw [true] (fun x => Wp x.1 x.2.1 x.2.2.1)
abbrev BY : WF := (20, U7) :: PY
theorem U3 : WO BY := Eg R4 func20
abbrev W7 : Bb := .pu Mw Fg [true] (fun x => Fi x.1)
abbrev LS : WF := (24, W7) :: BY
theorem W3 : WO LS := Eg U3 func24
abbrev R9 : Bb := .pu (.p Hc (.p int (.p int (.p Vt Yj)))) Ke [true, true] (fun x => Lm x.1 x.2.1 x.2.2.1 x.2.2.2.1 x.2.2.2.2.1)
abbrev HZ : WF := (71, R9) :: LS
def DR : Eb := ⟨102, ⟨[(1, Ib), (2, Ib), (4, Ib), (5, (.ptr 5 [])), (12, Ib), (26, (.data Vt)), (27, Ib), (28, Ib)], [(5, Hc, (.data Hc))]⟩, 0, ⟨[(2, Ib), (4, Ib), (5, (.ptr 5 []))], [(5, Hc, (.data Hc))]⟩, ⟨[(10, Ib), (11, Ib)], []⟩, Pl⟩
def Z6 : WL := [(5, DR)]
theorem N1 : Rb (WG true LS [] [] []) Z6 (lp f71 0) := Ze 5 (ls := DR) rfl
theorem T5 : WO HZ := Zj W3 func71 (Jb N1 Za)
abbrev F9 : Bb := .pu Mw Mw [true] (fun x => Qs x.1)
abbrev XY : WF := (59, F9) :: HZ
theorem G5 : WO XY := Eg T5 func59
abbrev G9 : Bb := .pu Mw Mw [true] (fun x => Gu x.1)
abbrev ZY : WF := (60, G9) :: XY
theorem H5 : WO ZY := Eg G5 func60
abbrev V9 : Bb := .pu Yj Fg [true] (fun x => Jn x.1)
abbrev JZ : WF := (75, V9) :: ZY
theorem X5 : WO JZ := Eg H5 func75
abbrev H9 : Bb := .bx false false Tb Mw Mw [true] (fun x0 x => Zh x0 x.1)
abbrev XS : WF := (61, H9) :: JZ
theorem I5 : WO XS := WB (L := []) (m := []) (v := []) (l := []) X5 func61 Za
abbrev W9 : Bb := .pu (.p Md (.p (.sl Ke) .u)) (.p Md .u) [true] (fun x => Kd x.1 x.2.1)
abbrev CT : WF := (76, W9) :: XS
def FR : Eb := ⟨37, ⟨[(4, Nr), (5, (.ptr 5 [])), (6, PF), (15, (.data (.sl Ke))), (16, Ib), (17, Ib)], [(4, Md, LG), (5, Md, LG)]⟩, 0, ⟨[(4, Nr), (5, (.ptr 5 [])), (6, PF)], [(4, Md, LG), (5, Md, LG)]⟩, ⟨[], []⟩, Zk⟩
def B7 : WL := [(4, FR)]
theorem P1 : Rb (WG true XS [] [] []) B7 (lp f76 0) := Ze 4 (ls := FR) rfl
theorem Y5 : WO CT := Zj I5 func76 (Jb P1 Za)
abbrev I9 : Bb := .pu (.p Ap (.p (.sl Hc) .u)) (.p Tq .u) [true] (fun x => Og x.1 x.2.1)
abbrev AZ : WF := (62, I9) :: CT
def AR : Eb := ⟨74, ⟨[(5, (.ptr 5 [])), (6, DC), (7, (.own 200002 Ke true)), (22, (.data (.sl Hc))), (23, Ib), (24, Ib)], [(5, Md, (.pr Ib (.pr (.own 200003 int true) .un)))]⟩, 0, ⟨[(6, DC)], []⟩, ⟨[], []⟩, Oi⟩
def W6 : WL := [(7, AR)]
theorem K1 : Rb (WG true CT [] [] []) W6 (lp f62 0) := Ze 7 (ls := AR) rfl
theorem J5 : WO AZ := Zj Y5 func62 (Jb K1 Za)
abbrev J8 : Bb := .pu (.p Tb (.p int Fg)) (.p Tb (.p Tq .u)) [true, true] (fun x => De x.1 x.2.1 x.2.2.1)
abbrev LY : WF := (37, J8) :: AZ
theorem K4 : WO LY := Eg J5 func37
abbrev X8 : Bb := .bx false false Me .u (.p Tq Fg) [true, true] (fun x0 x => Hf x0)
abbrev US : WF := (51, X8) :: LY
theorem Y4 : WO US := WB (L := []) (m := []) (v := []) (l := []) K4 func51 Za
abbrev Y8 : Bb := .co (.p (.sl Eh) (.p int (.p Tq .u))) (.p (.sl Eh) .u) [true] (fun x => It x.1 x.2.1 x.2.2.1)
abbrev VS : WF := (52, Y8) :: US
def TQ : Eb := ⟨23, ⟨[(0, (.own 200001 Eh true)), (1, Ib), (9, (.mov 200002 Md)), (10, Ib), (11, Ib)], []⟩, 0, ⟨[(0, (.own 200001 Eh true))], []⟩, ⟨[], []⟩, Iq⟩
def S6 : WL := [(2, TQ)]
theorem B1 : Rb (WG false US [] [] [14]) S6 (lp f52 0) := Ze 2 (ls := TQ) rfl
theorem Z4 : WO VS := wco Y4 func52 (Jb B1 Za)
abbrev Y7 : Bb := .pu (.p Me (.p Vt Yj)) (.p Me (.p (.sl Eh) Fg)) [true, true, true] (fun x => Gj x.1 x.2.1 x.2.2.1)
abbrev CY : WF := (26, Y7) :: VS
def GQ : Eb := ⟨86, ⟨[(6, (.ptr 6 [])), (9, (.ptr 9 [])), (10, (.own 200001 Eh true))], [(6, Me, G3), (9, Me, (.pr IP (.pr (.data Hc) (.pr (.own 200005 Fl true) (.data Xc)))))]⟩, 0, ⟨[(6, (.ptr 6 [])), (9, (.ptr 9 [])), (10, (.own 200001 Eh true))], [(6, Me, G3), (9, Me, (.pr IP (.pr (.data Hc) (.pr (.own 200005 Fl true) (.data Xc)))))]⟩, ⟨[], []⟩, Xd⟩
def I6 : WL := [(9, GQ)]
theorem M0 : Rb (WG true VS [] [] []) I6 (lp f26 0) := Ze 9 (ls := GQ) rfl
theorem Y3 : WO CY := Zj Z4 func26 (Jb M0 Za)
abbrev O7 : Bb := .pu (.p Tb (.p int Fg)) (.p Tb (.p Tq Fg)) [true, true, true] (fun x => Xq x.1 x.2.1 x.2.2.1)
abbrev IS : WF := (13, O7) :: CY
theorem O3 : WO IS := Eg Y3 func13
abbrev Z7 : Bb := .pu (.p Tb (.p Ol .u)) (.p Tb (.p Tq Fg)) [true, true, true] (fun x => Fo x.1 x.2.1)
abbrev DY : WF := (27, Z7) :: IS
def HQ : Eb := ⟨52, ⟨[(4, Nr), (7, (.ptr 7 [])), (8, DC), (20, (.data Ol)), (21, Ib), (22, Ib)], [(4, Tb, IP), (7, Tb, WZ)]⟩, 0, ⟨[(4, Nr), (7, (.ptr 7 [])), (8, DC)], [(4, Tb, IP), (7, Tb, WZ)]⟩, ⟨[(4, Nr), (5, DC), (6, Ok)], [(4, Tb, IP)]⟩, Zm⟩
def J6 : WL := [(6, HQ)]
theorem N0 : Rb (WG true IS [] [] []) J6 (lp f27 0) := Ze 6 (ls := HQ) rfl
theorem Z3 : WO DY := Zj O3 func27 (Jb N0 Za)
abbrev S8 : Bb := .pu (.p Md .u) (.p Md .u) [true] (fun x => Ln x.1)
abbrev SS : WF := (46, S8) :: DY
theorem T4 : WO SS := Eg Z3 func46
abbrev X7 : Bb := .pu (.p (.sl Eh) .u) (.p Tq .u) [true] (fun x => To x.1)
abbrev MS : WF := (25, X7) :: SS
def FQ : Eb := ⟨20, ⟨[(3, DC), (6, (.data (.sl Eh))), (7, Ib), (8, Ib)], []⟩, 0, ⟨[(3, DC)], []⟩, ⟨[], []⟩, Uk⟩
def H6 : WL := [(3, FQ)]
theorem L0 : Rb (WG true SS [] [] []) H6 (lp f25 0) := Ze 3 (ls := FQ) rfl
theorem X3 : WO MS := Zj T4 func25 (Jb L0 Za)
abbrev L8 : Bb := .pu (.p Ol (.p Ol .u)) Fg [true] (fun x => Aq x.1 x.2.1)
abbrev QS : WF := (39, L8) :: MS
def PQ : Eb := ⟨26, ⟨[(0, (.data Ol)), (1, (.data Ol)), (5, Ib)], []⟩, 0, ⟨[], []⟩, ⟨[(4, Ok)], []⟩, Bm⟩
def O6 : WL := [(4, PQ)]
theorem X0 : Rb (WG true MS [] [] []) O6 (lp f39 0) := Ze 4 (ls := PQ) rfl
theorem M4 : WO QS := Zj X3 func39 (Jb X0 Za)
abbrev P7 : Bb := .pu (.p Tq (.p Tq .u)) Fg [true] (fun x => Em x.1 x.2.1)
abbrev OM : WF := (15, P7) :: QS
def CQ : Eb := ⟨42, ⟨[(0, (.data Tq)), (1, (.data Tq)), (5, Ib)], []⟩, 0, ⟨[], []⟩, ⟨[(4, Ok)], []⟩, Yi⟩
def E6 : WL := [(4, CQ)]
theorem I0 : Rb (WG true QS [] [] []) E6 (lp f15 0) := Ze 4 (ls := CQ) rfl
theorem P3 : WO OM := Zj M4 func15 (Jb I0 Za)
abbrev M7 : Bb := .pu (.p Kb (.p Kb .u)) Fg [true] (fun x => Ar x.1 x.2.1)
abbrev HS : WF := (11, M7) :: OM
def BQ : Eb := ⟨68, ⟨[(2, (.ptr 2 [])), (3, (.ptr 3 [])), (5, Ib), (6, Ib)], [(2, Kb, Nw), (3, Kb, Nw)]⟩, 2, ⟨[(2, (.ptr 2 [])), (3, (.ptr 3 [])), (5, Ib)], [(2, Kb, Nw), (3, Kb, Nw)]⟩, ⟨[(4, Ok)], []⟩, Ti⟩
def AQ : Eb := ⟨68, ⟨[(2, (.ptr 2 [])), (3, (.ptr 3 [])), (5, Ib)], [(2, Kb, Nw), (3, Kb, Nw)]⟩, 0, ⟨[], []⟩, ⟨[(4, Ok)], []⟩, Bn⟩
def NZ : WL := [(9, BQ), (4, AQ)]
theorem H0 : Rb (WG true OM [] [] []) NZ (lp f11 1) := Ze 9 (ls := BQ) rfl
theorem G0 : Rb (WG true OM [] [] []) NZ (lp f11 0) := Ze 4 (ls := AQ) rfl
theorem L3 : WO HS := Zj P3 func11 (Jb H0 (Jb G0 Za))
abbrev Q7 : Bb := .pu (.p Ap (.p Ap .u)) Fg [true] (fun x => Zp x.1 x.2.1)
abbrev YX : WF := (16, Q7) :: HS
def DQ : Eb := ⟨26, ⟨[(0, (.data Ap)), (1, (.data Ap)), (5, Ib)], []⟩, 0, ⟨[], []⟩, ⟨[(4, Ok)], []⟩, Am⟩
def F6 : WL := [(4, DQ)]
theorem J0 : Rb (WG true HS [] [] []) F6 (lp f16 0) := Ze 4 (ls := DQ) rfl
theorem Q3 : WO YX := Zj L3 func16 (Jb J0 Za)
abbrev V7 : Bb := .pu (.p Tb (.p Tb .u)) Fg [true] (fun x => Nj x.1 x.2.1)
abbrev KS : WF := (23, V7) :: YX
theorem V3 : WO KS := Eg Q3 func23
abbrev I3 : Bb := .pu (.p (.sl Ut) .u) Fg [true] (fun x => Pp x.1)
abbrev F_5 : WF := (5, I3) :: KS
def ZQ : Eb := ⟨122, ⟨[(0, (.data (.sl Ut))), (4, Nr), (5, Ok), (6, (.ptr 6 [])), (7, (.ptr 7 [])), (8, Ok), (9, (.own 200001 Fl true)), (10, (.own 200002 int true)), (11, Ib), (12, Ib)], [(4, Tb, XZ), (6, Hc, (.data Hc)), (7, Me, E3)]⟩, 0, ⟨[(4, Nr), (5, Ok), (7, (.ptr 7 [])), (8, Ok), (9, (.own 200001 Fl true)), (10, (.own 200002 int true)), (11, Ib)], [(4, Tb, XZ), (7, Me, E3)]⟩, ⟨[], []⟩, Si⟩
def L_5 : WL := [(11, ZQ)]
theorem J1 : Rb (WG true KS [] [] []) L_5 (lp f5 0) := Ze 11 (ls := ZQ) rfl
theorem E_5 : WO F_5 := Zj V3 func5 (Jb J1 Za)
theorem RE : Cg Try.prog II 5 I3 := P2 E_5 (by kernel_rfl)
end
end KF
