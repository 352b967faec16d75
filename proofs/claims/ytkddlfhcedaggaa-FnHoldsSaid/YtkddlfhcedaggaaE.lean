/- An evaluator of Go functions on plain data, its soundness, and plain laws on what the functions compute, part 5 (conditions: as each lemma tells). -/
import Derived.Test.YtkddlfhcedaggaaD
import Derived.Test.YtkddlfhcedaggaaRows
set_option linter.unusedSimpArgs false
set_option linter.unusedVariables false
namespace KF
open Go Go.Proofs Go.Proofs.Try
def GT : List (Nat × Ty) := [(3, int), (4, .b), (5, Cu), (22, (.sl Cu)), (24, (.sl (.sl Sc))), (26, Ib), (30, (.sl (.sl Oc))), (31, (.sl Zr)), (33, Kc), (38, (.sl Tc)), (46, Oc), (48, (.sl Bp)), (50, Gd), (54, Sc), (56, (.sl Uf)), (60, Bp), (63, (.sl int)), (65, Tc), (67, Uf), (76, (.sl Sc)), (87, Zr), (104, Me), (105, (.sl Oc)), (124, (.sl Ge)), (126, Oc), (128, Ge)]
def GA : List (Nat × Ty × Nat) := []
theorem Y0 : ((GT.all fun x => Xc Try.prog x.2 x.1) && (GA.all fun x => LB Try.prog x.1 x.2.1 x.2.2)) = true := by kernel_rfl
theorem GF : Try.prog.follows .mixedOrders = true := by kernel_rfl
noncomputable abbrev II : Jf := RI
noncomputable section
abbrev WP : Program := Try.prog
abbrev WF := List (Nat × Ab)
abbrev WL := List (Nat × Eb)
abbrev WG (z : Bool) (fs : WF) (m : List (Nat × Nat)) (v l : List Nat) : Nd := ⟨GT, fs, m, z, GA, v, l⟩
def WO (fs : WF) : Prop := ∀ z m v l, Pg WP II (WG z fs m v l)
theorem U8 : WO [] := fun _ _ _ _ => SF Y0
theorem wc {f : Nat} {s : Ab} {fs : WF} (e : WO fs) (h : Ag WP II f s) : WO ((f, s) :: fs) := fun z m v l => Pg.cons h (e z m v l)
theorem W0 {f : Nat} {s : Ab} {fs : WF} (e : WO fs) (h : Va fs f = some s) : Ag WP II f s := (e true [] [] []).fn f s h
theorem Af {z : Bool} {fs : WF} {m : List (Nat × Nat)} {v l : List Nat} {L : WL} {fn : Func} {i : Nat} (r : Nat) {ls : Eb} {R : ls.inT.X → Option (ls.inT.X ⊕ (ls.outT.X ⊕ ls.retT.X))}
 (h3 : ls.F = Yb R) (h1 : Ug (lp fn i) = some r := by kernel_rfl) (h2 : (Va L r) = some ls := by kernel_rfl) (h4 : ∀ x, Qv (WG z fs m v l) L ls (lp fn i) x = R x := by intro _; kernel_rfl) : Qb (WG z fs m v l) L (lp fn i) := BG h1 h2 h3 h4
theorem Qf {f : Nat} {fn : Func} {pt rt : Ty} {fr : List Bool} {F : T pt → Option (T rt)} {fs : WF} (e : WO fs) (hf : WP.funcs[f]? = some fn)
 (hb : (fn.body.isSome && !(fn.name == "runtime.NumGoroutine") && Nat.ble pt.npar fn.ntmps && Nat.beq (Rc (fn.body.getD .skip)).length 0) = true := by kernel_rfl)
 (hF : ∀ x, CO (WG true fs [] [] []) [] fn pt rt fr x = F x := by intro _; kernel_rfl) : WO ((f, .pu pt rt fr F) :: fs) := wc e (Pz (e _ _ _ _) GF hf hb Ya hF)
theorem Vk {k : Nat} {L : WL} {m : List (Nat × Nat)} {v l : List Nat} {f : Nat} {fn : Func} {pt rt : Ty} {fr : List Bool} {F : T pt → Option (T rt)} {fs : WF} (e : WO fs) (hf : WP.funcs[f]? = some fn) (hL : ∀ i, i < k → Qb (WG true fs m v l) L (lp fn i))
 (hb : (fn.body.isSome && !(fn.name == "runtime.NumGoroutine") && Nat.ble pt.npar fn.ntmps && Nat.beq (Rc (fn.body.getD .skip)).length k) = true := by kernel_rfl)
 (hF : ∀ x, CO (WG true fs m v l) L fn pt rt fr x = F x := by intro _; kernel_rfl) : WO ((f, .pu pt rt fr F) :: fs) := wc e (Pz (e _ _ _ _) GF hf hb hL hF)
theorem H9 {k : Nat} {L : WL} {m : List (Nat × Nat)} {v l : List Nat} {f : Nat} {fn : Func} {pt rt : Ty} {fr : List Bool} {F : T pt → Option (T rt)} {fs : WF} (e : WO fs) (hf : WP.funcs[f]? = some fn) (hL : ∀ i, i < k → Qb (WG false fs m v l) L (lp fn i))
 (hb : (fn.body.isSome && !(fn.name == "runtime.NumGoroutine") && Nat.ble pt.npar fn.ntmps && Nat.beq (Rc (fn.body.getD .skip)).length k) = true := by kernel_rfl)
 (hF : ∀ x, FH (WG false fs m v l) L fn pt rt fr x = F x := by intro _; kernel_rfl) : WO ((f, .co pt rt fr F) :: fs) := wc e (LQ (e _ _ _ _) rfl GF hf hb hL hF)
theorem EB {k : Nat} {L : WL} {m : List (Nat × Nat)} {v l : List Nat} {f : Nat} {fn : Func} {vw cv : Bool} {τ pt rt : Ty} {fr : List Bool} {F : T τ → T pt → Option (T τ × T rt)} {fs : WF} (e : WO fs) (hf : WP.funcs[f]? = some fn) (hL : ∀ i, i < k → Qb (WG false fs m v l) L (lp fn i))
 (hb : (fn.body.isSome && !(fn.name == "runtime.NumGoroutine") && Nat.ble (pt.npar + 1) fn.ntmps && Nat.beq (Rc (fn.body.getD .skip)).length k) = true := by kernel_rfl)
 (hF : ∀ x0 x, EH (WG false fs m v l) L fn vw cv τ pt rt fr x0 x = F x0 x := by intro _ _; kernel_rfl) : WO ((f, .bx vw cv τ pt rt fr F) :: fs) := wc e (JQ (e _ _ _ _) rfl GF hf hb hL hF)
theorem S1 {k : Nat} {L : WL} {m : List (Nat × Nat)} {v l : List Nat} {f : Nat} {fn : Func} {pt τ : Ty} {F : T pt → Option (T τ)} {fs : WF} (e : WO fs) (hf : WP.funcs[f]? = some fn) (hL : ∀ i, i < k → Qb (WG true fs m v l) L (lp fn i))
 (hb : (fn.body.isSome && !(fn.name == "runtime.NumGoroutine") && Nat.ble pt.npar fn.ntmps && Nat.beq (Rc (fn.body.getD .skip)).length k) = true := by kernel_rfl)
 (hF : ∀ x, GH (WG true fs m v l) L fn pt τ x = F x := by intro _; kernel_rfl) : WO ((f, .nw pt τ F) :: fs) := wc e (MQ (e _ _ _ _) GF hf hb hL hF)
abbrev Ob : TD := .data int
abbrev Lg : Ty := .p .b .u
abbrev Si : Ty := .p int .u
abbrev RA : Ty := .p int (.p .o .u)
abbrev NF : Ty := .p (.sl Tc) .u
abbrev OE : TD := .own 200001 Tc true
abbrev Mo : Ty := .sl Zr
abbrev Wv : Ty := .p Sc .u
abbrev Xv : TD := .data Ib
abbrev No : TD := .data .b
abbrev Fq : Ty := .sl Sc
abbrev BK : TD := .pr Ob (.pr (.own 200001 Fq true) .un)
abbrev N1 : TD := .pr (.pr (.pr Ob (.pr (.own 200002 Fq true) .un)) (.pr (.own 200003 (.sl Oc) true) (.pr Ob (.pr (.own 200004 Zr true) (.data (.p int Lg)))))) (.pr (.data Oc) (.pr (.own 200005 Bp true) (.data Sc)))
abbrev UN : TD := .pr Ob (.pr (.data (.sl Fq)) .un)
abbrev PE : TD := .own 200001 int true
abbrev Hn : Ty := .sl int
abbrev LF : TD := .pr Ob (.pr (.data Hn) .un)
abbrev Ys : Ty := .sl Bp
abbrev O1 : TD := .pr (.pr UN (.pr (.data (.sl (.sl Oc))) (.pr Ob (.pr (.data Mo) (.data (.p int Lg)))))) (.pr (.data Oc) (.pr (.data Ys) (.data Sc)))
abbrev E9 : Ab := .pu (.p (.sl Cu) .u) Lg [true] (fun x => Er x.1)
abbrev MX : WF := (6, E9) :: ([] : WF)
theorem Y8 : WO MX := Qf U8 func6
abbrev Q7 : Ab := .nw (.p (.sl Cu) .u) Me (fun x => Ot x.1)
abbrev IX : WF := (55, Q7) :: MX
def MP : Eb := ⟨32, ⟨[(0, (.data (.sl Cu))), (3, Ob), (4, Ob)], []⟩, 0, ⟨[(0, (.data (.sl Cu))), (3, Ob)], []⟩, ⟨[], []⟩, Qo⟩
def F5 : WL := [(3, MP)]
theorem PZ : Qb (WG true MX [] [] []) F5 (lp f55 0) := Af 3 (ls := MP) rfl
theorem P3 : WO IX := S1 Y8 func55 (Kb PZ Ya)
abbrev Q6 : Ab := .nw (.p (.sl Cu) Si) Me (fun x => Im x.1 x.2.1)
abbrev TW : WF := (29, Q6) :: IX
theorem M2 : WO TW := S1 (L := []) (m := []) (v := []) (l := []) P3 func29 Ya
abbrev S7 : Ab := .bx true false Me .u Si [true] (fun x0 x => Uh x0)
abbrev JX : WF := (57, S7) :: TW
theorem R3 : WO JX := EB (L := []) (m := []) (v := []) (l := []) M2 func57 Ya
abbrev W6 : Ab := .bx true false Me Si Si [true] (fun x0 x => Wa x0 x.1)
abbrev XW : WF := (35, W6) :: JX
theorem T2 : WO XW := EB (L := []) (m := []) (v := []) (l := []) R3 func35 Ya
abbrev I8 : Ab := .bx true false Me Si Lg [true] (fun x0 x => Hm x0 x.1)
abbrev WX : WF := (73, I8) :: XW
theorem I4 : WO WX := EB (L := []) (m := []) (v := []) (l := []) T2 func73 Ya
abbrev H8 : Ab := .bx true false Me Si Wv [true] (fun x0 x => Xr x0 x.1)
abbrev IL : WF := (72, H8) :: WX
theorem H4 : WO IL := EB (L := []) (m := []) (v := []) (l := []) I4 func72 Ya
abbrev O7 : Ab := .bx true false Me Si (.p Ib .u) [true] (fun x0 x => Yr x0 x.1)
abbrev HX : WF := (53, O7) :: IL
def LP : Eb := ⟨48, ⟨[(0, (.ptr 500000 [])), (1, Ob), (4, (.ptr 4 [])), (5, Ob), (6, (.ptr 6 [])), (7, Ob), (8, (.own 200101 Sc true)), (9, Ob)], [(500000, Me, (.data Me)), (4, Ib, (.pr Ob (.pr (.own 200102 Fq true) .un))), (6, Ib, (.pr Ob (.pr (.own 200103 Fq true) .un)))]⟩, 2, ⟨[(0, (.ptr 500000 [])), (1, Ob), (4, (.ptr 4 [])), (5, Ob), (6, (.ptr 6 [])), (7, Ob), (8, (.own 200101 Sc true))], [(500000, Me, (.data Me)), (4, Ib, (.pr Ob (.pr (.own 200102 Fq true) .un))), (6, Ib, (.pr Ob (.pr (.own 200103 Fq true) .un)))]⟩, ⟨[], []⟩, Xn⟩
def KP : Eb := ⟨48, ⟨[(0, (.ptr 500000 [])), (1, Ob), (4, (.ptr 4 [])), (5, Ob), (6, (.ptr 6 [])), (7, Ob)], [(500000, Me, (.data Me)), (4, Ib, BK), (6, Ib, (.pr Ob (.pr (.own 200002 Fq true) .un)))]⟩, 0, ⟨[(0, (.ptr 500000 [])), (4, (.ptr 4 [])), (6, (.ptr 6 []))], [(500000, Me, (.data Me)), (4, Ib, BK), (6, Ib, (.pr Ob (.pr (.own 200002 Fq true) .un)))]⟩, ⟨[], []⟩, Wn⟩
def EY : WL := [(8, LP), (4, KP)]
theorem OZ : Qb (WG false IL [] [] []) EY (lp f53 1) := Af 8 (ls := LP) rfl
theorem NZ : Qb (WG false IL [] [] []) EY (lp f53 0) := Af 4 (ls := KP) rfl
theorem N3 : WO HX := EB H4 func53 (Kb OZ (Kb NZ Ya))
abbrev P7 : Ab := .bx true true Me (.p Hn .u) Si [true] (fun x0 x => Tk x0 x.1)
abbrev HR : WF := (54, P7) :: HX
theorem O3 : WO HR := EB (L := []) (m := []) (v := []) (l := []) N3 func54 Ya
abbrev P6 : Ab := .bx true false Me Si (.p Ib .u) [true] (fun x0 x => Sq x0 x.1)
abbrev SW : WF := (28, P6) :: HR
def VO : Eb := ⟨49, ⟨[(0, (.ptr 500000 [])), (1, Ob), (4, (.ptr 4 [])), (5, (.ptr 5 [])), (6, Ob)], [(500000, Me, (.data Me)), (4, Ib, UN), (5, Ib, BK)]⟩, 0, ⟨[(0, (.ptr 500000 [])), (4, (.ptr 4 [])), (5, (.ptr 5 []))], [(500000, Me, (.data Me)), (4, Ib, UN), (5, Ib, BK)]⟩, ⟨[], []⟩, Om⟩
def W4 : WL := [(3, VO)]
theorem AZ : Qb (WG false HR [(8998, 200001), (4999, 200001)] [] []) W4 (lp f28 0) := Af 3 (ls := VO) rfl
theorem L2 : WO SW := EB O3 func28 (Kb AZ Ya)
abbrev F9 : Ab := .pu Me (.p Ib .u) [true] (fun x => Fj x.1 x.2.1 x.2.2.1)
abbrev UX : WF := (7, F9) :: SW
theorem Z8 : WO UX := Qf L2 func7
abbrev R6 : Ab := .pu (.p Ib .u) (.p Ib .u) [true] (fun x => Zi x.1)
abbrev YQ : WF := (30, R6) :: UX
def XO : Eb := ⟨25, ⟨[(2, (.ptr 2 [])), (3, (.ptr 3 [])), (10, (.data (.sl Fq))), (11, Ob), (12, Ob)], [(2, Ib, UN), (3, Ib, BK)]⟩, 0, ⟨[(2, (.ptr 2 [])), (3, (.ptr 3 []))], [(2, Ib, UN), (3, Ib, BK)]⟩, ⟨[], []⟩, Ij⟩
def X4 : WL := [(3, XO)]
theorem BZ : Qb (WG true UX [] [] []) X4 (lp f30 0) := Af 3 (ls := XO) rfl
theorem N2 : WO YQ := Vk Z8 func30 (Kb BZ Ya)
abbrev U6 : Ab := .pu (.p (.sl (.sl Oc)) .u) (.p (.sl (.sl Oc)) .u) [true] (fun x => Aj x.1)
abbrev VW : WF := (33, U6) :: YQ
def AP : Eb := ⟨19, ⟨[(3, (.own 200001 (.sl Oc) true)), (6, (.data (.sl (.sl Oc)))), (7, Ob), (8, Ob)], []⟩, 0, ⟨[(3, (.own 200001 (.sl Oc) true))], []⟩, ⟨[], []⟩, Jj⟩
def Y4 : WL := [(3, AP)]
theorem EZ : Qb (WG true YQ [] [] []) Y4 (lp f33 0) := Af 3 (ls := AP) rfl
theorem R2 : WO VW := Vk N2 func33 (Kb EZ Ya)
abbrev B8 : Ab := .pu Si Lg [true] (fun x => Fm x.1)
abbrev QX : WF := (66, B8) :: VW
theorem A4 : WO QX := Qf R2 func66
abbrev C8 : Ab := .pu Si Lg [true] (fun x => Kj x.1)
abbrev RX : WF := (67, C8) :: QX
theorem B4 : WO RX := Qf A4 func67
abbrev D8 : Ab := .pu Si Lg [true] (fun x => Lk x.1)
abbrev SX : WF := (68, D8) :: RX
theorem C4 : WO SX := Qf B4 func68
abbrev G7 : Ab := .pu Wv Lg [true] (fun x => Mg x.1)
abbrev GL : WF := (45, G7) :: SX
theorem D3 : WO GL := Qf C4 func45
abbrev S6 : Ab := .pu (.p Ib .u) Lg [true] (fun x => Am x.1)
abbrev UW : WF := (31, S6) :: GL
def ZO : Eb := ⟨73, ⟨[(1, (.ptr 1 [])), (3, Ob), (28, (.data (.sl Fq))), (29, Ob), (30, Ob), (40, (.data Fq)), (41, Ob), (42, Ob)], [(1, Ib, Xv)]⟩, 2, ⟨[(1, (.ptr 1 [])), (28, (.data (.sl Fq))), (29, Ob), (30, Ob)], [(1, Ib, Xv)]⟩, ⟨[(2, No)], []⟩, Lh⟩
def YO : Eb := ⟨73, ⟨[(1, (.ptr 1 [])), (28, (.data (.sl Fq))), (29, Ob), (30, Ob)], [(1, Ib, Xv)]⟩, 0, ⟨[], []⟩, ⟨[(2, No)], []⟩, Kh⟩
def CY : WL := [(9, ZO), (4, YO)]
theorem DZ : Qb (WG true GL [] [] []) CY (lp f31 1) := Af 9 (ls := ZO) rfl
theorem CZ : Qb (WG true GL [] [] []) CY (lp f31 0) := Af 4 (ls := YO) rfl
theorem P2 : WO UW := Vk D3 func31 (Kb DZ (Kb CZ Ya))
abbrev T6 : Ab := .pu Ge Si [true] (fun x => Hl x.1 x.2.1)
abbrev ZQ : WF := (32, T6) :: UW
theorem Q2 : WO ZQ := Qf P2 func32
abbrev B7 : Ab := .pu (.p Mo .u) Lg [true] (fun x => Vg x.1)
abbrev CR : WF := (40, B7) :: ZQ
def EP : Eb := ⟨46, ⟨[(3, Ob), (6, (.data Mo)), (7, Ob), (8, Ob)], []⟩, 0, ⟨[], []⟩, ⟨[(2, No)], []⟩, Nn⟩
def B5 : WL := [(3, EP)]
theorem IZ : Qb (WG true ZQ [] [] []) B5 (lp f40 0) := Af 3 (ls := EP) rfl
theorem Y2 : WO CR := Vk Q2 func40 (Kb IZ Ya)
abbrev J8 : Ab := .pu (.p (.sl Ge) (.p Ge .u)) Si [true] (fun x => Xo x.1 x.2.1)
abbrev NR : WF := (74, J8) :: CR
def TP : Eb := ⟨19, ⟨[(3, (.ptr 3 [])), (7, (.data (.sl Ge))), (8, Ob), (9, Ob)], [(3, Ge, (.data Ge))]⟩, 0, ⟨[], []⟩, ⟨[(4, Ob)], []⟩, Sn⟩
def N5 : WL := [(2, TP)]
theorem WZ : Qb (WG true CR [] [] []) N5 (lp f74 0) := Af 2 (ls := TP) rfl
theorem J4 : WO NR := Vk Y2 func74 (Kb WZ Ya)
abbrev R7 : Ab := .pu (.p (.sl Oc) .u) Lg [true] (fun x => On x.1)
abbrev HL : WF := (56, R7) :: NR
def NP : Eb := ⟨62, ⟨[(3, (.own 200001 Ge true)), (11, (.data (.sl Oc))), (12, Ob), (13, Ob)], []⟩, 0, ⟨[(3, (.own 200001 Ge true))], []⟩, ⟨[(2, No)], []⟩, Lm⟩
def G5 : WL := [(5, NP)]
theorem QZ : Qb (WG true NR [] [] []) G5 (lp f56 0) := Af 5 (ls := NP) rfl
theorem Q3 : WO HL := Vk J4 func56 (Kb QZ Ya)
abbrev V6 : Ab := .pu (.p Kc .u) Lg [true] (fun x => Ch x.1)
abbrev WW : WF := (34, V6) :: HL
def BP : Eb := ⟨92, ⟨[(1, (.ptr 1 [])), (35, (.data (.sl (.sl Oc)))), (36, Ob), (37, Ob)], [(1, Kc, (.data Kc))]⟩, 0, ⟨[(1, (.ptr 1 []))], [(1, Kc, (.data Kc))]⟩, ⟨[(2, No)], []⟩, Jh⟩
def JK : Eb := ⟨92, ⟨[(1, (.ptr 1 [])), (5, Ob), (50, (.data Mo)), (51, Ob), (52, Ob)], [(1, Kc, (.data Kc))]⟩, 2, ⟨[(1, (.ptr 1 [])), (5, Ob)], [(1, Kc, (.data Kc))]⟩, ⟨[(2, No)], []⟩, Zg⟩
def DY : WL := [(4, BP), (11, JK)]
theorem FZ : Qb (WG true HL [] [] []) DY (lp f34 0) := Af 4 (ls := BP) rfl
theorem LV : Qb (WG true HL [] [] []) DY (lp f34 1) := Af 11 (ls := JK) rfl
theorem S2 : WO WW := Vk Q3 func34 (Kb LV (Kb FZ Ya))
abbrev Z5 : Ab := .pu (.p Ib (.p (.sl (.sl Oc)) .u)) (.p Kc Lg) [true, true] (fun x => Eo x.1 x.2.1)
abbrev IW : WF := (10, Z5) :: WW
theorem T1 : WO IW := Qf S2 func10
abbrev C7 : Ab := .bx true false Me .u (.p Oc .u) [true] (fun x0 x => Ir x0)
abbrev AX : WF := (41, C7) :: IW
theorem Z2 : WO AX := EB (L := []) (m := []) (v := []) (l := []) T1 func41 Ya
abbrev G6 : Ab := .pu (.p (.sl Cu) .u) (.p Oc .u) [true] (fun x => Cn x.1)
abbrev LW : WF := (18, G6) :: AX
theorem A2 : WO LW := Qf Z2 func18
abbrev D7 : Ab := .pu (.p Kc .u) (.p Kc .u) [true] (fun x => Fg x.1)
abbrev BX : WF := (42, D7) :: LW
theorem A3 : WO BX := Qf A2 func42
abbrev A8 : Ab := .pu (.p Oc .u) Lg [true] (fun x => Bm x.1)
abbrev KR : WF := (65, A8) :: BX
theorem Z3 : WO KR := Qf A3 func65
abbrev L7 : Ab := .pu (.p Mo .u) Si [true] (fun x => Pi x.1)
abbrev GX : WF := (50, L7) :: KR
def IP : Eb := ⟨19, ⟨[(3, Ob), (6, (.data Mo)), (7, Ob), (8, Ob)], []⟩, 0, ⟨[(3, Ob)], []⟩, ⟨[], []⟩, Jl⟩
def D5 : WL := [(3, IP)]
theorem LZ : Qb (WG true KR [] [] []) D5 (lp f50 0) := Af 3 (ls := IP) rfl
theorem J3 : WO GX := Vk Z3 func50 (Kb LZ Ya)
abbrev N8 : Ab := .pu (.p Bp .u) Lg [true] (fun x => Mn x.1)
abbrev QR : WF := (79, N8) :: GX
theorem N4 : WO QR := Qf J3 func79
abbrev F8 : Ab := .pu (.p Ys Si) (.p int Lg) [true, true] (fun x => Ur x.1 x.2.1)
abbrev LR : WF := (70, F8) :: QR
def RP : Eb := ⟨53, ⟨[(0, (.data Ys)), (1, Ob), (11, (.data Ys)), (12, Ob), (13, Ob)], []⟩, 0, ⟨[(1, Ob)], []⟩, ⟨[(4, Ob), (5, No)], []⟩, Pn⟩
def K5 : WL := [(4, RP)]
theorem UZ : Qb (WG true QR [] [] []) K5 (lp f70 0) := Af 4 (ls := RP) rfl
theorem E4 : WO LR := Vk N4 func70 (Kb UZ Ya)
abbrev K7 : Ab := .pu (.p Ys Ge) Lg [true] (fun x => Xh x.1 x.2.1 x.2.2.1)
abbrev FX : WF := (49, K7) :: LR
def GP : Eb := ⟨29, ⟨[(0, (.data Ys)), (1, Ob), (2, Ob), (11, (.data Ys)), (12, Ob), (13, Ob)], []⟩, 0, ⟨[(0, (.data Ys)), (1, Ob)], []⟩, ⟨[(6, No)], []⟩, Mk⟩
def C5 : WL := [(2, GP)]
theorem JZ : Qb (WG true LR [] [] []) C5 (lp f49 0) := Af 2 (ls := GP) rfl
theorem I3 : WO FX := Vk E4 func49 (Kb JZ Ya)
abbrev I7 : Ab := .pu (.p Ys Si) Lg [true] (fun x => Wh x.1 x.2.1)
abbrev EX : WF := (47, I7) :: FX
theorem G3 : WO EX := Qf I3 func47
abbrev E7 : Ab := .pu (.p Gd .u) Lg [true] (fun x => Vh x.1)
abbrev CX : WF := (43, E7) :: EX
theorem B3 : WO CX := Qf G3 func43
abbrev H6 : Ab := .pu (.p Kc (.p Oc .u)) (.p Gd Lg) [true, true] (fun x => Tm x.1 x.2.1)
abbrev MW : WF := (19, H6) :: CX
theorem B2 : WO MW := Qf B3 func19
abbrev B6 : Ab := .pu Me Si [true] (fun x => Bn x.1 x.2.1 x.2.2.1)
abbrev UQ : WF := (12, B6) :: MW
theorem V1 : WO UQ := Qf B2 func12
abbrev T7 : Ab := .pu (.p Ib Ge) Si [true] (fun x => Rn x.1 x.2.1 x.2.2.1)
abbrev KX : WF := (58, T7) :: UQ
def OP : Eb := ⟨33, ⟨[(1, Ob), (2, Ob), (3, (.ptr 3 [])), (7, Ob)], [(3, Ib, Xv)]⟩, 0, ⟨[], []⟩, ⟨[(6, Ob)], []⟩, Mf⟩
def H5 : WL := [(2, OP)]
theorem RZ : Qb (WG true UQ [] [] []) H5 (lp f58 0) := Af 2 (ls := OP) rfl
theorem S3 : WO KX := Vk V1 func58 (Kb RZ Ya)
abbrev F7 : Ab := .pu (.p Ib Ge) Si [true] (fun x => Ku x.1 x.2.1 x.2.2.1)
abbrev DX : WF := (44, F7) :: KX
theorem C3 : WO DX := Qf S3 func44
abbrev I6 : Ab := .pu (.p Ib Ge) Wv [true] (fun x => Yl x.1 x.2.1 x.2.2.1)
abbrev NW : WF := (20, I6) :: DX
theorem C2 : WO NW := Qf C3 func20
abbrev J7 : Ab := .pu (.p Gd .u) (.p Gd .u) [true] (fun x => Gi x.1)
abbrev ER : WF := (48, J7) :: NW
theorem H3 : WO ER := Qf C2 func48
abbrev X6 : Ab := .pu (.p Kc Si) Si [true] (fun x => Wo x.1 x.2.1)
abbrev YW : WF := (36, X6) :: ER
def CP : Eb := ⟨21, ⟨[(1, Ob), (8, (.data Mo)), (9, Ob), (10, Ob)], []⟩, 0, ⟨[], []⟩, ⟨[(4, Ob)], []⟩, Ln⟩
def Z4 : WL := [(2, CP)]
theorem GZ : Qb (WG true ER [] [] []) Z4 (lp f36 0) := Af 2 (ls := CP) rfl
theorem U2 : WO YW := Vk H3 func36 (Kb GZ Ya)
abbrev E8 : Ab := .pu (.p Hn .u) (.p Hn .u) [true] (fun x => Oi x.1)
abbrev TX : WF := (69, E8) :: YW
theorem D4 : WO TX := Qf U2 func69
abbrev O8 : Ab := .io Hn .u .u [] (fun x0 _ => sort_Ints x0)
abbrev RR : WF := (80, O8) :: TX
end
end KF
namespace Go.Proofs
open Go.Shelf
def Try.lays_sort_Ints_ren : Go.Shelf.Ren := ⟨fun | 191 => 80 | 189 => 83 | 125 => 85 | 257 => 84 | 128 => 95 | 129 => 96 | 294 => 86 | 295 => 87 | 296 => 88 | 297 => 89 | 298 => 90 | 299 => 91 | 216 => 92 | 300 => 93 | 301 => 94 | 328 => 97 | 329 => 98 | 330 => 99 | 331 => 100 | 332 => 101 | 215 => 102 | 343 => 103 | n => n, fun | 28 => 63 | 0 => 0 | 3 => 3 | 46 => 130 | 51 => 147 | 53 => 149 | 4 => 4 | 183 => 140 | 182 => 139 | 131 => 117 | 5 => 5 | 9 => 9 | 218 => 150 | 222 => 154 | 228 => 156 | 229 => 120 | n => n, fun | n => n⟩
theorem Try.lays_sort_Ints : Go.Proofs.Lays.n191 Try.prog Try.lays_sort_Ints_ren := {
 mixed := by kernel_rfl
 f125 := Try.func85.trans (congrArg some (by kernel_rfl))
 f128 := Try.func95.trans (congrArg some (by kernel_rfl))
 f129 := Try.func96.trans (congrArg some (by kernel_rfl))
 f189 := Try.func83.trans (congrArg some (by kernel_rfl))
 f191 := Try.func80.trans (congrArg some (by kernel_rfl))
 f215 := Try.func102.trans (congrArg some (by kernel_rfl))
 f216 := Try.func92.trans (congrArg some (by kernel_rfl))
 f257 := Try.func84.trans (congrArg some (by kernel_rfl))
 f294 := Try.func86.trans (congrArg some (by kernel_rfl))
 f295 := Try.func87.trans (congrArg some (by kernel_rfl))
 f296 := Try.func88.trans (congrArg some (by kernel_rfl))
 f297 := Try.func89.trans (congrArg some (by kernel_rfl))
 f298 := Try.func90.trans (congrArg some (by kernel_rfl))
 f299 := Try.func91.trans (congrArg some (by kernel_rfl))
 f300 := Try.func93.trans (congrArg some (by kernel_rfl))
 f301 := Try.func94.trans (congrArg some (by kernel_rfl))
 f328 := Try.func97.trans (congrArg some (by kernel_rfl))
 f329 := Try.func98.trans (congrArg some (by kernel_rfl))
 f330 := Try.func99.trans (congrArg some (by kernel_rfl))
 f331 := Try.func100.trans (congrArg some (by kernel_rfl))
 f332 := Try.func101.trans (congrArg some (by kernel_rfl))
 f343 := Try.func103.trans (congrArg some (by kernel_rfl))
 t0 := Try.underlying0
 a0 := Try.isAgg0
 z0 := Try.sizeOf0
 v0 := Try.zeroValue0
 t3 := Try.underlying3
 a3 := Try.isAgg3
 z3 := Try.sizeOf3
 v3 := Try.zeroValue3
 t4 := Try.underlying4
 a4 := Try.isAgg4
 z4 := Try.sizeOf4
 v4 := Try.zeroValue4
 t5 := Try.underlying5
 a5 := Try.isAgg5
 z5 := Try.sizeOf5
 v5 := Try.zeroValue5
 t9 := Try.underlying9
 a9 := Try.isAgg9
 z9 := Try.sizeOf9
 v9 := Try.zeroValue9
 t28 := Try.underlying63
 a28 := Try.isAgg63
 z28 := Try.sizeOf63
 v28 := Try.zeroValue63
 t46 := Try.underlying130
 a46 := Try.isAgg130
 z46 := Try.sizeOf130
 v46 := Try.zeroValue130
 t51 := Try.underlying147
 a51 := Try.isAgg147
 z51 := Try.sizeOf147
 v51 := Try.zeroValue147
 t53 := Try.underlying149
 a53 := Try.isAgg149
 z53 := Try.sizeOf149
 v53 := Try.zeroValue149
 t131 := Try.underlying117
 a131 := Try.isAgg117
 z131 := Try.sizeOf117
 v131 := Try.zeroValue117
 t182 := Try.underlying139
 a182 := Try.isAgg139
 z182 := Try.sizeOf139
 v182 := Try.zeroValue139
 t183 := Try.underlying140
 a183 := Try.isAgg140
 z183 := Try.sizeOf140
 v183 := Try.zeroValue140
 t218 := Try.underlying150
 a218 := Try.isAgg150
 z218 := Try.sizeOf150
 v218 := Try.zeroValue150
 t222 := Try.underlying154
 a222 := Try.isAgg154
 z222 := Try.sizeOf154
 v222 := Try.zeroValue154
 t228 := Try.underlying156
 a228 := Try.isAgg156
 z228 := Try.sizeOf156
 v228 := Try.zeroValue156
 t229 := Try.underlying120
 a229 := Try.isAgg120
 z229 := Try.sizeOf120
 v229 := Try.zeroValue120 }
end Go.Proofs
namespace KF
open Go Go.Proofs Go.Proofs.Try
noncomputable section
theorem O4 : WO RR := wc D4 (HN Try.lays_sort_Ints (by kernel_rfl))
abbrev P8 : Ab := .pu (.p Hn Si) Lg [true] (fun x => Vr x.1 x.2.1)
abbrev TR : WF := (81, P8) :: RR
def XP : Eb := ⟨17, ⟨[(1, Ob), (7, (.data Hn)), (8, Ob), (9, Ob)], []⟩, 0, ⟨[], []⟩, ⟨[(4, No)], []⟩, Qn⟩
def Q5 : WL := [(2, XP)]
theorem ZZ : Qb (WG true RR [] [] []) Q5 (lp f81 0) := Af 2 (ls := XP) rfl
theorem P4 : WO TR := Vk O4 func81 (Kb ZZ Ya)
abbrev M8 : Ab := .pu (.p Hn .u) (.p Hn .u) [true] (fun x => Kk x.1)
abbrev PR : WF := (77, M8) :: TR
def VP : Eb := ⟨31, ⟨[(4, PE), (11, (.own 200002 int true)), (12, Ob), (13, Ob)], []⟩, 0, ⟨[(4, PE)], []⟩, ⟨[], []⟩, Mm⟩
def P5 : WL := [(5, VP)]
theorem YZ : Qb (WG true TR [] [] []) P5 (lp f77 0) := Af 5 (ls := VP) rfl
theorem M4 : WO PR := Vk P4 func77 (Kb YZ Ya)
abbrev Y7 : Ab := .pu (.p Mo .u) (.p Tc .u) [true] (fun x => Bc x.1)
abbrev JR : WF := (63, Y7) :: PR
def QP : Eb := ⟨45, ⟨[(2, (.ptr 2 [])), (3, (.ptr 3 [])), (4, PE), (11, (.data Mo)), (12, Ob), (13, Ob)], [(2, Tc, LF), (3, Tc, LF)]⟩, 0, ⟨[(2, (.ptr 2 [])), (3, (.ptr 3 [])), (4, PE)], [(2, Tc, LF), (3, Tc, LF)]⟩, ⟨[], []⟩, Fl⟩
def J5 : WL := [(6, QP)]
theorem TZ : Qb (WG true PR [] [] []) J5 (lp f63 0) := Af 6 (ls := QP) rfl
theorem X3 : WO JR := Vk M4 func63 (Kb TZ Ya)
abbrev Q8 : Ab := .pu (.p Hn (.p Hn .u)) Lg [true] (fun x => Gp x.1 x.2.1)
abbrev ZX : WF := (82, Q8) :: JR
def YP : Eb := ⟨26, ⟨[(0, (.data Hn)), (1, (.data Hn)), (12, Ob), (13, Ob)], []⟩, 0, ⟨[], []⟩, ⟨[(4, No)], []⟩, Kl⟩
def R5 : WL := [(4, YP)]
theorem A0 : Qb (WG true JR [] [] []) R5 (lp f82 0) := Af 4 (ls := YP) rfl
theorem Q4 : WO ZX := Vk X3 func82 (Kb A0 Ya)
abbrev P0 : Ab := .pu (.p Tc (.p Tc .u)) Lg [true] (fun x => Xi x.1 x.2.1)
abbrev YX : WF := (78, P0) :: ZX
theorem HW : WO YX := Qf Q4 func78
abbrev Z7 : Ab := .co (.p Tc NF) NF [true] (fun x => Wc x.1 x.2.1)
abbrev PX : WF := (64, Z7) :: YX
def M1 : List (Nat × Ty) := [(3, int), (38, (.sl RA)), (65, RA)]
theorem AY : ((M1.all fun x => Xc Try.prog x.2 x.1) && (([] : List (Nat × Ty × Nat)).all fun x => LB Try.prog x.1 x.2.1 x.2.2)) = true := by kernel_rfl
@[reducible] def YR (c : T Qc → T Qc → Option Bool) : Ab := .pu (.p RA (.p (.sl RA) .u)) (.p (.sl RA) .u) [true] (fun x => DM c x.1 x.2.1)
def XN (c : T Qc → T Qc → Option Bool) : Nd := ⟨M1, [(78, EF c)], [], true, [], [], []⟩
theorem XR (I : Jf) (c : T Qc → T Qc → Option Bool) (h : Ag Try.prog I 78 (EF c)) : Pg Try.prog I (XN c) := Pg.cons h (SF AY)
def OF (c : T Qc → T Qc → Option Bool) : Eb := ⟨25, ⟨[(2, (.ptr 2 [])), (5, (.own 200001 RA true)), (8, (.data (.sl RA))), (9, Ob), (10, Ob)], [(2, RA, (.data RA))]⟩, 0, ⟨[(5, (.own 200001 RA true))], []⟩, ⟨[], []⟩, Em c⟩
def YN (c : T Qc → T Qc → Option Bool) : List (Nat × Eb) := [(3, OF c)]
theorem EM (c : T Qc → T Qc → Option Bool) : Qb (XN c) (YN c) (lp Try.f64 0) := BG (r := 3) (ls := OF c) (R := fun x => Zq c x.1.1 x.1.2.1 x.1.2.2.1 x.1.2.2.2.1 x.1.2.2.2.2.1 x.2.1) (by kernel_rfl) (by kernel_rfl) rfl (fun x => by kernel_rfl)
theorem ZR (I : Jf) (c : T Qc → T Qc → Option Bool) (h : Ag Try.prog I 78 (EF c)) : Ag Try.prog I 64 (YR c) := Pz (L := YN c) (k := 1) (XR I c h) GF Try.func64 (by kernel_rfl) (Kb (EM c) Ya) (fun x => by kernel_rfl)
theorem Y3 : WO PX := wc HW (KQ (f2 := 78) (SR := fun x => Xi x.1 x.2.1) (same := Mp) QT (W0 (s := P0) HW (by kernel_rfl)) (fun I c h => ⟨_, ZR I c h, CV c⟩))
abbrev Z6 : Ab := .pu (.p Kc Si) (.p Kc NF) [true, true] (fun x => Tn x.1 x.2.1)
abbrev AR : WF := (38, Z6) :: PX
theorem W2 : WO AR := Qf Y3 func38
abbrev F6 : Ab := .pu (.p int (.p Mo .u)) Si [true] (fun x => Cm x.1 x.2.1)
abbrev KW : WF := (17, F6) :: AR
def SO : Eb := ⟨39, ⟨[(5, Ob), (21, (.data Mo)), (22, Ob), (23, Ob)], []⟩, 0, ⟨[(5, Ob)], []⟩, ⟨[], []⟩, Eg⟩
def T4 : WL := [(7, SO)]
theorem XY : Qb (WG true AR [] [] []) T4 (lp f17 0) := Af 7 (ls := SO) rfl
theorem Z1 : WO KW := Vk W2 func17 (Kb XY Ya)
abbrev M6 : Ab := .pu Wv Lg [true] (fun x => Df x.1)
abbrev WQ : WF := (24, M6) :: KW
theorem I2 : WO WQ := Qf Z1 func24
abbrev G8 : Ab := .pu (.p Oc (.p int (.p int (.p Ys Si)))) Ge [true, true] (fun x => Zl x.1 x.2.1 x.2.2.1 x.2.2.2.1 x.2.2.2.2.1)
abbrev VX : WF := (71, G8) :: WQ
def SP : Eb := ⟨102, ⟨[(1, Ob), (2, Ob), (4, Ob), (5, (.ptr 5 [])), (12, Ob), (26, (.data Ys)), (27, Ob), (28, Ob)], [(5, Oc, (.data Oc))]⟩, 0, ⟨[(2, Ob), (4, Ob), (5, (.ptr 5 []))], [(5, Oc, (.data Oc))]⟩, ⟨[(10, Ob), (11, Ob)], []⟩, Cl⟩
def L5 : WL := [(5, SP)]
theorem VZ : Qb (WG true WQ [] [] []) L5 (lp f71 0) := Af 5 (ls := SP) rfl
theorem G4 : WO VX := Vk I2 func71 (Kb VZ Ya)
abbrev U7 : Ab := .pu Wv Wv [true] (fun x => Sr x.1)
abbrev LX : WF := (59, U7) :: VX
theorem T3 : WO LX := Qf G4 func59
abbrev V7 : Ab := .pu Wv Wv [true] (fun x => Kt x.1)
abbrev NX : WF := (60, V7) :: LX
theorem U3 : WO NX := Qf T3 func60
abbrev K8 : Ab := .pu Si Lg [true] (fun x => Sm x.1)
abbrev XX : WF := (75, K8) :: NX
theorem K4 : WO XX := Qf U3 func75
abbrev W7 : Ab := .bx false false Kc Wv Wv [true] (fun x0 x => Lj x0 x.1)
abbrev IR : WF := (61, W7) :: XX
theorem V3 : WO IR := EB (L := []) (m := []) (v := []) (l := []) K4 func61 Ya
abbrev L8 : Ab := .pu (.p Tc (.p (.sl Ge) .u)) (.p Tc .u) [true] (fun x => Kd x.1 x.2.1)
abbrev OR : WF := (76, L8) :: IR
def UP : Eb := ⟨37, ⟨[(4, (.ptr 4 [])), (5, (.ptr 5 [])), (6, PE), (15, (.data (.sl Ge))), (16, Ob), (17, Ob)], [(4, Tc, LF), (5, Tc, LF)]⟩, 0, ⟨[(4, (.ptr 4 [])), (5, (.ptr 5 [])), (6, PE)], [(4, Tc, LF), (5, Tc, LF)]⟩, ⟨[], []⟩, Nk⟩
def O5 : WL := [(4, UP)]
theorem XZ : Qb (WG true IR [] [] []) O5 (lp f76 0) := Af 4 (ls := UP) rfl
theorem L4 : WO OR := Vk V3 func76 (Kb XZ Ya)
abbrev X7 : Ab := .pu (.p Mo (.p (.sl Oc) .u)) NF [true] (fun x => Jg x.1 x.2.1)
abbrev OX : WF := (62, X7) :: OR
def PP : Eb := ⟨74, ⟨[(5, (.ptr 5 [])), (6, OE), (7, (.own 200002 Ge true)), (22, (.data (.sl Oc))), (23, Ob), (24, Ob)], [(5, Tc, (.pr Ob (.pr (.own 200003 int true) .un)))]⟩, 0, ⟨[(6, OE)], []⟩, ⟨[], []⟩, Fi⟩
def I5 : WL := [(7, PP)]
theorem SZ : Qb (WG true OR [] [] []) I5 (lp f62 0) := Af 7 (ls := PP) rfl
theorem W3 : WO OX := Vk L4 func62 (Kb SZ Ya)
abbrev Y6 : Ab := .pu (.p Kc (.p int Lg)) (.p Kc NF) [true, true] (fun x => Te x.1 x.2.1 x.2.2.1)
abbrev ZW : WF := (37, Y6) :: OX
theorem V2 : WO ZW := Qf W3 func37
abbrev M7 : Ab := .bx false false Gd .u (.p (.sl Tc) Lg) [true, true] (fun x0 x => Cf x0)
abbrev FR : WF := (51, M7) :: ZW
theorem K3 : WO FR := EB (L := []) (m := []) (v := []) (l := []) V2 func51 Ya
abbrev N7 : Ab := .co (.p (.sl Uf) (.p int NF)) (.p (.sl Uf) .u) [true] (fun x => Ms x.1 x.2.1 x.2.2.1)
abbrev GR : WF := (52, N7) :: FR
def JP : Eb := ⟨23, ⟨[(0, (.own 200001 Uf true)), (1, Ob), (9, (.mov 200002 Tc)), (10, Ob), (11, Ob)], []⟩, 0, ⟨[(0, (.own 200001 Uf true))], []⟩, ⟨[], []⟩, Tp⟩
def E5 : WL := [(2, JP)]
theorem MZ : Qb (WG false FR [] [] [14]) E5 (lp f52 0) := Af 2 (ls := JP) rfl
theorem L3 : WO GR := H9 K3 func52 (Kb MZ Ya)
abbrev O6 : Ab := .pu (.p Gd (.p Ys Si)) (.p Gd (.p (.sl Uf) Lg)) [true, true, true] (fun x => Vi x.1 x.2.1 x.2.2.1)
abbrev RW : WF := (26, O6) :: GR
def UO : Eb := ⟨86, ⟨[(6, (.ptr 6 [])), (9, (.ptr 9 [])), (10, (.own 200001 Uf true))], [(6, Gd, O1), (9, Gd, N1)]⟩, 0, ⟨[(6, (.ptr 6 [])), (9, (.ptr 9 [])), (10, (.own 200001 Uf true))], [(6, Gd, O1), (9, Gd, N1)]⟩, ⟨[], []⟩, Wd⟩
def V4 : WL := [(9, UO)]
theorem ZY : Qb (WG true GR [] [] []) V4 (lp f26 0) := Af 9 (ls := UO) rfl
theorem K2 : WO RW := Vk L3 func26 (Kb ZY Ya)
abbrev J6 : Ab := .pu (.p Gd (.p Bp .u)) (.p Gd (.p (.sl Uf) Lg)) [true, true, true] (fun x => Bo x.1 x.2.1)
abbrev OW : WF := (21, J6) :: RW
theorem D2 : WO OW := Qf K2 func21
abbrev K6 : Ab := .pu (.p Gd Si) (.p Gd (.p (.sl Uf) Lg)) [true, true, true] (fun x => Ho x.1 x.2.1)
abbrev PW : WF := (22, K6) :: OW
theorem E2 : WO PW := Qf D2 func22
abbrev C6 : Ab := .pu (.p Kc (.p int Lg)) (.p Kc (.p (.sl Tc) Lg)) [true, true, true] (fun x => Jt x.1 x.2.1 x.2.2.1)
abbrev FL : WF := (13, C6) :: PW
theorem W1 : WO FL := Qf E2 func13
abbrev A6 : Ab := .pu (.p Ib (.p Ib .u)) Lg [true] (fun x => Mq x.1 x.2.1)
abbrev TQ : WF := (11, A6) :: FL
def NO : Eb := ⟨68, ⟨[(2, (.ptr 2 [])), (3, (.ptr 3 [])), (5, Ob), (6, Ob)], [(2, Ib, Xv), (3, Ib, Xv)]⟩, 2, ⟨[(2, (.ptr 2 [])), (3, (.ptr 3 [])), (5, Ob)], [(2, Ib, Xv), (3, Ib, Xv)]⟩, ⟨[(4, No)], []⟩, Ji⟩
def MO : Eb := ⟨68, ⟨[(2, (.ptr 2 [])), (3, (.ptr 3 [])), (5, Ob)], [(2, Ib, Xv), (3, Ib, Xv)]⟩, 0, ⟨[], []⟩, ⟨[(4, No)], []⟩, Nm⟩
def BY : WL := [(9, NO), (4, MO)]
theorem UY : Qb (WG true FL [] [] []) BY (lp f11 1) := Af 9 (ls := NO) rfl
theorem TY : Qb (WG true FL [] [] []) BY (lp f11 0) := Af 4 (ls := MO) rfl
theorem U1 : WO TQ := Vk W1 func11 (Kb UY (Kb TY Ya))
abbrev E6 : Ab := .pu (.p Mo (.p Mo .u)) Lg [true] (fun x => Ip x.1 x.2.1)
abbrev JW : WF := (16, E6) :: TQ
def QO : Eb := ⟨26, ⟨[(0, (.data Mo)), (1, (.data Mo)), (5, Ob)], []⟩, 0, ⟨[], []⟩, ⟨[(4, No)], []⟩, Ml⟩
def S4 : WL := [(4, QO)]
theorem WY : Qb (WG true TQ [] [] []) S4 (lp f16 0) := Af 4 (ls := QO) rfl
theorem Y1 : WO JW := Vk U1 func16 (Kb WY Ya)
abbrev L6 : Ab := .pu (.p Kc (.p Kc .u)) Lg [true] (fun x => Dj x.1 x.2.1)
abbrev QW : WF := (23, L6) :: JW
theorem H2 : WO QW := Qf Y1 func23
abbrev H7 : Ab := .pu (.p Tc .u) (.p Tc .u) [true] (fun x => Um x.1)
abbrev DR : WF := (46, H7) :: QW
theorem E3 : WO DR := Qf H2 func46
abbrev N6 : Ab := .pu (.p (.sl Uf) .u) NF [true] (fun x => Fo x.1)
abbrev XQ : WF := (25, N6) :: DR
def TO : Eb := ⟨20, ⟨[(3, OE), (6, (.data (.sl Uf))), (7, Ob), (8, Ob)], []⟩, 0, ⟨[(3, OE)], []⟩, ⟨[], []⟩, Jk⟩
def U4 : WL := [(3, TO)]
theorem YY : Qb (WG true DR [] [] []) U4 (lp f25 0) := Af 3 (ls := TO) rfl
theorem J2 : WO XQ := Vk E3 func25 (Kb YY Ya)
abbrev A7 : Ab := .pu (.p Hn (.p Hn .u)) Lg [true] (fun x => Jp x.1 x.2.1)
abbrev BR : WF := (39, A7) :: XQ
def DP : Eb := ⟨26, ⟨[(0, (.data Hn)), (1, (.data Hn)), (5, Ob)], []⟩, 0, ⟨[], []⟩, ⟨[(4, No)], []⟩, Nl⟩
def A5 : WL := [(4, DP)]
theorem HZ : Qb (WG true XQ [] [] []) A5 (lp f39 0) := Af 4 (ls := DP) rfl
theorem X2 : WO BR := Vk J2 func39 (Kb HZ Ya)
abbrev D6 : Ab := .pu (.p (.sl Tc) NF) Lg [true] (fun x => Ql x.1 x.2.1)
abbrev VQ : WF := (15, D6) :: BR
def PO : Eb := ⟨42, ⟨[(0, (.data (.sl Tc))), (1, (.data (.sl Tc))), (5, Ob)], []⟩, 0, ⟨[], []⟩, ⟨[(4, No)], []⟩, Li⟩
def R4 : WL := [(4, PO)]
theorem VY : Qb (WG true BR [] [] []) R4 (lp f15 0) := Af 4 (ls := PO) rfl
theorem X1 : WO VQ := Vk X2 func15 (Kb VY Ya)
abbrev Q1 : Ab := .pu (.p (.sl Cu) .u) Lg [true] (fun x => Ok x.1)
abbrev A9 : WF := (4, Q1) :: VQ
def HP : Eb := ⟨141, ⟨[(6, (.ptr 6 [])), (10, (.ptr 10 [])), (18, OE), (20, (.own 200002 Uf true)), (21, Ob)], [(6, Oc, (.data Oc)), (10, Sc, (.data Sc))]⟩, 0, ⟨[(18, OE), (20, (.own 200002 Uf true))], []⟩, ⟨[(2, No)], []⟩, Mh⟩
def B9 : WL := [(16, HP)]
theorem KZ : Qb (WG true VQ [] [] []) B9 (lp f4 0) := Af 16 (ls := HP) rfl
theorem X8 : WO A9 := Vk X1 func4 (Kb KZ Ya)
theorem CC : Ag Try.prog II 4 Q1 := W0 X8 (by kernel_rfl)
end
end KF
