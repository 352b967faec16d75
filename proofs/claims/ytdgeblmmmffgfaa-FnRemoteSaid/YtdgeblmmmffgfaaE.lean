/- An evaluator of Go functions on plain data, its soundness, and plain laws on what the functions compute, part 5 (conditions: as each lemma tells). -/
import Derived.Test.YtdgeblmmmffgfaaD
import Derived.Test.YtdgeblmmmffgfaaRows
set_option linter.unusedSimpArgs false
set_option linter.unusedVariables false
namespace KF
open Go Go.Proofs Go.Proofs.Try
def GT : List (Nat × Ty) := [(3, int), (4, .b), (5, Zf), (9, .s), (26, (.sl int)), (29, (.sl (.sl Hb))), (31, Oa), (40, (.sl Zf)), (56, (.sl Hb)), (57, (.sl (.sl Zf))), (90, Hb), (109, Gd)]
def GA : List (Nat × Ty × Nat) := []
theorem DR : ((GT.all fun x => Xb Try.prog x.2 x.1) && (GA.all fun x => Dz Try.prog x.1 x.2.1 x.2.2)) = true := by kernel_rfl
theorem TH : Try.prog.follows .mixedOrders = true := by kernel_rfl
noncomputable abbrev II : Bh := SR
noncomputable section
abbrev WP : Program := Try.prog
abbrev WF := List (Nat × Gc)
abbrev WL := List (Nat × Ub)
abbrev WG (z : Bool) (fs : WF) (m : List (Nat × Nat)) (v l : List Nat) : Zc := ⟨GT, fs, m, z, GA, v, l⟩
def WO (fs : WF) : Prop := ∀ z m v l, Ug WP II (WG z fs m v l)
theorem PV : WO [] := fun _ _ _ _ => EI DR
theorem wc {f : Nat} {s : Gc} {fs : WF} (e : WO fs) (h : Jm WP II f s) : WO ((f, s) :: fs) := fun z m v l => Ug.cons h (e z m v l)
theorem OV {f : Nat} {s : Gc} {fs : WF} (e : WO fs) (h : Ta fs f = some s) : Jm WP II f s := (e true [] [] []).fn f s h
theorem Xj {z : Bool} {fs : WF} {m : List (Nat × Nat)} {v l : List Nat} {L : WL} {fn : Func} {i : Nat} (r : Nat) {ls : Ub} {R : ls.inT.X → Option (ls.inT.X ⊕ (ls.outT.X ⊕ ls.retT.X))}
 (h3 : ls.F = Nc R) (h1 : Dg (lp fn i) = some r := by kernel_rfl) (h2 : (Ta L r) = some ls := by kernel_rfl) (h4 : ∀ x, Xq (WG z fs m v l) L ls (lp fn i) x = R x := by intro _; kernel_rfl) : Xc (WG z fs m v l) L (lp fn i) := GJ h1 h2 h3 h4
theorem Xn {f : Nat} {fn : Func} {pt rt : Ty} {fr : List Bool} {F : T pt → Option (T rt)} {fs : WF} (e : WO fs) (hf : WP.funcs[f]? = some fn)
 (hb : (fn.body.isSome && !(fn.name == "runtime.NumGoroutine") && Nat.ble pt.npar fn.ntmps && Nat.beq (Tc (fn.body.getD .skip)).length 0) = true := by kernel_rfl)
 (hF : ∀ x, FI (WG true fs [] [] []) [] fn pt rt fr x = F x := by intro _; kernel_rfl) : WO ((f, .pu pt rt fr F) :: fs) := wc e (CB (e _ _ _ _) TH hf hb Vb hF)
theorem Tu {k : Nat} {L : WL} {m : List (Nat × Nat)} {v l : List Nat} {f : Nat} {fn : Func} {pt rt : Ty} {fr : List Bool} {F : T pt → Option (T rt)} {fs : WF} (e : WO fs) (hf : WP.funcs[f]? = some fn) (hL : ∀ i, i < k → Xc (WG true fs m v l) L (lp fn i))
 (hb : (fn.body.isSome && !(fn.name == "runtime.NumGoroutine") && Nat.ble pt.npar fn.ntmps && Nat.beq (Tc (fn.body.getD .skip)).length k) = true := by kernel_rfl)
 (hF : ∀ x, FI (WG true fs m v l) L fn pt rt fr x = F x := by intro _; kernel_rfl) : WO ((f, .pu pt rt fr F) :: fs) := wc e (CB (e _ _ _ _) TH hf hb hL hF)
theorem Su {z : Bool} {k : Nat} {L : WL} {m : List (Nat × Nat)} {v l : List Nat} {f : Nat} {fn : Func} {vw cv : Bool} {τ pt rt : Ty} {fr : List Bool} {F : T τ → T pt → Option (T τ × T rt)} {fs : WF} (e : WO fs) (hf : WP.funcs[f]? = some fn) (hL : ∀ i, i < k → Xc (WG z fs m v l) L (lp fn i))
 (hb : (fn.body.isSome && !(fn.name == "runtime.NumGoroutine") && Nat.ble (pt.npar + 1) fn.ntmps && Nat.beq (Tc (fn.body.getD .skip)).length k) = true := by kernel_rfl)
 (hF : ∀ x0 x, XB (WG z fs m v l) L fn vw cv τ pt rt fr x0 x = F x0 x := by intro _ _; kernel_rfl) (hz : (!z || ((vw && !cv) && It m)) = true := by kernel_rfl) : WO ((f, .bx vw cv τ pt rt fr F) :: fs) := wc e (PJ (e _ _ _ _) hz TH hf hb hL hF)
theorem UR {k : Nat} {L : WL} {m : List (Nat × Nat)} {v l : List Nat} {f : Nat} {fn : Func} {pt τ : Ty} {F : T pt → Option (T τ)} {fs : WF} (e : WO fs) (hf : WP.funcs[f]? = some fn) (hL : ∀ i, i < k → Xc (WG true fs m v l) L (lp fn i))
 (hb : (fn.body.isSome && !(fn.name == "runtime.NumGoroutine") && Nat.ble pt.npar fn.ntmps && Nat.beq (Tc (fn.body.getD .skip)).length k) = true := by kernel_rfl)
 (hF : ∀ x, YB (WG true fs m v l) L fn pt τ x = F x := by intro _; kernel_rfl) : WO ((f, .nw pt τ F) :: fs) := wc e (QJ (e _ _ _ _) TH hf hb hL hF)
abbrev Oc : TD := .data int
abbrev Wt : TD := .pr Oc (.pr (.own 200001 (.sl Hb) true) .un)
abbrev DA : TD := .pr Oc (.pr (.own 200002 (.sl Hb) true) .un)
abbrev EA : TD := .data (.sl (.sl Hb))
abbrev Bn : Ty := .sl Zf
abbrev Fp : Ty := .p Bn .u
abbrev Mv : Ty := .p Oa .u
abbrev XE : TD := .pr Oc (.pr EA .un)
abbrev YE : TD := .own 200001 Zf true
abbrev Cq : Ty := .p .b .u
abbrev Co : Ty := .p int .u
abbrev Eo : TD := .ptr 4 []
abbrev Is : TD := .data Oa
abbrev Ez : TD := .own 200001 Bn true
abbrev Vt : TD := .ptr 500000 []
abbrev AU : Gc := .pu Fp Cq [true] (fun x => Mo x.1)
abbrev YJ : WF := (18, AU) :: ([] : WF)
theorem VR : WO YJ := Xn PV func18
abbrev TU : Gc := .nw Fp Gd (fun x => Tn x.1)
abbrev LO : WF := (55, TU) :: YJ
def ZI : Ub := ⟨32, ⟨[(0, (.data Bn)), (3, Oc), (4, Oc)], []⟩, 0, ⟨[(0, (.data Bn)), (3, Oc)], []⟩, ⟨[], []⟩, Xl⟩
def NT : WL := [(3, ZI)]
theorem HQ : Xc (WG true YJ [] [] []) NT (lp f55 0) := Xj 3 (ls := ZI) rfl
theorem OS : WO LO := UR VR func55 (Ad HQ Vb)
abbrev MU : Gc := .nw (.p Bn Co) Gd (fun x => Zo x.1 x.2.1)
abbrev GO : WF := (43, MU) :: LO
theorem IS : WO GO := UR (L := []) (m := []) (v := []) (l := []) OS func43 Vb
abbrev BV : Gc := .bx true false Gd .u Co [true] (fun x0 x => Qd x0)
abbrev RO : WF := (70, BV) :: GO
theorem WS : WO RO := Su (L := []) (m := []) (v := []) (l := []) (z := false) IS func70 Vb
abbrev NU : Gc := .bx true false Gd Co Co [true] (fun x0 x => Na x0 x.1)
abbrev HO : WF := (44, NU) :: RO
theorem JS : WO HO := Su (L := []) (m := []) (v := []) (l := []) (z := false) WS func44 Vb
abbrev GV : Gc := .bx true false Gd Co Cq [true] (fun x0 x => Pe x0 x.1)
abbrev VO : WF := (82, GV) :: HO
theorem BT : WO VO := Su (L := []) (m := []) (v := []) (l := []) (z := false) JS func82 Vb
abbrev LV : Gc := .bx true false Gd Co (.p Hb .u) [true] (fun x0 x => Fm x0 x.1)
abbrev FG : WF := (90, LV) :: VO
theorem HT : WO FG := Su (L := []) (m := []) (v := []) (l := []) (z := false) BT func90 Vb
abbrev ZU : Gc := .bx true false Gd Co Mv [true] (fun x0 x => Gm x0 x.1)
abbrev QO : WF := (68, ZU) :: FG
def BJ : Ub := ⟨48, ⟨[(0, Vt), (1, Oc), (4, Eo), (5, Oc), (6, (.ptr 6 [])), (7, Oc), (8, (.own 200101 Hb true)), (9, Oc)], [(500000, Gd, (.data Gd)), (4, Oa, (.pr Oc (.pr (.own 200102 (.sl Hb) true) .un))), (6, Oa, (.pr Oc (.pr (.own 200103 (.sl Hb) true) .un)))]⟩, 2, ⟨[(0, Vt), (1, Oc), (4, Eo), (5, Oc), (6, (.ptr 6 [])), (7, Oc), (8, (.own 200101 Hb true))], [(500000, Gd, (.data Gd)), (4, Oa, (.pr Oc (.pr (.own 200102 (.sl Hb) true) .un))), (6, Oa, (.pr Oc (.pr (.own 200103 (.sl Hb) true) .un)))]⟩, ⟨[], []⟩, Dl⟩
def AJ : Ub := ⟨48, ⟨[(0, Vt), (1, Oc), (4, Eo), (5, Oc), (6, (.ptr 6 [])), (7, Oc)], [(500000, Gd, (.data Gd)), (4, Oa, Wt), (6, Oa, DA)]⟩, 0, ⟨[(0, Vt), (4, Eo), (6, (.ptr 6 []))], [(500000, Gd, (.data Gd)), (4, Oa, Wt), (6, Oa, DA)]⟩, ⟨[], []⟩, Cl⟩
def GP : WL := [(8, BJ), (4, AJ)]
theorem JQ : Xc (WG false FG [] [] []) GP (lp f68 1) := Xj 8 (ls := BJ) rfl
theorem IQ : Xc (WG false FG [] [] []) GP (lp f68 0) := Xj 4 (ls := AJ) rfl
theorem US : WO QO := Su HT func68 (Ad JQ (Ad IQ Vb))
abbrev AV : Gc := .bx true true Gd (.p (.sl int) .u) Co [true] (fun x0 x => Jf x0 x.1)
abbrev FK : WF := (69, AV) :: QO
theorem VS : WO FK := Su (L := []) (m := []) (v := []) (l := []) (z := false) US func69 Vb
abbrev LU : Gc := .bx true false Gd Co Mv [true] (fun x0 x => Qn x0 x.1)
abbrev FO : WF := (42, LU) :: FK
def WI : Ub := ⟨49, ⟨[(0, Vt), (1, Oc), (4, Eo), (5, (.ptr 5 [])), (6, Oc)], [(500000, Gd, (.data Gd)), (4, Oa, XE), (5, Oa, Wt)]⟩, 0, ⟨[(0, Vt), (4, Eo), (5, (.ptr 5 []))], [(500000, Gd, (.data Gd)), (4, Oa, XE), (5, Oa, Wt)]⟩, ⟨[], []⟩, Jk⟩
def KT : WL := [(3, WI)]
theorem EQ : Xc (WG false FK [(4999, 200001), (8998, 200001)] [] []) KT (lp f42 0) := Xj 3 (ls := WI) rfl
theorem HS : WO FO := Su VS func42 (Ad EQ Vb)
abbrev BU : Gc := .pu Gd Mv [true] (fun x => Zh x.1 x.2.1 x.2.2.1)
abbrev BO : WF := (19, BU) :: FO
theorem WR : WO BO := Xn HS func19
abbrev HV : Gc := .pu Co Cq [true] (fun x => Ck x.1)
abbrev XO : WF := (83, HV) :: BO
theorem CT : WO XO := Xn WR func83
abbrev IV : Gc := .pu Co Cq [true] (fun x => Ji x.1)
abbrev YO : WF := (84, IV) :: XO
theorem DT : WO YO := Xn CT func84
abbrev JV : Gc := .pu Co Cq [true] (fun x => Zi x.1)
abbrev ZO : WF := (85, JV) :: YO
theorem ET : WO ZO := Xn DT func85
abbrev XU : Gc := .pu (.p Hb .u) Cq [true] (fun x => Ng x.1)
abbrev EG : WF := (59, XU) :: ZO
theorem SS : WO EG := Xn ET func59
abbrev KU : Gc := .pu Mv Cq [true] (fun x => Oe x.1)
abbrev EO : WF := (34, KU) :: EG
def VI : Ub := ⟨73, ⟨[(1, (.ptr 1 [])), (3, Oc), (28, EA), (29, Oc), (30, Oc), (40, (.data (.sl Hb))), (41, Oc), (42, Oc)], [(1, Oa, Is)]⟩, 2, ⟨[(1, (.ptr 1 [])), (28, EA), (29, Oc), (30, Oc)], [(1, Oa, Is)]⟩, ⟨[(2, (.data .b))], []⟩, Wg⟩
def UI : Ub := ⟨73, ⟨[(1, (.ptr 1 [])), (28, EA), (29, Oc), (30, Oc)], [(1, Oa, Is)]⟩, 0, ⟨[], []⟩, ⟨[(2, (.data .b))], []⟩, Vg⟩
def EP : WL := [(9, VI), (4, UI)]
theorem DQ : Xc (WG true EG [] [] []) EP (lp f34 1) := Xj 9 (ls := VI) rfl
theorem CQ : Xc (WG true EG [] [] []) EP (lp f34 0) := Xj 4 (ls := UI) rfl
theorem GS : WO EO := Tu SS func34 (Ad DQ (Ad CQ Vb))
abbrev QU : Gc := .pu (.p Hb .u) Fp [true] (fun x => Vh x.1)
abbrev DK : WF := (53, QU) :: EO
theorem MS : WO DK := Xn GS func53
abbrev PU : Gc := .pu Fp Fp [true] (fun x => Yb x.1)
abbrev DG : WF := (52, PU) :: DK
def YI : Ub := ⟨35, ⟨[(3, YE), (4, Oc), (14, (.data Bn)), (15, Oc), (16, Oc)], []⟩, 0, ⟨[(3, YE), (4, Oc)], []⟩, ⟨[], []⟩, Hi⟩
def MT : WL := [(7, YI)]
theorem GQ : Xc (WG true DK [] [] []) MT (lp f52 0) := Xj 7 (ls := YI) rfl
theorem LS : WO DG := Tu MS func52 (Ad GQ Vb)
abbrev DU : Gc := .pu Mv (.p (.sl Bn) .u) [true] (fun x => Mj x.1)
abbrev ZJ : WF := (27, DU) :: DG
def OI : Ub := ⟨41, ⟨[(3, (.own 200101 Bn true)), (4, Oc), (12, EA), (13, Oc), (14, Oc), (19, (.data (.sl Hb))), (20, Oc), (21, Oc)], []⟩, 2, ⟨[(3, (.own 200101 Bn true)), (12, EA), (13, Oc), (14, Oc)], []⟩, ⟨[], []⟩, Rh⟩
def NI : Ub := ⟨41, ⟨[(3, Ez), (12, EA), (13, Oc), (14, Oc)], []⟩, 0, ⟨[(3, Ez)], []⟩, ⟨[], []⟩, Qh⟩
def BP : WL := [(8, OI), (5, NI)]
theorem VP : Xc (WG true DG [] [] []) BP (lp f27 1) := Xj 8 (ls := OI) rfl
theorem UP : Xc (WG true DG [] [] []) BP (lp f27 0) := Xj 5 (ls := NI) rfl
theorem YR : WO ZJ := Tu LS func27 (Ad VP (Ad UP Vb))
abbrev OU : Gc := .pu Mv Mv [true] (fun x => Kg x.1)
abbrev JO : WF := (46, OU) :: ZJ
def XI : Ub := ⟨25, ⟨[(2, (.ptr 2 [])), (3, (.ptr 3 [])), (10, EA), (11, Oc), (12, Oc)], [(2, Oa, XE), (3, Oa, Wt)]⟩, 0, ⟨[(2, (.ptr 2 [])), (3, (.ptr 3 []))], [(2, Oa, XE), (3, Oa, Wt)]⟩, ⟨[], []⟩, Ii⟩
def LT : WL := [(3, XI)]
theorem FQ : Xc (WG true ZJ [] [] []) LT (lp f46 0) := Xj 3 (ls := XI) rfl
theorem KS : WO JO := Tu YR func46 (Ad FQ Vb)
abbrev JU : Gc := .pu Fp Cq [true] (fun x => Th x.1)
abbrev DO : WF := (33, JU) :: JO
theorem FS : WO DO := Xn KS func33
abbrev SU : Gc := .pu Fp (.p Hb Cq) [true, true] (fun x => Ue x.1)
abbrev KO : WF := (54, SU) :: DO
theorem NS : WO KO := Xn FS func54
abbrev WU : Gc := .pu (.p Oa (.p int SM)) (.p Oa Cq) [true, true] (fun x => Il x.1 x.2.1 x.2.2.1 x.2.2.2.1)
abbrev NO : WF := (58, WU) :: KO
theorem RS : WO NO := Tu (L := []) (m := [(5000, 102368)]) (v := []) (l := []) NS func58 Vb
abbrev IU : Gc := .pu (.p Oa Fp) (.p Oa Fp) [true, true] (fun x => Te x.1 x.2.1)
abbrev CK : WF := (32, IU) :: NO
theorem ES : WO CK := Xn RS func32
abbrev CU : Gc := .pu (.p Oa (.p (.sl Bn) .u)) (.p Oa (.p (.sl Bn) .u)) [true, true] (fun x => Hh x.1 x.2.1)
abbrev BG : WF := (26, CU) :: CK
def MI : Ub := ⟨34, ⟨[(4, Eo), (6, (.ptr 6 [])), (7, Ez), (14, (.data (.sl Bn))), (15, Oc), (16, Oc)], [(4, Oa, XE), (6, Oa, DA)]⟩, 0, ⟨[(4, Eo), (6, (.ptr 6 [])), (7, Ez)], [(4, Oa, XE), (6, Oa, DA)]⟩, ⟨[], []⟩, Ph⟩
def IT : WL := [(4, MI)]
theorem TP : Xc (WG true CK [] [] []) IT (lp f26 0) := Xj 4 (ls := MI) rfl
theorem XR : WO BG := Tu ES func26 (Ad TP Vb)
abbrev EU : Gc := .pu EE (.p (.sl Bn) .u) [true] (fun x => Wh x.1 x.2.1)
abbrev AK : WF := (28, EU) :: BG
def QI : Ub := ⟨42, ⟨[(0, Oc), (5, (.own 200101 Bn true)), (6, Oc), (22, Oc), (23, Oc), (26, Oc), (27, Oc)], []⟩, 2, ⟨[(0, Oc), (5, (.own 200101 Bn true)), (22, Oc), (23, Oc)], []⟩, ⟨[], []⟩, Af⟩
def PI : Ub := ⟨42, ⟨[(0, Oc), (5, Ez), (22, Oc), (23, Oc)], []⟩, 0, ⟨[(5, Ez)], []⟩, ⟨[], []⟩, Gi⟩
def CP : WL := [(8, QI), (5, PI)]
theorem YP : Xc (WG true BG [] [] []) CP (lp f28 1) := Xj 8 (ls := QI) rfl
theorem XP : Xc (WG true BG [] [] []) CP (lp f28 0) := Xj 5 (ls := PI) rfl
theorem ZR : WO AK := Tu XR func28 (Ad YP (Ad XP Vb))
abbrev FU : Gc := .pu (.p int (.p (.sl Bn) .u)) (.p Oa Cq) [true, true] (fun x => Ld x.1 x.2.1)
abbrev CG : WF := (29, FU) :: AK
def RI : Ub := ⟨109, ⟨[(0, Oc), (4, Eo), (6, (.ptr 6 [])), (36, (.data (.sl Bn))), (37, Oc), (38, Oc)], [(4, Oa, Wt), (6, Oa, DA)]⟩, 0, ⟨[(4, Eo), (6, (.ptr 6 []))], [(4, Oa, Wt), (6, Oa, DA)]⟩, ⟨[(4, Eo), (5, (.data .b))], [(4, Oa, Wt)]⟩, Ze⟩
def JT : WL := [(5, RI)]
theorem ZP : Xc (WG true AK [] [] []) JT (lp f29 0) := Xj 5 (ls := RI) rfl
theorem BS : WO CG := Tu ZR func29 (Ad ZP Vb)
abbrev GU : Gc := .pu (.p Oa Mv) Cq [true] (fun x => Ig x.1 x.2.1)
abbrev CO : WF := (30, GU) :: CG
def TI : Ub := ⟨68, ⟨[(2, (.ptr 2 [])), (3, (.ptr 3 [])), (5, Oc), (6, Oc)], [(2, Oa, Is), (3, Oa, Is)]⟩, 2, ⟨[(2, (.ptr 2 [])), (3, (.ptr 3 [])), (5, Oc)], [(2, Oa, Is), (3, Oa, Is)]⟩, ⟨[(4, (.data .b))], []⟩, Nh⟩
def SI : Ub := ⟨68, ⟨[(2, (.ptr 2 [])), (3, (.ptr 3 [])), (5, Oc)], [(2, Oa, Is), (3, Oa, Is)]⟩, 0, ⟨[], []⟩, ⟨[(4, (.data .b))], []⟩, Ik⟩
def DP : WL := [(9, TI), (4, SI)]
theorem BQ : Xc (WG true CG [] [] []) DP (lp f30 1) := Xj 9 (ls := TI) rfl
theorem AQ : Xc (WG true CG [] [] []) DP (lp f30 0) := Xj 4 (ls := SI) rfl
theorem CS : WO CO := Tu BS func30 (Ad BQ (Ad AQ Vb))
abbrev CV : Gc := .bx true false Gd .u (.p Hb .u) [true] (fun x0 x => Un x0)
abbrev SO : WF := (78, CV) :: CO
theorem XS : WO SO := Su (L := []) (m := []) (v := []) (l := []) (z := false) CS func78 Vb
abbrev UU : Gc := .bx true false Gd .u Mv [false] (fun x0 x => Wp x0)
abbrev EK : WF := (56, UU) :: SO
theorem PS : WO EK := Su (L := []) (m := [(16999, 100576), (999999999, 0), (16999, 1000100576), (9000, 2000100576), (13000, 2000100576), (16999, 1000000066), (16999, 1000000073)]) (v := [73]) (l := []) (z := true) XS func56 Vb
abbrev DV : Gc := .pu Fp Fp [true] (fun x => Ab x.1)
abbrev GK : WF := (79, DV) :: EK
def CJ : Ub := ⟨40, ⟨[(0, (.data Bn)), (3, YE), (4, Oc), (5, Oc)], []⟩, 0, ⟨[(3, YE), (4, Oc)], []⟩, ⟨[], []⟩, Oi⟩
def OT : WL := [(6, CJ)]
theorem KQ : Xc (WG true EK [] [] []) OT (lp f79 0) := Xj 6 (ls := CJ) rfl
theorem YS : WO GK := Tu PS func79 (Ad KQ Vb)
abbrev EV : Gc := .bx true false Gd Co Fp [true] (fun x0 x => Rn x0 x.1)
abbrev TO : WF := (80, EV) :: GK
def DJ : Ub := ⟨23, ⟨[(0, Vt), (5, YE), (6, Oc)], [(500000, Gd, (.data Gd))]⟩, 0, ⟨[(0, Vt), (5, YE)], [(500000, Gd, (.data Gd))]⟩, ⟨[], []⟩, Kk⟩
def PT : WL := [(3, DJ)]
theorem LQ : Xc (WG false GK [] [] []) PT (lp f80 0) := Xj 3 (ls := DJ) rfl
theorem ZS : WO TO := Su YS func80 (Ad LQ Vb)
abbrev YU : Gc := .pu ZB Cq [true] (fun x => Uf x.1 x.2.1 x.2.2.1)
abbrev PO : WF := (62, YU) :: TO
theorem TS : WO PO := Xn ZS func62
abbrev KV : Gc := .pu (.p Hb .u) Cq [true] (fun x => Rg x.1)
abbrev AP : WF := (86, KV) :: PO
theorem FT : WO AP := Xn TS func86
abbrev FV : Gc := .pu (.p Hb .u) Fp [true] (fun x => Ai x.1)
abbrev UO : WF := (81, FV) :: AP
theorem AT : WO UO := Xn FT func81
abbrev VU : Gc := .bx true false Gd Mv Fp [true] (fun x0 x => Nl x0 x.1)
abbrev MO : WF := (57, VU) :: UO
theorem QS : WO MO := Su (L := []) (m := []) (v := []) (l := []) (z := false) AT func57 Vb
abbrev HU : Gc := .pu Fp (.p Oa Fp) [false, true] (fun x => Mg x.1)
abbrev BK : WF := (31, HU) :: MO
theorem DS : WO BK := Xn QS func31
abbrev TR : Gc := .pu Fp Cq [true] (fun x => Ak x.1)
abbrev TV : WF := (6, TR) :: BK
def OM : Ub := ⟨122, ⟨[(0, (.data Bn)), (3, (.ptr 3 [])), (4, Eo), (5, Oc)], [(3, Oa, Wt), (4, Oa, DA)]⟩, 0, ⟨[(0, (.data Bn)), (3, (.ptr 3 [])), (4, Eo)], [(3, Oa, Wt), (4, Oa, DA)]⟩, ⟨[], []⟩, Oj⟩
def VV : WL := [(6, OM)]
theorem HR : Xc (WG true BK [] [] []) VV (lp f6 0) := Xj 6 (ls := OM) rfl
theorem SV : WO TV := Tu DS func6 (Ad HR Vb)
theorem Jv : Jm Try.prog II 6 TR := OV SV (by kernel_rfl)
end
end KF
