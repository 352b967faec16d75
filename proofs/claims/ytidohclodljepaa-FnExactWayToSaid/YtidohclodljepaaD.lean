/- An evaluator of Go functions on plain data, its soundness, and plain laws on what the functions compute, part 4 (conditions: as each lemma tells). -/
import Derived.Test.YtidohclodljepaaC
import Derived.Test.YtidohclodljepaaRows
set_option linter.unusedSimpArgs false
set_option linter.unusedVariables false
namespace KF
open Go Go.Proofs Go.Proofs.Try
def GT : List (Nat × Ty) := [(3, int), (4, .b), (22, (.sl (.sl Qa))), (24, Sa), (26, (.sl int)), (29, (.sl (.sl Qa))), (31, Sa), (40, (.sl (.sl int))), (41, (.sl .b)), (45, (.mp int (.sl int))), (50, (.sl Qa)), (54, (.sl Qa)), (60, Qa), (64, Qa)]
def GA : List (Nat × Ty × Nat) := []
theorem EM : ((GT.all fun x => Ob Try.prog x.2 x.1) && (GA.all fun x => Kw Try.prog x.1 x.2.1 x.2.2)) = true := by kernel_rfl
theorem VH : Try.prog.follows .mixedOrders = true := by kernel_rfl
noncomputable abbrev II : Gr := QM
noncomputable section
abbrev WP : Program := Try.prog
abbrev WF := List (Nat × Tb)
abbrev WL := List (Nat × Nb)
abbrev WG (z : Bool) (fs : WF) (m : List (Nat × Nat)) (v l : List Nat) : Nc := ⟨GT, fs, m, z, GA, v, l⟩
def WO (fs : WF) : Prop := ∀ z m v l, Jg WP II (WG z fs m v l)
theorem EQ : WO [] := fun _ _ _ _ => EE EM
theorem wc {f : Nat} {s : Tb} {fs : WF} (e : WO fs) (h : Fm WP II f s) : WO ((f, s) :: fs) := fun z m v l => Jg.cons h (e z m v l)
theorem DQ {f : Nat} {s : Tb} {fs : WF} (e : WO fs) (h : Oa fs f = some s) : Fm WP II f s := (e true [] [] []).fn f s h
theorem Jh {z : Bool} {fs : WF} {m : List (Nat × Nat)} {v l : List Nat} {L : WL} {fn : Func} {i : Nat} (r : Nat) {ls : Nb} {R : ls.inT.X → Option (ls.inT.X ⊕ (ls.outT.X ⊕ ls.retT.X))}
 (h3 : ls.F = Vb R) (h1 : Ve (lp fn i) = some r := by kernel_rfl) (h2 : (Oa L r) = some ls := by kernel_rfl) (h4 : ∀ x, Yo (WG z fs m v l) L ls (lp fn i) x = R x := by intro _; kernel_rfl) : Rc (WG z fs m v l) L (lp fn i) := IF h1 h2 h3 h4
theorem Wg {f : Nat} {fn : Func} {pt rt : Ty} {fr : List Bool} {F : T pt → Option (T rt)} {fs : WF} (e : WO fs) (hf : WP.funcs[f]? = some fn)
 (hb : (fn.body.isSome && !(fn.name == "runtime.NumGoroutine") && Nat.ble pt.npar fn.ntmps && Nat.beq (Sc (fn.body.getD .skip)).length 0) = true := by kernel_rfl)
 (hF : ∀ x, HE (WG true fs [] [] []) [] fn pt rt fr x = F x := by intro _; kernel_rfl) : WO ((f, .pu pt rt fr F) :: fs) := wc e (Ux (e _ _ _ _) VH hf hb Oc hF)
theorem Ep {k : Nat} {L : WL} {m : List (Nat × Nat)} {v l : List Nat} {f : Nat} {fn : Func} {pt rt : Ty} {fr : List Bool} {F : T pt → Option (T rt)} {fs : WF} (e : WO fs) (hf : WP.funcs[f]? = some fn) (hL : ∀ i, i < k → Rc (WG true fs m v l) L (lp fn i))
 (hb : (fn.body.isSome && !(fn.name == "runtime.NumGoroutine") && Nat.ble pt.npar fn.ntmps && Nat.beq (Sc (fn.body.getD .skip)).length k) = true := by kernel_rfl)
 (hF : ∀ x, HE (WG true fs m v l) L fn pt rt fr x = F x := by intro _; kernel_rfl) : WO ((f, .pu pt rt fr F) :: fs) := wc e (Ux (e _ _ _ _) VH hf hb hL hF)
theorem KI {k : Nat} {L : WL} {m : List (Nat × Nat)} {v l : List Nat} {f : Nat} {fn : Func} {τ pt rt : Ty} {fr : List Bool} {F : T τ → T pt → Option (T τ × T rt)} {fs : WF} (e : WO fs) (hf : WP.funcs[f]? = some fn) (hL : ∀ i, i < k → Rc (WG false fs m v l) L (lp fn i))
 (hb : (fn.body.isSome && !(fn.name == "runtime.NumGoroutine") && Nat.ble (pt.npar + 1) fn.ntmps && Nat.beq (Sc (fn.body.getD .skip)).length k) = true := by kernel_rfl)
 (hF : ∀ x0 x, Wy (WG false fs m v l) L fn τ pt rt fr x0 x = F x0 x := by intro _ _; kernel_rfl) : WO ((f, .io τ pt rt fr F) :: fs) := wc e (SF (e _ _ _ _) rfl VH hf hb hL hF)
abbrev Bd : TD := .data int
abbrev Sj : Ty := .sl Qa
abbrev Xg : Ty := .p int .u
abbrev Rn : TD := .data Sa
abbrev Ql : Ty := .p .b .u
abbrev Jx : Ty := .p Sa Ew
abbrev Nm : Ty := .sl int
abbrev Jz : TD := .data (.sl Sj)
abbrev EP : Tb := .pu (.p Sj Xg) Xg [true] (fun x => Fh x.1 x.2.1)
abbrev EG : WF := (21, EP) :: ([] : WF)
theorem HN : WO EG := Wg EQ func21
abbrev VO : Tb := .pu (.p (.sl Sj) Xg) Xg [true] (fun x => Ji x.1 x.2.1)
abbrev PJ : WF := (13, VO) :: EG
def PE : Nb := ⟨27, ⟨[(0, Jz), (1, Bd), (5, Bd)], []⟩, 0, ⟨[(1, Bd)], []⟩, ⟨[(4, Bd)], []⟩, Wj⟩
def EO : WL := [(5, PE)]
theorem AL : Rc (WG true EG [] [] []) EO (lp f13 0) := Jh 5 (ls := PE) rfl
theorem ZM : WO PJ := Ep HN func13 (Kc AL Oc)
abbrev PQ : Tb := .pu (.p Sa Xg) Xg [true] (fun x => Gk x.1 x.2.1)
abbrev JM : WF := (4, PQ) :: PJ
theorem HQ : WO JM := Wg ZM func4
abbrev RP : Tb := .pu (.p Qa .u) (.p Qa .u) [true] (fun x => Zh x.1)
abbrev IG : WF := (33, RP) :: JM
theorem TN : WO IG := Wg HQ func33
abbrev JP : Tb := .pu (.p Sj .u) (.p Sj .u) [true] (fun x => Dj x.1)
abbrev FG : WF := (25, JP) :: IG
def YE : Nb := ⟨23, ⟨[(0, (.data Sj)), (3, (.own 200001 Qa true)), (4, Bd)], []⟩, 0, ⟨[(3, (.own 200001 Qa true))], []⟩, ⟨[], []⟩, Al⟩
def JO : WL := [(3, YE)]
theorem JL : Rc (WG true IG [] [] []) JO (lp f25 0) := Jh 3 (ls := YE) rfl
theorem LN : WO FG := Ep TN func25 (Kc JL Oc)
abbrev ZO : Tb := .pu (.p (.sl Sj) .u) (.p (.sl Sj) .u) [true] (fun x => Ml x.1)
abbrev RJ : WF := (16, ZO) :: FG
def RE : Nb := ⟨23, ⟨[(0, Jz), (3, (.own 200001 Sj true)), (4, Bd)], []⟩, 0, ⟨[(3, (.own 200001 Sj true))], []⟩, ⟨[], []⟩, Xj⟩
def FO : WL := [(3, RE)]
theorem CL : Rc (WG true FG [] [] []) FO (lp f16 0) := Jh 3 (ls := RE) rfl
theorem CN : WO RJ := Ep LN func16 (Kc CL Oc)
abbrev RQ : Tb := .pu (.p Sa .u) (.p Sa .u) [true] (fun x => Ff x.1)
abbrev LM : WF := (6, RQ) :: RJ
theorem JQ : WO LM := Wg CN func6
abbrev HP : Tb := .pu HI Ql [true] (fun x => Ce x.1 x.2.1 x.2.2.1)
abbrev XJ : WF := (23, HP) :: LM
theorem JN : WO XJ := Wg JQ func23
abbrev PP : Tb := .pu (.p Qa .u) Ql [true] (fun x => Ai x.1)
abbrev KC : WF := (31, PP) :: XJ
theorem RN : WO KC := Wg JN func31
abbrev GP : Tb := .pu (.p Sa .u) Ql [true] (fun x => Bi x.1)
abbrev WJ : WF := (22, GP) :: KC
def XE : Nb := ⟨74, ⟨[(1, (.ptr 1 [])), (3, Bd), (4, Bd)], [(1, Sa, Rn)]⟩, 2, ⟨[(1, (.ptr 1 [])), (3, Bd)], [(1, Sa, Rn)]⟩, ⟨[(2, (.data .b))], []⟩, Qf⟩
def WE : Nb := ⟨74, ⟨[(1, (.ptr 1 [])), (3, Bd)], [(1, Sa, Rn)]⟩, 0, ⟨[(1, (.ptr 1 []))], [(1, Sa, Rn)]⟩, ⟨[(2, (.data .b))], []⟩, Pf⟩
def KK : WL := [(7, XE), (2, WE)]
theorem IL : Rc (WG true KC [] [] []) KK (lp f22 1) := Jh 7 (ls := XE) rfl
theorem HL : Rc (WG true KC [] [] []) KK (lp f22 0) := Jh 2 (ls := WE) rfl
theorem IN : WO WJ := Ep RN func22 (Kc IL (Kc HL Oc))
abbrev XO : Tb := .pu (.p Sa Xg) Ql [true] (fun x => Ze x.1 x.2.1)
abbrev DG : WF := (14, XO) :: WJ
theorem AN : WO DG := Wg IN func14
abbrev VP : Tb := .pu Jx Xg [true] (fun x => Ol x.1 x.2.1 x.2.2.1)
abbrev CK : WF := (37, VP) :: DG
def EF : Nb := ⟨45, ⟨[(1, Bd), (2, Bd), (3, (.ptr 3 [])), (7, Bd)], [(3, Sa, Rn)]⟩, 0, ⟨[], []⟩, ⟨[(6, Bd)], []⟩, Td⟩
def NO : WL := [(4, EF)]
theorem PL : Rc (WG true DG [] [] []) NO (lp f37 0) := Jh 4 (ls := EF) rfl
theorem XN : WO CK := Ep AN func37 (Kc PL Oc)
abbrev QP : Tb := .pu Jx (.p Qa .u) [true] (fun x => Jk x.1 x.2.1 x.2.2.1)
abbrev AK : WF := (32, QP) :: CK
theorem SN : WO AK := Wg XN func32
abbrev IP : Tb := .pu Jx Xg [true] (fun x => Li x.1 x.2.1 x.2.2.1)
abbrev IC : WF := (24, IP) :: AK
theorem KN : WO IC := Wg SN func24
abbrev YO : Tb := .pu (.p Sa Xg) (.p (.sl Nm) (.p (.sl .b) .u)) [true, true] (fun x => Gj x.1 x.2.1)
abbrev QJ : WF := (15, YO) :: IC
def TB : Nb := ⟨70, ⟨[(2, (.ptr 2 [])), (6, (.own 200101 Nm true)), (7, (.own 200102 .b true)), (8, (.own 200103 int true)), (9, Bd), (10, Bd), (11, Bd)], [(2, Sa, Rn)]⟩, 2, ⟨[(2, (.ptr 2 [])), (6, (.own 200101 Nm true)), (7, (.own 200102 .b true)), (8, (.own 200103 int true)), (9, Bd)], [(2, Sa, Rn)]⟩, ⟨[], []⟩, Xe⟩
def QE : Nb := ⟨70, ⟨[(2, (.ptr 2 [])), (6, (.own 200001 Nm true)), (7, (.own 200002 .b true)), (8, (.own 200003 int true)), (9, Bd)], [(2, Sa, Rn)]⟩, 0, ⟨[(6, (.own 200001 Nm true)), (7, (.own 200002 .b true))], []⟩, ⟨[], []⟩, Be⟩
def IK : WL := [(10, TB), (6, QE)]
theorem UI : Rc (WG true IC [(15013, 200101)] [] []) IK (lp f15 1) := Jh 10 (ls := TB) rfl
theorem BL : Rc (WG true IC [(15013, 200101)] [] []) IK (lp f15 0) := Jh 6 (ls := QE) rfl
theorem BN : WO QJ := Ep KN func15 (Kc UI (Kc BL Oc))
abbrev QQ : Tb := .pu Jx (.p Nm Ql) [true, true] (fun x => Uh x.1 x.2.1 x.2.2.1)
abbrev KM : WF := (5, QQ) :: QJ
theorem IQ : WO KM := Wg BN func5
abbrev XP : Tb := .pu Xg Ql [true] (fun x => Ci x.1)
abbrev DK : WF := (38, XP) :: KM
theorem YN : WO DK := Wg IQ func38
abbrev YP : Tb := .pu Xg Ql [true] (fun x => Ug x.1)
abbrev EK : WF := (39, YP) :: DK
theorem ZN : WO EK := Wg YN func39
abbrev ZP : Tb := .pu Xg Ql [true] (fun x => Dh x.1)
abbrev FK : WF := (40, ZP) :: EK
theorem AO : WO FK := Wg ZN func40
abbrev SP : Tb := .pu (.p Qa .u) Ql [true] (fun x => Xh x.1)
abbrev LC : WF := (34, SP) :: FK
theorem UN : WO LC := Wg AO func34
abbrev KP : Tb := .pu (.p Sa .u) Ql [true] (fun x => Bk x.1)
abbrev YJ : WF := (26, KP) :: LC
def AF : Nb := ⟨73, ⟨[(1, (.ptr 1 [])), (3, Bd), (28, Jz), (29, Bd), (30, Bd), (40, (.data Sj)), (41, Bd), (42, Bd)], [(1, Sa, Rn)]⟩, 2, ⟨[(1, (.ptr 1 [])), (28, Jz), (29, Bd), (30, Bd)], [(1, Sa, Rn)]⟩, ⟨[(2, (.data .b))], []⟩, Mf⟩
def ZE : Nb := ⟨73, ⟨[(1, (.ptr 1 [])), (28, Jz), (29, Bd), (30, Bd)], [(1, Sa, Rn)]⟩, 0, ⟨[], []⟩, ⟨[(2, (.data .b))], []⟩, Lf⟩
def LK : WL := [(9, AF), (4, ZE)]
theorem LL : Rc (WG true LC [] [] []) LK (lp f26 1) := Jh 9 (ls := AF) rfl
theorem KL : Rc (WG true LC [] [] []) LK (lp f26 0) := Jh 4 (ls := ZE) rfl
theorem MN : WO YJ := Ep UN func26 (Kc LL (Kc KL Oc))
abbrev AP : Tb := .pu (.p Sa Xg) Ql [true] (fun x => Dd x.1 x.2.1)
abbrev SJ : WF := (17, AP) :: YJ
theorem DN : WO SJ := Wg MN func17
abbrev AQ : Tb := .pu Ew Xg [true] (fun x => Sq x.1 x.2.1)
abbrev KG : WF := (41, AQ) :: SJ
theorem BO : WO KG := Wg DN func41
abbrev TP : Tb := .pu Jx Xg [true] (fun x => Il x.1 x.2.1 x.2.2.1)
abbrev BK : WF := (35, TP) :: KG
def DF : Nb := ⟨33, ⟨[(1, Bd), (2, Bd), (3, (.ptr 3 [])), (7, Bd)], [(3, Sa, Rn)]⟩, 0, ⟨[], []⟩, ⟨[(6, Bd)], []⟩, Sd⟩
def MO : WL := [(2, DF)]
theorem OL : Rc (WG true KG [] [] []) MO (lp f35 0) := Jh 2 (ls := DF) rfl
theorem VN : WO BK := Ep BO func35 (Kc OL Oc)
abbrev LP : Tb := .pu Jx Xg [true] (fun x => Pg x.1 x.2.1 x.2.2.1)
abbrev ZJ : WF := (27, LP) :: BK
theorem NN : WO ZJ := Wg VN func27
abbrev MP : Tb := .pu (.p Nm .u) (.p Nm .u) [true] (fun x => Ck x.1)
abbrev JC : WF := (28, MP) :: ZJ
theorem ON : WO JC := Wg NN func28
abbrev BP : Tb := .pu (.p Sa Xg) (.p (.mp int Nm) .u) [true] (fun x => Ro x.1 x.2.1)
abbrev TJ : WF := (18, BP) :: JC
def TE : Nb := ⟨57, ⟨[(2, (.ptr 2 [])), (5, (.mqo 200101 .i64 int)), (6, (.own 200102 int true)), (7, Bd), (26, Bd), (27, Bd)], [(2, Sa, Rn)]⟩, 2, ⟨[(2, (.ptr 2 [])), (5, (.mqo 200101 .i64 int)), (6, (.own 200102 int true))], [(2, Sa, Rn)]⟩, ⟨[], []⟩, Rh⟩
def SE : Nb := ⟨57, ⟨[(2, (.ptr 2 [])), (5, (.mqo 200001 .i64 int)), (6, (.own 200002 int true))], [(2, Sa, Rn)]⟩, 0, ⟨[(5, (.mqo 200001 .i64 int))], []⟩, ⟨[], []⟩, Wf⟩
def JK : WL := [(7, TE), (3, SE)]
theorem EL : Rc (WG true JC [] [12, 24] []) JK (lp f18 1) := Jh 7 (ls := TE) rfl
theorem DL : Rc (WG true JC [] [12, 24] []) JK (lp f18 0) := Jh 3 (ls := SE) rfl
theorem EN : WO TJ := Ep ON func18 (Kc EL (Kc DL Oc))
abbrev SQ : Tb := .pu Jx (.p Nm Ql) [true, true] (fun x => Og x.1 x.2.1 x.2.2.1)
abbrev GK : WF := (7, SQ) :: TJ
theorem KQ : WO GK := Ep (L := []) (m := []) (v := []) (l := [25]) EN func7 Oc
abbrev TQ : Tb := .pu (.p Nm (.p Nm .u)) Ql [true] (fun x => Di x.1 x.2.1)
abbrev MM : WF := (8, TQ) :: GK
def EI : Nb := ⟨26, ⟨[(0, (.data Nm)), (1, (.data Nm)), (5, Bd)], []⟩, 0, ⟨[], []⟩, ⟨[(4, (.data .b))], []⟩, Ui⟩
def OQ : WL := [(4, EI)]
theorem GM : Rc (WG true GK [] [] []) OQ (lp f8 0) := Jh 4 (ls := EI) rfl
theorem LQ : WO MM := Ep KQ func8 (Kc GM Oc)
abbrev UP : Tb := .pu (.p Qa (.p Qa .u)) Ql [true] (fun x => Yh x.1 x.2.1)
abbrev JG : WF := (36, UP) :: MM
theorem WN : WO JG := Wg LQ func36
abbrev NP : Tb := .pu (.p Sj (.p Sj .u)) Ql [true] (fun x => Eh x.1 x.2.1)
abbrev GG : WF := (29, NP) :: JG
def BF : Nb := ⟨27, ⟨[(0, (.data Sj)), (1, (.data Sj)), (5, Bd)], []⟩, 0, ⟨[], []⟩, ⟨[(4, (.data .b))], []⟩, Zk⟩
def KO : WL := [(4, BF)]
theorem ML : Rc (WG true JG [] [] []) KO (lp f29 0) := Jh 4 (ls := BF) rfl
theorem PN : WO GG := Ep WN func29 (Kc ML Oc)
abbrev CP : Tb := .pu (.p (.sl Sj) (.p (.sl Sj) .u)) Ql [true] (fun x => Gi x.1 x.2.1)
abbrev UJ : WF := (19, CP) :: GG
def UE : Nb := ⟨27, ⟨[(0, Jz), (1, Jz), (5, Bd)], []⟩, 0, ⟨[], []⟩, ⟨[(4, (.data .b))], []⟩, Vj⟩
def GO : WL := [(4, UE)]
theorem FL : Rc (WG true GG [] [] []) GO (lp f19 0) := Jh 4 (ls := UE) rfl
theorem FN : WO UJ := Ep PN func19 (Kc FL Oc)
abbrev UQ : Tb := .pu (.p Sa (.p Sa .u)) Ql [true] (fun x => Ek x.1 x.2.1)
abbrev HK : WF := (9, UQ) :: UJ
theorem MQ : WO HK := Wg FN func9
abbrev OP : Tb := .io Sj Xg Xg [true] (fun x0 x => Pk x0 x.1)
abbrev HG : WF := (30, OP) :: HK
def CF : Nb := ⟨41, ⟨[(0, (.own 500000 Qa true)), (1, Bd), (5, Bd)], []⟩, 0, ⟨[(0, (.own 500000 Qa true)), (1, Bd)], []⟩, ⟨[], []⟩, Hj⟩
def LO : WL := [(2, CF)]
theorem NL : Rc (WG false HK [] [] []) LO (lp f30 0) := Jh 2 (ls := CF) rfl
theorem QN : WO HG := KI MQ func30 (Kc NL Oc)
abbrev DP : Tb := .io (.sl Sj) Xg Xg [true] (fun x0 x => Mj x0 x.1)
abbrev VJ : WF := (20, DP) :: HG
def VE : Nb := ⟨19, ⟨[(0, (.own 500000 Sj true)), (1, Bd), (5, Bd)], []⟩, 0, ⟨[(0, (.own 500000 Sj true)), (1, Bd)], []⟩, ⟨[], []⟩, Vi⟩
def HO : WL := [(2, VE)]
theorem GL : Rc (WG false HG [(3999, 500000)] [] []) HO (lp f20 0) := Jh 2 (ls := VE) rfl
theorem GN : WO VJ := KI QN func20 (Kc GL Oc)
abbrev SO : Tb := .io Sa Xg Xg [true] (fun x0 x => Ii x0 x.1)
abbrev BG : WF := (10, SO) :: VJ
theorem WM : WO BG := KI (L := []) (m := []) (v := []) (l := []) GN func10 Oc
abbrev TO : Tb := .io Nm Xg Xg [true] (fun x0 x => Cn x0 x.1)
abbrev CG : WF := (11, TO) :: BG
def NE : Nb := ⟨19, ⟨[(0, (.own 500000 int true)), (1, Bd), (5, Bd)], []⟩, 0, ⟨[(0, (.own 500000 int true)), (1, Bd)], []⟩, ⟨[], []⟩, Ll⟩
def CO : WL := [(2, NE)]
theorem YK : Rc (WG false BG [] [] []) CO (lp f11 0) := Jh 2 (ls := NE) rfl
theorem XM : WO CG := KI WM func11 (Kc YK Oc)
abbrev UO : Tb := .pu (.p Nm Xg) Xg [true] (fun x => Fk x.1 x.2.1)
abbrev OJ : WF := (12, UO) :: CG
def OE : Nb := ⟨21, ⟨[(0, (.data Nm)), (1, Bd), (5, Bd)], []⟩, 0, ⟨[(1, Bd)], []⟩, ⟨[(4, Bd)], []⟩, Kl⟩
def DO : WL := [(2, OE)]
theorem ZK : Rc (WG true CG [] [] []) DO (lp f12 0) := Jh 2 (ls := OE) rfl
theorem YM : WO OJ := Ep XM func12 (Kc ZK Oc)
abbrev TM : Tb := .pu Jx Ql [true] (fun x => Yg x.1 x.2.1 x.2.2.1)
abbrev NQ : WF := (3, TM) :: OJ
theorem GQ : WO NQ := Wg YM func3
theorem Aq : Fm Try.prog II 3 TM := DQ GQ (by kernel_rfl)
end
end KF
