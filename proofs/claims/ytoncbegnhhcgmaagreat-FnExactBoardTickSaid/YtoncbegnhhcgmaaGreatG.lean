/- An evaluator of Go functions on plain data, its soundness, and plain laws on what the functions compute, part 7 (conditions: as each lemma tells). -/
import Derived.Test.YtoncbegnhhcgmaaGreatF
import Derived.Test.YtoncbegnhhcgmaaGreatRows
set_option linter.unusedSimpArgs false
set_option linter.unusedVariables false
namespace KF
open Go Go.Proofs
def GT : List (Nat × Ty) := [(3, int), (4, .b), (5, Ba7), (9, .s), (22, (.sl (.sl Rb))), (24, Ub), (25, (.sl int)), (27, (.sl Zb)), (30, (.sl (.sl Rb))), (32, Ub), (43, Za), (45, Kb), (46, (.sl Wb)), (47, (.sl Za)), (48, (.sl Za)), (50, Nb), (51, (.sl (.sl Bc))), (52, (.sl Bf)), (54, Xb), (56, Bc), (58, Cc), (60, Ad), (62, Za), (63, Kb), (64, (.sl Wb)), (65, (.sl Za)), (66, (.sl Za)), (68, Nb), (69, (.sl (.sl Bc))), (70, (.sl Bf)), (72, Xb), (73, Bc), (75, Cc), (77, Ad), (78, (.sl Gj)), (121, Zb), (134, Za), (152, Gj), (172, (.sl Rb)), (177, (.sl Rb)), (194, Wb), (212, Za), (235, (.i .u64)), (240, (.sl Bc)), (242, Rb), (244, Bf), (255, Rb), (271, Wb), (273, Za), (275, Za), (295, Bc), (301, (.sl Wb)), (303, Wb), (306, (.sl Bc)), (312, Bf), (323, Bc), (325, (.i .u32)), (327, (.i .u64))]
def GA : List (Nat × Ty × Nat) := [(214, int, 4)]
theorem EaT : ((GT.all fun x => We Tryz.prog x.2 x.1) && (GA.all fun x => I0 Tryz.prog x.1 x.2.1 x.2.2)) = true := by kernel_rfl
theorem I7 : Tryz.prog.follows .mixedOrders = true := by kernel_rfl
noncomputable abbrev II : Bi := noI
noncomputable section
abbrev WP : Program := Tryz.prog
abbrev WF := List (Nat × Ka)
abbrev WL := List (Nat × La)
abbrev WG (z : Bool) (fs : WF) (m : List (Nat × Nat)) (v l : List Nat) : Ag := ⟨GT, fs, m, z, GA, v, l⟩
def WO (fs : WF) : Prop := ∀ z m v l, Vj WP II (WG z fs m v l)
theorem Ja9 : WO [] := fun _ _ _ _ => R7 EaT
theorem wc {f : Nat} {s : Ka} {fs : WF} (e : WO fs) (h : Fj WP II f s) : WO ((f, s) :: fs) := fun z m v l => Vj.cons h (e z m v l)
theorem YaL {f : Nat} {s : Ka} {fs : WF} (e : WO fs) (h : Dc fs f = some s) : Fj WP II f s := (e true [] [] []).fn f s h
theorem Pb {z : Bool} {fs : WF} {m : List (Nat × Nat)} {v l : List Nat} {L : WL} {fn : Func} {i : Nat} (r : Nat) {ls : La} {R : ls.inT.X → Option (ls.inT.X ⊕ (ls.outT.X ⊕ ls.retT.X))}
 (h3 : ls.F = Ua R) (h1 : Mk (lp fn i) = some r := by kernel_rfl) (h2 : (Dc L r) = some ls := by kernel_rfl) (h4 : ∀ x, VQ (WG z fs m v l) L ls (lp fn i) x = R x := by intro _; kernel_rfl) : Qa (WG z fs m v l) L (lp fn i) := X7 h1 h2 h3 h4
theorem Ec {f : Nat} {fn : Func} {pt rt : Ty} {fr : List Bool} {F : T pt → Option (T rt)} {fs : WF} (e : WO fs) (hf : WP.funcs[f]? = some fn)
 (hb : (fn.body.isSome && !(fn.name == "runtime.NumGoroutine") && Nat.ble pt.npar fn.ntmps && Nat.beq (Te (fn.body.getD .skip)).length 0) = true := by kernel_rfl)
 (hF : ∀ x, evF (WG true fs [] [] []) [] fn pt rt fr x = F x := by intro _; kernel_rfl) : WO ((f, .pu pt rt fr F) :: fs) := wc e (ZW (e _ _ _ _) I7 hf hb Ia hF)
theorem Id {k : Nat} {L : WL} {m : List (Nat × Nat)} {v l : List Nat} {f : Nat} {fn : Func} {pt rt : Ty} {fr : List Bool} {F : T pt → Option (T rt)} {fs : WF} (e : WO fs) (hf : WP.funcs[f]? = some fn) (hL : ∀ i, i < k → Qa (WG true fs m v l) L (lp fn i))
 (hb : (fn.body.isSome && !(fn.name == "runtime.NumGoroutine") && Nat.ble pt.npar fn.ntmps && Nat.beq (Te (fn.body.getD .skip)).length k) = true := by kernel_rfl)
 (hF : ∀ x, evF (WG true fs m v l) L fn pt rt fr x = F x := by intro _; kernel_rfl) : WO ((f, .pu pt rt fr F) :: fs) := wc e (ZW (e _ _ _ _) I7 hf hb hL hF)
theorem VN {k : Nat} {L : WL} {m : List (Nat × Nat)} {v l : List Nat} {f : Nat} {fn : Func} {τ pt rt : Ty} {fr : List Bool} {F : T τ → T pt → Option (T τ × T rt)} {fs : WF} (e : WO fs) (hf : WP.funcs[f]? = some fn) (hL : ∀ i, i < k → Qa (WG false fs m v l) L (lp fn i))
 (hb : (fn.body.isSome && !(fn.name == "runtime.NumGoroutine") && Nat.ble (pt.npar + 1) fn.ntmps && Nat.beq (Te (fn.body.getD .skip)).length k) = true := by kernel_rfl)
 (hF : ∀ x0 x, Oaa (WG false fs m v l) L fn τ pt rt fr x0 x = F x0 x := by intro _ _; kernel_rfl) : WO ((f, .io τ pt rt fr F) :: fs) := wc e (Nau (e _ _ _ _) rfl I7 hf hb hL hF)
theorem wco {k : Nat} {L : WL} {m : List (Nat × Nat)} {v l : List Nat} {f : Nat} {fn : Func} {pt rt : Ty} {fr : List Bool} {F : T pt → Option (T rt)} {fs : WF} (e : WO fs) (hf : WP.funcs[f]? = some fn) (hL : ∀ i, i < k → Qa (WG false fs m v l) L (lp fn i))
 (hb : (fn.body.isSome && !(fn.name == "runtime.NumGoroutine") && Nat.ble pt.npar fn.ntmps && Nat.beq (Te (fn.body.getD .skip)).length k) = true := by kernel_rfl)
 (hF : ∀ x, Naa (WG false fs m v l) L fn pt rt fr x = F x := by intro _; kernel_rfl) : WO ((f, .co pt rt fr F) :: fs) := wc e (Mau (e _ _ _ _) rfl I7 hf hb hL hF)
theorem WZ {k : Nat} {L : WL} {m : List (Nat × Nat)} {v l : List Nat} {f : Nat} {fn : Func} {vw cv : Bool} {τ pt rt : Ty} {fr : List Bool} {F : T τ → T pt → Option (T τ × T rt)} {fs : WF} (e : WO fs) (hf : WP.funcs[f]? = some fn) (hL : ∀ i, i < k → Qa (WG false fs m v l) L (lp fn i))
 (hb : (fn.body.isSome && !(fn.name == "runtime.NumGoroutine") && Nat.ble (pt.npar + 1) fn.ntmps && Nat.beq (Te (fn.body.getD .skip)).length k) = true := by kernel_rfl)
 (hF : ∀ x0 x, Maa (WG false fs m v l) L fn vw cv τ pt rt fr x0 x = F x0 x := by intro _ _; kernel_rfl) : WO ((f, .bx vw cv τ pt rt fr F) :: fs) := wc e (Kau (e _ _ _ _) rfl I7 hf hb hL hF)
abbrev Da : TD := .data int
abbrev Ic : Ty := .p int .u
abbrev c4_ : TD := .pr (.own 200002 Wb true) (.pr Da (.pr (.own 200003 Za true) (.pr Da (.pr Da (.pr Da (.pr (.own 200004 Za true) .un))))))
abbrev Xd : Ty := .p .b .u
abbrev VU : Ty := .sl Za
abbrev Tr : Ty := .sl Rb
abbrev Eap : TD := .pr (.own 200001 Wb true) (.pr Da (.pr (.own 200002 Za true) (.pr Da (.pr Da (.pr Da (.pr (.own 200003 Za true) .un))))))
abbrev Cf : TD := .data .b
abbrev Ki : Ty := .sl Bc
abbrev SG : TD := .own 200001 Za true
abbrev Bh : TD := .ptr 2 []
abbrev QK : TD := .own 200001 int true
abbrev Xh : TD := .data VU
abbrev Em : Ty := .p Rb .u
abbrev Ph : TD := .ptr 1 []
abbrev Fap : TD := .pr Da (.pr Da (.pr Da (.pr Da (.pr Da (.pr QK (.data .u))))))
abbrev Ct : TD := .data Za
abbrev Q5 : TD := .pr Da (.pr (.own 200001 Tr true) .un)
abbrev LI : Ty := .p Nb .u
abbrev RK : Ty := .sl Bf
abbrev Ck : TD := .data RK
abbrev MI : TD := .ptr 500000 []
abbrev NI : TD := .data (.sl Tr)
abbrev Dt : Ty := .sl Wb
abbrev Nn : TD := .data Dt
abbrev Et : TD := .ptr 4 []
abbrev Yu : TD := .ptr 3 []
abbrev FT : Ty := .p (.sl Zb) .u
abbrev HR : Ty := .p int (.p .o .u)
abbrev OI : Ty := .p Za .u
abbrev Rl : Ty := .sl int
abbrev QA : TD := .pr Da (.pr (.data Rl) .un)
abbrev Zx : Ty := .p int Xd
abbrev c2_ : TD := .pr (.pr (.pr Da (.pr (.own 200002 Tr true) .un)) (.pr (.own 200003 Ki true) (.pr Da (.pr (.own 200004 Bf true) (.data Zx))))) (.pr (.data Bc) (.pr (.own 200005 Za true) (.data Rb)))
abbrev FN : TD := .data Xb
abbrev L0 : TD := .own 200001 Gj true
abbrev PD : TD := .ptr 5 []
abbrev Oab : TD := .pr Da (.pr Da (.pr Da (.pr Da QA)))
abbrev PI : Ty := .p VU Ic
abbrev R5 : TD := .own 200001 Zb true
abbrev IR : Ty := .p Xb .u
abbrev JR : Ty := .p Za Ic
abbrev KR : TD := .data Ub
abbrev RA : Ty := .sl Ki
abbrev c6_ : TD := .pr (.pr Da (.pr NI .un)) (.pr (.data RA) (.pr Da (.pr Ck (.data Zx))))
abbrev DaK : TD := .pr Ct (.pr Oab (.pr (.pr Nn (.pr Da (.pr Xh (.pr Da (.pr Da (.pr Da (.pr Xh .un))))))) (.pr (.pr c6_ (.pr (.data Bc) (.pr Xh (.data Rb)))) (.data Wb))))
abbrev QI : Ty := .sl Gj
abbrev GN : Ty := .p RK .u
abbrev HT : Ty := .p Ub .u
abbrev IT : Ty := .p Zb .u
abbrev LR : Ty := .p Bc .u
abbrev HN : Ty := .p VU .u
abbrev M0 : TD := .data Nb
abbrev HaX : Ka := .pu (.p Rl Ic) Ic [true] (fun x => BM x.1 x.2.1)
abbrev Pay : WF := (125, HaX) :: ([] : WF)
theorem OaM : WO Pay := Ec Ja9 Tryz.func125
abbrev Ba8 : Ka := .pu (.p Kb Ic) Ic [true] (fun x => Tv x.1 x.2.1)
abbrev EaJ : WF := (58, Ba8) :: Pay
theorem Aa5 : WO EaJ := Ec OaM Tryz.func58
abbrev IaX : Ka := .pu (.p Dt Ic) Ic [true] (fun x => DG x.1 x.2.1)
abbrev Qay : WF := (126, IaX) :: EaJ
theorem PaM : WO Qay := Ec Aa5 Tryz.func126
abbrev JaX : Ka := .pu PI Ic [true] (fun x => Dx x.1 x.2.1)
abbrev Ray : WF := (127, JaX) :: Qay
theorem QaM : WO Ray := Ec PaM Tryz.func127
abbrev KaX : Ka := .pu PI Ic [true] (fun x => YC x.1 x.2.1)
abbrev Say : WF := (128, KaX) :: Ray
theorem RaM : WO Say := Ec QaM Tryz.func128
abbrev Ca8 : Ka := .pu (.p Nb Ic) Ic [true] (fun x => Pz x.1 x.2.1)
abbrev FaJ : WF := (59, Ca8) :: Say
theorem Ba5 : WO FaJ := Ec RaM Tryz.func59
abbrev UaW : Ka := .pu (.p Tr Ic) Ic [true] (fun x => Zt x.1 x.2.1)
abbrev Eal : WF := (111, UaW) :: FaJ
theorem BaM : WO Eal := Ec Ba5 Tryz.func111
abbrev Va7 : Ka := .pu (.p (.sl Tr) Ic) Ic [true] (fun x => Oz x.1 x.2.1)
abbrev YaI : WF := (48, Va7) :: Eal
def Gat : La := ⟨27, ⟨[(0, NI), (1, Da), (5, Da)], []⟩, 0, ⟨[(1, Da)], []⟩, ⟨[(4, Da)], []⟩, AF⟩
def Oa6 : WL := [(5, Gat)]
theorem RaK : Qa (WG true Eal [] [] []) Oa6 (lp Tryz.f48 0) := Pb 5 (ls := Gat) rfl
theorem Ua4 : WO YaI := Id BaM Tryz.func48 (Ga RaK Ia)
abbrev s_8 : Ka := .pu (.p Ub Ic) Ic [true] (fun x => FG x.1 x.2.1)
abbrev F_8 : WF := (8, s_8) :: YaI
theorem E_8 : WO F_8 := Ec Ua4 Tryz.func8
abbrev Qa2 : Ka := .pu (.p Ki Ic) Ic [true] (fun x => LB x.1 x.2.1)
abbrev Oan : WF := (275, Qa2) :: F_8
theorem XaR : WO Oan := Ec E_8 Tryz.func275
abbrev Ka0 : Ka := .pu (.p RA Ic) Ic [true] (fun x => GG x.1 x.2.1)
abbrev NaA : WF := (213, Ka0) :: Oan
def Iai : La := ⟨27, ⟨[(0, (.data RA)), (1, Da), (5, Da)], []⟩, 0, ⟨[(1, Da)], []⟩, ⟨[(4, Da)], []⟩, IJ⟩
def XaU : WL := [(5, Iai)]
theorem SaF : Qa (WG true Oan [] [] []) XaU (lp Tryz.f213 0) := Pb 5 (ls := Iai) rfl
theorem RaP : WO NaA := Id XaR Tryz.func213 (Ga SaF Ia)
abbrev La0 : Ka := .pu (.p RK Ic) Ic [true] (fun x => HJ x.1 x.2.1)
abbrev OaA : WF := (214, La0) :: NaA
theorem SaP : WO OaA := Ec RaP Tryz.func214
abbrev LaX : Ka := .pu (.p Xb Ic) Ic [true] (fun x => EG x.1 x.2.1)
abbrev Tay : WF := (129, LaX) :: OaA
theorem SaM : WO Tay := Ec SaP Tryz.func129
abbrev Da8 : Ka := .pu (.p Cc Ic) Ic [true] (fun x => ZC x.1 x.2.1)
abbrev GaJ : WF := (60, Da8) :: Tay
theorem Ca5 : WO GaJ := Ec SaM Tryz.func60
abbrev La7 : Ka := .pu (.p Ad Ic) Ic [true] (fun x => GJ x.1 x.2.1)
abbrev SaI : WF := (20, La7) :: GaJ
theorem Ka4 : WO SaI := Ec Ca5 Tryz.func20
abbrev Ka8 : Ka := .pu OI OI [true] (fun x => KG x.1)
abbrev Jav : WF := (67, Ka8) :: SaI
theorem Ja5 : WO Jav := Ec Ka4 Tryz.func67
abbrev Ga7 : Ka := .pu (.p Rl .u) (.p Rl .u) [true] (fun x => CM x.1)
abbrev OaI : WF := (11, Ga7) :: Jav
def Zas : La := ⟨22, ⟨[(0, (.data Rl)), (3, QK), (4, Da)], []⟩, 0, ⟨[(3, QK)], []⟩, ⟨[], []⟩, OB⟩
def Ha6 : WL := [(3, Zas)]
theorem KaK : Qa (WG true Jav [] [] []) Ha6 (lp Tryz.f11 0) := Pb 3 (ls := Zas) rfl
theorem Fa4 : WO OaI := Id Ja5 Tryz.func11 (Ga KaK Ia)
abbrev La8 : Ka := .pu (.p Kb .u) (.p Kb .u) [true] (fun x => Uv x.1)
abbrev JaJ : WF := (68, La8) :: OaI
theorem Ka5 : WO JaJ := Ec Fa4 Tryz.func68
abbrev Ya0 : Ka := .pu (.p Wb .u) (.p Wb .u) [true] (fun x => MB x.1)
abbrev Sam : WF := (227, Ya0) :: JaJ
theorem FaQ : WO Sam := Ec Ka5 Tryz.func227
abbrev CaY : Ka := .pu (.p Dt .u) (.p Dt .u) [true] (fun x => KN x.1)
abbrev Gaz : WF := (146, CaY) :: Sam
def Zag : La := ⟨23, ⟨[(0, Nn), (3, (.own 200001 Wb true)), (4, Da)], []⟩, 0, ⟨[(3, (.own 200001 Wb true))], []⟩, ⟨[], []⟩, KJ⟩
def TaT : WL := [(3, Zag)]
theorem JaE : Qa (WG true Sam [] [] []) TaT (lp Tryz.f146 0) := Pb 3 (ls := Zag) rfl
theorem JaN : WO Gaz := Id FaQ Tryz.func146 (Ga JaE Ia)
abbrev Za0 : Ka := .pu OI OI [true] (fun x => NB x.1)
abbrev Tam : WF := (228, Za0) :: Gaz
theorem GaQ : WO Tam := Ec JaN Tryz.func228
abbrev DaY : Ka := .pu HN HN [true] (fun x => IG x.1)
abbrev Haz : WF := (147, DaY) :: Tam
def Aah : La := ⟨23, ⟨[(0, Xh), (3, SG), (4, Da)], []⟩, 0, ⟨[(3, SG)], []⟩, ⟨[], []⟩, LJ⟩
def UaT : WL := [(3, Aah)]
theorem KaE : Qa (WG true Tam [] [] []) UaT (lp Tryz.f147 0) := Pb 3 (ls := Aah) rfl
theorem KaN : WO Haz := Id GaQ Tryz.func147 (Ga KaE Ia)
abbrev Aa1 : Ka := .pu OI OI [true] (fun x => Gx x.1)
abbrev Uam : WF := (229, Aa1) :: Haz
theorem HaQ : WO Uam := Ec KaN Tryz.func229
abbrev EaY : Ka := .pu HN HN [true] (fun x => FL x.1)
abbrev Iaz : WF := (148, EaY) :: Uam
def Bah : La := ⟨23, ⟨[(0, Xh), (3, SG), (4, Da)], []⟩, 0, ⟨[(3, SG)], []⟩, ⟨[], []⟩, YH⟩
def VaT : WL := [(3, Bah)]
theorem LaE : Qa (WG true Uam [] [] []) VaT (lp Tryz.f148 0) := Pb 3 (ls := Bah) rfl
theorem LaN : WO Iaz := Id HaQ Tryz.func148 (Ga LaE Ia)
abbrev Ma8 : Ka := .pu LI LI [true] (fun x => Qz x.1)
abbrev KaJ : WF := (69, Ma8) :: Iaz
theorem La5 : WO KaJ := Ec LaN Tryz.func69
abbrev Ba0 : Ka := .pu Em Em [true] (fun x => Hp x.1)
abbrev Gam : WF := (204, Ba0) :: KaJ
theorem IaP : WO Gam := Ec La5 Tryz.func204
abbrev ZaW : Ka := .pu (.p Tr .u) (.p Tr .u) [true] (fun x => AD x.1)
abbrev Gal : WF := (116, ZaW) :: Gam
def Iag : La := ⟨23, ⟨[(0, (.data Tr)), (3, (.own 200001 Rb true)), (4, Da)], []⟩, 0, ⟨[(3, (.own 200001 Rb true))], []⟩, ⟨[], []⟩, XH⟩
def GaT : WL := [(3, Iag)]
theorem SaD : Qa (WG true Gam [] [] []) GaT (lp Tryz.f116 0) := Pb 3 (ls := Iag) rfl
theorem GaM : WO Gal := Id IaP Tryz.func116 (Ga SaD Ia)
abbrev Wa7 : Ka := .pu (.p (.sl Tr) .u) (.p (.sl Tr) .u) [true] (fun x => JJ x.1)
abbrev ZaI : WF := (51, Wa7) :: Gal
def Hat : La := ⟨23, ⟨[(0, NI), (3, (.own 200001 Tr true)), (4, Da)], []⟩, 0, ⟨[(3, (.own 200001 Tr true))], []⟩, ⟨[], []⟩, BF⟩
def Pa6 : WL := [(3, Hat)]
theorem SaK : Qa (WG true Gal [] [] []) Pa6 (lp Tryz.f51 0) := Pb 3 (ls := Hat) rfl
theorem Va4 : WO ZaI := Id GaM Tryz.func51 (Ga SaK Ia)
abbrev Fa7 : Ka := .pu HT HT [true] (fun x => JG x.1)
abbrev NaI : WF := (10, Fa7) :: ZaI
theorem Ea4 : WO NaI := Ec Va4 Tryz.func10
abbrev Sa3 : Ka := .pu LR LR [true] (fun x => DF x.1)
abbrev Gao : WF := (303, Sa3) :: NaI
theorem ZaS : WO Gao := Ec Ea4 Tryz.func303
abbrev Wa2 : Ka := .pu (.p Ki .u) (.p Ki .u) [true] (fun x => MJ x.1)
abbrev Tan : WF := (281, Wa2) :: Gao
def Raj : La := ⟨23, ⟨[(0, (.data Ki)), (3, (.own 200001 Bc true)), (4, Da)], []⟩, 0, ⟨[(3, (.own 200001 Bc true))], []⟩, ⟨[], []⟩, FK⟩
def BaW : WL := [(3, Raj)]
theorem BaH : Qa (WG true Gao [] [] []) BaW (lp Tryz.f281 0) := Pb 3 (ls := Raj) rfl
theorem DaS : WO Tan := Id ZaS Tryz.func281 (Ga BaH Ia)
abbrev Ba1 : Ka := .pu (.p RA .u) (.p RA .u) [true] (fun x => LN x.1)
abbrev SaA : WF := (230, Ba1) :: Tan
def Pai : La := ⟨23, ⟨[(0, (.data RA)), (3, (.own 200001 Ki true)), (4, Da)], []⟩, 0, ⟨[(3, (.own 200001 Ki true))], []⟩, ⟨[], []⟩, NJ⟩
def BaV : WL := [(3, Pai)]
theorem ZaF : Qa (WG true Tan [] [] []) BaV (lp Tryz.f230 0) := Pb 3 (ls := Pai) rfl
theorem IaQ : WO SaA := Id DaS Tryz.func230 (Ga ZaF Ia)
abbrev Xa2 : Ka := .pu (.p Bf .u) (.p Bf .u) [true] (fun x => CF x.1)
abbrev Uan : WF := (282, Xa2) :: SaA
theorem EaS : WO Uan := Ec IaQ Tryz.func282
abbrev Ca1 : Ka := .pu GN GN [true] (fun x => JP x.1)
abbrev TaA : WF := (231, Ca1) :: Uan
def Qai : La := ⟨23, ⟨[(0, Ck), (3, (.own 200001 Bf true)), (4, Da)], []⟩, 0, ⟨[(3, (.own 200001 Bf true))], []⟩, ⟨[], []⟩, EK⟩
def CaV : WL := [(3, Qai)]
theorem AaG : Qa (WG true Uan [] [] []) CaV (lp Tryz.f231 0) := Pb 3 (ls := Qai) rfl
theorem JaQ : WO TaA := Id EaS Tryz.func231 (Ga AaG Ia)
abbrev FaY : Ka := .pu IR IR [true] (fun x => HG x.1)
abbrev Jaz : WF := (149, FaY) :: TaA
theorem MaN : WO Jaz := Ec JaQ Tryz.func149
abbrev GaY : Ka := .pu LR LR [true] (fun x => LG x.1)
abbrev Kaz : WF := (150, GaY) :: Jaz
theorem NaN : WO Kaz := Ec MaN Tryz.func150
abbrev Na8 : Ka := .pu (.p Cc .u) (.p Cc .u) [true] (fun x => BD x.1)
abbrev LaJ : WF := (70, Na8) :: Kaz
theorem Ma5 : WO LaJ := Ec NaN Tryz.func70
abbrev Na7 : Ka := .pu (.p Ad .u) (.p Ad .u) [true] (fun x => Wn x.1)
abbrev UaI : WF := (22, Na7) :: LaJ
theorem Ma4 : WO UaI := Ec Ma5 Tryz.func22
abbrev Ha9 : Ka := .pu Bc Xd [true] (fun x => Ac x.1 x.2.1 x.2.2.1)
abbrev UaJ : WF := (95, Ha9) :: UaI
theorem Ga6 : WO UaJ := Ec Ma4 Tryz.func95
abbrev Ma0 : Ka := .pu OI Xd [true] (fun x => Lx x.1)
abbrev PaA : WF := (215, Ma0) :: UaJ
theorem TaP : WO PaA := Ec Ga6 Tryz.func215
abbrev OaX : Ka := .pu OI Ic [true] (fun x => Wl x.1)
abbrev Way : WF := (132, OaX) :: PaA
theorem VaM : WO Way := Ec TaP Tryz.func132
abbrev MaX : Ka := .pu JR Xd [true] (fun x => Cn x.1 x.2.1)
abbrev Uay : WF := (130, MaX) :: Way
theorem TaM : WO Uay := Ec VaM Tryz.func130
abbrev Na0 : Ka := .pu (.p Za Wb) Ic [true] (fun x => KD x.1 x.2.1 x.2.2.1)
abbrev U2 : WF := (216, Na0) :: Uay
theorem UaP : WO U2 := Ec TaM Tryz.func216
abbrev NaX : Ka := .pu JR Ic [true] (fun x => Qr x.1 x.2.1)
abbrev Vay : WF := (131, NaX) :: U2
def Uac : La := ⟨53, ⟨[(2, Bh), (5, Da), (6, Da), (7, Da), (8, Da)], [(2, Za, Ct)]⟩, 4, ⟨[(2, Bh), (5, Da), (6, Da), (7, Da)], [(2, Za, Ct)]⟩, ⟨[], []⟩, Ny⟩
def Pag : La := ⟨53, ⟨[(2, Bh), (5, Da), (6, Da), (7, Da)], [(2, Za, Ct)]⟩, 2, ⟨[(2, Bh), (5, Da), (6, Da)], [(2, Za, Ct)]⟩, ⟨[], []⟩, CC⟩
def Oag : La := ⟨53, ⟨[(2, Bh), (5, Da), (6, Da)], [(2, Za, Ct)]⟩, 0, ⟨[(5, Da)], []⟩, ⟨[], []⟩, BC⟩
def Jao : WL := [(11, Uac), (8, Pag), (5, Oag)]
theorem Taw : Qa (WG true U2 [] [] []) Jao (lp Tryz.f131 2) := Pb 11 (ls := Uac) rfl
theorem ZaD : Qa (WG true U2 [] [] []) Jao (lp Tryz.f131 1) := Pb 8 (ls := Pag) rfl
theorem YaD : Qa (WG true U2 [] [] []) Jao (lp Tryz.f131 0) := Pb 5 (ls := Oag) rfl
theorem UaM : WO Vay := Id UaP Tryz.func131 (Ga Taw (Ga ZaD (Ga YaD Ia)))
abbrev Ea8 : Ka := .pu JR Zx [true, true] (fun x => Zz x.1 x.2.1)
abbrev Fav : WF := (61, Ea8) :: Vay
theorem Da5 : WO Fav := Ec UaM Tryz.func61
abbrev PaX : Ka := .pu (.p Kb .u) Xd [true] (fun x => Bo x.1)
abbrev Lal : WF := (133, PaX) :: Fav
def Qag : La := ⟨58, ⟨[(1, Ph), (3, Da)], [(1, Kb, (.data Kb))]⟩, 0, ⟨[(1, Ph)], [(1, Kb, (.data Kb))]⟩, ⟨[(2, Cf)], []⟩, Ap⟩
def LaT : WL := [(4, Qag)]
theorem AaE : Qa (WG true Fav [] [] []) LaT (lp Tryz.f133 0) := Pb 4 (ls := Qag) rfl
theorem WaM : WO Lal := Id Da5 Tryz.func133 (Ga AaE Ia)
abbrev Ra2 : Ka := .pu Ic Ic [true] (fun x => Ox x.1)
abbrev U9 : WF := (276, Ra2) :: Lal
def Naj : La := ⟨16, ⟨[(0, Da), (3, Da), (4, Da)], []⟩, 0, ⟨[(3, Da)], []⟩, ⟨[], []⟩, Iw⟩
def XaV : WL := [(3, Naj)]
theorem XaG : Qa (WG true Lal [] [] []) XaV (lp Tryz.f276 0) := Pb 3 (ls := Naj) rfl
theorem YaR : WO U9 := Id WaM Tryz.func276 (Ga XaG Ia)
abbrev Oa0 : Ka := .pu (.p Dt .u) Xd [true] (fun x => Jx x.1)
abbrev Lam : WF := (217, Oa0) :: U9
def Kai : La := ⟨69, ⟨[(0, Nn), (3, Da), (4, Da)], []⟩, 2, ⟨[(0, Nn), (3, Da)], []⟩, ⟨[(2, Cf)], []⟩, Dw⟩
def Jai : La := ⟨69, ⟨[(0, Nn), (3, Da)], []⟩, 0, ⟨[(0, Nn)], []⟩, ⟨[(2, Cf)], []⟩, Cw⟩
def CaC : WL := [(7, Kai), (2, Jai)]
theorem UaF : Qa (WG true U9 [] [] []) CaC (lp Tryz.f217 1) := Pb 7 (ls := Kai) rfl
theorem TaF : Qa (WG true U9 [] [] []) CaC (lp Tryz.f217 0) := Pb 2 (ls := Jai) rfl
theorem VaP : WO Lam := Id YaR Tryz.func217 (Ga UaF (Ga TaF Ia))
abbrev Va0 : Ka := .pu (.p Dt Ic) Ic [true] (fun x => YB x.1 x.2.1)
abbrev R9 : WF := (224, Va0) :: Lam
def Nai : La := ⟨24, ⟨[(0, Nn), (1, Da), (5, Da)], []⟩, 0, ⟨[], []⟩, ⟨[(4, Da)], []⟩, My⟩
def ZaU : WL := [(2, Nai)]
theorem XaF : Qa (WG true Lam [] [] []) ZaU (lp Tryz.f224 0) := Pb 2 (ls := Nai) rfl
theorem CaQ : WO R9 := Id VaP Tryz.func224 (Ga XaF Ia)
abbrev Pa0 : Ka := .pu LI Xd [true] (fun x => ID x.1)
abbrev Mam : WF := (218, Pa0) :: R9
def Yac : La := ⟨74, ⟨[(1, Ph), (3, Da), (4, Da), (5, PD), (7, Da)], [(1, Nb, M0), (5, Za, Ct)]⟩, 2, ⟨[(1, Ph), (3, Da), (4, Da), (5, PD)], [(1, Nb, M0), (5, Za, Ct)]⟩, ⟨[(2, Cf)], []⟩, Nr⟩
def Lai : La := ⟨74, ⟨[(1, Ph), (3, Da), (4, Da)], [(1, Nb, M0)]⟩, 0, ⟨[(1, Ph)], [(1, Nb, M0)]⟩, ⟨[(2, Cf)], []⟩, Ku⟩
def DaC : WL := [(10, Yac), (3, Lai)]
theorem Xaw : Qa (WG true R9 [] [] []) DaC (lp Tryz.f218 1) := Pb 10 (ls := Yac) rfl
theorem VaF : Qa (WG true R9 [] [] []) DaC (lp Tryz.f218 0) := Pb 3 (ls := Lai) rfl
theorem WaP : WO Mam := Id CaQ Tryz.func218 (Ga Xaw (Ga VaF Ia))
abbrev TaX : Ka := .pu LI Ic [true] (fun x => Lu x.1)
abbrev Yay : WF := (137, TaX) :: Mam
def Sag : La := ⟨23, ⟨[(1, Ph), (3, Da), (4, Da)], [(1, Nb, M0)]⟩, 0, ⟨[(3, Da)], []⟩, ⟨[], []⟩, Ly⟩
def NaT : WL := [(3, Sag)]
theorem CaE : Qa (WG true Mam [] [] []) NaT (lp Tryz.f137 0) := Pb 3 (ls := Sag) rfl
theorem AaN : WO Yay := Id WaP Tryz.func137 (Ga CaE Ia)
abbrev Ta0 : Ka := .pu OI Xd [true] (fun x => Fu x.1)
abbrev Pam : WF := (222, Ta0) :: Yay
theorem AaQ : WO Pam := Ec AaN Tryz.func222
abbrev YaX : Ka := .pu (.p VU Bc) Xd [true] (fun x => Mj x.1 x.2.1 x.2.2.1 x.2.2.2.1)
abbrev Caz : WF := (142, YaX) :: Pam
def Wag : La := ⟨73, ⟨[(0, Xh), (1, Da), (2, Da), (3, Da), (9, Da)], []⟩, 0, ⟨[(0, Xh)], []⟩, ⟨[(8, Cf)], []⟩, Mr⟩
def RaT : WL := [(2, Wag)]
theorem GaE : Qa (WG true Pam [] [] []) RaT (lp Tryz.f142 0) := Pb 2 (ls := Wag) rfl
theorem FaN : WO Caz := Id AaQ Tryz.func142 (Ga GaE Ia)
abbrev QaX : Ka := .pu LI Xd [true] (fun x => Nq x.1)
abbrev Xay : WF := (134, QaX) :: Caz
theorem XaM : WO Xay := Ec FaN Tryz.func134
abbrev Za1 : Ka := .pu Em Xd [true] (fun x => Uj x.1)
abbrev S9 : WF := (257, Za1) :: Xay
theorem GaR : WO S9 := Ec XaM Tryz.func257
abbrev NaZ : Ka := .pu HT Xd [true] (fun x => Kx x.1)
abbrev FaA : WF := (190, NaZ) :: S9
def Tah : La := ⟨74, ⟨[(1, Ph), (3, Da), (4, Da)], [(1, Ub, KR)]⟩, 2, ⟨[(1, Ph), (3, Da)], [(1, Ub, KR)]⟩, ⟨[(2, Cf)], []⟩, Xm⟩
def Sah : La := ⟨74, ⟨[(1, Ph), (3, Da)], [(1, Ub, KR)]⟩, 0, ⟨[(1, Ph)], [(1, Ub, KR)]⟩, ⟨[(2, Cf)], []⟩, Wm⟩
def AaC : WL := [(7, Tah), (2, Sah)]
theorem DaF : Qa (WG true S9 [] [] []) AaC (lp Tryz.f190 1) := Pb 7 (ls := Tah) rfl
theorem CaF : Qa (WG true S9 [] [] []) AaC (lp Tryz.f190 0) := Pb 2 (ls := Sah) rfl
theorem UaO : WO FaA := Id GaR Tryz.func190 (Ga DaF (Ga CaF Ia))
abbrev Aa2 : Ka := .pu Em Xd [true] (fun x => Fk x.1)
abbrev Ian : WF := (258, Aa2) :: FaA
theorem HaR : WO Ian := Ec UaO Tryz.func258
abbrev OaZ : Ka := .pu GN Xd [true] (fun x => Jr x.1)
abbrev Aam : WF := (191, OaZ) :: Ian
def Uah : La := ⟨57, ⟨[(0, Ck), (3, Da), (4, Da)], []⟩, 0, ⟨[], []⟩, ⟨[(2, Cf)], []⟩, TB⟩
def MaU : WL := [(3, Uah)]
theorem EaF : Qa (WG true Ian [] [] []) MaU (lp Tryz.f191 0) := Pb 3 (ls := Uah) rfl
theorem VaO : WO Aam := Id HaR Tryz.func191 (Ga EaF Ia)
abbrev Ba2 : Ka := .pu (.p RK LR) Ic [true] (fun x => Dn x.1 x.2.1)
abbrev DaB : WF := (259, Ba2) :: Aam
def Eaj : La := ⟨33, ⟨[(0, Ck), (3, Yu), (5, Da)], [(3, Bc, (.data Bc))]⟩, 0, ⟨[], []⟩, ⟨[(4, Da)], []⟩, EC⟩
def QaV : WL := [(2, Eaj)]
theorem OaG : Qa (WG true Aam [] [] []) QaV (lp Tryz.f259 0) := Pb 2 (ls := Eaj) rfl
theorem IaR : WO DaB := Id VaO Tryz.func259 (Ga OaG Ia)
abbrev Ca2 : Ka := .pu LR Em [true] (fun x => Jp x.1)
abbrev EaB : WF := (260, Ca2) :: DaB
theorem JaR : WO EaB := Ec IaR Tryz.func260
abbrev Aa0 : Ka := .pu (.p RK Ic) GN [true] (fun x => Eg x.1 x.2.1)
abbrev Fam : WF := (203, Aa0) :: EaB
theorem HaP : WO Fam := Ec JaR Tryz.func203
abbrev PaZ : Ka := .pu (.p Ki .u) Xd [true] (fun x => UB x.1)
abbrev P9 : WF := (192, PaZ) :: Fam
def Vah : La := ⟨62, ⟨[(0, (.data Ki)), (3, (.own 200001 Bf true)), (4, Da)], []⟩, 0, ⟨[(0, (.data Ki)), (3, (.own 200001 Bf true))], []⟩, ⟨[(2, Cf)], []⟩, Iy⟩
def NaU : WL := [(3, Vah)]
theorem FaF : Qa (WG true Fam [] [] []) NaU (lp Tryz.f192 0) := Pb 3 (ls := Vah) rfl
theorem WaO : WO P9 := Id HaP Tryz.func192 (Ga FaF Ia)
abbrev VaW : Ka := .pu IR Xd [true] (fun x => Ip x.1)
abbrev Kay : WF := (112, VaW) :: P9
def Fag : La := ⟨96, ⟨[(1, Ph), (3, Da)], [(1, Xb, FN)]⟩, 0, ⟨[(1, Ph)], [(1, Xb, FN)]⟩, ⟨[(2, Cf)], []⟩, Um⟩
def Gag : La := ⟨96, ⟨[(1, Ph), (4, Da)], [(1, Xb, FN)]⟩, 2, ⟨[(1, Ph)], [(1, Xb, FN)]⟩, ⟨[(2, Cf)], []⟩, Vm⟩
def XaB : WL := [(4, Fag), (9, Gag)]
theorem PaD : Qa (WG true P9 [] [] []) XaB (lp Tryz.f112 0) := Pb 4 (ls := Fag) rfl
theorem QaD : Qa (WG true P9 [] [] []) XaB (lp Tryz.f112 1) := Pb 9 (ls := Gag) rfl
theorem CaM : WO Kay := Id WaO Tryz.func112 (Ga QaD (Ga PaD Ia))
abbrev Qa0 : Ka := .pu LR Xd [true] (fun x => Mx x.1)
abbrev QaA : WF := (219, Qa0) :: Kay
theorem XaP : WO QaA := Ec CaM Tryz.func219
abbrev Ra0 : Ka := .pu Ic Ic [true] (fun x => Lr x.1)
abbrev Nam : WF := (220, Ra0) :: QaA
theorem YaP : WO Nam := Ec XaP Tryz.func220
abbrev UaX : Ka := .pu IR Ic [true] (fun x => Ju x.1)
abbrev Zay : WF := (138, UaX) :: Nam
def Tag : La := ⟨22, ⟨[(1, Ph), (3, Da), (4, Da)], [(1, Xb, FN)]⟩, 0, ⟨[(3, Da)], []⟩, ⟨[], []⟩, Jy⟩
def OaT : WL := [(3, Tag)]
theorem DaE : Qa (WG true Nam [] [] []) OaT (lp Tryz.f138 0) := Pb 3 (ls := Tag) rfl
theorem BaN : WO Zay := Id YaP Tryz.func138 (Ga DaE Ia)
abbrev RaX : Ka := .pu (.p Cc .u) Xd [true] (fun x => Eu x.1)
abbrev Mal : WF := (135, RaX) :: Zay
theorem YaM : WO Mal := Ec BaN Tryz.func135
abbrev SaX : Ka := .pu (.p int HN) Ic [true] (fun x => Tq x.1 x.2.1)
abbrev Nal : WF := (136, SaX) :: Mal
def Rag : La := ⟨21, ⟨[(0, Da), (1, Xh), (5, Da)], []⟩, 0, ⟨[(0, Da)], []⟩, ⟨[], []⟩, Pr⟩
def MaT : WL := [(2, Rag)]
theorem BaE : Qa (WG true Mal [] [] []) MaT (lp Tryz.f136 0) := Pb 2 (ls := Rag) rfl
theorem ZaM : WO Nal := Id YaM Tryz.func136 (Ga BaE Ia)
abbrev VaX : Ka := .pu LI Ic [true] (fun x => GM x.1)
abbrev Oal : WF := (139, VaX) :: Nal
def Uag : La := ⟨30, ⟨[(1, Ph), (3, Da), (4, Da)], [(1, Nb, M0)]⟩, 0, ⟨[(3, Da)], []⟩, ⟨[], []⟩, AC⟩
def PaT : WL := [(3, Uag)]
theorem EaE : Qa (WG true Nal [] [] []) PaT (lp Tryz.f139 0) := Pb 3 (ls := Uag) rfl
theorem CaN : WO Oal := Id ZaM Tryz.func139 (Ga EaE Ia)
abbrev Fa8 : Ka := .pu (.p Ad .u) Xd [true] (fun x => TJ x.1)
abbrev HaJ : WF := (62, Fa8) :: Oal
def Lat : La := ⟨129, ⟨[(1, Ph), (4, Da), (5, Da)], [(1, Ad, (.data Ad))]⟩, 0, ⟨[(1, Ph)], [(1, Ad, (.data Ad))]⟩, ⟨[(2, Cf)], []⟩, Hy⟩
def Ta6 : WL := [(6, Lat)]
theorem WaK : Qa (WG true Oal [] [] []) Ta6 (lp Tryz.f62 0) := Pb 6 (ls := Lat) rfl
theorem Ea5 : WO HaJ := Id CaN Tryz.func62 (Ga WaK Ia)
abbrev WaX : Ka := .pu JR Xd [true] (fun x => Kn x.1 x.2.1)
abbrev Aaz : WF := (140, WaX) :: HaJ
theorem DaN : WO Aaz := Ec Ea5 Tryz.func140
abbrev Sa0 : Ka := .pu (.p Za Wb) Zx [true, true] (fun x => Yv x.1 x.2.1 x.2.2.1)
abbrev Oam : WF := (221, Sa0) :: Aaz
theorem ZaP : WO Oam := Ec DaN Tryz.func221
abbrev XaX : Ka := .pu JR Ic [true] (fun x => GD x.1 x.2.1)
abbrev Baz : WF := (141, XaX) :: Oam
def Vag : La := ⟨41, ⟨[(1, Da), (2, Bh), (5, Da), (6, Da)], [(2, Za, Ct)]⟩, 0, ⟨[(5, Da)], []⟩, ⟨[], []⟩, Ml⟩
def QaT : WL := [(3, Vag)]
theorem FaE : Qa (WG true Oam [] [] []) QaT (lp Tryz.f141 0) := Pb 3 (ls := Vag) rfl
theorem EaN : WO Baz := Id ZaP Tryz.func141 (Ga FaE Ia)
abbrev Ga8 : Ka := .pu (.p Za Wb) Zx [true, true] (fun x => Kq x.1 x.2.1 x.2.2.1)
abbrev Gav : WF := (63, Ga8) :: Baz
theorem Fa5 : WO Gav := Ec EaN Tryz.func63
abbrev Ha8 : Ka := .pu (.p Kb Ic) (.p Kb Xd) [true, true] (fun x => Dm x.1 x.2.1)
abbrev IaJ : WF := (64, Ha8) :: Gav
def Mat : La := ⟨94, ⟨[(1, Da), (2, Bh), (4, Et), (6, (.ptr 6 [])), (7, Da)], [(2, Kb, (.data Kb)), (4, Kb, Oab), (6, Kb, Fap)]⟩, 0, ⟨[(1, Da), (4, Et), (6, (.ptr 6 []))], [(4, Kb, Oab), (6, Kb, Fap)]⟩, ⟨[], []⟩, Ao⟩
def Ua6 : WL := [(6, Mat)]
theorem XaK : Qa (WG true Gav [] [] []) Ua6 (lp Tryz.f64 0) := Pb 6 (ls := Mat) rfl
theorem Ga5 : WO IaJ := Id Fa5 Tryz.func64 (Ga XaK Ia)
abbrev ZaX : Ka := .pu LI LI [true] (fun x => WB x.1)
abbrev Daz : WF := (143, ZaX) :: IaJ
theorem GaN : WO Daz := Ec Ga5 Tryz.func143
abbrev Sa2 : Ka := .pu OI Xd [true] (fun x => Mu x.1)
abbrev Pan : WF := (277, Sa2) :: Daz
theorem ZaR : WO Pan := Ec GaN Tryz.func277
abbrev Ta2 : Ka := .pu (.p Dt Ic) Xd [true] (fun x => XB x.1 x.2.1)
abbrev Qan : WF := (278, Ta2) :: Pan
def Oaj : La := ⟨20, ⟨[(0, Nn), (1, Da), (5, Da)], []⟩, 0, ⟨[], []⟩, ⟨[(4, Cf)], []⟩, Ky⟩
def YaV : WL := [(2, Oaj)]
theorem YaG : Qa (WG true Pan [] [] []) YaV (lp Tryz.f278 0) := Pb 2 (ls := Oaj) rfl
theorem AaS : WO Qan := Id ZaR Tryz.func278 (Ga YaG Ia)
abbrev Ua2 : Ka := .pu (.p Dt Ic) Zx [true, true] (fun x => FF x.1 x.2.1)
abbrev Ran : WF := (279, Ua2) :: Qan
def Paj : La := ⟨37, ⟨[(0, Nn), (1, Da), (6, Da), (7, Cf), (8, Da)], []⟩, 0, ⟨[(6, Da), (7, Cf)], []⟩, ⟨[], []⟩, ZB⟩
def ZaV : WL := [(4, Paj)]
theorem ZaG : Qa (WG true Qan [] [] []) ZaV (lp Tryz.f279 0) := Pb 4 (ls := Paj) rfl
theorem BaS : WO Ran := Id AaS Tryz.func279 (Ga ZaG Ia)
abbrev Ua0 : Ka := .pu (.p Dt (.p int PI)) Bc [true, true, true] (fun x => Xz x.1 x.2.1 x.2.2.1 x.2.2.2.1)
abbrev Qam : WF := (223, Ua0) :: Ran
def Mai : La := ⟨134, ⟨[(0, Nn), (2, Xh), (3, Da), (11, Da), (12, Da), (13, Da), (14, Da)], []⟩, 0, ⟨[(0, Nn), (11, Da), (13, Da), (14, Da)], []⟩, ⟨[(8, Da), (9, Da), (10, Da)], []⟩, Rk⟩
def YaU : WL := [(9, Mai)]
theorem WaF : Qa (WG true Ran [] [] []) YaU (lp Tryz.f223 0) := Pb 9 (ls := Mai) rfl
theorem BaQ : WO Qam := Id BaS Tryz.func223 (Ga WaF Ia)
abbrev Wa0 : Ka := .bx false false Nb Wb HN [true] (fun x0 x => YJ x0 x.1 x.2.1)
abbrev Ram : WF := (225, Wa0) :: Qam
def Oai : La := ⟨93, ⟨[(0, MI), (1, Da), (2, Da), (7, Da)], [(500000, Nb, Eap)]⟩, 0, ⟨[(0, MI), (1, Da), (2, Da)], [(500000, Nb, Eap)]⟩, ⟨[(0, MI), (6, SG)], [(500000, Nb, c4_)]⟩, EE⟩
def AaV : WL := [(2, Oai)]
theorem YaF : Qa (WG false Qam [] [] []) AaV (lp Tryz.f225 0) := Pb 2 (ls := Oai) rfl
theorem DaQ : WO Ram := WZ BaQ Tryz.func225 (Ga YaF Ia)
abbrev AaY : Ka := .bx false false Nb .u HN [true] (fun x0 x => Xx x0)
abbrev Eaz : WF := (144, AaY) :: Ram
def Xag : La := ⟨130, ⟨[(0, MI), (3, SG)], [(500000, Nb, c4_)]⟩, 0, ⟨[(0, MI), (3, SG)], [(500000, Nb, c4_)]⟩, ⟨[(0, MI), (2, SG)], [(500000, Nb, c4_)]⟩, Ej⟩
def SaT : WL := [(2, Xag)]
theorem HaE : Qa (WG false Ram [] [] []) SaT (lp Tryz.f144 0) := Pb 2 (ls := Xag) rfl
theorem HaN : WO Eaz := WZ DaQ Tryz.func144 (Ga HaE Ia)
abbrev Ia8 : Ka := .pu (.p Nb PI) (.p Nb (.p VU Xd)) [true, true, true] (fun x => Mq x.1 x.2.1 x.2.2.1)
abbrev Hav : WF := (65, Ia8) :: Eaz
theorem Ha5 : WO Hav := Ec HaN Tryz.func65
abbrev QaZ : Ka := .pu HT HT [true] (fun x => HM x.1)
abbrev Bam : WF := (193, QaZ) :: Hav
def Wah : La := ⟨28, ⟨[(1, Ph), (2, Bh), (3, Yu), (4, Da)], [(1, Ub, KR), (2, Ub, (.pr Da (.pr NI .un))), (3, Ub, Q5)]⟩, 0, ⟨[(2, Bh), (3, Yu)], [(2, Ub, (.pr Da (.pr NI .un))), (3, Ub, Q5)]⟩, ⟨[], []⟩, DC⟩
def OaU : WL := [(3, Wah)]
theorem GaF : Qa (WG true Hav [] [] []) OaU (lp Tryz.f193 0) := Pb 3 (ls := Wah) rfl
theorem XaO : WO Bam := Id Ha5 Tryz.func193 (Ga GaF Ia)
abbrev WaW : Ka := .pu IR IR [true] (fun x => Rr x.1)
abbrev Fal : WF := (113, WaW) :: Bam
def Hag : La := ⟨37, ⟨[(1, Ph), (2, Bh), (3, Yu), (4, Da)], [(1, Xb, FN), (2, Xb, c6_), (3, Xb, (.pr Q5 (.pr (.own 200002 Ki true) (.data (.p int (.p RK Zx))))))]⟩, 0, ⟨[(1, Ph), (2, Bh), (3, Yu)], [(1, Xb, FN), (2, Xb, c6_), (3, Xb, (.pr Q5 (.pr (.own 200002 Ki true) (.data (.p int (.p RK Zx))))))]⟩, ⟨[], []⟩, FC⟩
def FaT : WL := [(5, Hag)]
theorem RaD : Qa (WG true Bam [] [] []) FaT (lp Tryz.f113 0) := Pb 5 (ls := Hag) rfl
theorem DaM : WO Fal := Id XaO Tryz.func113 (Ga RaD Ia)
abbrev TaZ : Ka := .pu (.p int GN) Ic [true] (fun x => Nx x.1 x.2.1)
abbrev Dam : WF := (196, TaZ) :: Fal
def Yah : La := ⟨38, ⟨[(1, Ck), (5, Da), (6, Da)], []⟩, 0, ⟨[(5, Da)], []⟩, ⟨[], []⟩, Ym⟩
def QaU : WL := [(5, Yah)]
theorem IaF : Qa (WG true Fal [] [] []) QaU (lp Tryz.f196 0) := Pb 5 (ls := Yah) rfl
theorem AaP : WO Dam := Id DaM Tryz.func196 (Ga IaF Ia)
abbrev Da2 : Ka := .pu (.p Ub Wb) Ic [true] (fun x => VJ x.1 x.2.1 x.2.2.1)
abbrev FaB : WF := (261, Da2) :: Dam
def Faj : La := ⟨45, ⟨[(1, Da), (2, Da), (3, Yu), (7, Da)], [(3, Ub, KR)]⟩, 0, ⟨[], []⟩, ⟨[(6, Da)], []⟩, Ii⟩
def RaV : WL := [(4, Faj)]
theorem PaG : Qa (WG true Dam [] [] []) RaV (lp Tryz.f261 0) := Pb 4 (ls := Faj) rfl
theorem KaR : WO FaB := Id AaP Tryz.func261 (Ga PaG Ia)
abbrev SaZ : Ka := .pu (.p Ub Wb) Em [true] (fun x => Ix x.1 x.2.1 x.2.2.1)
abbrev Cam : WF := (195, SaZ) :: FaB
theorem ZaO : WO Cam := Ec KaR Tryz.func195
abbrev Va2 : Ka := .pu (.p Bc (.p int (.p int PI))) Wb [true, true] (fun x => OG x.1 x.2.1 x.2.2.1 x.2.2.2.1 x.2.2.2.2.1)
abbrev San : WF := (280, Va2) :: Cam
def Qaj : La := ⟨101, ⟨[(1, Da), (3, Xh), (4, Da), (5, PD), (12, Da), (13, Da), (14, Da)], [(5, Bc, (.data Bc))]⟩, 0, ⟨[(4, Da), (12, Da)], []⟩, ⟨[(10, Da), (11, Da)], []⟩, Zv⟩
def AaW : WL := [(6, Qaj)]
theorem AaH : Qa (WG true Cam [] [] []) AaW (lp Tryz.f280 0) := Pb 6 (ls := Qaj) rfl
theorem CaS : WO San := Id ZaO Tryz.func280 (Ga AaH Ia)
abbrev RaZ : Ka := .pu (.p Xb Ic) Ic [true] (fun x => EF x.1 x.2.1)
abbrev GaA : WF := (194, RaZ) :: San
def Xah : La := ⟨22, ⟨[(1, Da), (2, Bh), (5, Da)], [(2, Xb, FN)]⟩, 0, ⟨[], []⟩, ⟨[(4, Da)], []⟩, SB⟩
def PaU : WL := [(2, Xah)]
theorem HaF : Qa (WG true San [] [] []) PaU (lp Tryz.f194 0) := Pb 2 (ls := Xah) rfl
theorem YaO : WO GaA := Id CaS Tryz.func194 (Ga HaF Ia)
abbrev UaZ : Ka := .pu Em Em [true] (fun x => FM x.1)
abbrev HaA : WF := (197, UaZ) :: GaA
theorem BaP : WO HaA := Ec YaO Tryz.func197
abbrev VaZ : Ka := .pu Em Em [true] (fun x => GO x.1)
abbrev IaA : WF := (198, VaZ) :: HaA
theorem CaP : WO IaA := Ec BaP Tryz.func198
abbrev Ja3 : Ka := .pu Ic Xd [true] (fun x => Wz x.1)
abbrev PaB : WF := (294, Ja3) :: IaA
theorem QaS : WO PaB := Ec CaP Tryz.func294
abbrev Ea2 : Ka := .bx false false Xb Em Em [true] (fun x0 x => KU x0 x.1)
abbrev GaB : WF := (262, Ea2) :: PaB
theorem LaR : WO GaB := WZ (L := []) (m := []) (v := []) (l := []) QaS Tryz.func262 Ia
abbrev WaZ : Ka := .bx false false Xb Em Em [true] (fun x0 x => Xl x0 x.1)
abbrev T2 : WF := (199, WaZ) :: GaB
theorem DaP : WO T2 := WZ (L := []) (m := []) (v := []) (l := []) LaR Tryz.func199 Ia
abbrev YaZ : Ka := .pu GN IT [true] (fun x => Ke x.1)
abbrev KX : WF := (201, YaZ) :: T2
def Aai : La := ⟨70, ⟨[(0, Ck), (2, Bh), (3, Yu), (4, Da)], [(2, Zb, QA), (3, Zb, (.pr Da (.pr QK .un)))]⟩, 0, ⟨[(0, Ck), (2, Bh), (3, Yu)], [(2, Zb, QA), (3, Zb, (.pr Da (.pr QK .un)))]⟩, ⟨[], []⟩, Ew⟩
def Xac : La := ⟨70, ⟨[(0, Ck), (2, Bh), (3, Yu), (5, Da), (6, Da)], [(2, Zb, QA), (3, Zb, (.pr Da (.pr (.own 200201 int true) .un)))]⟩, 4, ⟨[(0, Ck), (2, Bh), (3, Yu), (5, Da)], [(2, Zb, QA), (3, Zb, (.pr Da (.pr (.own 200201 int true) .un)))]⟩, ⟨[], []⟩, Ol⟩
def Wac : La := ⟨70, ⟨[(0, Ck), (2, Bh), (3, Yu), (5, Da)], [(2, Zb, QA), (3, Zb, (.pr Da (.pr (.own 200101 int true) .un)))]⟩, 2, ⟨[(2, Bh), (3, Yu)], [(2, Zb, QA), (3, Zb, (.pr Da (.pr (.own 200101 int true) .un)))]⟩, ⟨[], []⟩, Hu⟩
def Kao : WL := [(5, Aai), (13, Xac), (10, Wac)]
theorem KaF : Qa (WG true T2 [] [] []) Kao (lp Tryz.f201 0) := Pb 5 (ls := Aai) rfl
theorem Waw : Qa (WG true T2 [] [] []) Kao (lp Tryz.f201 2) := Pb 13 (ls := Xac) rfl
theorem Vaw : Qa (WG true T2 [] [] []) Kao (lp Tryz.f201 1) := Pb 10 (ls := Wac) rfl
theorem FaP : WO KX := Id DaP Tryz.func201 (Ga Waw (Ga Vaw (Ga KaF Ia)))
abbrev Fa2 : Ka := .pu (.p RK GN) IT [true] (fun x => Oh x.1 x.2.1)
abbrev Jan : WF := (263, Fa2) :: KX
def Gaj : La := ⟨77, ⟨[(1, Ck), (4, Et), (5, PD), (6, Da)], [(4, Zb, QA), (5, Zb, (.pr Da (.pr QK .un)))]⟩, 0, ⟨[(1, Ck), (4, Et), (5, PD)], [(4, Zb, QA), (5, Zb, (.pr Da (.pr QK .un)))]⟩, ⟨[], []⟩, Nw⟩
def Bad : La := ⟨77, ⟨[(1, Ck), (4, Et), (5, PD), (7, (.own 200201 int true)), (8, Da), (9, Cf), (10, Da)], [(4, Zb, QA), (5, Zb, (.pr Da (.pr (.own 200202 int true) .un)))]⟩, 4, ⟨[(1, Ck), (4, Et), (5, PD), (7, (.own 200201 int true)), (8, Da), (9, Cf)], [(4, Zb, QA), (5, Zb, (.pr Da (.pr (.own 200202 int true) .un)))]⟩, ⟨[], []⟩, Pl⟩
def Cad : La := ⟨77, ⟨[(1, Ck), (4, Et), (5, PD), (7, (.own 200301 int true)), (8, Da), (9, Cf), (11, Da)], [(4, Zb, QA), (5, Zb, (.pr Da (.pr (.own 200302 int true) .un)))]⟩, 6, ⟨[(1, Ck), (4, Et), (5, PD), (7, (.own 200301 int true)), (8, Da), (9, Cf)], [(4, Zb, QA), (5, Zb, (.pr Da (.pr (.own 200302 int true) .un)))]⟩, ⟨[], []⟩, Ql⟩
def Haj : La := ⟨77, ⟨[(1, Ck), (4, Et), (5, PD), (7, (.own 200101 int true)), (8, Da)], [(4, Zb, QA), (5, Zb, (.pr Da (.pr (.own 200102 int true) .un)))]⟩, 2, ⟨[(4, Et), (5, PD), (7, (.own 200101 int true))], [(4, Zb, QA), (5, Zb, (.pr Da (.pr (.own 200102 int true) .un)))]⟩, ⟨[], []⟩, Ow⟩
def W9 : WL := [(3, Gaj), (12, Bad), (16, Cad), (8, Haj)]
theorem QaG : Qa (WG true KX [] [] []) W9 (lp Tryz.f263 0) := Pb 3 (ls := Gaj) rfl
theorem Aax : Qa (WG true KX [] [] []) W9 (lp Tryz.f263 2) := Pb 12 (ls := Bad) rfl
theorem Bax : Qa (WG true KX [] [] []) W9 (lp Tryz.f263 3) := Pb 16 (ls := Cad) rfl
theorem RaG : Qa (WG true KX [] [] []) W9 (lp Tryz.f263 1) := Pb 8 (ls := Haj) rfl
theorem MaR : WO Jan := Id FaP Tryz.func263 (Ga Bax (Ga Aax (Ga RaG (Ga QaG Ia))))
abbrev XaZ : Ka := .pu (.p RK (.p Ki .u)) FT [true] (fun x => Pj x.1 x.2.1)
abbrev Eam : WF := (200, XaZ) :: Jan
def Zah : La := ⟨60, ⟨[(0, Ck), (1, (.data Ki)), (5, R5), (6, (.own 200002 Bf true)), (7, Da)], []⟩, 0, ⟨[(5, R5)], []⟩, ⟨[], []⟩, Eo⟩
def RaU : WL := [(6, Zah)]
theorem JaF : Qa (WG true Jan [] [] []) RaU (lp Tryz.f200 0) := Pb 6 (ls := Zah) rfl
theorem EaP : WO Eam := Id MaR Tryz.func200 (Ga JaF Ia)
abbrev Ga2 : Ka := .pu (.p Zb IT) Xd [true] (fun x => AA x.1 x.2.1)
abbrev HaB : WF := (264, Ga2) :: Eam
def Iaj : La := ⟨38, ⟨[(2, Bh), (3, Yu), (5, Da)], [(2, Zb, (.data Zb)), (3, Zb, (.data Zb))]⟩, 0, ⟨[], []⟩, ⟨[(4, Cf)], []⟩, Kr⟩
def SaV : WL := [(4, Iaj)]
theorem SaG : Qa (WG true Eam [] [] []) SaV (lp Tryz.f264 0) := Pb 4 (ls := Iaj) rfl
theorem NaR : WO HaB := Id EaP Tryz.func264 (Ga SaG Ia)
abbrev Ha2 : Ka := .pu IT IT [true] (fun x => JM x.1)
abbrev Kan : WF := (265, Ha2) :: HaB
theorem OaR : WO Kan := Ec NaR Tryz.func265
abbrev ZaZ : Ka := .pu (.p Zb FT) FT [true] (fun x => Sg x.1 x.2.1)
abbrev JaA : WF := (202, ZaZ) :: Kan
def Bai : La := ⟨34, ⟨[(1, (.data (.sl Zb))), (2, Bh), (5, R5), (6, Da)], [(2, Zb, (.data Zb))]⟩, 0, ⟨[(5, R5)], []⟩, ⟨[], []⟩, Nu⟩
def SaU : WL := [(3, Bai)]
theorem LaF : Qa (WG true Kan [] [] []) SaU (lp Tryz.f202 0) := Pb 3 (ls := Bai) rfl
theorem GaP : WO JaA := Id OaR Tryz.func202 (Ga LaF Ia)
abbrev XaW : Ka := .pu (.p Xb Zx) (.p Xb (.p (.sl Zb) Xd)) [true, true, true] (fun x => Sk x.1 x.2.1 x.2.2.1)
abbrev Lay : WF := (114, XaW) :: JaA
theorem EaM : WO Lay := Ec GaP Tryz.func114
abbrev Xa0 : Ka := .bx false false Cc JR (.p (.sl Zb) Zx) [true, true, true] (fun x0 x => Iu x0 x.1 x.2.1)
abbrev RaA : WF := (226, Xa0) :: Lay
theorem EaQ : WO RaA := WZ (L := []) (m := []) (v := []) (l := []) EaM Tryz.func226 Ia
abbrev YaW : Ka := .pu (.p Xb Ic) (.p Xb (.p (.sl Zb) Xd)) [true, true, true] (fun x => VB x.1 x.2.1)
abbrev N9 : WF := (115, YaW) :: RaA
theorem FaM : WO N9 := Ec EaQ Tryz.func115
abbrev BaY : Ka := .bx false false Cc .u (.p QI .u) [true] (fun x0 x => Wx x0)
abbrev Faz : WF := (145, BaY) :: N9
def Vac : La := ⟨109, ⟨[(0, MI), (3, (.own 200101 Gj true)), (5, Da), (6, (.mov 200102 Zb)), (13, Da)], [(500000, Cc, (.pr (.pr (.pr Da (.pr (.own 200103 Tr true) .un)) (.pr (.own 200104 Ki true) (.pr Da (.pr (.own 200105 Bf true) (.data Zx))))) (.pr (.data Bc) (.pr (.own 200106 Za true) (.data Rb)))))]⟩, 2, ⟨[(0, MI), (3, (.own 200101 Gj true)), (5, Da)], [(500000, Cc, (.pr (.pr (.pr Da (.pr (.own 200102 Tr true) .un)) (.pr (.own 200103 Ki true) (.pr Da (.pr (.own 200104 Bf true) (.data Zx))))) (.pr (.data Bc) (.pr (.own 200105 Za true) (.data Rb)))))]⟩, ⟨[], []⟩, Ji⟩
def Yag : La := ⟨109, ⟨[(0, MI), (3, L0)], [(500000, Cc, c2_)]⟩, 0, ⟨[(0, MI), (3, L0)], [(500000, Cc, c2_)]⟩, ⟨[(0, MI), (2, L0)], [(500000, Cc, c2_)]⟩, Dj⟩
def ZaB : WL := [(18, Vac), (2, Yag)]
theorem Uaw : Qa (WG false N9 [] [] [90]) ZaB (lp Tryz.f145 1) := Pb 18 (ls := Vac) rfl
theorem IaE : Qa (WG false N9 [] [] [90]) ZaB (lp Tryz.f145 0) := Pb 2 (ls := Yag) rfl
theorem IaN : WO Faz := WZ FaM Tryz.func145 (Ga Uaw (Ga IaE Ia))
abbrev Ja8 : Ka := .pu (.p Cc PI) (.p Cc (.p QI Xd)) [true, true, true] (fun x => Yz x.1 x.2.1 x.2.2.1)
abbrev Iav : WF := (66, Ja8) :: Faz
theorem Ia5 : WO Iav := Ec IaN Tryz.func66
abbrev Ma7 : Ka := .pu (.p Ad Ic) (.p Ad (.p QI Xd)) [true, true, true] (fun x => Du x.1 x.2.1)
abbrev TaI : WF := (21, Ma7) :: Iav
def Cat : La := ⟨127, ⟨[(2, Bh), (4, Et), (9, Da), (11, (.ptr 11 [])), (13, SG), (14, Da)], [(2, Ad, (.data Ad)), (4, Ad, DaK), (11, Kb, (.pr Da (.pr Da (.pr Da (.pr Da (.pr Da (.pr (.own 200002 int true) .un)))))))]⟩, 0, ⟨[(2, Bh), (4, Et), (9, Da), (11, (.ptr 11 [])), (13, SG)], [(2, Ad, (.data Ad)), (4, Ad, DaK), (11, Kb, (.pr Da (.pr Da (.pr Da (.pr Da (.pr Da (.pr (.own 200002 int true) .un)))))))]⟩, ⟨[], []⟩, Aj⟩
def Ka6 : WL := [(8, Cat)]
theorem NaK : Qa (WG true Iav [] [] []) Ka6 (lp Tryz.f21 0) := Pb 8 (ls := Cat) rfl
theorem La4 : WO TaI := Id Ia5 Tryz.func21 (Ga NaK Ia)
abbrev HaY : Ka := .pu OI Xd [true] (fun x => Fp x.1)
abbrev Pal : WF := (151, HaY) :: TaI
theorem OaN : WO Pal := Ec La4 Tryz.func151
abbrev IaY : Ka := .pu (.p Kb .u) Xd [true] (fun x => Qn x.1)
abbrev Laz : WF := (152, IaY) :: Pal
def Cah : La := ⟨79, ⟨[(66, (.data Rl)), (67, Da), (68, Da)], []⟩, 0, ⟨[], []⟩, ⟨[(2, Cf)], []⟩, Zo⟩
def WaT : WL := [(6, Cah)]
theorem MaE : Qa (WG true Pal [] [] []) WaT (lp Tryz.f152 0) := Pb 6 (ls := Cah) rfl
theorem PaN : WO Laz := Id OaN Tryz.func152 (Ga MaE Ia)
abbrev Ta3 : Ka := .pu (.p (.i .u32) .u) Ic [true] (fun x => K0 x.1)
abbrev VaB : WF := (304, Ta3) :: Laz
theorem AaT : WO VaB := Ec PaN Tryz.func304
abbrev Ua3 : Ka := .pu (.p (.i .u64) .u) Ic [true] (fun x => RG x.1)
abbrev WaB : WF := (305, Ua3) :: VaB
theorem BaT : WO WaB := Ec AaT Tryz.func305
abbrev Ya2 : Ka := .pu (.p (.i .u64) .u) Ic [true] (fun x => MC x.1)
abbrev V9 : WF := (283, Ya2) :: WaB
theorem FaS : WO V9 := Ec BaT Tryz.func283
abbrev Da1 : Ka := .pu (.p Dt .u) Xd [true] (fun x => Ww x.1)
abbrev Vam : WF := (232, Da1) :: V9
def Zac : La := ⟨68, ⟨[(0, Nn), (4, Et), (11, Nn), (12, Da), (13, Da), (48, Nn), (49, Da), (50, Da)], [(4, Wb, (.data Wb))]⟩, 2, ⟨[(0, Nn), (11, Nn), (12, Da), (13, Da)], []⟩, ⟨[(2, Cf)], []⟩, Kt⟩
def Rai : La := ⟨68, ⟨[(0, Nn), (11, Nn), (12, Da), (13, Da)], []⟩, 0, ⟨[], []⟩, ⟨[(2, Cf)], []⟩, Gv⟩
def EaC : WL := [(12, Zac), (4, Rai)]
theorem Yaw : Qa (WG true V9 [] [] []) EaC (lp Tryz.f232 1) := Pb 12 (ls := Zac) rfl
theorem BaG : Qa (WG true V9 [] [] []) EaC (lp Tryz.f232 0) := Pb 4 (ls := Rai) rfl
theorem KaQ : WO Vam := Id FaS Tryz.func232 (Ga Yaw (Ga BaG Ia))
abbrev Ka1 : Ka := .pu (.p Dt Ic) (.p Wb Xd) [true, true] (fun x => WA x.1 x.2.1)
abbrev WaA : WF := (239, Ka1) :: Vam
def Vai : La := ⟨21, ⟨[(1, Da), (4, Et), (8, Nn), (9, Da), (10, Da)], [(4, Wb, (.data Wb))]⟩, 0, ⟨[(4, Et)], [(4, Wb, (.data Wb))]⟩, ⟨[(4, Et), (5, Cf)], [(4, Wb, (.data Wb))]⟩, Gy⟩
def HaV : WL := [(2, Vai)]
theorem FaG : Qa (WG true Vam [] [] []) HaV (lp Tryz.f239 0) := Pb 2 (ls := Vai) rfl
theorem RaQ : WO WaA := Id KaQ Tryz.func239 (Ga FaG Ia)
abbrev RaY : Ka := .pu Wb Ic [true] (fun x => Le x.1 x.2.1)
abbrev Qal : WF := (161, RaY) :: WaA
theorem YaN : WO Qal := Ec RaQ Tryz.func161
abbrev Ea1 : Ka := .pu LI Xd [true] (fun x => Xy x.1)
abbrev Wam : WF := (233, Ea1) :: Qal
def Sai : La := ⟨61, ⟨[(1, Ph), (3, Da), (9, Xh), (10, Da), (11, Da)], [(1, Nb, M0)]⟩, 0, ⟨[], []⟩, ⟨[(2, Cf)], []⟩, Br⟩
def DaV : WL := [(3, Sai)]
theorem CaG : Qa (WG true Qal [] [] []) DaV (lp Tryz.f233 0) := Pb 3 (ls := Sai) rfl
theorem LaQ : WO Wam := Id YaN Tryz.func233 (Ga CaG Ia)
abbrev MaY : Ka := .pu LI Zx [true, true] (fun x => Yh x.1)
abbrev Paz : WF := (156, MaY) :: Wam
def Dah : La := ⟨27, ⟨[(4, Da), (10, Xh), (11, Da), (12, Da)], []⟩, 0, ⟨[(4, Da)], []⟩, ⟨[(2, Da), (3, Cf)], []⟩, Un⟩
def XaT : WL := [(3, Dah)]
theorem NaE : Qa (WG true Wam [] [] []) XaT (lp Tryz.f156 0) := Pb 3 (ls := Dah) rfl
theorem TaN : WO Paz := Id LaQ Tryz.func156 (Ga NaE Ia)
abbrev Za2 : Ka := .pu OI Xd [true] (fun x => Mt x.1)
abbrev Van : WF := (284, Za2) :: Paz
theorem GaS : WO Van := Ec TaN Tryz.func284
abbrev Ha1 : Ka := .pu PI Zx [true, true] (fun x => ZL x.1 x.2.1)
abbrev Zam : WF := (236, Ha1) :: Van
def Tai : La := ⟨53, ⟨[(0, Xh), (1, Da), (11, Xh), (12, Da), (13, Da)], []⟩, 0, ⟨[(1, Da)], []⟩, ⟨[(4, Da), (5, Cf)], []⟩, YA⟩
def EaV : WL := [(4, Tai)]
theorem DaG : Qa (WG true Van [] [] []) EaV (lp Tryz.f236 0) := Pb 4 (ls := Tai) rfl
theorem OaQ : WO Zam := Id GaS Tryz.func236 (Ga DaG Ia)
abbrev UaY : Ka := .pu (.p VU Wb) Xd [true] (fun x => Uh x.1 x.2.1 x.2.2.1)
abbrev Uaz : WF := (164, UaY) :: Zam
def Hah : La := ⟨29, ⟨[(0, Xh), (1, Da), (2, Da), (11, Xh), (12, Da), (13, Da)], []⟩, 0, ⟨[(0, Xh), (1, Da)], []⟩, ⟨[(6, Cf)], []⟩, Tt⟩
def BaU : WL := [(2, Hah)]
theorem RaE : Qa (WG true Zam [] [] []) BaU (lp Tryz.f164 0) := Pb 2 (ls := Hah) rfl
theorem BaO : WO Uaz := Id OaQ Tryz.func164 (Ga RaE Ia)
abbrev SaY : Ka := .pu PI Xd [true] (fun x => Sh x.1 x.2.1)
abbrev Taz : WF := (162, SaY) :: Uaz
theorem ZaN : WO Taz := Ec BaO Tryz.func162
abbrev JaY : Ka := .pu LI Xd [true] (fun x => Rp x.1)
abbrev Maz : WF := (153, JaY) :: Taz
theorem QaN : WO Maz := Ec ZaN Tryz.func153
abbrev Ka3 : Ka := .pu Ic Xd [true] (fun x => Tx x.1)
abbrev QaB : WF := (295, Ka3) :: Maz
theorem RaS : WO QaB := Ec QaN Tryz.func295
abbrev La3 : Ka := .pu Ic Xd [true] (fun x => Er x.1)
abbrev RaB : WF := (296, La3) :: QaB
theorem SaS : WO RaB := Ec RaS Tryz.func296
abbrev Ma3 : Ka := .pu Ic Xd [true] (fun x => Pt x.1)
abbrev SaB : WF := (297, Ma3) :: RaB
theorem TaS : WO SaB := Ec SaS Tryz.func297
abbrev Ia2 : Ka := .pu Em Xd [true] (fun x => Rj x.1)
abbrev T9 : WF := (266, Ia2) :: SaB
theorem PaR : WO T9 := Ec TaS Tryz.func266
abbrev Ca0 : Ka := .pu HT Xd [true] (fun x => Xw x.1)
abbrev Ham : WF := (205, Ca0) :: T9
def Dai : La := ⟨73, ⟨[(1, Ph), (3, Da), (28, NI), (29, Da), (30, Da), (40, (.data Tr)), (41, Da), (42, Da)], [(1, Ub, KR)]⟩, 2, ⟨[(1, Ph), (28, NI), (29, Da), (30, Da)], [(1, Ub, KR)]⟩, ⟨[(2, Cf)], []⟩, Lm⟩
def Cai : La := ⟨73, ⟨[(1, Ph), (28, NI), (29, Da), (30, Da)], [(1, Ub, KR)]⟩, 0, ⟨[], []⟩, ⟨[(2, Cf)], []⟩, Km⟩
def BaC : WL := [(9, Dai), (4, Cai)]
theorem NaF : Qa (WG true T9 [] [] []) BaC (lp Tryz.f205 1) := Pb 9 (ls := Dai) rfl
theorem MaF : Qa (WG true T9 [] [] []) BaC (lp Tryz.f205 0) := Pb 4 (ls := Cai) rfl
theorem JaP : WO Ham := Id PaR Tryz.func205 (Ga NaF (Ga MaF Ia))
abbrev Da0 : Ka := .pu GN Xd [true] (fun x => Nk x.1)
abbrev Iam : WF := (206, Da0) :: Ham
def Eai : La := ⟨46, ⟨[(3, Da), (6, Ck), (7, Da), (8, Da)], []⟩, 0, ⟨[], []⟩, ⟨[(2, Cf)], []⟩, UA⟩
def TaU : WL := [(3, Eai)]
theorem OaF : Qa (WG true Ham [] [] []) TaU (lp Tryz.f206 0) := Pb 3 (ls := Eai) rfl
theorem KaP : WO Iam := Id JaP Tryz.func206 (Ga OaF Ia)
abbrev Ja2 : Ka := .pu (.p Dt (.p Wb .u)) Ic [true] (fun x => NE x.1 x.2.1)
abbrev Lan : WF := (267, Ja2) :: Iam
def Jaj : La := ⟨19, ⟨[(3, Yu), (7, Nn), (8, Da), (9, Da)], [(3, Wb, (.data Wb))]⟩, 0, ⟨[], []⟩, ⟨[(4, Da)], []⟩, BB⟩
def TaV : WL := [(2, Jaj)]
theorem TaG : Qa (WG true Iam [] [] []) TaV (lp Tryz.f267 0) := Pb 2 (ls := Jaj) rfl
theorem QaR : WO Lan := Id KaP Tryz.func267 (Ga TaG Ia)
abbrev Ea0 : Ka := .pu (.p Ki .u) Xd [true] (fun x => VA x.1)
abbrev Q9 : WF := (207, Ea0) :: Lan
def Fai : La := ⟨62, ⟨[(3, (.own 200001 Wb true)), (11, (.data Ki)), (12, Da), (13, Da)], []⟩, 0, ⟨[(3, (.own 200001 Wb true))], []⟩, ⟨[(2, Cf)], []⟩, Dy⟩
def UaU : WL := [(5, Fai)]
theorem PaF : Qa (WG true Lan [] [] []) UaU (lp Tryz.f207 0) := Pb 5 (ls := Fai) rfl
theorem LaP : WO Q9 := Id QaR Tryz.func207 (Ga PaF Ia)
abbrev CaX : Ka := .pu IR Xd [true] (fun x => PF x.1)
abbrev Nay : WF := (119, CaX) :: Q9
def Lag : La := ⟨92, ⟨[(1, Ph), (35, (.data RA)), (36, Da), (37, Da)], [(1, Xb, FN)]⟩, 0, ⟨[(1, Ph)], [(1, Xb, FN)]⟩, ⟨[(2, Cf)], []⟩, Jm⟩
def Tac : La := ⟨92, ⟨[(1, Ph), (5, Da), (50, Ck), (51, Da), (52, Da)], [(1, Xb, FN)]⟩, 2, ⟨[(1, Ph), (5, Da)], [(1, Xb, FN)]⟩, ⟨[(2, Cf)], []⟩, Dl⟩
def YaB : WL := [(4, Lag), (11, Tac)]
theorem VaD : Qa (WG true Q9 [] [] []) YaB (lp Tryz.f119 0) := Pb 4 (ls := Lag) rfl
theorem Saw : Qa (WG true Q9 [] [] []) YaB (lp Tryz.f119 1) := Pb 11 (ls := Tac) rfl
theorem JaM : WO Nay := Id LaP Tryz.func119 (Ga Saw (Ga VaD Ia))
abbrev Fa1 : Ka := .pu LR Xd [true] (fun x => Yw x.1)
abbrev Xam : WF := (234, Fa1) :: Nay
theorem MaQ : WO Xam := Ec JaM Tryz.func234
abbrev OaY : Ka := .pu GN Ic [true] (fun x => Sl x.1)
abbrev Qaz : WF := (158, OaY) :: Xam
def Fah : La := ⟨19, ⟨[(3, Da), (6, Ck), (7, Da), (8, Da)], []⟩, 0, ⟨[(3, Da)], []⟩, ⟨[], []⟩, Mv⟩
def ZaT : WL := [(3, Fah)]
theorem PaE : Qa (WG true Xam [] [] []) ZaT (lp Tryz.f158 0) := Pb 3 (ls := Fah) rfl
theorem VaN : WO Qaz := Id MaQ Tryz.func158 (Ga PaE Ia)
abbrev KaY : Ka := .pu (.p Cc .u) Xd [true] (fun x => Lt x.1)
abbrev Naz : WF := (154, KaY) :: Qaz
theorem RaN : WO Naz := Ec VaN Tryz.func154
abbrev LaY : Ka := .pu OI Ic [true] (fun x => Sj x.1)
abbrev Oaz : WF := (155, LaY) :: Naz
theorem SaN : WO Oaz := Ec RaN Tryz.func155
abbrev Pa8 : Ka := .pu JR Xd [true] (fun x => Zm x.1 x.2.1)
abbrev Kav : WF := (72, Pa8) :: Oaz
theorem Oa5 : WO Kav := Ec SaN Tryz.func72
abbrev NaY : Ka := .pu (.p int HN) Ic [true] (fun x => Qt x.1 x.2.1)
abbrev O9 : WF := (157, NaY) :: Kav
def Eah : La := ⟨27, ⟨[(0, Da), (7, Xh), (8, Da), (9, Da)], []⟩, 0, ⟨[(0, Da)], []⟩, ⟨[], []⟩, Rt⟩
def YaT : WL := [(2, Eah)]
theorem OaE : Qa (WG true Kav [] [] []) YaT (lp Tryz.f157 0) := Pb 2 (ls := Eah) rfl
theorem UaN : WO O9 := Id Oa5 Tryz.func157 (Ga OaE Ia)
abbrev Oa8 : Ka := .pu (.p Ad .u) Xd [true] (fun x => UI x.1)
abbrev C0 : WF := (71, Oa8) :: O9
def Oat : La := ⟨152, ⟨[(1, Ph), (3, Da), (62, Nn), (63, Da), (64, Da)], [(1, Ad, (.data Ad))]⟩, 0, ⟨[(1, Ph)], [(1, Ad, (.data Ad))]⟩, ⟨[(2, Cf)], []⟩, Cy⟩
def Cak : La := ⟨152, ⟨[(1, Ph), (6, Da), (8, Da), (116, Xh), (117, Da), (118, Da)], [(1, Ad, (.data Ad))]⟩, 2, ⟨[(1, Ph), (6, Da), (8, Da)], [(1, Ad, (.data Ad))]⟩, ⟨[], []⟩, Hm⟩
def WaJ : WL := [(7, Oat), (17, Cak)]
theorem YaK : Qa (WG true O9 [] [] []) WaJ (lp Tryz.f71 0) := Pb 7 (ls := Oat) rfl
theorem MaH : Qa (WG true O9 [] [] []) WaJ (lp Tryz.f71 1) := Pb 17 (ls := Cak) rfl
theorem Na5 : WO C0 := Id UaN Tryz.func71 (Ga MaH (Ga YaK Ia))
abbrev Ra8 : Ka := .pu JR Ic [true] (fun x => CB x.1 x.2.1)
abbrev MaJ : WF := (74, Ra8) :: C0
def Pat : La := ⟨83, ⟨[(1, Da), (2, Bh), (5, (.arr 200001 int)), (15, Da), (16, Da)], [(2, Za, Ct)]⟩, 0, ⟨[(2, Bh), (5, (.arr 200001 int))], [(2, Za, Ct)]⟩, ⟨[], []⟩, YG⟩
def Fak : La := ⟨83, ⟨[(2, Bh), (5, (.arr 200301 int)), (7, Da), (34, Da), (35, Da), (38, Da), (39, Da), (43, Da), (44, Da)], [(2, Za, Ct)]⟩, 6, ⟨[(2, Bh), (5, (.arr 200301 int)), (34, Da), (35, Da), (38, Da), (39, Da)], [(2, Za, Ct)]⟩, ⟨[], []⟩, XD⟩
def Eak : La := ⟨83, ⟨[(2, Bh), (5, (.arr 200201 int)), (34, Da), (35, Da), (38, Da), (39, Da)], [(2, Za, Ct)]⟩, 4, ⟨[(2, Bh), (5, (.arr 200201 int)), (34, Da), (35, Da)], [(2, Za, Ct)]⟩, ⟨[], []⟩, WD⟩
def Dak : La := ⟨83, ⟨[(2, Bh), (5, (.arr 200101 int)), (34, Da), (35, Da)], [(2, Za, Ct)]⟩, 2, ⟨[(2, Bh), (5, (.arr 200101 int))], [(2, Za, Ct)]⟩, ⟨[], []⟩, VD⟩
def Gak : La := ⟨83, ⟨[(2, Bh), (5, (.arr 200401 int)), (9, Da), (67, Da), (68, Da)], [(2, Za, Ct)]⟩, 8, ⟨[(9, Da)], []⟩, ⟨[], []⟩, YD⟩
def Xaa : WL := [(5, Pat), (15, Fak), (12, Eak), (10, Dak), (24, Gak)]
theorem ZaK : Qa (WG true C0 [] [] []) Xaa (lp Tryz.f74 0) := Pb 5 (ls := Pat) rfl
theorem PaH : Qa (WG true C0 [] [] []) Xaa (lp Tryz.f74 3) := Pb 15 (ls := Fak) rfl
theorem OaH : Qa (WG true C0 [] [] []) Xaa (lp Tryz.f74 2) := Pb 12 (ls := Eak) rfl
theorem NaH : Qa (WG true C0 [] [] []) Xaa (lp Tryz.f74 1) := Pb 10 (ls := Dak) rfl
theorem QaH : Qa (WG true C0 [] [] []) Xaa (lp Tryz.f74 4) := Pb 24 (ls := Gak) rfl
theorem Qa5 : WO MaJ := Id Na5 Tryz.func74 (Ga QaH (Ga PaH (Ga OaH (Ga NaH (Ga ZaK Ia)))))
abbrev PaY : Ka := .pu JR Xd [true] (fun x => Fn x.1 x.2.1)
abbrev Raz : WF := (159, PaY) :: MaJ
theorem WaN : WO Raz := Ec Qa5 Tryz.func159
abbrev Ga1 : Ka := .pu (.p Za Wb) Zx [true, true] (fun x => Cv x.1 x.2.1 x.2.2.1)
abbrev Yam : WF := (235, Ga1) :: Raz
theorem NaQ : WO Yam := Ec WaN Tryz.func235
abbrev QaY : Ka := .pu JR Ic [true] (fun x => NC x.1 x.2.1)
abbrev Saz : WF := (160, QaY) :: Yam
def Gah : La := ⟨38, ⟨[(1, Da), (2, Bh), (5, Da), (14, Da), (15, Da)], [(2, Za, Ct)]⟩, 0, ⟨[(5, Da)], []⟩, ⟨[], []⟩, Jt⟩
def AaU : WL := [(5, Gah)]
theorem QaE : Qa (WG true Yam [] [] []) AaU (lp Tryz.f160 0) := Pb 5 (ls := Gah) rfl
theorem XaN : WO Saz := Id NaQ Tryz.func160 (Ga QaE Ia)
abbrev Qa8 : Ka := .pu (.p Za Wb) Zx [true, true] (fun x => Np x.1 x.2.1 x.2.2.1)
abbrev Lav : WF := (73, Qa8) :: Saz
theorem Pa5 : WO Lav := Ec XaN Tryz.func73
abbrev Sa8 : Ka := .pu (.p Kb Ic) (.p Kb Xd) [true, true] (fun x => Zl x.1 x.2.1)
abbrev Mav : WF := (75, Sa8) :: Lav
def Qat : La := ⟨94, ⟨[(1, Da), (2, Bh), (4, Et), (6, (.ptr 6 [])), (27, (.data Rl)), (28, Da), (29, Da)], [(2, Kb, (.data Kb)), (4, Kb, Oab), (6, Kb, Fap)]⟩, 0, ⟨[(1, Da), (4, Et), (6, (.ptr 6 []))], [(4, Kb, Oab), (6, Kb, Fap)]⟩, ⟨[], []⟩, Pn⟩
def Va6 : WL := [(6, Qat)]
theorem AaL : Qa (WG true Lav [] [] []) Va6 (lp Tryz.f75 0) := Pb 6 (ls := Qat) rfl
theorem Ra5 : WO Mav := Id Pa5 Tryz.func75 (Ga AaL Ia)
abbrev Ua8 : Ka := .pu Bc HN [true] (fun x => Vp x.1 x.2.1 x.2.2.1)
abbrev NaJ : WF := (77, Ua8) :: Mav
def Rat : La := ⟨31, ⟨[(0, Da), (1, Da), (2, Da), (7, SG), (8, Da)], []⟩, 0, ⟨[(7, SG)], []⟩, ⟨[], []⟩, Nm⟩
def Xa6 : WL := [(3, Rat)]
theorem BaL : Qa (WG true Mav [] [] []) Xa6 (lp Tryz.f77 0) := Pb 3 (ls := Rat) rfl
theorem Ta5 : WO NaJ := Id Ra5 Tryz.func77 (Ga BaL Ia)
abbrev TaY : Ka := .pu LI LI [true] (fun x => Am x.1)
abbrev Ral : WF := (163, TaY) :: NaJ
theorem AaO : WO Ral := Ec Ta5 Tryz.func163
abbrev Ia1 : Ka := .bx false false Nb Wb HN [true] (fun x0 x => On x0 x.1 x.2.1)
abbrev UaA : WF := (237, Ia1) :: Ral
def Uai : La := ⟨92, ⟨[(0, MI), (1, Da), (2, Da), (14, Da), (15, Da)], [(500000, Nb, Eap)]⟩, 0, ⟨[(0, MI), (1, Da), (2, Da)], [(500000, Nb, Eap)]⟩, ⟨[(0, MI), (6, SG)], [(500000, Nb, c4_)]⟩, Yo⟩
def FaV : WL := [(2, Uai)]
theorem EaG : Qa (WG false Ral [] [] []) FaV (lp Tryz.f237 0) := Pb 2 (ls := Uai) rfl
theorem PaQ : WO UaA := WZ AaO Tryz.func237 (Ga EaG Ia)
abbrev Aa3 : Ka := .pu OI Xd [true] (fun x => Wk x.1)
abbrev Wan : WF := (285, Aa3) :: UaA
theorem HaS : WO Wan := Ec PaQ Tryz.func285
abbrev Ba3 : Ka := .pu (.p Dt Ic) Xd [true] (fun x => OE x.1 x.2.1)
abbrev Xan : WF := (286, Ba3) :: Wan
def Saj : La := ⟨19, ⟨[(1, Da), (7, Nn), (8, Da), (9, Da)], []⟩, 0, ⟨[], []⟩, ⟨[(4, Cf)], []⟩, EB⟩
def CaW : WL := [(2, Saj)]
theorem CaH : Qa (WG true Wan [] [] []) CaW (lp Tryz.f286 0) := Pb 2 (ls := Saj) rfl
theorem IaS : WO Xan := Id HaS Tryz.func286 (Ga CaH Ia)
abbrev Ca3 : Ka := .pu (.p Dt Ic) Zx [true, true] (fun x => Il x.1 x.2.1)
abbrev Yan : WF := (287, Ca3) :: Xan
def Taj : La := ⟨32, ⟨[(1, Da), (6, Da), (7, Cf), (10, Nn), (11, Da), (12, Da)], []⟩, 0, ⟨[(6, Da), (7, Cf)], []⟩, ⟨[], []⟩, Hr⟩
def DaW : WL := [(3, Taj)]
theorem DaH : Qa (WG true Xan [] [] []) DaW (lp Tryz.f287 0) := Pb 3 (ls := Taj) rfl
theorem JaS : WO Yan := Id IaS Tryz.func287 (Ga DaH Ia)
abbrev Ja1 : Ka := .pu (.p Dt (.p int PI)) Bc [true, true, true] (fun x => Vy x.1 x.2.1 x.2.2.1 x.2.2.2.1)
abbrev VaA : WF := (238, Ja1) :: Yan
def Aad : La := ⟨146, ⟨[(0, Nn), (1, Da), (3, Da), (11, (.ptr 11 [])), (12, Da), (13, Da), (14, Da), (15, Cf), (69, Xh), (70, Da), (71, Da)], [(11, Za, Ct)]⟩, 0, ⟨[(0, Nn), (3, Da), (12, Da), (13, Da), (14, Da), (15, Cf)], []⟩, ⟨[(8, Da), (9, Da), (10, Da)], []⟩, Yj⟩
def GaV : WL := [(11, Aad)]
theorem Zaw : Qa (WG true Yan [] [] []) GaV (lp Tryz.f238 0) := Pb 11 (ls := Aad) rfl
theorem QaQ : WO VaA := Id JaS Tryz.func238 (Ga Zaw Ia)
abbrev VaY : Ka := .bx false false Nb .u (.p VU Xd) [true, true] (fun x0 x => Hh x0)
abbrev Sal : WF := (165, VaY) :: VaA
theorem CaO : WO Sal := WZ (L := []) (m := []) (v := []) (l := []) QaQ Tryz.func165 Ia
abbrev Ta8 : Ka := .pu (.p Nb PI) (.p Nb (.p VU Xd)) [true, true, true] (fun x => Qp x.1 x.2.1 x.2.2.1)
abbrev Nav : WF := (76, Ta8) :: Sal
def Hak : La := ⟨84, ⟨[(6, (.ptr 6 [])), (9, (.ptr 9 [])), (12, SG)], [(6, Nb, (.pr Nn (.pr Da (.pr Xh (.pr Da (.pr Da (.pr Da (.pr Xh .un)))))))), (9, Nb, c4_)]⟩, 0, ⟨[(6, (.ptr 6 [])), (9, (.ptr 9 [])), (12, SG)], [(6, Nb, (.pr Nn (.pr Da (.pr Xh (.pr Da (.pr Da (.pr Da (.pr Xh .un)))))))), (9, Nb, c4_)]⟩, ⟨[], []⟩, Kf⟩
def Wa6 : WL := [(10, Hak)]
theorem RaH : Qa (WG true Sal [] [] []) Wa6 (lp Tryz.f76 0) := Pb 10 (ls := Hak) rfl
theorem Sa5 : WO Nav := Id CaO Tryz.func76 (Ga RaH Ia)
abbrev AaX : Ka := .pu HT HT [true] (fun x => Yy x.1)
abbrev Hal : WF := (117, AaX) :: Nav
def Jag : La := ⟨25, ⟨[(2, Bh), (3, Yu), (10, NI), (11, Da), (12, Da)], [(2, Ub, (.pr Da (.pr NI .un))), (3, Ub, Q5)]⟩, 0, ⟨[(2, Bh), (3, Yu)], [(2, Ub, (.pr Da (.pr NI .un))), (3, Ub, Q5)]⟩, ⟨[], []⟩, Cr⟩
def HaT : WL := [(3, Jag)]
theorem TaD : Qa (WG true Nav [] [] []) HaT (lp Tryz.f117 0) := Pb 3 (ls := Jag) rfl
theorem HaM : WO Hal := Id Sa5 Tryz.func117 (Ga TaD Ia)
abbrev BaX : Ka := .pu (.p RA .u) (.p RA .u) [true] (fun x => Zy x.1)
abbrev May : WF := (118, BaX) :: Hal
def Kag : La := ⟨19, ⟨[(3, (.own 200001 Ki true)), (6, (.data RA)), (7, Da), (8, Da)], []⟩, 0, ⟨[(3, (.own 200001 Ki true))], []⟩, ⟨[], []⟩, Dr⟩
def IaT : WL := [(3, Kag)]
theorem UaD : Qa (WG true Hal [] [] []) IaT (lp Tryz.f118 0) := Pb 3 (ls := Kag) rfl
theorem IaM : WO May := Id HaM Tryz.func118 (Ga UaD Ia)
abbrev DaX : Ka := .pu IR IR [true] (fun x => Gl x.1)
abbrev Oay : WF := (120, DaX) :: May
theorem KaM : WO Oay := Ec IaM Tryz.func120
abbrev WaY : Ka := .pu (.p Cc .u) (.p Cc .u) [true] (fun x => Tn x.1)
abbrev Tal : WF := (166, WaY) :: Oay
theorem DaO : WO Tal := Ec KaM Tryz.func166
abbrev Fa0 : Ka := .pu (.p Xb Ic) Ic [true] (fun x => XL x.1 x.2.1)
abbrev KaA : WF := (208, Fa0) :: Tal
def Gai : La := ⟨21, ⟨[(1, Da), (8, Ck), (9, Da), (10, Da)], []⟩, 0, ⟨[], []⟩, ⟨[(4, Da)], []⟩, TA⟩
def VaU : WL := [(2, Gai)]
theorem QaF : Qa (WG true Tal [] [] []) VaU (lp Tryz.f208 0) := Pb 2 (ls := Gai) rfl
theorem MaP : WO KaA := Id DaO Tryz.func208 (Ga QaF Ia)
abbrev MaZ : Ka := .pu (.p Rl .u) (.p Rl .u) [true] (fun x => Ax x.1)
abbrev EaA : WF := (182, MaZ) :: KaA
theorem TaO : WO EaA := Ec MaP Tryz.func182
abbrev Qa3 : Ka := .io Rl .u .u [] (fun x0 _ => sort_Ints x0)
abbrev Eao : WF := (301, Qa3) :: EaA
end
end KF
namespace Go.Proofs
open Go.Shelf
def Tryz.lays_sort_Ints_ren : Go.Shelf.Ren := ⟨fun | 191 => 301 | 189 => 308 | 125 => 310 | 257 => 309 | 128 => 320 | 129 => 321 | 294 => 311 | 295 => 312 | 296 => 313 | 297 => 314 | 298 => 315 | 299 => 316 | 216 => 317 | 300 => 318 | 301 => 319 | 328 => 322 | 329 => 323 | 330 => 324 | 331 => 325 | 332 => 326 | 215 => 327 | 343 => 328 | n => n, fun | 28 => 25 | 0 => 0 | 3 => 3 | 46 => 235 | 51 => 325 | 53 => 327 | 4 => 4 | 183 => 332 | 182 => 331 | 131 => 127 | 5 => 5 | 9 => 9 | 218 => 338 | 222 => 342 | 228 => 344 | 229 => 283 | n => n, fun | n => n⟩
theorem Tryz.lays_sort_Ints : Go.Proofs.Lays.n191 Tryz.prog Tryz.lays_sort_Ints_ren := {
 mixed := by kernel_rfl
 f125 := Tryz.func310.trans (congrArg some (by kernel_rfl))
 f128 := Tryz.func320.trans (congrArg some (by kernel_rfl))
 f129 := Tryz.func321.trans (congrArg some (by kernel_rfl))
 f189 := Tryz.func308.trans (congrArg some (by kernel_rfl))
 f191 := Tryz.func301.trans (congrArg some (by kernel_rfl))
 f215 := Tryz.func327.trans (congrArg some (by kernel_rfl))
 f216 := Tryz.func317.trans (congrArg some (by kernel_rfl))
 f257 := Tryz.func309.trans (congrArg some (by kernel_rfl))
 f294 := Tryz.func311.trans (congrArg some (by kernel_rfl))
 f295 := Tryz.func312.trans (congrArg some (by kernel_rfl))
 f296 := Tryz.func313.trans (congrArg some (by kernel_rfl))
 f297 := Tryz.func314.trans (congrArg some (by kernel_rfl))
 f298 := Tryz.func315.trans (congrArg some (by kernel_rfl))
 f299 := Tryz.func316.trans (congrArg some (by kernel_rfl))
 f300 := Tryz.func318.trans (congrArg some (by kernel_rfl))
 f301 := Tryz.func319.trans (congrArg some (by kernel_rfl))
 f328 := Tryz.func322.trans (congrArg some (by kernel_rfl))
 f329 := Tryz.func323.trans (congrArg some (by kernel_rfl))
 f330 := Tryz.func324.trans (congrArg some (by kernel_rfl))
 f331 := Tryz.func325.trans (congrArg some (by kernel_rfl))
 f332 := Tryz.func326.trans (congrArg some (by kernel_rfl))
 f343 := Tryz.func328.trans (congrArg some (by kernel_rfl))
 t0 := Tryz.underlying0
 a0 := Tryz.isAgg0
 z0 := Tryz.sizeOf0
 v0 := Tryz.zeroValue0
 t3 := Tryz.underlying3
 a3 := Tryz.isAgg3
 z3 := Tryz.sizeOf3
 v3 := Tryz.zeroValue3
 t4 := Tryz.underlying4
 a4 := Tryz.isAgg4
 z4 := Tryz.sizeOf4
 v4 := Tryz.zeroValue4
 t5 := Tryz.underlying5
 a5 := Tryz.isAgg5
 z5 := Tryz.sizeOf5
 v5 := Tryz.zeroValue5
 t9 := Tryz.underlying9
 a9 := Tryz.isAgg9
 z9 := Tryz.sizeOf9
 v9 := Tryz.zeroValue9
 t28 := Tryz.underlying25
 a28 := Tryz.isAgg25
 z28 := Tryz.sizeOf25
 v28 := Tryz.zeroValue25
 t46 := Tryz.underlying235
 a46 := Tryz.isAgg235
 z46 := Tryz.sizeOf235
 v46 := Tryz.zeroValue235
 t51 := Tryz.underlying325
 a51 := Tryz.isAgg325
 z51 := Tryz.sizeOf325
 v51 := Tryz.zeroValue325
 t53 := Tryz.underlying327
 a53 := Tryz.isAgg327
 z53 := Tryz.sizeOf327
 v53 := Tryz.zeroValue327
 t131 := Tryz.underlying127
 a131 := Tryz.isAgg127
 z131 := Tryz.sizeOf127
 v131 := Tryz.zeroValue127
 t182 := Tryz.underlying331
 a182 := Tryz.isAgg331
 z182 := Tryz.sizeOf331
 v182 := Tryz.zeroValue331
 t183 := Tryz.underlying332
 a183 := Tryz.isAgg332
 z183 := Tryz.sizeOf332
 v183 := Tryz.zeroValue332
 t218 := Tryz.underlying338
 a218 := Tryz.isAgg338
 z218 := Tryz.sizeOf338
 v218 := Tryz.zeroValue338
 t222 := Tryz.underlying342
 a222 := Tryz.isAgg342
 z222 := Tryz.sizeOf342
 v222 := Tryz.zeroValue342
 t228 := Tryz.underlying344
 a228 := Tryz.isAgg344
 z228 := Tryz.sizeOf344
 v228 := Tryz.zeroValue344
 t229 := Tryz.underlying283
 a229 := Tryz.isAgg283
 z229 := Tryz.sizeOf283
 v229 := Tryz.zeroValue283 }
end Go.Proofs
namespace KF
open Go Go.Proofs
noncomputable section
theorem XaS : WO Eao := wc TaO (Saq Tryz.lays_sort_Ints (by kernel_rfl))
abbrev Ra3 : Ka := .pu (.p Rl Ic) Xd [true] (fun x => AM x.1 x.2.1)
abbrev Fao : WF := (302, Ra3) :: Eao
def Aak : La := ⟨17, ⟨[(1, Da), (7, (.data Rl)), (8, Da), (9, Da)], []⟩, 0, ⟨[], []⟩, ⟨[(4, Cf)], []⟩, ZA⟩
def KaW : WL := [(2, Aak)]
theorem KaH : Qa (WG true Eao [] [] []) KaW (lp Tryz.f302 0) := Pb 2 (ls := Aak) rfl
theorem YaS : WO Fao := Id XaS Tryz.func302 (Ga KaH Ia)
abbrev Pa2 : Ka := .pu (.p Rl .u) (.p Rl .u) [true] (fun x => Ot x.1)
abbrev Nan : WF := (274, Pa2) :: Fao
def Maj : La := ⟨31, ⟨[(4, QK), (11, (.own 200002 int true)), (12, Da), (13, Da)], []⟩, 0, ⟨[(4, QK)], []⟩, ⟨[], []⟩, Ey⟩
def WaV : WL := [(5, Maj)]
theorem WaG : Qa (WG true Fao [] [] []) WaV (lp Tryz.f274 0) := Pb 5 (ls := Maj) rfl
theorem WaR : WO Nan := Id YaS Tryz.func274 (Ga WaG Ia)
abbrev Ia0 : Ka := .pu GN IT [true] (fun x => Ae x.1)
abbrev Jam : WF := (211, Ia0) :: Nan
def Hai : La := ⟨45, ⟨[(2, Bh), (3, Yu), (4, QK), (11, Ck), (12, Da), (13, Da)], [(2, Zb, QA), (3, Zb, QA)]⟩, 0, ⟨[(2, Bh), (3, Yu), (4, QK)], [(2, Zb, QA), (3, Zb, QA)]⟩, ⟨[], []⟩, Iv⟩
def WaU : WL := [(6, Hai)]
theorem RaF : Qa (WG true Nan [] [] []) WaU (lp Tryz.f211 0) := Pb 6 (ls := Hai) rfl
theorem PaP : WO Jam := Id WaR Tryz.func211 (Ga RaF Ia)
abbrev Pa3 : Ka := .pu (.p Rl (.p Rl .u)) Xd [true] (fun x => RF x.1 x.2.1)
abbrev UaB : WF := (300, Pa3) :: Jam
def Zaj : La := ⟨26, ⟨[(0, (.data Rl)), (1, (.data Rl)), (12, Da), (13, Da)], []⟩, 0, ⟨[], []⟩, ⟨[(4, Cf)], []⟩, Nv⟩
def JaW : WL := [(4, Zaj)]
theorem JaH : Qa (WG true Jam [] [] []) JaW (lp Tryz.f300 0) := Pb 4 (ls := Zaj) rfl
theorem WaS : WO UaB := Id PaP Tryz.func300 (Ga JaH Ia)
abbrev UaC : Ka := .pu (.p Zb IT) Xd [true] (fun x => Up x.1 x.2.1)
abbrev MaB : WF := (273, UaC) :: UaB
theorem Jay : WO MaB := Ec WaS Tryz.func273
abbrev Ha0 : Ka := .co (.p Zb FT) FT [true] (fun x => Ve x.1 x.2.1)
abbrev MaA : WF := (210, Ha0) :: MaB
def GTo : List (Nat × Ty) := [(3, int), (27, (.sl HR)), (121, HR)]
theorem VaJ : ((GTo.all fun x => We Tryz.prog x.2 x.1) && (([] : List (Nat × Ty × Nat)).all fun x => I0 Tryz.prog x.1 x.2.1 x.2.2)) = true := by kernel_rfl
@[reducible] def Daw (c : T Re → T Re → Option Bool) : Ka := .pu (.p HR (.p (.sl HR) .u)) (.p (.sl HR) .u) [true] (fun x => Hap c x.1 x.2.1)
def Aas (c : T Re → T Re → Option Bool) : Ag := ⟨GTo, [(273, T6 c)], [], true, [], [], []⟩
theorem Caw (I : Bi) (c : T Re → T Re → Option Bool) (h : Fj Tryz.prog I 273 (T6 c)) : Vj Tryz.prog I (Aas c) := Vj.cons h (R7 VaJ)
def M7 (c : T Re → T Re → Option Bool) : La := ⟨25, ⟨[(2, Bh), (5, (.own 200001 HR true)), (8, (.data (.sl HR))), (9, Da), (10, Da)], [(2, HR, (.data HR))]⟩, 0, ⟨[(5, (.own 200001 HR true))], []⟩, ⟨[], []⟩, Qx c⟩
def Bas (c : T Re → T Re → Option Bool) : List (Nat × La) := [(3, M7 c)]
theorem Iap (c : T Re → T Re → Option Bool) : Qa (Aas c) (Bas c) (lp Tryz.f210 0) := X7 (r := 3) (ls := M7 c) (R := fun x => SK c x.1.1 x.1.2.1 x.1.2.2.1 x.1.2.2.2.1 x.1.2.2.2.2.1 x.2.1) (by kernel_rfl) (by kernel_rfl) rfl (fun x => by kernel_rfl)
theorem Eaw (I : Bi) (c : T Re → T Re → Option Bool) (h : Fj Tryz.prog I 273 (T6 c)) : Fj Tryz.prog I 210 (Daw c) := ZW (L := Bas c) (k := 1) (Caw I c h) I7 Tryz.func210 (by kernel_rfl) (Ga (Iap c) Ia) (fun x => by kernel_rfl)
theorem OaP : WO MaA := wc Jay (Lau (f2 := 273) (SR := fun x => Up x.1 x.2.1) (same := Zj) Zax (YaL (s := UaC) Jay (by kernel_rfl)) (fun I c h => ⟨_, Eaw I c h, CaD c⟩))
abbrev EaX : Ka := .pu (.p Xb Ic) (.p Xb FT) [true, true] (fun x => DB x.1 x.2.1)
abbrev Ial : WF := (122, EaX) :: MaA
theorem LaM : WO Ial := Ec OaP Tryz.func122
abbrev La1 : Ka := .pu (.p int GN) Ic [true] (fun x => Zw x.1 x.2.1)
abbrev Aan : WF := (240, La1) :: Ial
def Wai : La := ⟨39, ⟨[(5, Da), (21, Ck), (22, Da), (23, Da)], []⟩, 0, ⟨[(5, Da)], []⟩, ⟨[], []⟩, Kj⟩
def IaV : WL := [(7, Wai)]
theorem GaG : Qa (WG true Ial [] [] []) IaV (lp Tryz.f240 0) := Pb 7 (ls := Wai) rfl
theorem SaQ : WO Aan := Id LaM Tryz.func240 (Ga GaG Ia)
abbrev Ka2 : Ka := .pu (.p Ub Wb) Ic [true] (fun x => AB x.1 x.2.1 x.2.2.1)
abbrev IaB : WF := (268, Ka2) :: Aan
def Kaj : La := ⟨33, ⟨[(1, Da), (2, Da), (3, Yu), (7, Da)], [(3, Ub, KR)]⟩, 0, ⟨[], []⟩, ⟨[(6, Da)], []⟩, Hi⟩
def UaV : WL := [(2, Kaj)]
theorem UaG : Qa (WG true Aan [] [] []) UaV (lp Tryz.f268 0) := Pb 2 (ls := Kaj) rfl
theorem RaR : WO IaB := Id SaQ Tryz.func268 (Ga UaG Ia)
abbrev Da3 : Ka := .pu (.p Ub Wb) Ic [true] (fun x => EP x.1 x.2.1 x.2.2.1)
abbrev NaB : WF := (288, Da3) :: IaB
theorem KaS : WO NaB := Ec RaR Tryz.func288
abbrev Na1 : Ka := .pu (.p Ub Wb) Em [true] (fun x => OF x.1 x.2.1 x.2.2.1)
abbrev XaA : WF := (242, Na1) :: NaB
theorem UaQ : WO XaA := Ec KaS Tryz.func242
abbrev Ma1 : Ka := .pu Em Xd [true] (fun x => Gn x.1)
abbrev Ban : WF := (241, Ma1) :: XaA
theorem TaQ : WO Ban := Ec UaQ Tryz.func241
abbrev Oa1 : Ka := .pu (.p Bc (.p int (.p int PI))) Wb [true, true] (fun x => Vw x.1 x.2.1 x.2.2.1 x.2.2.2.1 x.2.2.2.2.1)
abbrev YaA : WF := (243, Oa1) :: Ban
def Xai : La := ⟨102, ⟨[(1, Da), (2, Da), (4, Da), (5, PD), (12, Da), (26, Xh), (27, Da), (28, Da)], [(5, Bc, (.data Bc))]⟩, 0, ⟨[(2, Da), (4, Da), (5, PD)], [(5, Bc, (.data Bc))]⟩, ⟨[(10, Da), (11, Da)], []⟩, Dv⟩
def JaV : WL := [(5, Xai)]
theorem HaG : Qa (WG true Ban [] [] []) JaV (lp Tryz.f243 0) := Pb 5 (ls := Xai) rfl
theorem VaQ : WO YaA := Id TaQ Tryz.func243 (Ga HaG Ia)
abbrev La2 : Ka := .pu Em Em [true] (fun x => YL x.1)
abbrev JaB : WF := (269, La2) :: YaA
theorem SaR : WO JaB := Ec VaQ Tryz.func269
abbrev Ma2 : Ka := .pu Em Em [true] (fun x => AO x.1)
abbrev KaB : WF := (270, Ma2) :: JaB
theorem TaR : WO KaB := Ec SaR Tryz.func270
abbrev Na3 : Ka := .pu Ic Xd [true] (fun x => Uy x.1)
abbrev TaB : WF := (298, Na3) :: KaB
theorem UaS : WO TaB := Ec TaR Tryz.func298
abbrev Na2 : Ka := .bx false false Xb Em Em [true] (fun x0 x => Gr x0 x.1)
abbrev Man : WF := (271, Na2) :: TaB
theorem UaR : WO Man := WZ (L := []) (m := []) (v := []) (l := []) UaS Tryz.func271 Ia
abbrev Oa3 : Ka := .pu (.p Zb (.p Dt .u)) IT [true] (fun x => Qf x.1 x.2.1)
abbrev Dao : WF := (299, Oa3) :: Man
def Yaj : La := ⟨37, ⟨[(4, Et), (5, PD), (6, QK), (15, Nn), (16, Da), (17, Da)], [(4, Zb, QA), (5, Zb, QA)]⟩, 0, ⟨[(4, Et), (5, PD), (6, QK)], [(4, Zb, QA), (5, Zb, QA)]⟩, ⟨[], []⟩, Ut⟩
def IaW : WL := [(4, Yaj)]
theorem IaH : Qa (WG true Man [] [] []) IaW (lp Tryz.f299 0) := Pb 4 (ls := Yaj) rfl
theorem VaS : WO Dao := Id UaR Tryz.func299 (Ga IaH Ia)
abbrev Oa2 : Ka := .pu (.p RK (.p Ki .u)) FT [true] (fun x => Oj x.1 x.2.1)
abbrev LaB : WF := (272, Oa2) :: Dao
def Laj : La := ⟨74, ⟨[(5, PD), (6, R5), (7, (.own 200002 Wb true)), (22, (.data Ki)), (23, Da), (24, Da)], [(5, Zb, (.pr Da (.pr (.own 200003 int true) .un)))]⟩, 0, ⟨[(6, R5)], []⟩, ⟨[], []⟩, Sn⟩
def VaV : WL := [(7, Laj)]
theorem VaG : Qa (WG true Dao [] [] []) VaV (lp Tryz.f272 0) := Pb 7 (ls := Laj) rfl
theorem VaR : WO LaB := Id VaS Tryz.func272 (Ga VaG Ia)
abbrev Ga0 : Ka := .pu (.p Xb Zx) (.p Xb FT) [true, true] (fun x => Th x.1 x.2.1 x.2.2.1)
abbrev LaA : WF := (209, Ga0) :: LaB
theorem NaP : WO LaA := Ec VaR Tryz.func209
abbrev XaY : Ka := .bx false false Cc .u (.p (.sl Zb) Xd) [true, true] (fun x0 x => Rh x0)
abbrev Ual : WF := (167, XaY) :: LaA
theorem EaO : WO Ual := WZ (L := []) (m := []) (v := []) (l := []) NaP Tryz.func167 Ia
abbrev YaY : Ka := .co (.p QI (.p int FT)) (.p QI .u) [true] (fun x => QM x.1 x.2.1 x.2.2.1)
abbrev Val : WF := (168, YaY) :: Ual
def Iah : La := ⟨23, ⟨[(0, L0), (1, Da), (9, (.mov 200002 Zb)), (10, Da), (11, Da)], []⟩, 0, ⟨[(0, L0)], []⟩, ⟨[], []⟩, ZG⟩
def CaU : WL := [(2, Iah)]
theorem SaE : Qa (WG false Ual [] [] [14]) CaU (lp Tryz.f168 0) := Pb 2 (ls := Iah) rfl
theorem FaO : WO Val := wco EaO Tryz.func168 (Ga SaE Ia)
abbrev Va8 : Ka := .pu (.p Cc PI) (.p Cc (.p QI Xd)) [true, true, true] (fun x => Wy x.1 x.2.1 x.2.2.1)
abbrev OaJ : WF := (78, Va8) :: Val
def Sat : La := ⟨86, ⟨[(6, (.ptr 6 [])), (9, (.ptr 9 [])), (10, L0)], [(6, Cc, (.pr c6_ (.pr (.data Bc) (.pr Xh (.data Rb))))), (9, Cc, c2_)]⟩, 0, ⟨[(6, (.ptr 6 [])), (9, (.ptr 9 [])), (10, L0)], [(6, Cc, (.pr c6_ (.pr (.data Bc) (.pr Xh (.data Rb))))), (9, Cc, c2_)]⟩, ⟨[], []⟩, Hg⟩
def Ya6 : WL := [(9, Sat)]
theorem CaL : Qa (WG true Val [] [] []) Ya6 (lp Tryz.f78 0) := Pb 9 (ls := Sat) rfl
theorem Ua5 : WO OaJ := Id FaO Tryz.func78 (Ga CaL Ia)
abbrev Oa7 : Ka := .pu (.p Ad Ic) (.p Ad (.p QI Xd)) [true, true, true] (fun x => En x.1 x.2.1)
abbrev VaI : WF := (23, Oa7) :: OaJ
theorem Na4 : WO VaI := Ec Ua5 Tryz.func23
abbrev Wa8 : Ka := .pu Car Xd [true] (fun x => XF x.1 x.2.1)
abbrev Oav : WF := (79, Wa8) :: VaI
theorem Va5 : WO Oav := Ec Na4 Tryz.func79
abbrev Ia7 : Ka := .pu (.p Rl (.p Rl .u)) Xd [true] (fun x => RE x.1 x.2.1)
abbrev QaI : WF := (15, Ia7) :: Oav
def Aat : La := ⟨26, ⟨[(0, (.data Rl)), (1, (.data Rl)), (5, Da)], []⟩, 0, ⟨[], []⟩, ⟨[(4, Cf)], []⟩, HB⟩
def Ia6 : WL := [(4, Aat)]
theorem LaK : Qa (WG true Oav [] [] []) Ia6 (lp Tryz.f15 0) := Pb 4 (ls := Aat) rfl
theorem Ha4 : WO QaI := Id Va5 Tryz.func15 (Ga LaK Ia)
abbrev Xa8 : Ka := .pu (.p Kb (.p Kb .u)) Xd [true] (fun x => Qv x.1 x.2.1)
abbrev PaJ : WF := (80, Xa8) :: QaI
theorem Wa5 : WO PaJ := Ec Ha4 Tryz.func80
abbrev Pa1 : Ka := .pu (.p Wb (.p Wb .u)) Xd [true] (fun x => FB x.1 x.2.1)
abbrev Can : WF := (244, Pa1) :: PaJ
theorem WaQ : WO Can := Ec Wa5 Tryz.func244
abbrev ZaY : Ka := .pu (.p Dt (.p Dt .u)) Xd [true] (fun x => TF x.1 x.2.1)
abbrev Vaz : WF := (169, ZaY) :: Can
def Jah : La := ⟨27, ⟨[(0, Nn), (1, Nn), (5, Da)], []⟩, 0, ⟨[], []⟩, ⟨[(4, Cf)], []⟩, WI⟩
def DaU : WL := [(4, Jah)]
theorem TaE : Qa (WG true Can [] [] []) DaU (lp Tryz.f169 0) := Pb 4 (ls := Jah) rfl
theorem GaO : WO Vaz := Id WaQ Tryz.func169 (Ga TaE Ia)
abbrev Qa1 : Ka := .pu Car Xd [true] (fun x => GB x.1 x.2.1)
abbrev Dan : WF := (245, Qa1) :: Vaz
theorem XaQ : WO Dan := Ec GaO Tryz.func245
abbrev AaZ : Ka := .pu (.p VU HN) Xd [true] (fun x => Cx x.1 x.2.1)
abbrev Waz : WF := (170, AaZ) :: Dan
def Kah : La := ⟨27, ⟨[(0, Xh), (1, Xh), (5, Da)], []⟩, 0, ⟨[], []⟩, ⟨[(4, Cf)], []⟩, XI⟩
def EaU : WL := [(4, Kah)]
theorem UaE : Qa (WG true Dan [] [] []) EaU (lp Tryz.f170 0) := Pb 4 (ls := Kah) rfl
theorem HaO : WO Waz := Id XaQ Tryz.func170 (Ga UaE Ia)
abbrev Ra1 : Ka := .pu Car Xd [true] (fun x => Bx x.1 x.2.1)
abbrev Ean : WF := (246, Ra1) :: Waz
theorem YaQ : WO Ean := Ec HaO Tryz.func246
abbrev BaZ : Ka := .pu (.p VU HN) Xd [true] (fun x => VC x.1 x.2.1)
abbrev Xaz : WF := (171, BaZ) :: Ean
def Lah : La := ⟨27, ⟨[(0, Xh), (1, Xh), (5, Da)], []⟩, 0, ⟨[], []⟩, ⟨[(4, Cf)], []⟩, PH⟩
def FaU : WL := [(4, Lah)]
theorem VaE : Qa (WG true Ean [] [] []) FaU (lp Tryz.f171 0) := Pb 4 (ls := Lah) rfl
theorem IaO : WO Xaz := Id YaQ Tryz.func171 (Ga VaE Ia)
abbrev Ya8 : Ka := .pu (.p Nb LI) Xd [true] (fun x => Gz x.1 x.2.1)
abbrev QaJ : WF := (81, Ya8) :: Xaz
theorem Xa5 : WO QaJ := Ec IaO Tryz.func81
abbrev Ja0 : Ka := .pu (.p Rb Em) Xd [true] (fun x => Gp x.1 x.2.1)
abbrev Kam : WF := (212, Ja0) :: QaJ
theorem QaP : WO Kam := Ec Xa5 Tryz.func212
abbrev FaX : Ka := .pu (.p Tr (.p Tr .u)) Xd [true] (fun x => Vt x.1 x.2.1)
abbrev Jal : WF := (123, FaX) :: Kam
def Mag : La := ⟨27, ⟨[(0, (.data Tr)), (1, (.data Tr)), (5, Da)], []⟩, 0, ⟨[], []⟩, ⟨[(4, Cf)], []⟩, OH⟩
def JaT : WL := [(4, Mag)]
theorem WaD : Qa (WG true Kam [] [] []) JaT (lp Tryz.f123 0) := Pb 4 (ls := Mag) rfl
theorem MaM : WO Jal := Id QaP Tryz.func123 (Ga WaD Ia)
abbrev Ya7 : Ka := .pu (.p (.sl Tr) (.p (.sl Tr) .u)) Xd [true] (fun x => Ez x.1 x.2.1)
abbrev BaJ : WF := (55, Ya7) :: Jal
def Iat : La := ⟨27, ⟨[(0, NI), (1, NI), (5, Da)], []⟩, 0, ⟨[], []⟩, ⟨[(4, Cf)], []⟩, PE⟩
def Qa6 : WL := [(4, Iat)]
theorem TaK : Qa (WG true Jal [] [] []) Qa6 (lp Tryz.f55 0) := Pb 4 (ls := Iat) rfl
theorem Xa4 : WO BaJ := Id MaM Tryz.func55 (Ga TaK Ia)
abbrev Ha7 : Ka := .pu (.p Ub HT) Xd [true] (fun x => VF x.1 x.2.1)
abbrev PaI : WF := (14, Ha7) :: BaJ
theorem Ga4 : WO PaI := Ec Xa4 Tryz.func14
abbrev Va3 : Ka := .pu (.p Bc LR) Xd [true] (fun x => TE x.1 x.2.1)
abbrev Hao : WF := (306, Va3) :: PaI
theorem CaT : WO Hao := Ec Ga4 Tryz.func306
abbrev Ea3 : Ka := .pu (.p Ki (.p Ki .u)) Xd [true] (fun x => IB x.1 x.2.1)
abbrev Zan : WF := (289, Ea3) :: Hao
def Uaj : La := ⟨27, ⟨[(0, (.data Ki)), (1, (.data Ki)), (5, Da)], []⟩, 0, ⟨[], []⟩, ⟨[(4, Cf)], []⟩, DK⟩
def EaW : WL := [(4, Uaj)]
theorem EaH : Qa (WG true Hao [] [] []) EaW (lp Tryz.f289 0) := Pb 4 (ls := Uaj) rfl
theorem LaS : WO Zan := Id CaT Tryz.func289 (Ga EaH Ia)
abbrev Sa1 : Ka := .pu (.p RA (.p RA .u)) Xd [true] (fun x => ZF x.1 x.2.1)
abbrev ZaA : WF := (247, Sa1) :: Zan
def Yai : La := ⟨27, ⟨[(0, (.data RA)), (1, (.data RA)), (5, Da)], []⟩, 0, ⟨[], []⟩, ⟨[(4, Cf)], []⟩, ZI⟩
def KaV : WL := [(4, Yai)]
theorem IaG : Qa (WG true Zan [] [] []) KaV (lp Tryz.f247 0) := Pb 4 (ls := Yai) rfl
theorem ZaQ : WO ZaA := Id LaS Tryz.func247 (Ga IaG Ia)
abbrev Fa3 : Ka := .pu (.p Bf (.p Bf .u)) Xd [true] (fun x => QE x.1 x.2.1)
abbrev Aao : WF := (290, Fa3) :: ZaA
theorem MaS : WO Aao := Ec ZaQ Tryz.func290
abbrev Ta1 : Ka := .pu (.p RK GN) Xd [true] (fun x => YI x.1 x.2.1)
abbrev AaB : WF := (248, Ta1) :: Aao
def Zai : La := ⟨27, ⟨[(0, Ck), (1, Ck), (5, Da)], []⟩, 0, ⟨[], []⟩, ⟨[(4, Cf)], []⟩, BK⟩
def LaV : WL := [(4, Zai)]
theorem JaG : Qa (WG true Aao [] [] []) LaV (lp Tryz.f248 0) := Pb 4 (ls := Zai) rfl
theorem AaR : WO AaB := Id MaS Tryz.func248 (Ga JaG Ia)
abbrev CaZ : Ka := .pu (.p Xb IR) Xd [true] (fun x => UF x.1 x.2.1)
abbrev Yaz : WF := (172, CaZ) :: AaB
theorem JaO : WO Yaz := Ec AaR Tryz.func172
abbrev DaZ : Ka := .pu (.p Bc LR) Xd [true] (fun x => AG x.1 x.2.1)
abbrev Zaz : WF := (173, DaZ) :: Yaz
theorem KaO : WO Zaz := Ec JaO Tryz.func173
abbrev Za8 : Ka := .pu (.p Cc (.p Cc .u)) Xd [true] (fun x => WC x.1 x.2.1)
abbrev RaJ : WF := (82, Za8) :: Zaz
theorem Ya5 : WO RaJ := Ec KaO Tryz.func82
abbrev Pa7 : Ka := .pu (.p Ad (.p Ad .u)) Xd [true] (fun x => Vn x.1 x.2.1)
abbrev WaI : WF := (24, Pa7) :: RaJ
theorem Oa4 : WO WaI := Ec Ya5 Tryz.func24
abbrev Xa7 : Ka := .pu (.p Zb IT) Xd [true] (fun x => YF x.1 x.2.1)
abbrev AaJ : WF := (54, Xa7) :: WaI
theorem Wa4 : WO AaJ := Ec Oa4 Tryz.func54
abbrev Aa9 : Ka := .pu (.p Gj (.p Gj .u)) Xd [true] (fun x => SE x.1 x.2.1)
abbrev Pav : WF := (83, Aa9) :: AaJ
theorem Za5 : WO Pav := Ec Wa4 Tryz.func83
abbrev Qa7 : Ka := .pu (.p QI (.p QI .u)) Xd [true] (fun x => Wt x.1 x.2.1)
abbrev Bav : WF := (25, Qa7) :: Pav
def Dat : La := ⟨27, ⟨[(0, (.data QI)), (1, (.data QI)), (5, Da)], []⟩, 0, ⟨[], []⟩, ⟨[(4, Cf)], []⟩, CK⟩
def La6 : WL := [(4, Dat)]
theorem OaK : Qa (WG true Pav [] [] []) La6 (lp Tryz.f25 0) := Pb 4 (ls := Dat) rfl
theorem Pa4 : WO Bav := Id Za5 Tryz.func25 (Ga OaK Ia)
abbrev Ka7 : Ka := .io Rl Ic Ic [true] (fun x0 x => CG x0 x.1)
abbrev RaI : WF := (17, Ka7) :: Bav
def Bat : La := ⟨19, ⟨[(0, (.own 500000 int true)), (1, Da), (5, Da)], []⟩, 0, ⟨[(0, (.own 500000 int true)), (1, Da)], []⟩, ⟨[], []⟩, EJ⟩
def Ja6 : WL := [(2, Bat)]
theorem MaK : Qa (WG false Bav [] [] []) Ja6 (lp Tryz.f17 0) := Pb 2 (ls := Bat) rfl
theorem Ja4 : WO RaI := VN Pa4 Tryz.func17 (Ga MaK Ia)
abbrev Ba9 : Ka := .io Kb Ic Ic [true] (fun x0 x => Dq x0 x.1)
abbrev Qav : WF := (84, Ba9) :: RaI
theorem Aa6 : WO Qav := VN (L := []) (m := []) (v := []) (l := []) Ja4 Tryz.func84 Ia
abbrev EaZ : Ka := .io Dt Ic Ic [true] (fun x0 x => DJ x0 x.1)
abbrev Wal : WF := (174, EaZ) :: Qav
def Mah : La := ⟨27, ⟨[(0, (.own 500000 Wb true)), (1, Da), (5, Da)], []⟩, 0, ⟨[(0, (.own 500000 Wb true)), (1, Da)], []⟩, ⟨[], []⟩, XE⟩
def GaU : WL := [(2, Mah)]
theorem WaE : Qa (WG false Qav [] [] []) GaU (lp Tryz.f174 0) := Pb 2 (ls := Mah) rfl
theorem LaO : WO Wal := VN Aa6 Tryz.func174 (Ga WaE Ia)
abbrev FaZ : Ka := .io VU Ic Ic [true] (fun x0 x => Mz x0 x.1)
abbrev Xal : WF := (175, FaZ) :: Wal
def Nah : La := ⟨36, ⟨[(0, (.own 500000 Za true)), (1, Da), (5, Da)], []⟩, 0, ⟨[(0, (.own 500000 Za true)), (1, Da)], []⟩, ⟨[], []⟩, YE⟩
def HaU : WL := [(2, Nah)]
theorem XaE : Qa (WG false Wal [] [] []) HaU (lp Tryz.f175 0) := Pb 2 (ls := Nah) rfl
theorem MaO : WO Xal := VN LaO Tryz.func175 (Ga XaE Ia)
abbrev GaZ : Ka := .io VU Ic Ic [true] (fun x0 x => EH x0 x.1)
abbrev AaA : WF := (176, GaZ) :: Xal
def Oah : La := ⟨36, ⟨[(0, (.own 500000 Za true)), (1, Da), (5, Da)], []⟩, 0, ⟨[(0, (.own 500000 Za true)), (1, Da)], []⟩, ⟨[], []⟩, OD⟩
def IaU : WL := [(2, Oah)]
theorem YaE : Qa (WG false Xal [] [] []) IaU (lp Tryz.f176 0) := Pb 2 (ls := Oah) rfl
theorem NaO : WO AaA := VN MaO Tryz.func176 (Ga YaE Ia)
abbrev Ca9 : Ka := .io Nb Ic Ic [true] (fun x0 x => Ks x0 x.1)
abbrev Rav : WF := (85, Ca9) :: AaA
theorem Ba6 : WO Rav := VN (L := []) (m := []) (v := []) (l := []) NaO Tryz.func85 Ia
abbrev GaX : Ka := .io Tr Ic Ic [true] (fun x0 x => DH x0 x.1)
abbrev Kal : WF := (124, GaX) :: Rav
def Nag : La := ⟨41, ⟨[(0, (.own 500000 Rb true)), (1, Da), (5, Da)], []⟩, 0, ⟨[(0, (.own 500000 Rb true)), (1, Da)], []⟩, ⟨[], []⟩, ND⟩
def KaT : WL := [(2, Nag)]
theorem XaD : Qa (WG false Rav [] [] []) KaT (lp Tryz.f124 0) := Pb 2 (ls := Nag) rfl
theorem NaM : WO Kal := VN Ba6 Tryz.func124 (Ga XaD Ia)
abbrev Za7 : Ka := .io (.sl Tr) Ic Ic [true] (fun x0 x => AE x0 x.1)
abbrev CaJ : WF := (56, Za7) :: Kal
def Jat : La := ⟨19, ⟨[(0, (.own 500000 Tr true)), (1, Da), (5, Da)], []⟩, 0, ⟨[(0, (.own 500000 Tr true)), (1, Da)], []⟩, ⟨[], []⟩, KB⟩
def Ra6 : WL := [(2, Jat)]
theorem UaK : Qa (WG false Kal [(3999, 500000)] [] []) Ra6 (lp Tryz.f56 0) := Pb 2 (ls := Jat) rfl
theorem Ya4 : WO CaJ := VN NaM Tryz.func56 (Ga UaK Ia)
abbrev Ja7 : Ka := .io Ub Ic Ic [true] (fun x0 x => Nz x0 x.1)
abbrev Aav : WF := (16, Ja7) :: CaJ
theorem Ia4 : WO Aav := VN (L := []) (m := []) (v := []) (l := []) Ya4 Tryz.func16 Ia
abbrev Ga3 : Ka := .io Ki Ic Ic [true] (fun x0 x => EL x0 x.1)
abbrev Bao : WF := (291, Ga3) :: Aav
def Vaj : La := ⟨34, ⟨[(0, (.own 500000 Bc true)), (1, Da), (5, Da)], []⟩, 0, ⟨[(0, (.own 500000 Bc true)), (1, Da)], []⟩, ⟨[], []⟩, WH⟩
def FaW : WL := [(2, Vaj)]
theorem FaH : Qa (WG false Aav [] [] []) FaW (lp Tryz.f291 0) := Pb 2 (ls := Vaj) rfl
theorem NaS : WO Bao := VN Ia4 Tryz.func291 (Ga FaH Ia)
abbrev Ua1 : Ka := .io RA Ic Ic [true] (fun x0 x => FJ x0 x.1)
abbrev Fan : WF := (249, Ua1) :: Bao
def Aaj : La := ⟨19, ⟨[(0, (.own 500000 Ki true)), (1, Da), (5, Da)], []⟩, 0, ⟨[(0, (.own 500000 Ki true)), (1, Da)], []⟩, ⟨[], []⟩, ZE⟩
def MaV : WL := [(2, Aaj)]
theorem KaG : Qa (WG false Bao [(3999, 500000)] [] []) MaV (lp Tryz.f249 0) := Pb 2 (ls := Aaj) rfl
theorem BaR : WO Fan := VN NaS Tryz.func249 (Ga KaG Ia)
abbrev Va1 : Ka := .io RK Ic Ic [true] (fun x0 x => CL x0 x.1)
abbrev BaB : WF := (250, Va1) :: Fan
def Baj : La := ⟨52, ⟨[(0, (.own 500000 Bf true)), (1, Da), (5, Da)], []⟩, 0, ⟨[(0, (.own 500000 Bf true)), (1, Da)], []⟩, ⟨[], []⟩, UH⟩
def NaV : WL := [(2, Baj)]
theorem LaG : Qa (WG false Fan [] [] []) NaV (lp Tryz.f250 0) := Pb 2 (ls := Baj) rfl
theorem CaR : WO BaB := VN BaR Tryz.func250 (Ga LaG Ia)
abbrev HaZ : Ka := .io Xb Ic Ic [true] (fun x0 x => Lz x0 x.1)
abbrev BaA : WF := (177, HaZ) :: BaB
theorem OaO : WO BaA := VN (L := []) (m := []) (v := []) (l := []) CaR Tryz.func177 Ia
abbrev Da9 : Ka := .io Cc Ic Ic [true] (fun x0 x => Sv x0 x.1)
abbrev SaJ : WF := (86, Da9) :: BaA
theorem Ca6 : WO SaJ := VN (L := []) (m := []) (v := []) (l := []) OaO Tryz.func86 Ia
abbrev Ra7 : Ka := .io Ad Ic Ic [true] (fun x0 x => Yt x0 x.1)
abbrev Cav : WF := (26, Ra7) :: SaJ
theorem Qa4 : WO Cav := VN (L := []) (m := []) (v := []) (l := []) Ca6 Tryz.func26 Ia
abbrev Sa7 : Ka := .io QI Ic Ic [true] (fun x0 x => DL x0 x.1)
abbrev Dav : WF := (27, Sa7) :: Cav
def Eat : La := ⟨36, ⟨[(0, (.own 500000 Gj true)), (1, Da), (5, Da)], []⟩, 0, ⟨[(0, (.own 500000 Gj true)), (1, Da)], []⟩, ⟨[], []⟩, VH⟩
def Ma6 : WL := [(2, Eat)]
theorem PaK : Qa (WG false Cav [(3999, 500000)] [] []) Ma6 (lp Tryz.f27 0) := Pb 2 (ls := Eat) rfl
theorem Ra4 : WO Dav := VN Qa4 Tryz.func27 (Ga PaK Ia)
abbrev Aa8 : Ka := .pu (.p Rl Ic) Ic [true] (fun x => BG x.1 x.2.1)
abbrev DaJ : WF := (57, Aa8) :: Dav
def Kat : La := ⟨21, ⟨[(0, (.data Rl)), (1, Da), (5, Da)], []⟩, 0, ⟨[(1, Da)], []⟩, ⟨[(4, Da)], []⟩, BJ⟩
def Sa6 : WL := [(2, Kat)]
theorem VaK : Qa (WG true Dav [] [] []) Sa6 (lp Tryz.f57 0) := Pb 2 (ls := Kat) rfl
theorem Za4 : WO DaJ := Id Ra4 Tryz.func57 (Ga VaK Ia)
abbrev Ea9 : Ka := .pu (.p Kb Ic) Ic [true] (fun x => Zp x.1 x.2.1)
abbrev Sav : WF := (87, Ea9) :: DaJ
theorem Da6 : WO Sav := Ec Za4 Tryz.func87
abbrev IaZ : Ka := .pu (.p Dt Ic) Ic [true] (fun x => AJ x.1 x.2.1)
abbrev Yal : WF := (178, IaZ) :: Sav
def Pah : La := ⟨31, ⟨[(0, Nn), (1, Da), (5, Da)], []⟩, 0, ⟨[(1, Da)], []⟩, ⟨[(4, Da)], []⟩, UE⟩
def JaU : WL := [(2, Pah)]
theorem ZaE : Qa (WG true Sav [] [] []) JaU (lp Tryz.f178 0) := Pb 2 (ls := Pah) rfl
theorem PaO : WO Yal := Id Da6 Tryz.func178 (Ga ZaE Ia)
abbrev JaZ : Ka := .pu PI Ic [true] (fun x => Jz x.1 x.2.1)
abbrev Zal : WF := (179, JaZ) :: Yal
def Qah : La := ⟨42, ⟨[(0, Xh), (1, Da), (5, Da)], []⟩, 0, ⟨[(1, Da)], []⟩, ⟨[(4, Da)], []⟩, VE⟩
def KaU : WL := [(2, Qah)]
theorem AaF : Qa (WG true Yal [] [] []) KaU (lp Tryz.f179 0) := Pb 2 (ls := Qah) rfl
theorem QaO : WO Zal := Id PaO Tryz.func179 (Ga AaF Ia)
abbrev KaZ : Ka := .pu PI Ic [true] (fun x => BH x.1 x.2.1)
abbrev CaA : WF := (180, KaZ) :: Zal
def Rah : La := ⟨42, ⟨[(0, Xh), (1, Da), (5, Da)], []⟩, 0, ⟨[(1, Da)], []⟩, ⟨[(4, Da)], []⟩, MD⟩
def LaU : WL := [(2, Rah)]
theorem BaF : Qa (WG true Zal [] [] []) LaU (lp Tryz.f180 0) := Pb 2 (ls := Rah) rfl
theorem RaO : WO CaA := Id QaO Tryz.func180 (Ga BaF Ia)
abbrev Fa9 : Ka := .pu (.p Nb Ic) Ic [true] (fun x => Is x.1 x.2.1)
abbrev Tav : WF := (88, Fa9) :: CaA
theorem Ea6 : WO Tav := Ec RaO Tryz.func88
abbrev Wa3 : Ka := .pu (.p Tr Ic) Ic [true] (fun x => AH x.1 x.2.1)
abbrev Iao : WF := (307, Wa3) :: Tav
def Bak : La := ⟨49, ⟨[(0, (.data Tr)), (1, Da), (5, Da)], []⟩, 0, ⟨[(1, Da)], []⟩, ⟨[(4, Da)], []⟩, LD⟩
def LaW : WL := [(2, Bak)]
theorem LaH : Qa (WG true Tav [] [] []) LaW (lp Tryz.f307 0) := Pb 2 (ls := Bak) rfl
theorem DaT : WO Iao := Id Ea6 Tryz.func307 (Ga LaH Ia)
abbrev Ha3 : Ka := .pu (.p (.sl Tr) Ic) Ic [true] (fun x => ZD x.1 x.2.1)
abbrev OaB : WF := (292, Ha3) :: Iao
def Waj : La := ⟨21, ⟨[(0, NI), (1, Da), (5, Da)], []⟩, 0, ⟨[(1, Da)], []⟩, ⟨[(4, Da)], []⟩, JB⟩
def GaW : WL := [(2, Waj)]
theorem GaH : Qa (WG true Iao [] [] []) GaW (lp Tryz.f292 0) := Pb 2 (ls := Waj) rfl
theorem OaS : WO OaB := Id DaT Tryz.func292 (Ga GaH Ia)
abbrev Wa1 : Ka := .pu (.p Ub Ic) Ic [true] (fun x => Kz x.1 x.2.1)
abbrev Gan : WF := (251, Wa1) :: OaB
theorem DaR : WO Gan := Ec OaS Tryz.func251
abbrev Ia3 : Ka := .pu (.p Ki Ic) Ic [true] (fun x => BL x.1 x.2.1)
abbrev Cao : WF := (293, Ia3) :: Gan
def Xaj : La := ⟨40, ⟨[(0, (.data Ki)), (1, Da), (5, Da)], []⟩, 0, ⟨[(1, Da)], []⟩, ⟨[(4, Da)], []⟩, TH⟩
def HaW : WL := [(2, Xaj)]
theorem HaH : Qa (WG true Gan [] [] []) HaW (lp Tryz.f293 0) := Pb 2 (ls := Xaj) rfl
theorem PaS : WO Cao := Id DaR Tryz.func293 (Ga HaH Ia)
abbrev Xa1 : Ka := .pu (.p RA Ic) Ic [true] (fun x => CJ x.1 x.2.1)
abbrev Han : WF := (252, Xa1) :: Cao
def Caj : La := ⟨21, ⟨[(0, (.data RA)), (1, Da), (5, Da)], []⟩, 0, ⟨[(1, Da)], []⟩, ⟨[(4, Da)], []⟩, WE⟩
def OaV : WL := [(2, Caj)]
theorem MaG : Qa (WG true Cao [] [] []) OaV (lp Tryz.f252 0) := Pb 2 (ls := Caj) rfl
theorem EaR : WO Han := Id PaS Tryz.func252 (Ga MaG Ia)
abbrev Ya1 : Ka := .pu (.p RK Ic) Ic [true] (fun x => AL x.1 x.2.1)
abbrev CaB : WF := (253, Ya1) :: Han
def Daj : La := ⟨62, ⟨[(0, Ck), (1, Da), (5, Da)], []⟩, 0, ⟨[(1, Da)], []⟩, ⟨[(4, Da)], []⟩, QH⟩
def PaV : WL := [(2, Daj)]
theorem NaG : Qa (WG true Han [] [] []) PaV (lp Tryz.f253 0) := Pb 2 (ls := Daj) rfl
theorem FaR : WO CaB := Id EaR Tryz.func253 (Ga NaG Ia)
abbrev LaZ : Ka := .pu (.p Xb Ic) Ic [true] (fun x => Iz x.1 x.2.1)
abbrev DaA : WF := (181, LaZ) :: CaB
theorem SaO : WO DaA := Ec FaR Tryz.func181
abbrev Ga9 : Ka := .pu (.p Cc Ic) Ic [true] (fun x => Rv x.1 x.2.1)
abbrev TaJ : WF := (89, Ga9) :: DaA
theorem Fa6 : WO TaJ := Ec SaO Tryz.func89
abbrev Ta7 : Ka := .pu (.p Ad Ic) Ic [true] (fun x => Xt x.1 x.2.1)
abbrev Eav : WF := (28, Ta7) :: TaJ
theorem Sa4 : WO Eav := Ec Fa6 Tryz.func28
abbrev Ua7 : Ka := .pu (.p QI Ic) Ic [true] (fun x => XC x.1 x.2.1)
abbrev XaI : WF := (29, Ua7) :: Eav
def Fat : La := ⟨42, ⟨[(0, (.data QI)), (1, Da), (5, Da)], []⟩, 0, ⟨[(1, Da)], []⟩, ⟨[(4, Da)], []⟩, SH⟩
def Na6 : WL := [(2, Fat)]
theorem QaK : Qa (WG true Eav [] [] []) Na6 (lp Tryz.f29 0) := Pb 2 (ls := Fat) rfl
theorem Ta4 : WO XaI := Id Sa4 Tryz.func29 (Ga QaK Ia)
abbrev s_4 : Ka := .pu (.p Ad Ic) Xd [true] (fun x => Jl x.1 x.2.1)
abbrev F_4 : WF := (4, s_4) :: XaI
theorem E_4 : WO F_4 := Ec Ta4 Tryz.func4
theorem CO : Fj Tryz.prog II 4 s_4 := YaL E_4 (by kernel_rfl)
end
end KF
