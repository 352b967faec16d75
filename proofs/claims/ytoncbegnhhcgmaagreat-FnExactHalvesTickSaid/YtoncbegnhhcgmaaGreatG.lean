/- An evaluator of Go functions on plain data, its soundness, and plain laws on what the functions compute, part 7 (conditions: as each lemma tells). -/
import Derived.Test.YtoncbegnhhcgmaaGreatF
import Derived.Test.YtoncbegnhhcgmaaGreatRows
set_option linter.unusedSimpArgs false
set_option linter.unusedVariables false
namespace KF
open Go Go.Proofs Go.Proofs.Tryz
def GT : List (Nat × Ty) := [(3, int), (4, .b), (5, Uh), (9, .s), (22, (.sl (.sl Wb))), (24, Bc), (25, (.sl int)), (27, (.sl Ec)), (30, (.sl (.sl Wb))), (32, Bc), (43, Bb), (45, Nb), (46, (.sl Zb)), (47, (.sl Bb)), (48, (.sl Bb)), (50, Pb), (51, (.sl (.sl Kc))), (52, (.sl Of)), (54, Dc), (56, Kc), (58, Hc), (60, Ed), (62, Bb), (63, Nb), (64, (.sl Zb)), (65, (.sl Bb)), (66, (.sl Bb)), (68, Pb), (69, (.sl (.sl Kc))), (70, (.sl Of)), (72, Dc), (73, Kc), (75, Hc), (77, Ed), (78, (.sl Wj)), (89, (.sl Uh)), (91, Tc), (93, Fe), (95, Tc), (97, Fe), (121, Ec), (134, Bb), (152, Wj), (172, (.sl Wb)), (177, (.sl Wb)), (194, Zb), (212, Bb), (235, (.i .u64)), (240, (.sl Kc)), (242, Wb), (244, Of), (255, Wb), (271, Zb), (273, Bb), (275, Bb), (295, Kc), (301, (.sl Zb)), (303, Zb), (306, (.sl Kc)), (312, Of), (323, Kc), (325, (.i .u32)), (327, (.i .u64))]
def GA : List (Nat × Ty × Nat) := [(214, int, 4)]
theorem Ga3 : ((GT.all fun x => Hf Tryz.prog x.2 x.1) && (GA.all fun x => Q5 Tryz.prog x.1 x.2.1 x.2.2)) = true := by kernel_rfl
theorem Sac : Tryz.prog.follows .mixedOrders = true := by kernel_rfl
noncomputable abbrev II : Pi := noI
noncomputable section
abbrev WP : Program := Tryz.prog
abbrev WF := List (Nat × Ia)
abbrev WL := List (Nat × La)
abbrev WG (z : Bool) (fs : WF) (m : List (Nat × Nat)) (v l : List Nat) : Jg := ⟨GT, fs, m, z, GA, v, l⟩
def WO (fs : WF) : Prop := ∀ z m v l, Pk WP II (WG z fs m v l)
theorem Xbl : WO [] := fun _ _ _ _ => Aad Ga3
theorem wc {f : Nat} {s : Ia} {fs : WF} (e : WO fs) (h : Vj WP II f s) : WO ((f, s) :: fs) := fun z m v l => Pk.cons h (e z m v l)
theorem FaV {f : Nat} {s : Ia} {fs : WF} (e : WO fs) (h : Ic fs f = some s) : Vj WP II f s := (e true [] [] []).fn f s h
theorem Kb {z : Bool} {fs : WF} {m : List (Nat × Nat)} {v l : List Nat} {L : WL} {fn : Func} {i : Nat} (r : Nat) {ls : La} {R : ls.inT.X → Option (ls.inT.X ⊕ (ls.outT.X ⊕ ls.retT.X))}
 (h3 : ls.F = Ua R) (h1 : Kl (lp fn i) = some r := by kernel_rfl) (h2 : (Ic L r) = some ls := by kernel_rfl) (h4 : ∀ x, BV (WG z fs m v l) L ls (lp fn i) x = R x := by intro _; kernel_rfl) : Oa (WG z fs m v l) L (lp fn i) := Had h1 h2 h3 h4
theorem Tb {f : Nat} {fn : Func} {pt rt : Ty} {fr : List Bool} {F : T pt → Option (T rt)} {fs : WF} (e : WO fs) (hf : WP.funcs[f]? = some fn)
 (hb : (fn.body.isSome && !(fn.name == "runtime.NumGoroutine") && Nat.ble pt.npar fn.ntmps && Nat.beq (Cf (fn.body.getD .skip)).length 0) = true := by kernel_rfl)
 (hF : ∀ x, evF (WG true fs [] [] []) [] fn pt rt fr x = F x := by intro _; kernel_rfl) : WO ((f, .pu pt rt fr F) :: fs) := wc e (T1 (e _ _ _ _) Sac hf hb Ja hF)
theorem Id {k : Nat} {L : WL} {m : List (Nat × Nat)} {v l : List Nat} {f : Nat} {fn : Func} {pt rt : Ty} {fr : List Bool} {F : T pt → Option (T rt)} {fs : WF} (e : WO fs) (hf : WP.funcs[f]? = some fn) (hL : ∀ i, i < k → Oa (WG true fs m v l) L (lp fn i))
 (hb : (fn.body.isSome && !(fn.name == "runtime.NumGoroutine") && Nat.ble pt.npar fn.ntmps && Nat.beq (Cf (fn.body.getD .skip)).length k) = true := by kernel_rfl)
 (hF : ∀ x, evF (WG true fs m v l) L fn pt rt fr x = F x := by intro _; kernel_rfl) : WO ((f, .pu pt rt fr F) :: fs) := wc e (T1 (e _ _ _ _) Sac hf hb hL hF)
theorem UN {k : Nat} {L : WL} {m : List (Nat × Nat)} {v l : List Nat} {f : Nat} {fn : Func} {τ pt rt : Ty} {fr : List Bool} {F : T τ → T pt → Option (T τ × T rt)} {fs : WF} (e : WO fs) (hf : WP.funcs[f]? = some fn) (hL : ∀ i, i < k → Oa (WG false fs m v l) L (lp fn i))
 (hb : (fn.body.isSome && !(fn.name == "runtime.NumGoroutine") && Nat.ble (pt.npar + 1) fn.ntmps && Nat.beq (Cf (fn.body.getD .skip)).length k) = true := by kernel_rfl)
 (hF : ∀ x0 x, Fag (WG false fs m v l) L fn τ pt rt fr x0 x = F x0 x := by intro _ _; kernel_rfl) : WO ((f, .io τ pt rt fr F) :: fs) := wc e (VaB (e _ _ _ _) rfl Sac hf hb hL hF)
theorem wco {k : Nat} {L : WL} {m : List (Nat × Nat)} {v l : List Nat} {f : Nat} {fn : Func} {pt rt : Ty} {fr : List Bool} {F : T pt → Option (T rt)} {fs : WF} (e : WO fs) (hf : WP.funcs[f]? = some fn) (hL : ∀ i, i < k → Oa (WG false fs m v l) L (lp fn i))
 (hb : (fn.body.isSome && !(fn.name == "runtime.NumGoroutine") && Nat.ble pt.npar fn.ntmps && Nat.beq (Cf (fn.body.getD .skip)).length k) = true := by kernel_rfl)
 (hF : ∀ x, Eag (WG false fs m v l) L fn pt rt fr x = F x := by intro _; kernel_rfl) : WO ((f, .co pt rt fr F) :: fs) := wc e (UaB (e _ _ _ _) rfl Sac hf hb hL hF)
theorem F5 {k : Nat} {L : WL} {m : List (Nat × Nat)} {v l : List Nat} {f : Nat} {fn : Func} {vw cv : Bool} {τ pt rt : Ty} {fr : List Bool} {F : T τ → T pt → Option (T τ × T rt)} {fs : WF} (e : WO fs) (hf : WP.funcs[f]? = some fn) (hL : ∀ i, i < k → Oa (WG false fs m v l) L (lp fn i))
 (hb : (fn.body.isSome && !(fn.name == "runtime.NumGoroutine") && Nat.ble (pt.npar + 1) fn.ntmps && Nat.beq (Cf (fn.body.getD .skip)).length k) = true := by kernel_rfl)
 (hF : ∀ x0 x, Dag (WG false fs m v l) L fn vw cv τ pt rt fr x0 x = F x0 x := by intro _ _; kernel_rfl) : WO ((f, .bx vw cv τ pt rt fr F) :: fs) := wc e (SaB (e _ _ _ _) rfl Sac hf hb hL hF)
abbrev Da : TD := .data int
abbrev Ac : Ty := .p int .u
abbrev Sd : Ty := .p .b .u
abbrev c5_ : TD := .pr (.own 200002 Zb true) (.pr Da (.pr (.own 200003 Bb true) (.pr Da (.pr Da (.pr Da (.pr (.own 200004 Bb true) .un))))))
abbrev DZ : Ty := .sl Bb
abbrev Mt : Ty := .sl Wb
abbrev Vav : TD := .pr (.own 200001 Zb true) (.pr Da (.pr (.own 200002 Bb true) (.pr Da (.pr Da (.pr Da (.pr (.own 200003 Bb true) .un))))))
abbrev KA : TD := .own 200001 int true
abbrev Mf : TD := .data .b
abbrev Wi : Ty := .sl Kc
abbrev Fh : TD := .ptr 2 []
abbrev HK : TD := .own 200001 Bb true
abbrev Li : TD := .data DZ
abbrev Fn : Ty := .p Wb .u
abbrev U5 : Ty := .sl Uh
abbrev Di : TD := .ptr 1 []
abbrev Wav : TD := .pr Da (.pr Da (.pr Da (.pr Da (.pr Da (.pr KA (.data .u))))))
abbrev Av : TD := .data Bb
abbrev Waa : TD := .pr Da (.pr (.own 200001 Mt true) .un)
abbrev Rm : TD := .ptr 4 []
abbrev AM : Ty := .p Pb .u
abbrev NO : Ty := .sl Of
abbrev Yk : TD := .data NO
abbrev BM : TD := .ptr 500000 []
abbrev CM : TD := .data (.sl Mt)
abbrev Bv : Ty := .sl Zb
abbrev So : TD := .data Bv
abbrev IK : TD := .data Kc
abbrev LA : Ty := .p U5 .u
abbrev Zk : Ty := .sl int
abbrev LD : TD := .pr Da (.pr (.data Zk) .un)
abbrev KD : TD := .data U5
abbrev Ww : TD := .ptr 3 []
abbrev OX : Ty := .p (.sl Ec) .u
abbrev OV : Ty := .p int (.p .o .u)
abbrev DM : Ty := .p Bb .u
abbrev MA : Ty := .p int Sd
abbrev c2_ : TD := .pr (.pr (.pr Da (.pr (.own 200002 Mt true) .un)) (.pr (.own 200003 Wi true) (.pr Da (.pr (.own 200004 Of true) (.data MA))))) (.pr IK (.pr (.own 200005 Bb true) (.data Wb)))
abbrev ER : TD := .data Dc
abbrev V5 : TD := .own 200001 Wj true
abbrev Fah : TD := .pr (.own 200002 Uh true) IK
abbrev ZG : TD := .ptr 5 []
abbrev Gah : TD := .pr Da (.pr Da (.pr Da (.pr Da LD)))
abbrev AH : Ty := .sl Wj
abbrev EM : Ty := .p DZ Ac
abbrev Xaa : TD := .own 200001 Ec true
abbrev PX : Ty := .p Tc .u
abbrev PV : Ty := .p Dc .u
abbrev QV : Ty := .p Bb Ac
abbrev RV : TD := .data Bc
abbrev MD : Ty := .sl Wi
abbrev c6_ : TD := .pr (.pr Da (.pr CM .un)) (.pr (.data MD) (.pr Da (.pr Yk (.data MA))))
abbrev EaT : TD := .pr Av (.pr Gah (.pr (.pr So (.pr Da (.pr Li (.pr Da (.pr Da (.pr Da (.pr Li .un))))))) (.pr (.pr c6_ (.pr IK (.pr Li (.data Wb)))) (.data Zb))))
abbrev Yaa : TD := .own 200001 Uh true
abbrev FR : Ty := .p NO .u
abbrev QX : Ty := .p Bc .u
abbrev RX : Ty := .p Ec .u
abbrev SV : Ty := .p Kc .u
abbrev GR : Ty := .p DZ .u
abbrev W5 : TD := .data Pb
abbrev Xa7 : Ia := .pu (.p Zk Ac) Ac [true] (fun x => CQ x.1 x.2.1)
abbrev LaG : WF := (125, Xa7) :: ([] : WF)
theorem GaW : WO LaG := Tb Xbl func125
abbrev Ibk : Ia := .pu (.p Nb Ac) Ac [true] (fun x => Vx x.1 x.2.1)
abbrev YaR : WF := (58, Ibk) :: LaG
theorem Lbg : WO YaR := Tb GaW func58
abbrev Ya7 : Ia := .pu (.p Bv Ac) Ac [true] (fun x => QJ x.1 x.2.1)
abbrev MaG : WF := (126, Ya7) :: YaR
theorem HaW : WO MaG := Tb Lbg func126
abbrev Za7 : Ia := .pu EM Ac [true] (fun x => Nz x.1 x.2.1)
abbrev NaG : WF := (127, Za7) :: MaG
theorem IaW : WO NaG := Tb HaW func127
abbrev Aa8 : Ia := .pu EM Ac [true] (fun x => FG x.1 x.2.1)
abbrev OaG : WF := (128, Aa8) :: NaG
theorem JaW : WO OaG := Tb IaW func128
abbrev Jbk : Ia := .pu (.p Pb Ac) Ac [true] (fun x => FC x.1 x.2.1)
abbrev ZaR : WF := (59, Jbk) :: OaG
theorem Mbg : WO ZaR := Tb JaW func59
abbrev Ka7 : Ia := .pu (.p Mt Ac) Ac [true] (fun x => Vv x.1 x.2.1)
abbrev Qar : WF := (111, Ka7) :: ZaR
theorem TaV : WO Qar := Tb Mbg func111
abbrev Cbk : Ia := .pu (.p (.sl Mt) Ac) Ac [true] (fun x => EC x.1 x.2.1)
abbrev SaR : WF := (48, Cbk) :: Qar
def MaA : La := ⟨27, ⟨[(0, CM), (1, Da), (5, Da)], []⟩, 0, ⟨[(1, Da)], []⟩, ⟨[(4, Da)], []⟩, PI⟩
def Jbi : WL := [(5, MaA)]
theorem VaT : Oa (WG true Qar [] [] []) Jbi (lp f48 0) := Kb 5 (ls := MaA) rfl
theorem Fbg : WO SaR := Id TaV func48 (Ga VaT Ja)
abbrev s_8 : Ia := .pu (.p Bc Ac) Ac [true] (fun x => TJ x.1 x.2.1)
abbrev F_8 : WF := (8, s_8) :: SaR
theorem E_8 : WO F_8 := Tb Fbg func8
abbrev Qbd : Ia := .pu (.p Wi Ac) Ac [true] (fun x => JE x.1 x.2.1)
abbrev Eau : WF := (275, Qbd) :: F_8
theorem Za1 : WO Eau := Tb E_8 func275
abbrev Hbb : Ia := .pu (.p MD Ac) Ac [true] (fun x => UJ x.1 x.2.1)
abbrev NaI : WF := (213, Hbb) :: Eau
def Oao : La := ⟨27, ⟨[(0, (.data MD)), (1, Da), (5, Da)], []⟩, 0, ⟨[(1, Da)], []⟩, ⟨[(4, Da)], []⟩, BN⟩
def Ca5 : WL := [(5, Oao)]
theorem CaO : Oa (WG true Eau [] [] []) Ca5 (lp f213 0) := Kb 5 (ls := Oao) rfl
theorem QaZ : WO NaI := Id Za1 func213 (Ga CaO Ja)
abbrev Ibb : Ia := .pu (.p NO Ac) Ac [true] (fun x => AN x.1 x.2.1)
abbrev OaI : WF := (214, Ibb) :: NaI
theorem RaZ : WO OaI := Tb QaZ func214
abbrev Ba8 : Ia := .pu (.p Dc Ac) Ac [true] (fun x => RJ x.1 x.2.1)
abbrev PaG : WF := (129, Ba8) :: OaI
theorem KaW : WO PaG := Tb RaZ func129
abbrev Kbk : Ia := .pu (.p Hc Ac) Ac [true] (fun x => GG x.1 x.2.1)
abbrev AaS : WF := (60, Kbk) :: PaG
theorem Nbg : WO AaS := Tb KaW func60
abbrev Hbj : Ia := .pu (.p Ed Ac) Ac [true] (fun x => YM x.1 x.2.1)
abbrev GaR : WF := (20, Hbj) :: AaS
theorem Lbf : WO GaR := Tb Nbg func20
abbrev Ja7 : Ia := .pu (.p U5 Ac) Ac [true] (fun x => ZM x.1 x.2.1)
abbrev FaG : WF := (109, Ja7) :: GaR
theorem SaV : WO FaG := Tb Lbf func109
abbrev Obl : Ia := .pu (.p Tc Ac) Ac [true] (fun x => GC x.1 x.2.1)
abbrev QaS : WF := (92, Obl) :: FaG
theorem Rbh : WO QaS := Tb SaV func92
abbrev Sbj : Ia := .pu (.p Fe Ac) Ac [true] (fun x => SJ x.1 x.2.1)
abbrev KaR : WF := (32, Sbj) :: QaS
theorem Vbf : WO KaR := Tb Rbh func32
abbrev Rbk : Ia := .pu DM DM [true] (fun x => YJ x.1)
abbrev UaC : WF := (67, Rbk) :: KaR
theorem Ubg : WO UaC := Tb Vbf func67
abbrev Cbj : Ia := .pu (.p Zk .u) (.p Zk .u) [true] (fun x => DQ x.1)
abbrev CaR : WF := (11, Cbj) :: UaC
def CaA : La := ⟨22, ⟨[(0, (.data Zk)), (3, KA), (4, Da)], []⟩, 0, ⟨[(3, KA)], []⟩, ⟨[], []⟩, ME⟩
def Zbh : WL := [(3, CaA)]
theorem LaT : Oa (WG true UaC [] [] []) Zbh (lp f11 0) := Kb 3 (ls := CaA) rfl
theorem Gbf : WO CaR := Id Ubg func11 (Ga LaT Ja)
abbrev Sbk : Ia := .pu (.p Nb .u) (.p Nb .u) [true] (fun x => Xx x.1)
abbrev EaS : WF := (68, Sbk) :: CaR
theorem Vbg : WO EaS := Tb Gbf func68
abbrev Vbb : Ia := .pu (.p Zb .u) (.p Zb .u) [true] (fun x => KE x.1)
abbrev Hat : WF := (227, Vbb) :: EaS
theorem Ea0 : WO Hat := Tb Vbg func227
abbrev Sa8 : Ia := .pu (.p Bv .u) (.p Bv .u) [true] (fun x => KR x.1)
abbrev CaH : WF := (146, Sa8) :: Hat
def Can : La := ⟨23, ⟨[(0, So), (3, (.own 200001 Zb true)), (4, Da)], []⟩, 0, ⟨[(3, (.own 200001 Zb true))], []⟩, ⟨[], []⟩, EN⟩
def Xa3 : WL := [(3, Can)]
theorem QaM : Oa (WG true Hat [] [] []) Xa3 (lp f146 0) := Kb 3 (ls := Can) rfl
theorem BaX : WO CaH := Id Ea0 func146 (Ga QaM Ja)
abbrev Wbb : Ia := .pu DM DM [true] (fun x => LE x.1)
abbrev Iat : WF := (228, Wbb) :: CaH
theorem Fa0 : WO Iat := Tb BaX func228
abbrev Ta8 : Ia := .pu GR GR [true] (fun x => WJ x.1)
abbrev DaH : WF := (147, Ta8) :: Iat
def Dan : La := ⟨23, ⟨[(0, Li), (3, HK), (4, Da)], []⟩, 0, ⟨[(3, HK)], []⟩, ⟨[], []⟩, FN⟩
def Ya3 : WL := [(3, Dan)]
theorem RaM : Oa (WG true Iat [] [] []) Ya3 (lp f147 0) := Kb 3 (ls := Dan) rfl
theorem CaX : WO DaH := Id Fa0 func147 (Ga RaM Ja)
abbrev Xbb : Ia := .pu DM DM [true] (fun x => Oz x.1)
abbrev Jat : WF := (229, Xbb) :: DaH
theorem Ga0 : WO Jat := Tb CaX func229
abbrev Ua8 : Ia := .pu GR GR [true] (fun x => EP x.1)
abbrev EaH : WF := (148, Ua8) :: Jat
def Ean : La := ⟨23, ⟨[(0, Li), (3, HK), (4, Da)], []⟩, 0, ⟨[(3, HK)], []⟩, ⟨[], []⟩, OL⟩
def Za3 : WL := [(3, Ean)]
theorem SaM : Oa (WG true Jat [] [] []) Za3 (lp f148 0) := Kb 3 (ls := Ean) rfl
theorem DaX : WO EaH := Id Ga0 func148 (Ga SaM Ja)
abbrev Tbk : Ia := .pu AM AM [true] (fun x => HC x.1)
abbrev FaS : WF := (69, Tbk) :: EaH
theorem Wbg : WO FaS := Tb DaX func69
abbrev Yba : Ia := .pu Fn Fn [true] (fun x => Oq x.1)
abbrev Vas : WF := (204, Yba) :: FaS
theorem HaZ : WO Vas := Tb Wbg func204
abbrev Pa7 : Ia := .pu (.p Mt .u) (.p Mt .u) [true] (fun x => HG x.1)
abbrev Sar : WF := (116, Pa7) :: Vas
def Lam : La := ⟨23, ⟨[(0, (.data Mt)), (3, (.own 200001 Wb true)), (4, Da)], []⟩, 0, ⟨[(3, (.own 200001 Wb true))], []⟩, ⟨[], []⟩, NL⟩
def Ka3 : WL := [(3, Lam)]
theorem ZaL : Oa (WG true Vas [] [] []) Ka3 (lp f116 0) := Kb 3 (ls := Lam) rfl
theorem YaV : WO Sar := Id HaZ func116 (Ga ZaL Ja)
abbrev Dbk : Ia := .pu (.p (.sl Mt) .u) (.p (.sl Mt) .u) [true] (fun x => CN x.1)
abbrev TaR : WF := (51, Dbk) :: Sar
def NaA : La := ⟨23, ⟨[(0, CM), (3, (.own 200001 Mt true)), (4, Da)], []⟩, 0, ⟨[(3, (.own 200001 Mt true))], []⟩, ⟨[], []⟩, QI⟩
def Kbi : WL := [(3, NaA)]
theorem WaT : Oa (WG true Sar [] [] []) Kbi (lp f51 0) := Kb 3 (ls := NaA) rfl
theorem Gbg : WO TaR := Id YaV func51 (Ga WaT Ja)
abbrev Bbj : Ia := .pu QX QX [true] (fun x => XJ x.1)
abbrev BaR : WF := (10, Bbj) :: TaR
theorem Fbf : WO BaR := Tb Gbg func10
abbrev Sbe : Ia := .pu SV SV [true] (fun x => SI x.1)
abbrev Wau : WF := (303, Sbe) :: BaR
theorem Ba3 : WO Wau := Tb Fbf func303
abbrev Wbd : Ia := .pu (.p Wi .u) (.p Wi .u) [true] (fun x => GN x.1)
abbrev Jau : WF := (281, Wbd) :: Wau
def Zap : La := ⟨23, ⟨[(0, (.data Wi)), (3, (.own 200001 Kc true)), (4, Da)], []⟩, 0, ⟨[(3, (.own 200001 Kc true))], []⟩, ⟨[], []⟩, BO⟩
def Ga6 : WL := [(3, Zap)]
theorem NaP : Oa (WG true Wau [] [] []) Ga6 (lp f281 0) := Kb 3 (ls := Zap) rfl
theorem Fa2 : WO Jau := Id Ba3 func281 (Ga NaP Ja)
abbrev Ybb : Ia := .pu (.p MD .u) (.p MD .u) [true] (fun x => LR x.1)
abbrev SaI : WF := (230, Ybb) :: Jau
def Vao : La := ⟨23, ⟨[(0, (.data MD)), (3, (.own 200001 Wi true)), (4, Da)], []⟩, 0, ⟨[(3, (.own 200001 Wi true))], []⟩, ⟨[], []⟩, HN⟩
def Ga5 : WL := [(3, Vao)]
theorem JaO : Oa (WG true Jau [] [] []) Ga5 (lp f230 0) := Kb 3 (ls := Vao) rfl
theorem Ha0 : WO SaI := Id Fa2 func230 (Ga JaO Ja)
abbrev Xbd : Ia := .pu (.p Of .u) (.p Of .u) [true] (fun x => RI x.1)
abbrev Kau : WF := (282, Xbd) :: SaI
theorem Ga2 : WO Kau := Tb Ha0 func282
abbrev Zbb : Ia := .pu FR FR [true] (fun x => MT x.1)
abbrev TaI : WF := (231, Zbb) :: Kau
def Wao : La := ⟨23, ⟨[(0, Yk), (3, (.own 200001 Of true)), (4, Da)], []⟩, 0, ⟨[(3, (.own 200001 Of true))], []⟩, ⟨[], []⟩, AO⟩
def Ha5 : WL := [(3, Wao)]
theorem KaO : Oa (WG true Kau [] [] []) Ha5 (lp f231 0) := Kb 3 (ls := Wao) rfl
theorem Ia0 : WO TaI := Id Ga2 func231 (Ga KaO Ja)
abbrev Va8 : Ia := .pu PV PV [true] (fun x => VJ x.1)
abbrev FaH : WF := (149, Va8) :: TaI
theorem EaX : WO FaH := Tb Ia0 func149
abbrev Wa8 : Ia := .pu SV SV [true] (fun x => ZJ x.1)
abbrev GaH : WF := (150, Wa8) :: FaH
theorem FaX : WO GaH := Tb EaX func150
abbrev Ubk : Ia := .pu (.p Hc .u) (.p Hc .u) [true] (fun x => IG x.1)
abbrev GaS : WF := (70, Ubk) :: GaH
theorem Xbg : WO GaS := Tb FaX func70
abbrev Jbj : Ia := .pu (.p Ed .u) (.p Ed .u) [true] (fun x => DN x.1)
abbrev JaC : WF := (22, Jbj) :: GaS
theorem Nbf : WO JaC := Tb Xbg func22
abbrev Vbj : Ia := .pu LA LA [true] (fun x => Xl x.1)
abbrev NaR : WF := (35, Vbj) :: JaC
def JaA : La := ⟨22, ⟨[(0, KD), (3, Yaa), (4, Da)], []⟩, 0, ⟨[(3, Yaa)], []⟩, ⟨[], []⟩, UA⟩
def Gbi : WL := [(3, JaA)]
theorem SaT : Oa (WG true JaC [] [] []) Gbi (lp f35 0) := Kb 3 (ls := JaA) rfl
theorem Ybf : WO NaR := Id Nbf func35 (Ga SaT Ja)
abbrev Vbl : Ia := .pu PX PX [true] (fun x => JC x.1)
abbrev VaS : WF := (99, Vbl) :: NaR
theorem Ybh : WO VaS := Tb Ybf func99
abbrev Ubj : Ia := .pu (.p Fe .u) (.p Fe .u) [true] (fun x => Vm x.1)
abbrev MaR : WF := (34, Ubj) :: VaS
theorem Xbf : WO MaR := Tb Ybh func34
abbrev Rbl : Ia := .pu Kc Sd [true] (fun x => Sb x.1 x.2.1 x.2.2.1)
abbrev RaS : WF := (95, Rbl) :: MaR
theorem Ubh : WO RaS := Tb Xbf func95
abbrev Jbb : Ia := .pu DM Sd [true] (fun x => Vz x.1)
abbrev PaI : WF := (215, Jbb) :: RaS
theorem SaZ : WO PaI := Tb Ubh func215
abbrev Ea8 : Ia := .pu DM Ac [true] (fun x => Ok x.1)
abbrev RaG : WF := (132, Ea8) :: PaI
theorem NaW : WO RaG := Tb SaZ func132
abbrev Pbl : Ia := .pu (.p Fe .u) Ac [true] (fun x => Sz x.1)
abbrev FaD : WF := (93, Pbl) :: RaG
theorem Sbh : WO FaD := Tb NaW func93
abbrev Fa8 : Ia := .pu (.p Nb .u) Sd [true] (fun x => Gp x.1)
abbrev SaG : WF := (133, Fa8) :: FaD
def Tam : La := ⟨58, ⟨[(1, Di), (3, Da)], [(1, Nb, (.data Nb))]⟩, 0, ⟨[(1, Di)], [(1, Nb, (.data Nb))]⟩, ⟨[(2, Mf)], []⟩, Iq⟩
def Pa3 : WL := [(4, Tam)]
theorem HaM : Oa (WG true FaD [] [] []) Pa3 (lp f133 0) := Kb 4 (ls := Tam) rfl
theorem OaW : WO SaG := Id Sbh func133 (Ga HaM Ja)
abbrev Ca8 : Ia := .pu QV Sd [true] (fun x => Jo x.1 x.2.1)
abbrev Xar : WF := (130, Ca8) :: SaG
theorem LaW : WO Xar := Tb OaW func130
abbrev Rbd : Ia := .pu Ac Ac [true] (fun x => Yz x.1)
abbrev Maf : WF := (276, Rbd) :: Xar
def Vap : La := ⟨16, ⟨[(0, Da), (3, Da), (4, Da)], []⟩, 0, ⟨[(3, Da)], []⟩, ⟨[], []⟩, Py⟩
def Ca6 : WL := [(3, Vap)]
theorem JaP : Oa (WG true Xar [] [] []) Ca6 (lp f276 0) := Kb 3 (ls := Vap) rfl
theorem Aa2 : WO Maf := Id LaW func276 (Ga JaP Ja)
abbrev Lbb : Ia := .pu (.p Bv .u) Sd [true] (fun x => Tz x.1)
abbrev Aat : WF := (217, Lbb) :: Maf
def Qao : La := ⟨69, ⟨[(0, So), (3, Da), (4, Da)], []⟩, 2, ⟨[(0, So), (3, Da)], []⟩, ⟨[(2, Mf)], []⟩, Jy⟩
def Pao : La := ⟨69, ⟨[(0, So), (3, Da)], []⟩, 0, ⟨[(0, So)], []⟩, ⟨[(2, Mf)], []⟩, Iy⟩
def GaK : WL := [(7, Qao), (2, Pao)]
theorem EaO : Oa (WG true Maf [] [] []) GaK (lp f217 1) := Kb 7 (ls := Qao) rfl
theorem DaO : Oa (WG true Maf [] [] []) GaK (lp f217 0) := Kb 2 (ls := Pao) rfl
theorem UaZ : WO Aat := Id Aa2 func217 (Ga EaO (Ga DaO Ja))
abbrev Sbb : Ia := .pu (.p Bv Ac) Ac [true] (fun x => XE x.1 x.2.1)
abbrev Jaf : WF := (224, Sbb) :: Aat
def Tao : La := ⟨24, ⟨[(0, So), (1, Da), (5, Da)], []⟩, 0, ⟨[], []⟩, ⟨[(4, Da)], []⟩, AB⟩
def Ea5 : WL := [(2, Tao)]
theorem HaO : Oa (WG true Aat [] [] []) Ea5 (lp f224 0) := Kb 2 (ls := Tao) rfl
theorem Ba0 : WO Jaf := Id UaZ func224 (Ga HaO Ja)
abbrev Mbb : Ia := .pu AM Sd [true] (fun x => RG x.1)
abbrev Bat : WF := (218, Mbb) :: Jaf
def Rai : La := ⟨74, ⟨[(1, Di), (3, Da), (4, Da), (5, ZG), (7, Da)], [(1, Pb, W5), (5, Bb, Av)]⟩, 2, ⟨[(1, Di), (3, Da), (4, Da), (5, ZG)], [(1, Pb, W5), (5, Bb, Av)]⟩, ⟨[(2, Mf)], []⟩, Ht⟩
def Rao : La := ⟨74, ⟨[(1, Di), (3, Da), (4, Da)], [(1, Pb, W5)]⟩, 0, ⟨[(1, Di)], [(1, Pb, W5)]⟩, ⟨[(2, Mf)], []⟩, Fw⟩
def HaK : WL := [(10, Rai), (3, Rao)]
theorem LaE : Oa (WG true Jaf [] [] []) HaK (lp f218 1) := Kb 10 (ls := Rai) rfl
theorem FaO : Oa (WG true Jaf [] [] []) HaK (lp f218 0) := Kb 3 (ls := Rao) rfl
theorem VaZ : WO Bat := Id Ba0 func218 (Ga LaE (Ga FaO Ja))
abbrev Ja8 : Ia := .pu AM Ac [true] (fun x => Gw x.1)
abbrev UaG : WF := (137, Ja8) :: Bat
def Vam : La := ⟨23, ⟨[(1, Di), (3, Da), (4, Da)], [(1, Pb, W5)]⟩, 0, ⟨[(3, Da)], []⟩, ⟨[], []⟩, ZA⟩
def Ra3 : WL := [(3, Vam)]
theorem JaM : Oa (WG true Bat [] [] []) Ra3 (lp f137 0) := Kb 3 (ls := Vam) rfl
theorem SaW : WO UaG := Id VaZ func137 (Ga JaM Ja)
abbrev Qbb : Ia := .pu DM Sd [true] (fun x => Aw x.1)
abbrev Eat : WF := (222, Qbb) :: UaG
theorem ZaZ : WO Eat := Tb SaW func222
abbrev Oa8 : Ia := .pu (.p DZ Kc) Sd [true] (fun x => Fk x.1 x.2.1 x.2.2.1 x.2.2.2.1)
abbrev YaG : WF := (142, Oa8) :: Eat
def Zam : La := ⟨73, ⟨[(0, Li), (1, Da), (2, Da), (3, Da), (9, Da)], []⟩, 0, ⟨[(0, Li)], []⟩, ⟨[(8, Mf)], []⟩, Gt⟩
def Va3 : WL := [(2, Zam)]
theorem NaM : Oa (WG true Eat [] [] []) Va3 (lp f142 0) := Kb 2 (ls := Zam) rfl
theorem XaW : WO YaG := Id ZaZ func142 (Ga NaM Ja)
abbrev Ga8 : Ia := .pu AM Sd [true] (fun x => Cs x.1)
abbrev TaG : WF := (134, Ga8) :: YaG
theorem PaW : WO TaG := Tb XaW func134
abbrev Zbc : Ia := .pu Fn Sd [true] (fun x => Nk x.1)
abbrev Kaf : WF := (257, Zbc) :: TaG
theorem Ia1 : WO Kaf := Tb PaW func257
abbrev Kba : Ia := .pu QX Sd [true] (fun x => Uz x.1)
abbrev FaI : WF := (190, Kba) :: Kaf
def Zan : La := ⟨74, ⟨[(1, Di), (3, Da), (4, Da)], [(1, Bc, RV)]⟩, 2, ⟨[(1, Di), (3, Da)], [(1, Bc, RV)]⟩, ⟨[(2, Mf)], []⟩, Bo⟩
def Yan : La := ⟨74, ⟨[(1, Di), (3, Da)], [(1, Bc, RV)]⟩, 0, ⟨[(1, Di)], [(1, Bc, RV)]⟩, ⟨[(2, Mf)], []⟩, Ao⟩
def EaK : WL := [(7, Zan), (2, Yan)]
theorem NaN : Oa (WG true Kaf [] [] []) EaK (lp f190 1) := Kb 7 (ls := Zan) rfl
theorem MaN : Oa (WG true Kaf [] [] []) EaK (lp f190 0) := Kb 2 (ls := Yan) rfl
theorem TaY : WO FaI := Id Ia1 func190 (Ga NaN (Ga MaN Ja))
abbrev Abd : Ia := .pu Fn Sd [true] (fun x => Fl x.1)
abbrev Yat : WF := (258, Abd) :: FaI
theorem Ja1 : WO Yat := Tb TaY func258
abbrev Lba : Ia := .pu FR Sd [true] (fun x => Ct x.1)
abbrev Pas : WF := (191, Lba) :: Yat
def Aao : La := ⟨57, ⟨[(0, Yk), (3, Da), (4, Da)], []⟩, 0, ⟨[], []⟩, ⟨[(2, Mf)], []⟩, SE⟩
def Ra4 : WL := [(3, Aao)]
theorem OaN : Oa (WG true Yat [] [] []) Ra4 (lp f191 0) := Kb 3 (ls := Aao) rfl
theorem UaY : WO Pas := Id Ja1 func191 (Ga OaN Ja)
abbrev Bbd : Ia := .pu (.p NO SV) Ac [true] (fun x => Ko x.1 x.2.1)
abbrev GaJ : WF := (259, Bbd) :: Pas
def Map : La := ⟨33, ⟨[(0, Yk), (3, Ww), (5, Da)], [(3, Kc, IK)]⟩, 0, ⟨[], []⟩, ⟨[(4, Da)], []⟩, DF⟩
def Va5 : WL := [(2, Map)]
theorem AaP : Oa (WG true Pas [] [] []) Va5 (lp f259 0) := Kb 2 (ls := Map) rfl
theorem Ka1 : WO GaJ := Id UaY func259 (Ga AaP Ja)
abbrev Cbd : Ia := .pu SV Fn [true] (fun x => Qq x.1)
abbrev HaJ : WF := (260, Cbd) :: GaJ
theorem La1 : WO HaJ := Tb Ka1 func260
abbrev Xba : Ia := .pu (.p NO Ac) FR [true] (fun x => Ng x.1 x.2.1)
abbrev Uas : WF := (203, Xba) :: HaJ
theorem GaZ : WO Uas := Tb La1 func203
abbrev Mba : Ia := .pu (.p Wi .u) Sd [true] (fun x => TE x.1)
abbrev Haf : WF := (192, Mba) :: Uas
def Bao : La := ⟨62, ⟨[(0, (.data Wi)), (3, (.own 200001 Of true)), (4, Da)], []⟩, 0, ⟨[(0, (.data Wi)), (3, (.own 200001 Of true))], []⟩, ⟨[(2, Mf)], []⟩, WA⟩
def Sa4 : WL := [(3, Bao)]
theorem PaN : Oa (WG true Uas [] [] []) Sa4 (lp f192 0) := Kb 3 (ls := Bao) rfl
theorem VaY : WO Haf := Id GaZ func192 (Ga PaN Ja)
abbrev La7 : Ia := .pu PV Sd [true] (fun x => Pq x.1)
abbrev GaG : WF := (112, La7) :: Haf
def Iam : La := ⟨96, ⟨[(1, Di), (3, Da)], [(1, Dc, ER)]⟩, 0, ⟨[(1, Di)], [(1, Dc, ER)]⟩, ⟨[(2, Mf)], []⟩, Yn⟩
def Jam : La := ⟨96, ⟨[(1, Di), (4, Da)], [(1, Dc, ER)]⟩, 2, ⟨[(1, Di)], [(1, Dc, ER)]⟩, ⟨[(2, Mf)], []⟩, Zn⟩
def AaK : WL := [(4, Iam), (9, Jam)]
theorem WaL : Oa (WG true Haf [] [] []) AaK (lp f112 0) := Kb 4 (ls := Iam) rfl
theorem XaL : Oa (WG true Haf [] [] []) AaK (lp f112 1) := Kb 9 (ls := Jam) rfl
theorem UaV : WO GaG := Id VaY func112 (Ga XaL (Ga WaL Ja))
abbrev Nbb : Ia := .pu SV Sd [true] (fun x => Wz x.1)
abbrev QaI : WF := (219, Nbb) :: GaG
theorem WaZ : WO QaI := Tb UaV func219
abbrev Obb : Ia := .pu Ac Ac [true] (fun x => Ft x.1)
abbrev Cat : WF := (220, Obb) :: QaI
theorem XaZ : WO Cat := Tb WaZ func220
abbrev Ka8 : Ia := .pu PV Ac [true] (fun x => Ew x.1)
abbrev VaG : WF := (138, Ka8) :: Cat
def Wam : La := ⟨22, ⟨[(1, Di), (3, Da), (4, Da)], [(1, Dc, ER)]⟩, 0, ⟨[(3, Da)], []⟩, ⟨[], []⟩, XA⟩
def Sa3 : WL := [(3, Wam)]
theorem KaM : Oa (WG true Cat [] [] []) Sa3 (lp f138 0) := Kb 3 (ls := Wam) rfl
theorem TaW : WO VaG := Id XaZ func138 (Ga KaM Ja)
abbrev Ha8 : Ia := .pu (.p Hc .u) Sd [true] (fun x => Zv x.1)
abbrev Yar : WF := (135, Ha8) :: VaG
theorem QaW : WO Yar := Tb TaW func135
abbrev Ia8 : Ia := .pu (.p int GR) Ac [true] (fun x => Ms x.1 x.2.1)
abbrev Zar : WF := (136, Ia8) :: Yar
def Uam : La := ⟨21, ⟨[(0, Da), (1, Li), (5, Da)], []⟩, 0, ⟨[(0, Da)], []⟩, ⟨[], []⟩, It⟩
def Qa3 : WL := [(2, Uam)]
theorem IaM : Oa (WG true Yar [] [] []) Qa3 (lp f136 0) := Kb 2 (ls := Uam) rfl
theorem RaW : WO Zar := Id QaW func136 (Ga IaM Ja)
abbrev La8 : Ia := .pu AM Ac [true] (fun x => GQ x.1)
abbrev Aas : WF := (139, La8) :: Zar
def Xam : La := ⟨30, ⟨[(1, Di), (3, Da), (4, Da)], [(1, Pb, W5)]⟩, 0, ⟨[(3, Da)], []⟩, ⟨[], []⟩, ZE⟩
def Ta3 : WL := [(3, Xam)]
theorem LaM : Oa (WG true Zar [] [] []) Ta3 (lp f139 0) := Kb 3 (ls := Xam) rfl
theorem UaW : WO Aas := Id RaW func139 (Ga LaM Ja)
abbrev Mbk : Ia := .pu (.p Ed .u) Sd [true] (fun x => RE x.1)
abbrev CaS : WF := (62, Mbk) :: Aas
def RaA : La := ⟨129, ⟨[(1, Di), (4, Da), (5, Da)], [(1, Ed, (.data Ed))]⟩, 0, ⟨[(1, Di)], [(1, Ed, (.data Ed))]⟩, ⟨[(2, Mf)], []⟩, VA⟩
def Obi : WL := [(6, RaA)]
theorem AaU : Oa (WG true Aas [] [] []) Obi (lp f62 0) := Kb 6 (ls := RaA) rfl
theorem Pbg : WO CaS := Id UaW func62 (Ga AaU Ja)
abbrev Dba : Ia := .pu PX Sd [true] (fun x => Ek x.1)
abbrev BaI : WF := (183, Dba) :: CaS
theorem MaY : WO BaI := Tb Pbg func183
abbrev Qbl : Ia := .pu (.p Fe .u) Sd [true] (fun x => DK x.1)
abbrev Zau : WF := (94, Qbl) :: BaI
theorem Tbh : WO Zau := Tb MaY func94
abbrev Xbc : Ia := .pu LA Ac [true] (fun x => Rz x.1)
abbrev EaJ : WF := (255, Xbc) :: Zau
def Lap : La := ⟨30, ⟨[(0, KD), (3, Da), (4, Da), (5, Da)], []⟩, 2, ⟨[(0, KD), (3, Da), (4, Da)], []⟩, ⟨[], []⟩, Wn⟩
def Kap : La := ⟨30, ⟨[(0, KD), (3, Da), (4, Da)], []⟩, 0, ⟨[(3, Da)], []⟩, ⟨[], []⟩, Dy⟩
def JaK : WL := [(7, Lap), (3, Kap)]
theorem ZaO : Oa (WG true Zau [] [] []) JaK (lp f255 1) := Kb 7 (ls := Lap) rfl
theorem YaO : Oa (WG true Zau [] [] []) JaK (lp f255 0) := Kb 3 (ls := Kap) rfl
theorem Ga1 : WO EaJ := Id Tbh func255 (Ga ZaO (Ga YaO Ja))
abbrev Fba : Ia := .pu Zb LA [true] (fun x => PG x.1 x.2.1)
abbrev Nas : WF := (185, Fba) :: EaJ
theorem OaY : WO Nas := Tb Ga1 func185
abbrev Tbl : Ia := .pu (.p int (.p int LA)) LA [true] (fun x => EK x.1 x.2.1 x.2.2.1)
abbrev TaS : WF := (97, Tbl) :: Nas
def ZaA : La := ⟨41, ⟨[(2, KD), (7, Yaa), (8, Da)], []⟩, 0, ⟨[(7, Yaa)], []⟩, ⟨[], []⟩, Eo⟩
def Vbi : WL := [(7, ZaA)]
theorem IaU : Oa (WG true Nas [] [] []) Vbi (lp f97 0) := Kb 7 (ls := ZaA) rfl
theorem Wbh : WO TaS := Id OaY func97 (Ga IaU Ja)
abbrev Wbc : Ia := .pu LA Bb [true, true, true] (fun x => QG x.1)
abbrev DaJ : WF := (254, Wbc) :: TaS
theorem Fa1 : WO DaJ := Tb Wbh func254
abbrev Eba : Ia := .pu (.p Tc (.p Uh .u)) (.p Tc Ac) [true, true] (fun x => Ky x.1 x.2.1)
abbrev Mas : WF := (184, Eba) :: DaJ
theorem NaY : WO Mas := Id (L := []) (m := []) (v := [39]) (l := []) Fa1 func184 Ja
abbrev Sbl : Ia := .pu (.p Tc LA) (.p Tc (.p Zk .u)) [true, true] (fun x => SC x.1 x.2.1)
abbrev SaS : WF := (96, Sbl) :: Mas
def YaA : La := ⟨52, ⟨[(1, KD), (4, Rm), (6, KA), (7, (.ptr 7 [])), (8, Da)], [(4, Tc, Fah), (7, Tc, (.pr (.own 200003 Uh true) IK))]⟩, 0, ⟨[(4, Rm), (6, KA), (7, (.ptr 7 []))], [(4, Tc, Fah), (7, Tc, (.pr (.own 200003 Uh true) IK))]⟩, ⟨[(4, Rm), (5, KA)], [(4, Tc, Fah)]⟩, Dt⟩
def Ubi : WL := [(5, YaA)]
theorem HaU : Oa (WG true Mas [] [] []) Ubi (lp f96 0) := Kb 5 (ls := YaA) rfl
theorem Vbh : WO SaS := Id NaY func96 (Ga HaU Ja)
abbrev Ubl : Ia := .pu PX PX [true] (fun x => UC x.1)
abbrev UaS : WF := (98, Ubl) :: SaS
theorem Xbh : WO UaS := Tb Vbh func98
abbrev Kbb : Ia := .pu (.p Bb Zb) Ac [true] (fun x => TG x.1 x.2.1 x.2.2.1)
abbrev Z7 : WF := (216, Kbb) :: UaS
theorem TaZ : WO Z7 := Tb Xbh func216
abbrev Da8 : Ia := .pu QV Ac [true] (fun x => Jt x.1 x.2.1)
abbrev QaG : WF := (131, Da8) :: Z7
def Nai : La := ⟨53, ⟨[(2, Fh), (5, Da), (6, Da), (7, Da), (8, Da)], [(2, Bb, Av)]⟩, 4, ⟨[(2, Fh), (5, Da), (6, Da), (7, Da)], [(2, Bb, Av)]⟩, ⟨[], []⟩, BB⟩
def Sam : La := ⟨53, ⟨[(2, Fh), (5, Da), (6, Da), (7, Da)], [(2, Bb, Av)]⟩, 2, ⟨[(2, Fh), (5, Da), (6, Da)], [(2, Bb, Av)]⟩, ⟨[], []⟩, BF⟩
def Ram : La := ⟨53, ⟨[(2, Fh), (5, Da), (6, Da)], [(2, Bb, Av)]⟩, 0, ⟨[(5, Da)], []⟩, ⟨[], []⟩, AF⟩
def Aav : WL := [(11, Nai), (8, Sam), (5, Ram)]
theorem HaE : Oa (WG true Z7 [] [] []) Aav (lp f131 2) := Kb 11 (ls := Nai) rfl
theorem GaM : Oa (WG true Z7 [] [] []) Aav (lp f131 1) := Kb 8 (ls := Sam) rfl
theorem FaM : Oa (WG true Z7 [] [] []) Aav (lp f131 0) := Kb 5 (ls := Ram) rfl
theorem MaW : WO QaG := Id TaZ func131 (Ga HaE (Ga GaM (Ga FaM Ja)))
abbrev Lbk : Ia := .pu QV MA [true, true] (fun x => RC x.1 x.2.1)
abbrev BaS : WF := (61, Lbk) :: QaG
theorem Obg : WO BaS := Tb MaW func61
abbrev Ma8 : Ia := .pu QV Sd [true] (fun x => Po x.1 x.2.1)
abbrev WaG : WF := (140, Ma8) :: BaS
theorem VaW : WO WaG := Tb Obg func140
abbrev Pbb : Ia := .pu (.p Bb Zb) MA [true, true] (fun x => Cy x.1 x.2.1 x.2.2.1)
abbrev Dat : WF := (221, Pbb) :: WaG
theorem YaZ : WO Dat := Tb VaW func221
abbrev Na8 : Ia := .pu QV Ac [true] (fun x => NG x.1 x.2.1)
abbrev XaG : WF := (141, Na8) :: Dat
def Yam : La := ⟨41, ⟨[(1, Da), (2, Fh), (5, Da), (6, Da)], [(2, Bb, Av)]⟩, 0, ⟨[(5, Da)], []⟩, ⟨[], []⟩, Lm⟩
def Ua3 : WL := [(3, Yam)]
theorem MaM : Oa (WG true Dat [] [] []) Ua3 (lp f141 0) := Kb 3 (ls := Yam) rfl
theorem WaW : WO XaG := Id YaZ func141 (Ga MaM Ja)
abbrev Nbk : Ia := .pu (.p Bb Zb) MA [true, true] (fun x => Yr x.1 x.2.1 x.2.2.1)
abbrev RaC : WF := (63, Nbk) :: XaG
theorem Qbg : WO RaC := Tb WaW func63
abbrev Obk : Ia := .pu (.p Nb Ac) (.p Nb Sd) [true, true] (fun x => En x.1 x.2.1)
abbrev DaS : WF := (64, Obk) :: RaC
def SaA : La := ⟨94, ⟨[(1, Da), (2, Fh), (4, Rm), (6, (.ptr 6 [])), (7, Da)], [(2, Nb, (.data Nb)), (4, Nb, Gah), (6, Nb, Wav)]⟩, 0, ⟨[(1, Da), (4, Rm), (6, (.ptr 6 []))], [(4, Nb, Gah), (6, Nb, Wav)]⟩, ⟨[], []⟩, Fp⟩
def Pbi : WL := [(6, SaA)]
theorem BaU : Oa (WG true RaC [] [] []) Pbi (lp f64 0) := Kb 6 (ls := SaA) rfl
theorem Rbg : WO DaS := Id Qbg func64 (Ga BaU Ja)
abbrev Pa8 : Ia := .pu AM AM [true] (fun x => VE x.1)
abbrev ZaG : WF := (143, Pa8) :: DaS
theorem YaW : WO ZaG := Tb Rbg func143
abbrev Sbd : Ia := .pu DM Sd [true] (fun x => Hw x.1)
abbrev Fau : WF := (277, Sbd) :: ZaG
theorem Ba2 : WO Fau := Tb YaW func277
abbrev Tbd : Ia := .pu (.p Bv Ac) Sd [true] (fun x => WE x.1 x.2.1)
abbrev Gau : WF := (278, Tbd) :: Fau
def Wap : La := ⟨20, ⟨[(0, So), (1, Da), (5, Da)], []⟩, 0, ⟨[], []⟩, ⟨[(4, Mf)], []⟩, YA⟩
def Da6 : WL := [(2, Wap)]
theorem KaP : Oa (WG true Fau [] [] []) Da6 (lp f278 0) := Kb 2 (ls := Wap) rfl
theorem Ca2 : WO Gau := Id Ba2 func278 (Ga KaP Ja)
abbrev Ubd : Ia := .pu (.p Bv Ac) MA [true, true] (fun x => UI x.1 x.2.1)
abbrev Hau : WF := (279, Ubd) :: Gau
def Xap : La := ⟨37, ⟨[(0, So), (1, Da), (6, Da), (7, Mf), (8, Da)], []⟩, 0, ⟨[(6, Da), (7, Mf)], []⟩, ⟨[], []⟩, YE⟩
def Ea6 : WL := [(4, Xap)]
theorem LaP : Oa (WG true Gau [] [] []) Ea6 (lp f279 0) := Kb 4 (ls := Xap) rfl
theorem Da2 : WO Hau := Id Ca2 func279 (Ga LaP Ja)
abbrev Rbb : Ia := .pu (.p Bv (.p int EM)) Kc [true, true, true] (fun x => PC x.1 x.2.1 x.2.2.1 x.2.2.2.1)
abbrev Fat : WF := (223, Rbb) :: Hau
def Sao : La := ⟨134, ⟨[(0, So), (2, Li), (3, Da), (11, Da), (12, Da), (13, Da), (14, Da)], []⟩, 0, ⟨[(0, So), (11, Da), (13, Da), (14, Da)], []⟩, ⟨[(8, Da), (9, Da), (10, Da)], []⟩, Ql⟩
def Da5 : WL := [(9, Sao)]
theorem GaO : Oa (WG true Hau [] [] []) Da5 (lp f223 0) := Kb 9 (ls := Sao) rfl
theorem Aa0 : WO Fat := Id Da2 func223 (Ga GaO Ja)
abbrev Tbb : Ia := .bx false false Pb Zb GR [true] (fun x0 x => TN x0 x.1 x.2.1)
abbrev Gat : WF := (225, Tbb) :: Fat
def Uao : La := ⟨93, ⟨[(0, BM), (1, Da), (2, Da), (7, Da)], [(500000, Pb, Vav)]⟩, 0, ⟨[(0, BM), (1, Da), (2, Da)], [(500000, Pb, Vav)]⟩, ⟨[(0, BM), (6, HK)], [(500000, Pb, c5_)]⟩, QH⟩
def Fa5 : WL := [(2, Uao)]
theorem IaO : Oa (WG false Fat [] [] []) Fa5 (lp f225 0) := Kb 2 (ls := Uao) rfl
theorem Ca0 : WO Gat := F5 Aa0 func225 (Ga IaO Ja)
abbrev Qa8 : Ia := .bx false false Pb .u GR [true] (fun x0 x => IA x0)
abbrev AaH : WF := (144, Qa8) :: Gat
def Aan : La := ⟨130, ⟨[(0, BM), (3, HK)], [(500000, Pb, c5_)]⟩, 0, ⟨[(0, BM), (3, HK)], [(500000, Pb, c5_)]⟩, ⟨[(0, BM), (2, HK)], [(500000, Pb, c5_)]⟩, Uj⟩
def Wa3 : WL := [(2, Aan)]
theorem OaM : Oa (WG false Gat [] [] []) Wa3 (lp f144 0) := Kb 2 (ls := Aan) rfl
theorem ZaW : WO AaH := F5 Ca0 func144 (Ga OaM Ja)
abbrev Pbk : Ia := .pu (.p Pb EM) (.p Pb (.p DZ Sd)) [true, true, true] (fun x => As x.1 x.2.1 x.2.2.1)
abbrev SaC : WF := (65, Pbk) :: AaH
theorem Sbg : WO SaC := Tb ZaW func65
abbrev Nba : Ia := .pu QX QX [true] (fun x => HQ x.1)
abbrev Qas : WF := (193, Nba) :: SaC
def Cao : La := ⟨28, ⟨[(1, Di), (2, Fh), (3, Ww), (4, Da)], [(1, Bc, RV), (2, Bc, (.pr Da (.pr CM .un))), (3, Bc, Waa)]⟩, 0, ⟨[(2, Fh), (3, Ww)], [(2, Bc, (.pr Da (.pr CM .un))), (3, Bc, Waa)]⟩, ⟨[], []⟩, CF⟩
def Ta4 : WL := [(3, Cao)]
theorem QaN : Oa (WG true SaC [] [] []) Ta4 (lp f193 0) := Kb 3 (ls := Cao) rfl
theorem WaY : WO Qas := Id Sbg func193 (Ga QaN Ja)
abbrev Ma7 : Ia := .pu PV PV [true] (fun x => Kt x.1)
abbrev Rar : WF := (113, Ma7) :: Qas
def Kam : La := ⟨37, ⟨[(1, Di), (2, Fh), (3, Ww), (4, Da)], [(1, Dc, ER), (2, Dc, c6_), (3, Dc, (.pr Waa (.pr (.own 200002 Wi true) (.data (.p int (.p NO MA))))))]⟩, 0, ⟨[(1, Di), (2, Fh), (3, Ww)], [(1, Dc, ER), (2, Dc, c6_), (3, Dc, (.pr Waa (.pr (.own 200002 Wi true) (.data (.p int (.p NO MA))))))]⟩, ⟨[], []⟩, EF⟩
def Ja3 : WL := [(5, Kam)]
theorem YaL : Oa (WG true Qas [] [] []) Ja3 (lp f113 0) := Kb 5 (ls := Kam) rfl
theorem VaV : WO Rar := Id WaY func113 (Ga YaL Ja)
abbrev Qba : Ia := .pu (.p int FR) Ac [true] (fun x => Xz x.1 x.2.1)
abbrev Sas : WF := (196, Qba) :: Rar
def Eao : La := ⟨38, ⟨[(1, Yk), (5, Da), (6, Da)], []⟩, 0, ⟨[(5, Da)], []⟩, ⟨[], []⟩, Co⟩
def Va4 : WL := [(5, Eao)]
theorem SaN : Oa (WG true Rar [] [] []) Va4 (lp f196 0) := Kb 5 (ls := Eao) rfl
theorem ZaY : WO Sas := Id VaV func196 (Ga SaN Ja)
abbrev Dbd : Ia := .pu (.p Bc Zb) Ac [true] (fun x => QN x.1 x.2.1 x.2.2.1)
abbrev IaJ : WF := (261, Dbd) :: Sas
def Nap : La := ⟨45, ⟨[(1, Da), (2, Da), (3, Ww), (7, Da)], [(3, Bc, RV)]⟩, 0, ⟨[], []⟩, ⟨[(6, Da)], []⟩, Ui⟩
def Wa5 : WL := [(4, Nap)]
theorem BaP : Oa (WG true Sas [] [] []) Wa5 (lp f261 0) := Kb 4 (ls := Nap) rfl
theorem Ma1 : WO IaJ := Id ZaY func261 (Ga BaP Ja)
abbrev Pba : Ia := .pu (.p Bc Zb) Fn [true] (fun x => Qz x.1 x.2.1 x.2.2.1)
abbrev Ras : WF := (195, Pba) :: IaJ
theorem YaY : WO Ras := Tb Ma1 func195
abbrev Vbd : Ia := .pu (.p Kc (.p int (.p int EM))) Zb [true, true] (fun x => CK x.1 x.2.1 x.2.2.1 x.2.2.2.1 x.2.2.2.2.1)
abbrev Iau : WF := (280, Vbd) :: Ras
def Yap : La := ⟨101, ⟨[(1, Da), (3, Li), (4, Da), (5, ZG), (12, Da), (13, Da), (14, Da)], [(5, Kc, IK)]⟩, 0, ⟨[(4, Da), (12, Da)], []⟩, ⟨[(10, Da), (11, Da)], []⟩, Ey⟩
def Fa6 : WL := [(6, Yap)]
theorem MaP : Oa (WG true Ras [] [] []) Fa6 (lp f280 0) := Kb 6 (ls := Yap) rfl
theorem Ea2 : WO Iau := Id YaY func280 (Ga MaP Ja)
abbrev Oba : Ia := .pu (.p Dc Ac) Ac [true] (fun x => TI x.1 x.2.1)
abbrev GaI : WF := (194, Oba) :: Iau
def Dao : La := ⟨22, ⟨[(1, Da), (2, Fh), (5, Da)], [(2, Dc, ER)]⟩, 0, ⟨[], []⟩, ⟨[(4, Da)], []⟩, QE⟩
def Ua4 : WL := [(2, Dao)]
theorem RaN : Oa (WG true Iau [] [] []) Ua4 (lp f194 0) := Kb 2 (ls := Dao) rfl
theorem XaY : WO GaI := Id Ea2 func194 (Ga RaN Ja)
abbrev Rba : Ia := .pu Fn Fn [true] (fun x => FQ x.1)
abbrev HaI : WF := (197, Rba) :: GaI
theorem AaZ : WO HaI := Tb XaY func197
abbrev Sba : Ia := .pu Fn Fn [true] (fun x => HS x.1)
abbrev IaI : WF := (198, Sba) :: HaI
theorem BaZ : WO IaI := Tb AaZ func198
abbrev Jbe : Ia := .pu Ac Sd [true] (fun x => OC x.1)
abbrev SaJ : WF := (294, Jbe) :: IaI
theorem Sa2 : WO SaJ := Tb BaZ func294
abbrev Ebd : Ia := .bx false false Dc Fn Fn [true] (fun x0 x => UY x0 x.1)
abbrev JaJ : WF := (262, Ebd) :: SaJ
theorem Na1 : WO JaJ := F5 (L := []) (m := []) (v := []) (l := []) Sa2 func262 Ja
abbrev Tba : Ia := .bx false false Dc Fn Fn [true] (fun x0 x => Zm x0 x.1)
abbrev Y7 : WF := (199, Tba) :: JaJ
theorem CaZ : WO Y7 := F5 (L := []) (m := []) (v := []) (l := []) Na1 func199 Ja
abbrev Vba : Ia := .pu FR RX [true] (fun x => We x.1)
abbrev I2 : WF := (201, Vba) :: Y7
def Gao : La := ⟨70, ⟨[(0, Yk), (2, Fh), (3, Ww), (4, Da)], [(2, Ec, LD), (3, Ec, (.pr Da (.pr KA .un)))]⟩, 0, ⟨[(0, Yk), (2, Fh), (3, Ww)], [(2, Ec, LD), (3, Ec, (.pr Da (.pr KA .un)))]⟩, ⟨[], []⟩, Ly⟩
def Qai : La := ⟨70, ⟨[(0, Yk), (2, Fh), (3, Ww), (5, Da), (6, Da)], [(2, Ec, LD), (3, Ec, (.pr Da (.pr (.own 200201 int true) .un)))]⟩, 4, ⟨[(0, Yk), (2, Fh), (3, Ww), (5, Da)], [(2, Ec, LD), (3, Ec, (.pr Da (.pr (.own 200201 int true) .un)))]⟩, ⟨[], []⟩, Nm⟩
def Pai : La := ⟨70, ⟨[(0, Yk), (2, Fh), (3, Ww), (5, Da)], [(2, Ec, LD), (3, Ec, (.pr Da (.pr (.own 200101 int true) .un)))]⟩, 2, ⟨[(2, Fh), (3, Ww)], [(2, Ec, LD), (3, Ec, (.pr Da (.pr (.own 200101 int true) .un)))]⟩, ⟨[], []⟩, Cw⟩
def Bav : WL := [(5, Gao), (13, Qai), (10, Pai)]
theorem UaN : Oa (WG true Y7 [] [] []) Bav (lp f201 0) := Kb 5 (ls := Gao) rfl
theorem KaE : Oa (WG true Y7 [] [] []) Bav (lp f201 2) := Kb 13 (ls := Qai) rfl
theorem JaE : Oa (WG true Y7 [] [] []) Bav (lp f201 1) := Kb 10 (ls := Pai) rfl
theorem EaZ : WO I2 := Id CaZ func201 (Ga KaE (Ga JaE (Ga UaN Ja)))
abbrev Fbd : Ia := .pu (.p NO FR) RX [true] (fun x => Ci x.1 x.2.1)
abbrev Zat : WF := (263, Fbd) :: I2
def Oap : La := ⟨77, ⟨[(1, Yk), (4, Rm), (5, ZG), (6, Da)], [(4, Ec, LD), (5, Ec, (.pr Da (.pr KA .un)))]⟩, 0, ⟨[(1, Yk), (4, Rm), (5, ZG)], [(4, Ec, LD), (5, Ec, (.pr Da (.pr KA .un)))]⟩, ⟨[], []⟩, Vy⟩
def Uai : La := ⟨77, ⟨[(1, Yk), (4, Rm), (5, ZG), (7, (.own 200201 int true)), (8, Da), (9, Mf), (10, Da)], [(4, Ec, LD), (5, Ec, (.pr Da (.pr (.own 200202 int true) .un)))]⟩, 4, ⟨[(1, Yk), (4, Rm), (5, ZG), (7, (.own 200201 int true)), (8, Da), (9, Mf)], [(4, Ec, LD), (5, Ec, (.pr Da (.pr (.own 200202 int true) .un)))]⟩, ⟨[], []⟩, Om⟩
def Vai : La := ⟨77, ⟨[(1, Yk), (4, Rm), (5, ZG), (7, (.own 200301 int true)), (8, Da), (9, Mf), (11, Da)], [(4, Ec, LD), (5, Ec, (.pr Da (.pr (.own 200302 int true) .un)))]⟩, 6, ⟨[(1, Yk), (4, Rm), (5, ZG), (7, (.own 200301 int true)), (8, Da), (9, Mf)], [(4, Ec, LD), (5, Ec, (.pr Da (.pr (.own 200302 int true) .un)))]⟩, ⟨[], []⟩, Pm⟩
def Pap : La := ⟨77, ⟨[(1, Yk), (4, Rm), (5, ZG), (7, (.own 200101 int true)), (8, Da)], [(4, Ec, LD), (5, Ec, (.pr Da (.pr (.own 200102 int true) .un)))]⟩, 2, ⟨[(4, Rm), (5, ZG), (7, (.own 200101 int true))], [(4, Ec, LD), (5, Ec, (.pr Da (.pr (.own 200102 int true) .un)))]⟩, ⟨[], []⟩, Wy⟩
def Oaf : WL := [(3, Oap), (12, Uai), (16, Vai), (8, Pap)]
theorem CaP : Oa (WG true I2 [] [] []) Oaf (lp f263 0) := Kb 3 (ls := Oap) rfl
theorem OaE : Oa (WG true I2 [] [] []) Oaf (lp f263 2) := Kb 12 (ls := Uai) rfl
theorem PaE : Oa (WG true I2 [] [] []) Oaf (lp f263 3) := Kb 16 (ls := Vai) rfl
theorem DaP : Oa (WG true I2 [] [] []) Oaf (lp f263 1) := Kb 8 (ls := Pap) rfl
theorem Oa1 : WO Zat := Id EaZ func263 (Ga PaE (Ga OaE (Ga DaP (Ga CaP Ja))))
abbrev Uba : Ia := .pu (.p NO (.p Wi .u)) OX [true] (fun x => Ik x.1 x.2.1)
abbrev Tas : WF := (200, Uba) :: Zat
def Fao : La := ⟨60, ⟨[(0, Yk), (1, (.data Wi)), (5, Xaa), (6, (.own 200002 Of true)), (7, Da)], []⟩, 0, ⟨[(5, Xaa)], []⟩, ⟨[], []⟩, Ip⟩
def Wa4 : WL := [(6, Fao)]
theorem TaN : Oa (WG true Zat [] [] []) Wa4 (lp f200 0) := Kb 6 (ls := Fao) rfl
theorem DaZ : WO Tas := Id Oa1 func200 (Ga TaN Ja)
abbrev Gbd : Ia := .pu (.p Ec RX) Sd [true] (fun x => TC x.1 x.2.1)
abbrev KaJ : WF := (264, Gbd) :: Tas
def Qap : La := ⟨38, ⟨[(2, Fh), (3, Ww), (5, Da)], [(2, Ec, (.data Ec)), (3, Ec, (.data Ec))]⟩, 0, ⟨[], []⟩, ⟨[(4, Mf)], []⟩, Et⟩
def Xa5 : WL := [(4, Qap)]
theorem EaP : Oa (WG true Tas [] [] []) Xa5 (lp f264 0) := Kb 4 (ls := Qap) rfl
theorem Pa1 : WO KaJ := Id DaZ func264 (Ga EaP Ja)
abbrev Hbd : Ia := .pu RX RX [true] (fun x => IQ x.1)
abbrev Aau : WF := (265, Hbd) :: KaJ
theorem Qa1 : WO Aau := Tb Pa1 func265
abbrev Wba : Ia := .pu (.p Ec OX) OX [true] (fun x => Ah x.1 x.2.1)
abbrev JaI : WF := (202, Wba) :: Aau
def Hao : La := ⟨34, ⟨[(1, (.data (.sl Ec))), (2, Fh), (5, Xaa), (6, Da)], [(2, Ec, (.data Ec))]⟩, 0, ⟨[(5, Xaa)], []⟩, ⟨[], []⟩, Iw⟩
def Xa4 : WL := [(3, Hao)]
theorem VaN : Oa (WG true Aau [] [] []) Xa4 (lp f202 0) := Kb 3 (ls := Hao) rfl
theorem FaZ : WO JaI := Id Qa1 func202 (Ga VaN Ja)
abbrev Na7 : Ia := .pu (.p Dc MA) (.p Dc (.p (.sl Ec) Sd)) [true, true, true] (fun x => Rl x.1 x.2.1 x.2.2.1)
abbrev HaG : WF := (114, Na7) :: JaI
theorem WaV : WO HaG := Tb FaZ func114
abbrev Ubb : Ia := .bx false false Hc QV (.p (.sl Ec) MA) [true, true, true] (fun x0 x => Dw x0 x.1 x.2.1)
abbrev RaI : WF := (226, Ubb) :: HaG
theorem Da0 : WO RaI := F5 (L := []) (m := []) (v := []) (l := []) WaV func226 Ja
abbrev Oa7 : Ia := .pu (.p Dc Ac) (.p Dc (.p (.sl Ec) Sd)) [true, true, true] (fun x => UE x.1 x.2.1)
abbrev Faf : WF := (115, Oa7) :: RaI
theorem XaV : WO Faf := Tb Da0 func115
abbrev Ra8 : Ia := .bx false false Hc .u (.p AH .u) [true] (fun x0 x => HA x0)
abbrev BaH : WF := (145, Ra8) :: Faf
def Oai : La := ⟨109, ⟨[(0, BM), (3, (.own 200101 Wj true)), (5, Da), (6, (.mov 200102 Ec)), (13, Da)], [(500000, Hc, (.pr (.pr (.pr Da (.pr (.own 200103 Mt true) .un)) (.pr (.own 200104 Wi true) (.pr Da (.pr (.own 200105 Of true) (.data MA))))) (.pr IK (.pr (.own 200106 Bb true) (.data Wb)))))]⟩, 2, ⟨[(0, BM), (3, (.own 200101 Wj true)), (5, Da)], [(500000, Hc, (.pr (.pr (.pr Da (.pr (.own 200102 Mt true) .un)) (.pr (.own 200103 Wi true) (.pr Da (.pr (.own 200104 Of true) (.data MA))))) (.pr IK (.pr (.own 200105 Bb true) (.data Wb)))))]⟩, ⟨[], []⟩, Vi⟩
def Ban : La := ⟨109, ⟨[(0, BM), (3, V5)], [(500000, Hc, c2_)]⟩, 0, ⟨[(0, BM), (3, V5)], [(500000, Hc, c2_)]⟩, ⟨[(0, BM), (2, V5)], [(500000, Hc, c2_)]⟩, Tj⟩
def CaK : WL := [(18, Oai), (2, Ban)]
theorem IaE : Oa (WG false Faf [] [] [90]) CaK (lp f145 1) := Kb 18 (ls := Oai) rfl
theorem PaM : Oa (WG false Faf [] [] [90]) CaK (lp f145 0) := Kb 2 (ls := Ban) rfl
theorem AaX : WO BaH := F5 XaV func145 (Ga IaE (Ga PaM Ja))
abbrev Qbk : Ia := .pu (.p Hc EM) (.p Hc (.p AH Sd)) [true, true, true] (fun x => QC x.1 x.2.1 x.2.2.1)
abbrev TaC : WF := (66, Qbk) :: BaH
theorem Tbg : WO TaC := Tb AaX func66
abbrev Ibj : Ia := .pu (.p Ed Ac) (.p Ed (.p AH Sd)) [true, true, true] (fun x => Dl x.1 x.2.1)
abbrev HaR : WF := (21, Ibj) :: TaC
def FaA : La := ⟨127, ⟨[(2, Fh), (4, Rm), (9, Da), (11, (.ptr 11 [])), (13, HK), (14, Da)], [(2, Ed, (.data Ed)), (4, Ed, EaT), (11, Nb, (.pr Da (.pr Da (.pr Da (.pr Da (.pr Da (.pr (.own 200002 int true) .un)))))))]⟩, 0, ⟨[(2, Fh), (4, Rm), (9, Da), (11, (.ptr 11 [])), (13, HK)], [(2, Ed, (.data Ed)), (4, Ed, EaT), (11, Nb, (.pr Da (.pr Da (.pr Da (.pr Da (.pr Da (.pr (.own 200002 int true) .un)))))))]⟩, ⟨[], []⟩, Qj⟩
def Cbi : WL := [(8, FaA)]
theorem OaT : Oa (WG true TaC [] [] []) Cbi (lp f21 0) := Kb 8 (ls := FaA) rfl
theorem Mbf : WO HaR := Id Tbg func21 (Ga OaT Ja)
abbrev Tbj : Ia := .pu (.p Fe (.p int (.p int LA))) (.p Fe (.p AH Sd)) [true, true, true] (fun x => Bs x.1 x.2.1 x.2.2.1 x.2.2.2.1)
abbrev LaR : WF := (33, Tbj) :: HaR
theorem Wbf : WO LaR := Tb Mbf func33
abbrev Xa8 : Ia := .pu DM Sd [true] (fun x => Mq x.1)
abbrev Bas : WF := (151, Xa8) :: LaR
theorem GaX : WO Bas := Tb Wbf func151
abbrev Ya8 : Ia := .pu (.p Nb .u) Sd [true] (fun x => Vo x.1)
abbrev HaH : WF := (152, Ya8) :: Bas
def Fan : La := ⟨79, ⟨[(66, (.data Zk)), (67, Da), (68, Da)], []⟩, 0, ⟨[], []⟩, ⟨[(2, Mf)], []⟩, Hq⟩
def Aa4 : WL := [(6, Fan)]
theorem TaM : Oa (WG true Bas [] [] []) Aa4 (lp f152 0) := Kb 6 (ls := Fan) rfl
theorem HaX : WO HaH := Id GaX func152 (Ga TaM Ja)
abbrev Tbe : Ia := .pu (.p (.i .u32) .u) Ac [true] (fun x => T5 x.1)
abbrev YaJ : WF := (304, Tbe) :: HaH
theorem Ca3 : WO YaJ := Tb HaX func304
abbrev Ube : Ia := .pu (.p (.i .u64) .u) Ac [true] (fun x => GK x.1)
abbrev ZaJ : WF := (305, Ube) :: YaJ
theorem Da3 : WO ZaJ := Tb Ca3 func305
abbrev Ybd : Ia := .pu (.p (.i .u64) .u) Ac [true] (fun x => PF x.1)
abbrev Naf : WF := (283, Ybd) :: ZaJ
theorem Ha2 : WO Naf := Tb Da3 func283
abbrev Abc : Ia := .pu (.p Bv .u) Sd [true] (fun x => Gz x.1)
abbrev Kat : WF := (232, Abc) :: Naf
def Sai : La := ⟨68, ⟨[(0, So), (4, Rm), (11, So), (12, Da), (13, Da), (48, So), (49, Da), (50, Da)], [(4, Zb, (.data Zb))]⟩, 2, ⟨[(0, So), (11, So), (12, Da), (13, Da)], []⟩, ⟨[(2, Mf)], []⟩, Hv⟩
def Xao : La := ⟨68, ⟨[(0, So), (11, So), (12, Da), (13, Da)], []⟩, 0, ⟨[], []⟩, ⟨[(2, Mf)], []⟩, Hx⟩
def IaK : WL := [(12, Sai), (4, Xao)]
theorem MaE : Oa (WG true Naf [] [] []) IaK (lp f232 1) := Kb 12 (ls := Sai) rfl
theorem LaO : Oa (WG true Naf [] [] []) IaK (lp f232 0) := Kb 4 (ls := Xao) rfl
theorem Ja0 : WO Kat := Id Ha2 func232 (Ga MaE (Ga LaO Ja))
abbrev Hbc : Ia := .pu (.p Bv Ac) (.p Zb Sd) [true, true] (fun x => SD x.1 x.2.1)
abbrev WaI : WF := (239, Hbc) :: Kat
def Bap : La := ⟨21, ⟨[(1, Da), (4, Rm), (8, So), (9, Da), (10, Da)], [(4, Zb, (.data Zb))]⟩, 0, ⟨[(4, Rm)], [(4, Zb, (.data Zb))]⟩, ⟨[(4, Rm), (5, Mf)], [(4, Zb, (.data Zb))]⟩, SA⟩
def Ma5 : WL := [(2, Bap)]
theorem PaO : Oa (WG true Kat [] [] []) Ma5 (lp f239 0) := Kb 2 (ls := Bap) rfl
theorem Qa0 : WO WaI := Id Ja0 func239 (Ga PaO Ja)
abbrev Ha9 : Ia := .pu Zb Ac [true] (fun x => Xe x.1 x.2.1)
abbrev Cas : WF := (161, Ha9) :: WaI
theorem QaX : WO Cas := Tb Qa0 func161
abbrev Bbc : Ia := .pu AM Sd [true] (fun x => NB x.1)
abbrev Lat : WF := (233, Bbc) :: Cas
def Yao : La := ⟨61, ⟨[(1, Di), (3, Da), (9, Li), (10, Da), (11, Da)], [(1, Pb, W5)]⟩, 0, ⟨[], []⟩, ⟨[(2, Mf)], []⟩, Ws⟩
def Ia5 : WL := [(3, Yao)]
theorem MaO : Oa (WG true Cas [] [] []) Ia5 (lp f233 0) := Kb 3 (ls := Yao) rfl
theorem Ka0 : WO Lat := Id QaX func233 (Ga MaO Ja)
abbrev Ca9 : Ia := .pu AM MA [true, true] (fun x => Mi x.1)
abbrev LaH : WF := (156, Ca9) :: Lat
def Gan : La := ⟨27, ⟨[(4, Da), (10, Li), (11, Da), (12, Da)], []⟩, 0, ⟨[(4, Da)], []⟩, ⟨[(2, Da), (3, Mf)], []⟩, Ap⟩
def Ba4 : WL := [(3, Gan)]
theorem UaM : Oa (WG true Lat [] [] []) Ba4 (lp f156 0) := Kb 3 (ls := Gan) rfl
theorem LaX : WO LaH := Id Ka0 func156 (Ga UaM Ja)
abbrev Zbd : Ia := .pu DM Sd [true] (fun x => Jv x.1)
abbrev Lau : WF := (284, Zbd) :: LaH
theorem Ia2 : WO Lau := Tb LaX func284
abbrev Ebc : Ia := .pu EM MA [true, true] (fun x => AQ x.1 x.2.1)
abbrev Pat : WF := (236, Ebc) :: Lau
def Zao : La := ⟨53, ⟨[(0, Li), (1, Da), (11, Li), (12, Da), (13, Da)], []⟩, 0, ⟨[(1, Da)], []⟩, ⟨[(4, Da), (5, Mf)], []⟩, VD⟩
def Ja5 : WL := [(4, Zao)]
theorem NaO : Oa (WG true Lau [] [] []) Ja5 (lp f236 0) := Kb 4 (ls := Zao) rfl
theorem Na0 : WO Pat := Id Ia2 func236 (Ga NaO Ja)
abbrev Ka9 : Ia := .pu (.p DZ Zb) Sd [true] (fun x => Ii x.1 x.2.1 x.2.2.1)
abbrev QaH : WF := (164, Ka9) :: Pat
def Kan : La := ⟨29, ⟨[(0, Li), (1, Da), (2, Da), (11, Li), (12, Da), (13, Da)], []⟩, 0, ⟨[(0, Li), (1, Da)], []⟩, ⟨[(6, Mf)], []⟩, Qv⟩
def Fa4 : WL := [(2, Kan)]
theorem YaM : Oa (WG true Pat [] [] []) Fa4 (lp f164 0) := Kb 2 (ls := Kan) rfl
theorem TaX : WO QaH := Id Na0 func164 (Ga YaM Ja)
abbrev Ia9 : Ia := .pu EM Sd [true] (fun x => Gi x.1 x.2.1)
abbrev PaH : WF := (162, Ia9) :: QaH
theorem RaX : WO PaH := Tb TaX func162
abbrev Za8 : Ia := .pu AM Sd [true] (fun x => Yq x.1)
abbrev IaH : WF := (153, Za8) :: PaH
theorem IaX : WO IaH := Tb RaX func153
abbrev Kbe : Ia := .pu Ac Sd [true] (fun x => DA x.1)
abbrev TaJ : WF := (295, Kbe) :: IaH
theorem Ta2 : WO TaJ := Tb IaX func295
abbrev Lbe : Ia := .pu Ac Sd [true] (fun x => Zs x.1)
abbrev UaJ : WF := (296, Lbe) :: TaJ
theorem Ua2 : WO UaJ := Tb Ta2 func296
abbrev Mbe : Ia := .pu Ac Sd [true] (fun x => Nv x.1)
abbrev VaJ : WF := (297, Mbe) :: UaJ
theorem Va2 : WO VaJ := Tb Ua2 func297
abbrev Ibd : Ia := .pu Fn Sd [true] (fun x => Lk x.1)
abbrev Laf : WF := (266, Ibd) :: VaJ
theorem Ra1 : WO Laf := Tb Va2 func266
abbrev Zba : Ia := .pu QX Sd [true] (fun x => Hz x.1)
abbrev Was : WF := (205, Zba) :: Laf
def Jao : La := ⟨73, ⟨[(1, Di), (3, Da), (28, CM), (29, Da), (30, Da), (40, (.data Mt)), (41, Da), (42, Da)], [(1, Bc, RV)]⟩, 2, ⟨[(1, Di), (28, CM), (29, Da), (30, Da)], [(1, Bc, RV)]⟩, ⟨[(2, Mf)], []⟩, On⟩
def Iao : La := ⟨73, ⟨[(1, Di), (28, CM), (29, Da), (30, Da)], [(1, Bc, RV)]⟩, 0, ⟨[], []⟩, ⟨[(2, Mf)], []⟩, Nn⟩
def FaK : WL := [(9, Jao), (4, Iao)]
theorem XaN : Oa (WG true Laf [] [] []) FaK (lp f205 1) := Kb 9 (ls := Jao) rfl
theorem WaN : Oa (WG true Laf [] [] []) FaK (lp f205 0) := Kb 4 (ls := Iao) rfl
theorem IaZ : WO Was := Id Ra1 func205 (Ga XaN (Ga WaN Ja))
abbrev Abb : Ia := .pu FR Sd [true] (fun x => Ll x.1)
abbrev Xas : WF := (206, Abb) :: Was
def Kao : La := ⟨46, ⟨[(3, Da), (6, Yk), (7, Da), (8, Da)], []⟩, 0, ⟨[], []⟩, ⟨[(2, Mf)], []⟩, QD⟩
def Ya4 : WL := [(3, Kao)]
theorem YaN : Oa (WG true Was [] [] []) Ya4 (lp f206 0) := Kb 3 (ls := Kao) rfl
theorem JaZ : WO Xas := Id IaZ func206 (Ga YaN Ja)
abbrev Jbd : Ia := .pu (.p Bv (.p Zb .u)) Ac [true] (fun x => BI x.1 x.2.1)
abbrev Bau : WF := (267, Jbd) :: Xas
def Rap : La := ⟨19, ⟨[(3, Ww), (7, So), (8, Da), (9, Da)], [(3, Zb, (.data Zb))]⟩, 0, ⟨[], []⟩, ⟨[(4, Da)], []⟩, YD⟩
def Ya5 : WL := [(2, Rap)]
theorem FaP : Oa (WG true Xas [] [] []) Ya5 (lp f267 0) := Kb 2 (ls := Rap) rfl
theorem Sa1 : WO Bau := Id JaZ func267 (Ga FaP Ja)
abbrev Bbb : Ia := .pu (.p Wi .u) Sd [true] (fun x => RD x.1)
abbrev Iaf : WF := (207, Bbb) :: Bau
def Lao : La := ⟨62, ⟨[(3, (.own 200001 Zb true)), (11, (.data Wi)), (12, Da), (13, Da)], []⟩, 0, ⟨[(3, (.own 200001 Zb true))], []⟩, ⟨[(2, Mf)], []⟩, PA⟩
def Za4 : WL := [(5, Lao)]
theorem ZaN : Oa (WG true Bau [] [] []) Za4 (lp f207 0) := Kb 5 (ls := Lao) rfl
theorem KaZ : WO Iaf := Id Sa1 func207 (Ga ZaN Ja)
abbrev Sa7 : Ia := .pu PV Sd [true] (fun x => CJ x.1)
abbrev JaG : WF := (119, Sa7) :: Iaf
def Oam : La := ⟨92, ⟨[(1, Di), (35, (.data MD)), (36, Da), (37, Da)], [(1, Dc, ER)]⟩, 0, ⟨[(1, Di)], [(1, Dc, ER)]⟩, ⟨[(2, Mf)], []⟩, Mn⟩
def Mai : La := ⟨92, ⟨[(1, Di), (5, Da), (50, Yk), (51, Da), (52, Da)], [(1, Dc, ER)]⟩, 2, ⟨[(1, Di), (5, Da)], [(1, Dc, ER)]⟩, ⟨[(2, Mf)], []⟩, Em⟩
def BaK : WL := [(4, Oam), (11, Mai)]
theorem CaM : Oa (WG true Iaf [] [] []) BaK (lp f119 0) := Kb 4 (ls := Oam) rfl
theorem GaE : Oa (WG true Iaf [] [] []) BaK (lp f119 1) := Kb 11 (ls := Mai) rfl
theorem BaW : WO JaG := Id KaZ func119 (Ga GaE (Ga CaM Ja))
abbrev Cbc : Ia := .pu SV Sd [true] (fun x => Iz x.1)
abbrev Mat : WF := (234, Cbc) :: JaG
theorem La0 : WO Mat := Tb BaW func234
abbrev Ea9 : Ia := .pu FR Ac [true] (fun x => Sm x.1)
abbrev MaH : WF := (158, Ea9) :: Mat
def Ian : La := ⟨19, ⟨[(3, Da), (6, Yk), (7, Da), (8, Da)], []⟩, 0, ⟨[(3, Da)], []⟩, ⟨[], []⟩, Nx⟩
def Da4 : WL := [(3, Ian)]
theorem WaM : Oa (WG true Mat [] [] []) Da4 (lp f158 0) := Kb 3 (ls := Ian) rfl
theorem NaX : WO MaH := Id La0 func158 (Ga WaM Ja)
abbrev Aa9 : Ia := .pu (.p Hc .u) Sd [true] (fun x => Iv x.1)
abbrev JaH : WF := (154, Aa9) :: MaH
theorem JaX : WO JaH := Tb NaX func154
abbrev Ba9 : Ia := .pu DM Ac [true] (fun x => Fj x.1)
abbrev KaH : WF := (155, Ba9) :: JaH
theorem KaX : WO KaH := Tb JaX func155
abbrev Wbk : Ia := .pu QV Sd [true] (fun x => Fo x.1 x.2.1)
abbrev VaC : WF := (72, Wbk) :: KaH
theorem Zbg : WO VaC := Tb KaX func72
abbrev Da9 : Ia := .pu (.p int GR) Ac [true] (fun x => Ov x.1 x.2.1)
abbrev Gaf : WF := (157, Da9) :: VaC
def Han : La := ⟨27, ⟨[(0, Da), (7, Li), (8, Da), (9, Da)], []⟩, 0, ⟨[(0, Da)], []⟩, ⟨[], []⟩, Pv⟩
def Ca4 : WL := [(2, Han)]
theorem VaM : Oa (WG true VaC [] [] []) Ca4 (lp f157 0) := Kb 2 (ls := Han) rfl
theorem MaX : WO Gaf := Id Zbg func157 (Ga VaM Ja)
abbrev Vbk : Ia := .pu (.p Ed .u) Sd [true] (fun x => PD x.1)
abbrev HaS : WF := (71, Vbk) :: Gaf
def TaA : La := ⟨152, ⟨[(1, Di), (3, Da), (62, So), (63, Da), (64, Da)], [(1, Ed, (.data Ed))]⟩, 0, ⟨[(1, Di)], [(1, Ed, (.data Ed))]⟩, ⟨[(2, Mf)], []⟩, OA⟩
def Kaq : La := ⟨152, ⟨[(1, Di), (6, Da), (8, Da), (116, Li), (117, Da), (118, Da)], [(1, Ed, (.data Ed))]⟩, 2, ⟨[(1, Di), (6, Da), (8, Da)], [(1, Ed, (.data Ed))]⟩, ⟨[], []⟩, Kn⟩
def XaS : WL := [(7, TaA), (17, Kaq)]
theorem CaU : Oa (WG true Gaf [] [] []) XaS (lp f71 0) := Kb 7 (ls := TaA) rfl
theorem YaP : Oa (WG true Gaf [] [] []) XaS (lp f71 1) := Kb 17 (ls := Kaq) rfl
theorem Ybg : WO HaS := Id MaX func71 (Ga YaP (Ga CaU Ja))
abbrev Gba : Ia := .pu PX Sd [true] (fun x => Bk x.1)
abbrev CaI : WF := (186, Gba) :: HaS
theorem PaY : WO CaI := Tb Ybg func186
abbrev Ba7 : Ia := .pu (.p Fe .u) Ac [true] (fun x => Ez x.1)
abbrev ZaF : WF := (101, Ba7) :: CaI
theorem KaV : WO ZaF := Tb PaY func101
abbrev Aa7 : Ia := .pu (.p Fe .u) Sd [true] (fun x => DJ x.1)
abbrev Eaf : WF := (100, Aa7) :: ZaF
theorem JaV : WO Eaf := Tb KaV func100
abbrev Iba : Ia := .pu LA Ac [true] (fun x => BJ x.1)
abbrev DaI : WF := (188, Iba) :: Eaf
def Wan : La := ⟨27, ⟨[(3, Da), (6, KD), (7, Da), (8, Da), (16, Da)], []⟩, 2, ⟨[(3, Da), (6, KD), (7, Da), (8, Da)], []⟩, ⟨[], []⟩, Hn⟩
def Van : La := ⟨27, ⟨[(3, Da), (6, KD), (7, Da), (8, Da)], []⟩, 0, ⟨[(3, Da)], []⟩, ⟨[], []⟩, Bx⟩
def DaK : WL := [(7, Wan), (3, Van)]
theorem KaN : Oa (WG true Eaf [] [] []) DaK (lp f188 1) := Kb 7 (ls := Wan) rfl
theorem JaN : Oa (WG true Eaf [] [] []) DaK (lp f188 0) := Kb 3 (ls := Van) rfl
theorem RaY : WO DaI := Id JaV func188 (Ga KaN (Ga JaN Ja))
abbrev Ea7 : Ia := .pu Zb LA [true] (fun x => Lv x.1 x.2.1)
abbrev Par : WF := (104, Ea7) :: DaI
theorem NaV : WO Par := Tb RaY func104
abbrev Da7 : Ia := .pu (.p U5 LA) LA [false] (fun x => KM x.1 x.2.1)
abbrev BaG : WF := (103, Da7) :: Par
def Ham : La := ⟨33, ⟨[(1, KD), (5, Yaa), (15, KD), (16, Da), (17, Da)], []⟩, 1, ⟨[(5, Yaa)], []⟩, ⟨[], []⟩, QA⟩
def Ia3 : WL := [(7, Ham)]
theorem VaL : Oa (WG true Par [(11999, 1000200001)] [] []) Ia3 (lp f103 0) := Kb 7 (ls := Ham) rfl
theorem MaV : WO BaG := Id NaV func103 (Ga VaL Ja)
abbrev Ybc : Ia := .pu LA Bb [true, true, true] (fun x => SF x.1)
abbrev FaJ : WF := (256, Ybc) :: BaG
theorem Ha1 : WO FaJ := Tb MaV func256
abbrev Hba : Ia := .pu (.p Tc (.p Uh .u)) (.p Tc Ac) [true, true] (fun x => Ix x.1 x.2.1)
abbrev Oas : WF := (187, Hba) :: FaJ
theorem QaY : WO Oas := Id (L := []) (m := []) (v := [36]) (l := []) Ha1 func187 Ja
abbrev Ca7 : Ia := .pu (.p Tc LA) (.p Tc (.p Zk .u)) [true, true] (fun x => LB x.1 x.2.1)
abbrev AaG : WF := (102, Ca7) :: Oas
def Gam : La := ⟨42, ⟨[(2, Fh), (4, Rm), (6, KA), (19, KD), (20, Da), (21, Da)], [(2, Tc, Fah), (4, Tc, (.pr KD IK))]⟩, 0, ⟨[(2, Fh), (4, Rm), (6, KA)], [(2, Tc, Fah), (4, Tc, (.pr KD IK))]⟩, ⟨[], []⟩, Vs⟩
def Ha3 : WL := [(6, Gam)]
theorem UaL : Oa (WG true Oas [] [] []) Ha3 (lp f102 0) := Kb 6 (ls := Gam) rfl
theorem LaV : WO AaG := Id QaY func102 (Ga UaL Ja)
abbrev Fa7 : Ia := .pu PX PX [true] (fun x => MB x.1)
abbrev CX : WF := (105, Fa7) :: AaG
theorem OaV : WO CX := Tb LaV func105
abbrev Ybk : Ia := .pu QV Ac [true] (fun x => ZD x.1 x.2.1)
abbrev IaS : WF := (74, Ybk) :: CX
def UaA : La := ⟨83, ⟨[(1, Da), (2, Fh), (5, (.arr 200001 int)), (15, Da), (16, Da)], [(2, Bb, Av)]⟩, 0, ⟨[(2, Fh), (5, (.arr 200001 int))], [(2, Bb, Av)]⟩, ⟨[], []⟩, NK⟩
def Naq : La := ⟨83, ⟨[(2, Fh), (5, (.arr 200301 int)), (7, Da), (34, Da), (35, Da), (38, Da), (39, Da), (43, Da), (44, Da)], [(2, Bb, Av)]⟩, 6, ⟨[(2, Fh), (5, (.arr 200301 int)), (34, Da), (35, Da), (38, Da), (39, Da)], [(2, Bb, Av)]⟩, ⟨[], []⟩, JH⟩
def Maq : La := ⟨83, ⟨[(2, Fh), (5, (.arr 200201 int)), (34, Da), (35, Da), (38, Da), (39, Da)], [(2, Bb, Av)]⟩, 4, ⟨[(2, Fh), (5, (.arr 200201 int)), (34, Da), (35, Da)], [(2, Bb, Av)]⟩, ⟨[], []⟩, HH⟩
def Laq : La := ⟨83, ⟨[(2, Fh), (5, (.arr 200101 int)), (34, Da), (35, Da)], [(2, Bb, Av)]⟩, 2, ⟨[(2, Fh), (5, (.arr 200101 int))], [(2, Bb, Av)]⟩, ⟨[], []⟩, GH⟩
def Oaq : La := ⟨83, ⟨[(2, Fh), (5, (.arr 200401 int)), (9, Da), (67, Da), (68, Da)], [(2, Bb, Av)]⟩, 8, ⟨[(9, Da)], []⟩, ⟨[], []⟩, KH⟩
def Oag : WL := [(5, UaA), (15, Naq), (12, Maq), (10, Laq), (24, Oaq)]
theorem DaU : Oa (WG true CX [] [] []) Oag (lp f74 0) := Kb 5 (ls := UaA) rfl
theorem BaQ : Oa (WG true CX [] [] []) Oag (lp f74 3) := Kb 15 (ls := Naq) rfl
theorem AaQ : Oa (WG true CX [] [] []) Oag (lp f74 2) := Kb 12 (ls := Maq) rfl
theorem ZaP : Oa (WG true CX [] [] []) Oag (lp f74 1) := Kb 10 (ls := Laq) rfl
theorem CaQ : Oa (WG true CX [] [] []) Oag (lp f74 4) := Kb 24 (ls := Oaq) rfl
theorem Bbh : WO IaS := Id OaV func74 (Ga CaQ (Ga BaQ (Ga AaQ (Ga ZaP (Ga DaU Ja)))))
abbrev Fa9 : Ia := .pu QV Sd [true] (fun x => Lo x.1 x.2.1)
abbrev NaH : WF := (159, Fa9) :: IaS
theorem OaX : WO NaH := Tb Bbh func159
abbrev Dbc : Ia := .pu (.p Bb Zb) MA [true, true] (fun x => Ax x.1 x.2.1 x.2.2.1)
abbrev Oat : WF := (235, Dbc) :: NaH
theorem Ma0 : WO Oat := Tb OaX func235
abbrev Ga9 : Ia := .pu QV Ac [true] (fun x => QF x.1 x.2.1)
abbrev OaH : WF := (160, Ga9) :: Oat
def Jan : La := ⟨38, ⟨[(1, Da), (2, Fh), (5, Da), (14, Da), (15, Da)], [(2, Bb, Av)]⟩, 0, ⟨[(5, Da)], []⟩, ⟨[], []⟩, Gv⟩
def Ea4 : WL := [(5, Jan)]
theorem XaM : Oa (WG true Oat [] [] []) Ea4 (lp f160 0) := Kb 5 (ls := Jan) rfl
theorem PaX : WO OaH := Id Ma0 func160 (Ga XaM Ja)
abbrev Xbk : Ia := .pu (.p Bb Zb) MA [true, true] (fun x => Vq x.1 x.2.1 x.2.2.1)
abbrev WaC : WF := (73, Xbk) :: OaH
theorem Abh : WO WaC := Tb PaX func73
abbrev Zbk : Ia := .pu (.p Nb Ac) (.p Nb Sd) [true, true] (fun x => An x.1 x.2.1)
abbrev XaC : WF := (75, Zbk) :: WaC
def VaA : La := ⟨94, ⟨[(1, Da), (2, Fh), (4, Rm), (6, (.ptr 6 [])), (27, (.data Zk)), (28, Da), (29, Da)], [(2, Nb, (.data Nb)), (4, Nb, Gah), (6, Nb, Wav)]⟩, 0, ⟨[(1, Da), (4, Rm), (6, (.ptr 6 []))], [(4, Nb, Gah), (6, Nb, Wav)]⟩, ⟨[], []⟩, Uo⟩
def Qbi : WL := [(6, VaA)]
theorem EaU : Oa (WG true WaC [] [] []) Qbi (lp f75 0) := Kb 6 (ls := VaA) rfl
theorem Cbh : WO XaC := Id Abh func75 (Ga EaU Ja)
abbrev Bbl : Ia := .pu Kc GR [true] (fun x => Dr x.1 x.2.1 x.2.2.1)
abbrev JaS : WF := (77, Bbl) :: XaC
def WaA : La := ⟨31, ⟨[(0, Da), (1, Da), (2, Da), (7, HK), (8, Da)], []⟩, 0, ⟨[(7, HK)], []⟩, ⟨[], []⟩, Qn⟩
def Sbi : WL := [(3, WaA)]
theorem FaU : Oa (WG true XaC [] [] []) Sbi (lp f77 0) := Kb 3 (ls := WaA) rfl
theorem Ebh : WO JaS := Id Cbh func77 (Ga FaU Ja)
abbrev Ja9 : Ia := .pu AM AM [true] (fun x => Bn x.1)
abbrev Das : WF := (163, Ja9) :: JaS
theorem SaX : WO Das := Tb Ebh func163
abbrev Fbc : Ia := .bx false false Pb Zb GR [true] (fun x0 x => To x0 x.1 x.2.1)
abbrev UaI : WF := (237, Fbc) :: Das
def Aap : La := ⟨92, ⟨[(0, BM), (1, Da), (2, Da), (14, Da), (15, Da)], [(500000, Pb, Vav)]⟩, 0, ⟨[(0, BM), (1, Da), (2, Da)], [(500000, Pb, Vav)]⟩, ⟨[(0, BM), (6, HK)], [(500000, Pb, c5_)]⟩, Gq⟩
def Ka5 : WL := [(2, Aap)]
theorem OaO : Oa (WG false Das [] [] []) Ka5 (lp f237 0) := Kb 2 (ls := Aap) rfl
theorem Oa0 : WO UaI := F5 SaX func237 (Ga OaO Ja)
abbrev Abe : Ia := .pu DM Sd [true] (fun x => Vl x.1)
abbrev Mau : WF := (285, Abe) :: UaI
theorem Ja2 : WO Mau := Tb Oa0 func285
abbrev Bbe : Ia := .pu (.p Bv Ac) Sd [true] (fun x => CI x.1 x.2.1)
abbrev Nau : WF := (286, Bbe) :: Mau
def Aaq : La := ⟨19, ⟨[(1, Da), (7, So), (8, Da), (9, Da)], []⟩, 0, ⟨[], []⟩, ⟨[(4, Mf)], []⟩, BE⟩
def Ha6 : WL := [(2, Aaq)]
theorem OaP : Oa (WG true Mau [] [] []) Ha6 (lp f286 0) := Kb 2 (ls := Aaq) rfl
theorem Ka2 : WO Nau := Id Ja2 func286 (Ga OaP Ja)
abbrev Cbe : Ia := .pu (.p Bv Ac) MA [true, true] (fun x => Im x.1 x.2.1)
abbrev Oau : WF := (287, Cbe) :: Nau
def Baq : La := ⟨32, ⟨[(1, Da), (6, Da), (7, Mf), (10, So), (11, Da), (12, Da)], []⟩, 0, ⟨[(6, Da), (7, Mf)], []⟩, ⟨[], []⟩, Bt⟩
def Ia6 : WL := [(3, Baq)]
theorem PaP : Oa (WG true Nau [] [] []) Ia6 (lp f287 0) := Kb 3 (ls := Baq) rfl
theorem La2 : WO Oau := Id Ka2 func287 (Ga PaP Ja)
abbrev Gbc : Ia := .pu (.p Bv (.p int EM)) Kc [true, true, true] (fun x => JB x.1 x.2.1 x.2.2.1 x.2.2.2.1)
abbrev VaI : WF := (238, Gbc) :: Oau
def Tai : La := ⟨146, ⟨[(0, So), (1, Da), (3, Da), (11, (.ptr 11 [])), (12, Da), (13, Da), (14, Da), (15, Mf), (69, Li), (70, Da), (71, Da)], [(11, Bb, Av)]⟩, 0, ⟨[(0, So), (3, Da), (12, Da), (13, Da), (14, Da), (15, Mf)], []⟩, ⟨[(8, Da), (9, Da), (10, Da)], []⟩, Tk⟩
def La5 : WL := [(11, Tai)]
theorem NaE : Oa (WG true Oau [] [] []) La5 (lp f238 0) := Kb 11 (ls := Tai) rfl
theorem Pa0 : WO VaI := Id La2 func238 (Ga NaE Ja)
abbrev La9 : Ia := .bx false false Pb .u (.p DZ Sd) [true, true] (fun x0 x => Vh x0)
abbrev Eas : WF := (165, La9) :: VaI
theorem UaX : WO Eas := F5 (L := []) (m := []) (v := []) (l := []) Pa0 func165 Ja
abbrev Abl : Ia := .pu (.p Pb EM) (.p Pb (.p DZ Sd)) [true, true, true] (fun x => Xq x.1 x.2.1 x.2.2.1)
abbrev YaC : WF := (76, Abl) :: Eas
def Paq : La := ⟨84, ⟨[(6, (.ptr 6 [])), (9, (.ptr 9 [])), (12, HK)], [(6, Pb, (.pr So (.pr Da (.pr Li (.pr Da (.pr Da (.pr Da (.pr Li .un)))))))), (9, Pb, c5_)]⟩, 0, ⟨[(6, (.ptr 6 [])), (9, (.ptr 9 [])), (12, HK)], [(6, Pb, (.pr So (.pr Da (.pr Li (.pr Da (.pr Da (.pr Da (.pr Li .un)))))))), (9, Pb, c5_)]⟩, ⟨[], []⟩, Tf⟩
def Rbi : WL := [(10, Paq)]
theorem DaQ : Oa (WG true Eas [] [] []) Rbi (lp f76 0) := Kb 10 (ls := Paq) rfl
theorem Dbh : WO YaC := Id UaX func76 (Ga DaQ Ja)
abbrev Qa7 : Ia := .pu QX QX [true] (fun x => OB x.1)
abbrev Tar : WF := (117, Qa7) :: YaC
def Mam : La := ⟨25, ⟨[(2, Fh), (3, Ww), (10, CM), (11, Da), (12, Da)], [(2, Bc, (.pr Da (.pr CM .un))), (3, Bc, Waa)]⟩, 0, ⟨[(2, Fh), (3, Ww)], [(2, Bc, (.pr Da (.pr CM .un))), (3, Bc, Waa)]⟩, ⟨[], []⟩, Xs⟩
def La3 : WL := [(3, Mam)]
theorem AaM : Oa (WG true YaC [] [] []) La3 (lp f117 0) := Kb 3 (ls := Mam) rfl
theorem ZaV : WO Tar := Id Dbh func117 (Ga AaM Ja)
abbrev Ra7 : Ia := .pu (.p MD .u) (.p MD .u) [true] (fun x => PB x.1)
abbrev IaG : WF := (118, Ra7) :: Tar
def Nam : La := ⟨19, ⟨[(3, (.own 200001 Wi true)), (6, (.data MD)), (7, Da), (8, Da)], []⟩, 0, ⟨[(3, (.own 200001 Wi true))], []⟩, ⟨[], []⟩, Ys⟩
def Ma3 : WL := [(3, Nam)]
theorem BaM : Oa (WG true Tar [] [] []) Ma3 (lp f118 0) := Kb 3 (ls := Nam) rfl
theorem AaW : WO IaG := Id ZaV func118 (Ga BaM Ja)
abbrev Ta7 : Ia := .pu PV PV [true] (fun x => Gm x.1)
abbrev KaG : WF := (120, Ta7) :: IaG
theorem CaW : WO KaG := Tb AaW func120
abbrev Ma9 : Ia := .pu (.p Hc .u) (.p Hc .u) [true] (fun x => Zo x.1)
abbrev Fas : WF := (166, Ma9) :: KaG
theorem VaX : WO Fas := Tb CaW func166
abbrev Cbb : Ia := .pu (.p Dc Ac) Ac [true] (fun x => YP x.1 x.2.1)
abbrev KaI : WF := (208, Cbb) :: Fas
def Mao : La := ⟨21, ⟨[(1, Da), (8, Yk), (9, Da), (10, Da)], []⟩, 0, ⟨[], []⟩, ⟨[(4, Da)], []⟩, OD⟩
def Aa5 : WL := [(2, Mao)]
theorem AaO : Oa (WG true Fas [] [] []) Aa5 (lp f208 0) := Kb 2 (ls := Mao) rfl
theorem LaZ : WO KaI := Id VaX func208 (Ga AaO Ja)
abbrev Cba : Ia := .pu (.p Zk .u) (.p Zk .u) [true] (fun x => Kz x.1)
abbrev AaI : WF := (182, Cba) :: KaI
theorem LaY : WO AaI := Tb LaZ func182
abbrev Qbe : Ia := .io Zk .u .u [] (fun x0 _ => sort_Ints x0)
abbrev Uau : WF := (301, Qbe) :: AaI
end
end KF
namespace Go.Proofs
open Go.Shelf
def Tryz.lays_sort_Ints_ren : Go.Shelf.Ren := ⟨fun | 191 => 301 | 189 => 308 | 125 => 310 | 257 => 309 | 128 => 320 | 129 => 321 | 294 => 311 | 295 => 312 | 296 => 313 | 297 => 314 | 298 => 315 | 299 => 316 | 216 => 317 | 300 => 318 | 301 => 319 | 328 => 322 | 329 => 323 | 330 => 324 | 331 => 325 | 332 => 326 | 215 => 327 | 343 => 328 | n => n, fun | 28 => 25 | 0 => 0 | 3 => 3 | 46 => 235 | 51 => 325 | 53 => 327 | 4 => 4 | 183 => 332 | 182 => 331 | 131 => 127 | 5 => 5 | 9 => 9 | 218 => 338 | 222 => 342 | 228 => 344 | 229 => 283 | n => n, fun | n => n⟩
theorem Tryz.lays_sort_Ints : Go.Proofs.Lays.n191 Tryz.prog Tryz.lays_sort_Ints_ren := {
 mixed := by kernel_rfl
 f125 := Tryz.func310.trans (congrArg some (by kernel_rfl))
 f128 := Tryz.func320.trans (congrArg some (by kernel_rfl))
 f129 := Tryz.func321.trans (congrArg some (by kernel_rfl))
 f189 := Tryz.func308.trans (congrArg some (by kernel_rfl))
 f191 := Tryz.func301.trans (congrArg some (by kernel_rfl))
 f215 := Tryz.func327.trans (congrArg some (by kernel_rfl))
 f216 := Tryz.func317.trans (congrArg some (by kernel_rfl))
 f257 := Tryz.func309.trans (congrArg some (by kernel_rfl))
 f294 := Tryz.func311.trans (congrArg some (by kernel_rfl))
 f295 := Tryz.func312.trans (congrArg some (by kernel_rfl))
 f296 := Tryz.func313.trans (congrArg some (by kernel_rfl))
 f297 := Tryz.func314.trans (congrArg some (by kernel_rfl))
 f298 := Tryz.func315.trans (congrArg some (by kernel_rfl))
 f299 := Tryz.func316.trans (congrArg some (by kernel_rfl))
 f300 := Tryz.func318.trans (congrArg some (by kernel_rfl))
 f301 := Tryz.func319.trans (congrArg some (by kernel_rfl))
 f328 := Tryz.func322.trans (congrArg some (by kernel_rfl))
 f329 := Tryz.func323.trans (congrArg some (by kernel_rfl))
 f330 := Tryz.func324.trans (congrArg some (by kernel_rfl))
 f331 := Tryz.func325.trans (congrArg some (by kernel_rfl))
 f332 := Tryz.func326.trans (congrArg some (by kernel_rfl))
 f343 := Tryz.func328.trans (congrArg some (by kernel_rfl))
 t0 := Tryz.underlying0
 a0 := Tryz.isAgg0
 z0 := Tryz.sizeOf0
 v0 := Tryz.zeroValue0
 t3 := Tryz.underlying3
 a3 := Tryz.isAgg3
 z3 := Tryz.sizeOf3
 v3 := Tryz.zeroValue3
 t4 := Tryz.underlying4
 a4 := Tryz.isAgg4
 z4 := Tryz.sizeOf4
 v4 := Tryz.zeroValue4
 t5 := Tryz.underlying5
 a5 := Tryz.isAgg5
 z5 := Tryz.sizeOf5
 v5 := Tryz.zeroValue5
 t9 := Tryz.underlying9
 a9 := Tryz.isAgg9
 z9 := Tryz.sizeOf9
 v9 := Tryz.zeroValue9
 t28 := Tryz.underlying25
 a28 := Tryz.isAgg25
 z28 := Tryz.sizeOf25
 v28 := Tryz.zeroValue25
 t46 := Tryz.underlying235
 a46 := Tryz.isAgg235
 z46 := Tryz.sizeOf235
 v46 := Tryz.zeroValue235
 t51 := Tryz.underlying325
 a51 := Tryz.isAgg325
 z51 := Tryz.sizeOf325
 v51 := Tryz.zeroValue325
 t53 := Tryz.underlying327
 a53 := Tryz.isAgg327
 z53 := Tryz.sizeOf327
 v53 := Tryz.zeroValue327
 t131 := Tryz.underlying127
 a131 := Tryz.isAgg127
 z131 := Tryz.sizeOf127
 v131 := Tryz.zeroValue127
 t182 := Tryz.underlying331
 a182 := Tryz.isAgg331
 z182 := Tryz.sizeOf331
 v182 := Tryz.zeroValue331
 t183 := Tryz.underlying332
 a183 := Tryz.isAgg332
 z183 := Tryz.sizeOf332
 v183 := Tryz.zeroValue332
 t218 := Tryz.underlying338
 a218 := Tryz.isAgg338
 z218 := Tryz.sizeOf338
 v218 := Tryz.zeroValue338
 t222 := Tryz.underlying342
 a222 := Tryz.isAgg342
 z222 := Tryz.sizeOf342
 v222 := Tryz.zeroValue342
 t228 := Tryz.underlying344
 a228 := Tryz.isAgg344
 z228 := Tryz.sizeOf344
 v228 := Tryz.zeroValue344
 t229 := Tryz.underlying283
 a229 := Tryz.isAgg283
 z229 := Tryz.sizeOf283
 v229 := Tryz.zeroValue283 }
end Go.Proofs
namespace KF
open Go Go.Proofs Go.Proofs.Tryz
noncomputable section
theorem Za2 : WO Uau := wc LaY (Max Tryz.lays_sort_Ints (by kernel_rfl))
abbrev Rbe : Ia := .pu (.p Zk Ac) Sd [true] (fun x => BQ x.1 x.2.1)
abbrev Vau : WF := (302, Rbe) :: Uau
def Iaq : La := ⟨17, ⟨[(1, Da), (7, (.data Zk)), (8, Da), (9, Da)], []⟩, 0, ⟨[], []⟩, ⟨[(4, Mf)], []⟩, WD⟩
def Pa6 : WL := [(2, Iaq)]
theorem WaP : Oa (WG true Uau [] [] []) Pa6 (lp f302 0) := Kb 2 (ls := Iaq) rfl
theorem Aa3 : WO Vau := Id Za2 func302 (Ga WaP Ja)
abbrev Pbd : Ia := .pu (.p Zk .u) (.p Zk .u) [true] (fun x => Mv x.1)
abbrev Dau : WF := (274, Pbd) :: Vau
def Uap : La := ⟨31, ⟨[(4, KA), (11, (.own 200002 int true)), (12, Da), (13, Da)], []⟩, 0, ⟨[(4, KA)], []⟩, ⟨[], []⟩, RA⟩
def Ba6 : WL := [(5, Uap)]
theorem IaP : Oa (WG true Vau [] [] []) Ba6 (lp f274 0) := Kb 5 (ls := Uap) rfl
theorem Ya1 : WO Dau := Id Aa3 func274 (Ga IaP Ja)
abbrev Fbb : Ia := .pu FR RX [true] (fun x => Me x.1)
abbrev Yas : WF := (211, Fbb) :: Dau
def Nao : La := ⟨45, ⟨[(2, Fh), (3, Ww), (4, KA), (11, Yk), (12, Da), (13, Da)], [(2, Ec, LD), (3, Ec, LD)]⟩, 0, ⟨[(2, Fh), (3, Ww), (4, KA)], [(2, Ec, LD), (3, Ec, LD)]⟩, ⟨[], []⟩, Jx⟩
def Ba5 : WL := [(6, Nao)]
theorem BaO : Oa (WG true Dau [] [] []) Ba5 (lp f211 0) := Kb 6 (ls := Nao) rfl
theorem OaZ : WO Yas := Id Ya1 func211 (Ga BaO Ja)
abbrev Pbe : Ia := .pu (.p Zk (.p Zk .u)) Sd [true] (fun x => FJ x.1 x.2.1)
abbrev XaJ : WF := (300, Pbe) :: Yas
def Haq : La := ⟨26, ⟨[(0, (.data Zk)), (1, (.data Zk)), (12, Da), (13, Da)], []⟩, 0, ⟨[], []⟩, ⟨[(4, Mf)], []⟩, Ox⟩
def Oa6 : WL := [(4, Haq)]
theorem VaP : Oa (WG true Yas [] [] []) Oa6 (lp f300 0) := Kb 4 (ls := Haq) rfl
theorem Ya2 : WO XaJ := Id OaZ func300 (Ga VaP Ja)
abbrev XaK : Ia := .pu (.p Ec RX) Sd [true] (fun x => Cr x.1 x.2.1)
abbrev PaJ : WF := (273, XaK) :: XaJ
theorem YaF : WO PaJ := Tb Ya2 func273
abbrev Ebb : Ia := .co (.p Ec OX) OX [true] (fun x => Ff x.1 x.2.1)
abbrev MaI : WF := (210, Ebb) :: PaJ
def GTo : List (Nat × Ty) := [(3, int), (27, (.sl OV)), (121, OV)]
theorem WaS : ((GTo.all fun x => Hf Tryz.prog x.2 x.1) && (([] : List (Nat × Ty × Nat)).all fun x => Q5 Tryz.prog x.1 x.2.1 x.2.2)) = true := by kernel_rfl
@[reducible] def PaD (c : T Bf → T Bf → Option Bool) : Ia := .pu (.p OV (.p (.sl OV) .u)) (.p (.sl OV) .u) [true] (fun x => Yav c x.1 x.2.1)
def Caz (c : T Bf → T Bf → Option Bool) : Jg := ⟨GTo, [(273, Dac c)], [], true, [], [], []⟩
theorem OaD (I : Pi) (c : T Bf → T Bf → Option Bool) (h : Vj Tryz.prog I 273 (Dac c)) : Pk Tryz.prog I (Caz c) := Pk.cons h (Aad WaS)
def Wac (c : T Bf → T Bf → Option Bool) : La := ⟨25, ⟨[(2, Fh), (5, (.own 200001 OV true)), (8, (.data (.sl OV))), (9, Da), (10, Da)], [(2, OV, (.data OV))]⟩, 0, ⟨[(5, (.own 200001 OV true))], []⟩, ⟨[], []⟩, AA c⟩
def Daz (c : T Bf → T Bf → Option Bool) : List (Nat × La) := [(3, Wac c)]
theorem Zav (c : T Bf → T Bf → Option Bool) : Oa (Caz c) (Daz c) (lp Tryz.f210 0) := Had (r := 3) (ls := Wac c) (R := fun x => PO c x.1.1 x.1.2.1 x.1.2.2.1 x.1.2.2.2.1 x.1.2.2.2.2.1 x.2.1) (by kernel_rfl) (by kernel_rfl) rfl (fun x => by kernel_rfl)
theorem QaD (I : Pi) (c : T Bf → T Bf → Option Bool) (h : Vj Tryz.prog I 273 (Dac c)) : Vj Tryz.prog I 210 (PaD c) := T1 (L := Daz c) (k := 1) (OaD I c h) Sac Tryz.func210 (by kernel_rfl) (Ga (Zav c) Ja) (fun x => by kernel_rfl)
theorem NaZ : WO MaI := wc YaF (TaB (f2 := 273) (SR := fun x => Cr x.1 x.2.1) (same := Uk) NaF (FaV (s := XaK) YaF (by kernel_rfl)) (fun I c h => ⟨_, QaD I c h, FaL c⟩))
abbrev Ua7 : Ia := .pu (.p Dc Ac) (.p Dc OX) [true, true] (fun x => AE x.1 x.2.1)
abbrev Uar : WF := (122, Ua7) :: MaI
theorem DaW : WO Uar := Tb NaZ func122
abbrev Ibc : Ia := .pu (.p int FR) Ac [true] (fun x => Jz x.1 x.2.1)
abbrev Qat : WF := (240, Ibc) :: Uar
def Cap : La := ⟨39, ⟨[(5, Da), (21, Yk), (22, Da), (23, Da)], []⟩, 0, ⟨[(5, Da)], []⟩, ⟨[], []⟩, Ck⟩
def Na5 : WL := [(7, Cap)]
theorem QaO : Oa (WG true Uar [] [] []) Na5 (lp f240 0) := Kb 7 (ls := Cap) rfl
theorem Ra0 : WO Qat := Id DaW func240 (Ga QaO Ja)
abbrev Kbd : Ia := .pu (.p Bc Zb) Ac [true] (fun x => XD x.1 x.2.1 x.2.2.1)
abbrev LaJ : WF := (268, Kbd) :: Qat
def Sap : La := ⟨33, ⟨[(1, Da), (2, Da), (3, Ww), (7, Da)], [(3, Bc, RV)]⟩, 0, ⟨[], []⟩, ⟨[(6, Da)], []⟩, Ti⟩
def Za5 : WL := [(2, Sap)]
theorem GaP : Oa (WG true Qat [] [] []) Za5 (lp f268 0) := Kb 2 (ls := Sap) rfl
theorem Ta1 : WO LaJ := Id Ra0 func268 (Ga GaP Ja)
abbrev Dbe : Ia := .pu (.p Bc Zb) Ac [true] (fun x => FT x.1 x.2.1 x.2.2.1)
abbrev QaJ : WF := (288, Dbe) :: LaJ
theorem Ma2 : WO QaJ := Tb Ta1 func288
abbrev Kbc : Ia := .pu (.p Bc Zb) Fn [true] (fun x => AJ x.1 x.2.1 x.2.2.1)
abbrev XaI : WF := (242, Kbc) :: QaJ
theorem Ta0 : WO XaI := Tb Ma2 func242
abbrev Jbc : Ia := .pu Fn Sd [true] (fun x => Mo x.1)
abbrev Rat : WF := (241, Jbc) :: XaI
theorem Sa0 : WO Rat := Tb Ta0 func241
abbrev Lbc : Ia := .pu (.p Kc (.p int (.p int EM))) Zb [true, true] (fun x => Dz x.1 x.2.1 x.2.2.1 x.2.2.2.1 x.2.2.2.2.1)
abbrev YaI : WF := (243, Lbc) :: Rat
def Dap : La := ⟨102, ⟨[(1, Da), (2, Da), (4, Da), (5, ZG), (12, Da), (26, Li), (27, Da), (28, Da)], [(5, Kc, IK)]⟩, 0, ⟨[(2, Da), (4, Da), (5, ZG)], [(5, Kc, IK)]⟩, ⟨[(10, Da), (11, Da)], []⟩, Cx⟩
def Oa5 : WL := [(5, Dap)]
theorem RaO : Oa (WG true Rat [] [] []) Oa5 (lp f243 0) := Kb 5 (ls := Dap) rfl
theorem Ua0 : WO YaI := Id Sa0 func243 (Ga RaO Ja)
abbrev Lbd : Ia := .pu Fn Fn [true] (fun x => ZP x.1)
abbrev MaJ : WF := (269, Lbd) :: YaI
theorem Ua1 : WO MaJ := Tb Ua0 func269
abbrev Mbd : Ia := .pu Fn Fn [true] (fun x => DS x.1)
abbrev NaJ : WF := (270, Mbd) :: MaJ
theorem Va1 : WO NaJ := Tb Ua1 func270
abbrev Nbe : Ia := .pu Ac Sd [true] (fun x => IB x.1)
abbrev WaJ : WF := (298, Nbe) :: NaJ
theorem Wa2 : WO WaJ := Tb Va1 func298
abbrev Nbd : Ia := .bx false false Dc Fn Fn [true] (fun x0 x => At x0 x.1)
abbrev Cau : WF := (271, Nbd) :: WaJ
theorem Wa1 : WO Cau := F5 (L := []) (m := []) (v := []) (l := []) Wa2 func271 Ja
abbrev Obe : Ia := .pu (.p Ec (.p Bv .u)) RX [true] (fun x => Xf x.1 x.2.1)
abbrev Tau : WF := (299, Obe) :: Cau
def Gaq : La := ⟨37, ⟨[(4, Rm), (5, ZG), (6, KA), (15, So), (16, Da), (17, Da)], [(4, Ec, LD), (5, Ec, LD)]⟩, 0, ⟨[(4, Rm), (5, ZG), (6, KA)], [(4, Ec, LD), (5, Ec, LD)]⟩, ⟨[], []⟩, Rv⟩
def Na6 : WL := [(4, Gaq)]
theorem UaP : Oa (WG true Cau [] [] []) Na6 (lp f299 0) := Kb 4 (ls := Gaq) rfl
theorem Xa2 : WO Tau := Id Wa1 func299 (Ga UaP Ja)
abbrev Obd : Ia := .pu (.p NO (.p Wi .u)) OX [true] (fun x => Hk x.1 x.2.1)
abbrev OaJ : WF := (272, Obd) :: Tau
def Tap : La := ⟨74, ⟨[(5, ZG), (6, Xaa), (7, (.own 200002 Zb true)), (22, (.data Wi)), (23, Da), (24, Da)], [(5, Ec, (.pr Da (.pr (.own 200003 int true) .un)))]⟩, 0, ⟨[(6, Xaa)], []⟩, ⟨[], []⟩, Yo⟩
def Aa6 : WL := [(7, Tap)]
theorem HaP : Oa (WG true Tau [] [] []) Aa6 (lp f272 0) := Kb 7 (ls := Tap) rfl
theorem Xa1 : WO OaJ := Id Xa2 func272 (Ga HaP Ja)
abbrev Dbb : Ia := .pu (.p Dc MA) (.p Dc OX) [true, true] (fun x => Hi x.1 x.2.1 x.2.2.1)
abbrev LaI : WF := (209, Dbb) :: OaJ
theorem MaZ : WO LaI := Tb Xa1 func209
abbrev Na9 : Ia := .bx false false Hc .u (.p (.sl Ec) Sd) [true, true] (fun x0 x => Fi x0)
abbrev Gas : WF := (167, Na9) :: LaI
theorem WaX : WO Gas := F5 (L := []) (m := []) (v := []) (l := []) MaZ func167 Ja
abbrev Oa9 : Ia := .co (.p AH (.p int OX)) (.p AH .u) [true] (fun x => QQ x.1 x.2.1 x.2.2.1)
abbrev Has : WF := (168, Oa9) :: Gas
def Lan : La := ⟨23, ⟨[(0, V5), (1, Da), (9, (.mov 200002 Ec)), (10, Da), (11, Da)], []⟩, 0, ⟨[(0, V5)], []⟩, ⟨[], []⟩, OK⟩
def Ga4 : WL := [(2, Lan)]
theorem ZaM : Oa (WG false Gas [] [] [14]) Ga4 (lp f168 0) := Kb 2 (ls := Lan) rfl
theorem XaX : WO Has := wco WaX func168 (Ga ZaM Ja)
abbrev Cbl : Ia := .pu (.p Hc EM) (.p Hc (.p AH Sd)) [true, true, true] (fun x => KB x.1 x.2.1 x.2.2.1)
abbrev KaS : WF := (78, Cbl) :: Has
def XaA : La := ⟨86, ⟨[(6, (.ptr 6 [])), (9, (.ptr 9 [])), (10, V5)], [(6, Hc, (.pr c6_ (.pr IK (.pr Li (.data Wb))))), (9, Hc, c2_)]⟩, 0, ⟨[(6, (.ptr 6 [])), (9, (.ptr 9 [])), (10, V5)], [(6, Hc, (.pr c6_ (.pr IK (.pr Li (.data Wb))))), (9, Hc, c2_)]⟩, ⟨[], []⟩, Qg⟩
def Tbi : WL := [(9, XaA)]
theorem GaU : Oa (WG true Has [] [] []) Tbi (lp f78 0) := Kb 9 (ls := XaA) rfl
theorem Fbh : WO KaS := Id XaX func78 (Ga GaU Ja)
abbrev Kbj : Ia := .pu (.p Ed Ac) (.p Ed (.p AH Sd)) [true, true, true] (fun x => Al x.1 x.2.1)
abbrev IaR : WF := (23, Kbj) :: KaS
theorem Obf : WO IaR := Tb Fbh func23
abbrev Wbj : Ia := .pu (.p Fe (.p int (.p int LA))) (.p Fe (.p AH Sd)) [true, true, true] (fun x => Dm x.1 x.2.1 x.2.2.1 x.2.2.2.1)
abbrev OaR : WF := (36, Wbj) :: IaR
theorem Zbf : WO OaR := Tb Obf func36
abbrev Dbl : Ia := .pu Yax Sd [true] (fun x => KJ x.1 x.2.1)
abbrev ZaC : WF := (79, Dbl) :: OaR
theorem Gbh : WO ZaC := Tb Zbf func79
abbrev Ebj : Ia := .pu (.p Zk (.p Zk .u)) Sd [true] (fun x => FI x.1 x.2.1)
abbrev EaR : WF := (15, Ebj) :: ZaC
def DaA : La := ⟨26, ⟨[(0, (.data Zk)), (1, (.data Zk)), (5, Da)], []⟩, 0, ⟨[], []⟩, ⟨[(4, Mf)], []⟩, FE⟩
def Abi : WL := [(4, DaA)]
theorem MaT : Oa (WG true ZaC [] [] []) Abi (lp f15 0) := Kb 4 (ls := DaA) rfl
theorem Ibf : WO EaR := Id Gbh func15 (Ga MaT Ja)
abbrev Ebl : Ia := .pu (.p Nb (.p Nb .u)) Sd [true] (fun x => Sx x.1 x.2.1)
abbrev LaS : WF := (80, Ebl) :: EaR
theorem Hbh : WO LaS := Tb Ibf func80
abbrev Mbc : Ia := .pu (.p Zb (.p Zb .u)) Sd [true] (fun x => DE x.1 x.2.1)
abbrev Sat : WF := (244, Mbc) :: LaS
theorem Va0 : WO Sat := Tb Hbh func244
abbrev Pa9 : Ia := .pu (.p Bv (.p Bv .u)) Sd [true] (fun x => HJ x.1 x.2.1)
abbrev RaH : WF := (169, Pa9) :: Sat
def Man : La := ⟨27, ⟨[(0, So), (1, So), (5, Da)], []⟩, 0, ⟨[], []⟩, ⟨[(4, Mf)], []⟩, MM⟩
def Ha4 : WL := [(4, Man)]
theorem AaN : Oa (WG true Sat [] [] []) Ha4 (lp f169 0) := Kb 4 (ls := Man) rfl
theorem YaX : WO RaH := Id Va0 func169 (Ga AaN Ja)
abbrev Nbc : Ia := .pu Yax Sd [true] (fun x => EE x.1 x.2.1)
abbrev Tat : WF := (245, Nbc) :: RaH
theorem Wa0 : WO Tat := Tb YaX func245
abbrev Qa9 : Ia := .pu (.p DZ GR) Sd [true] (fun x => Mz x.1 x.2.1)
abbrev SaH : WF := (170, Qa9) :: Tat
def Nan : La := ⟨27, ⟨[(0, Li), (1, Li), (5, Da)], []⟩, 0, ⟨[], []⟩, ⟨[(4, Mf)], []⟩, NM⟩
def Ia4 : WL := [(4, Nan)]
theorem BaN : Oa (WG true Tat [] [] []) Ia4 (lp f170 0) := Kb 4 (ls := Nan) rfl
theorem ZaX : WO SaH := Id Wa0 func170 (Ga BaN Ja)
abbrev Obc : Ia := .pu Yax Sd [true] (fun x => Lz x.1 x.2.1)
abbrev Uat : WF := (246, Obc) :: SaH
theorem Xa0 : WO Uat := Tb ZaX func246
abbrev Ra9 : Ia := .pu (.p DZ GR) Sd [true] (fun x => ZF x.1 x.2.1)
abbrev TaH : WF := (171, Ra9) :: Uat
def Oan : La := ⟨27, ⟨[(0, Li), (1, Li), (5, Da)], []⟩, 0, ⟨[], []⟩, ⟨[(4, Mf)], []⟩, EL⟩
def Ja4 : WL := [(4, Oan)]
theorem CaN : Oa (WG true Uat [] [] []) Ja4 (lp f171 0) := Kb 4 (ls := Oan) rfl
theorem AaY : WO TaH := Id Xa0 func171 (Ga CaN Ja)
abbrev Fbl : Ia := .pu (.p Pb AM) Sd [true] (fun x => VB x.1 x.2.1)
abbrev MaS : WF := (81, Fbl) :: TaH
theorem Ibh : WO MaS := Tb AaY func81
abbrev Gbb : Ia := .pu (.p Wb Fn) Sd [true] (fun x => Nq x.1 x.2.1)
abbrev Zas : WF := (212, Gbb) :: MaS
theorem PaZ : WO Zas := Tb Ibh func212
abbrev Va7 : Ia := .pu (.p Mt (.p Mt .u)) Sd [true] (fun x => Tv x.1 x.2.1)
abbrev Var : WF := (123, Va7) :: Zas
def Pam : La := ⟨27, ⟨[(0, (.data Mt)), (1, (.data Mt)), (5, Da)], []⟩, 0, ⟨[], []⟩, ⟨[(4, Mf)], []⟩, DL⟩
def Na3 : WL := [(4, Pam)]
theorem DaM : Oa (WG true Zas [] [] []) Na3 (lp f123 0) := Kb 4 (ls := Pam) rfl
theorem EaW : WO Var := Id PaZ func123 (Ga DaM Ja)
abbrev Fbk : Ia := .pu (.p (.sl Mt) (.p (.sl Mt) .u)) Sd [true] (fun x => UB x.1 x.2.1)
abbrev VaR : WF := (55, Fbk) :: Var
def OaA : La := ⟨27, ⟨[(0, CM), (1, CM), (5, Da)], []⟩, 0, ⟨[], []⟩, ⟨[(4, Mf)], []⟩, DI⟩
def Lbi : WL := [(4, OaA)]
theorem XaT : Oa (WG true Var [] [] []) Lbi (lp f55 0) := Kb 4 (ls := OaA) rfl
theorem Ibg : WO VaR := Id EaW func55 (Ga XaT Ja)
abbrev Dbj : Ia := .pu (.p Bc QX) Sd [true] (fun x => JJ x.1 x.2.1)
abbrev DaR : WF := (14, Dbj) :: VaR
theorem Hbf : WO DaR := Tb Ibg func14
abbrev Vbe : Ia := .pu (.p Kc SV) Sd [true] (fun x => HI x.1 x.2.1)
abbrev Xau : WF := (306, Vbe) :: DaR
theorem Ea3 : WO Xau := Tb Hbf func306
abbrev Ebe : Ia := .pu (.p Wi (.p Wi .u)) Sd [true] (fun x => GE x.1 x.2.1)
abbrev Pau : WF := (289, Ebe) :: Xau
def Caq : La := ⟨27, ⟨[(0, (.data Wi)), (1, (.data Wi)), (5, Da)], []⟩, 0, ⟨[], []⟩, ⟨[(4, Mf)], []⟩, ZN⟩
def Ja6 : WL := [(4, Caq)]
theorem QaP : Oa (WG true Xau [] [] []) Ja6 (lp f289 0) := Kb 4 (ls := Caq) rfl
theorem Na2 : WO Pau := Id Ea3 func289 (Ga QaP Ja)
abbrev Pbc : Ia := .pu (.p MD (.p MD .u)) Sd [true] (fun x => MJ x.1 x.2.1)
abbrev ZaI : WF := (247, Pbc) :: Pau
def Eap : La := ⟨27, ⟨[(0, (.data MD)), (1, (.data MD)), (5, Da)], []⟩, 0, ⟨[], []⟩, ⟨[(4, Mf)], []⟩, QM⟩
def Pa5 : WL := [(4, Eap)]
theorem SaO : Oa (WG true Pau [] [] []) Pa5 (lp f247 0) := Kb 4 (ls := Eap) rfl
theorem Ya0 : WO ZaI := Id Na2 func247 (Ga SaO Ja)
abbrev Fbe : Ia := .pu (.p Of (.p Of .u)) Sd [true] (fun x => EI x.1 x.2.1)
abbrev Qau : WF := (290, Fbe) :: ZaI
theorem Oa2 : WO Qau := Tb Ya0 func290
abbrev Qbc : Ia := .pu (.p NO FR) Sd [true] (fun x => OM x.1 x.2.1)
abbrev AaJ : WF := (248, Qbc) :: Qau
def Fap : La := ⟨27, ⟨[(0, Yk), (1, Yk), (5, Da)], []⟩, 0, ⟨[], []⟩, ⟨[(4, Mf)], []⟩, XN⟩
def Qa5 : WL := [(4, Fap)]
theorem TaO : Oa (WG true Qau [] [] []) Qa5 (lp f248 0) := Kb 4 (ls := Fap) rfl
theorem Za0 : WO AaJ := Id Oa2 func248 (Ga TaO Ja)
abbrev Sa9 : Ia := .pu (.p Dc PV) Sd [true] (fun x => IJ x.1 x.2.1)
abbrev UaH : WF := (172, Sa9) :: AaJ
theorem BaY : WO UaH := Tb Za0 func172
abbrev Ta9 : Ia := .pu (.p Kc SV) Sd [true] (fun x => NJ x.1 x.2.1)
abbrev VaH : WF := (173, Ta9) :: UaH
theorem CaY : WO VaH := Tb BaY func173
abbrev Gbl : Ia := .pu (.p Hc (.p Hc .u)) Sd [true] (fun x => AG x.1 x.2.1)
abbrev NaS : WF := (82, Gbl) :: VaH
theorem Jbh : WO NaS := Tb CaY func82
abbrev Lbj : Ia := .pu (.p Ed (.p Ed .u)) Sd [true] (fun x => LM x.1 x.2.1)
abbrev KaC : WF := (24, Lbj) :: NaS
theorem Pbf : WO KaC := Tb Jbh func24
abbrev Ybj : Ia := .pu (.p U5 LA) Sd [true] (fun x => CE x.1 x.2.1)
abbrev QaR : WF := (38, Ybj) :: KaC
def KaA : La := ⟨26, ⟨[(0, KD), (1, KD), (5, Da)], []⟩, 0, ⟨[], []⟩, ⟨[(4, Mf)], []⟩, TA⟩
def Hbi : WL := [(4, KaA)]
theorem TaT : Oa (WG true KaC [] [] []) Hbi (lp f38 0) := Kb 4 (ls := KaA) rfl
theorem Bbg : WO QaR := Id Pbf func38 (Ga TaT Ja)
abbrev Ga7 : Ia := .pu (.p Tc PX) Sd [true] (fun x => XB x.1 x.2.1)
abbrev CaG : WF := (106, Ga7) :: QaR
theorem PaV : WO CaG := Tb Bbg func106
abbrev Xbj : Ia := .pu (.p Fe (.p Fe .u)) Sd [true] (fun x => Um x.1 x.2.1)
abbrev PaR : WF := (37, Xbj) :: CaG
theorem Abg : WO PaR := Tb PaV func37
abbrev Ebk : Ia := .pu (.p Ec RX) Sd [true] (fun x => LJ x.1 x.2.1)
abbrev UaR : WF := (54, Ebk) :: PaR
theorem Hbg : WO UaR := Tb Abg func54
abbrev Hbl : Ia := .pu (.p Wj (.p Wj .u)) Sd [true] (fun x => GI x.1 x.2.1)
abbrev AaD : WF := (83, Hbl) :: UaR
theorem Kbh : WO AaD := Tb Hbg func83
abbrev Mbj : Ia := .pu (.p AH (.p AH .u)) Sd [true] (fun x => Uv x.1 x.2.1)
abbrev LaC : WF := (25, Mbj) :: AaD
def GaA : La := ⟨27, ⟨[(0, (.data AH)), (1, (.data AH)), (5, Da)], []⟩, 0, ⟨[], []⟩, ⟨[(4, Mf)], []⟩, YN⟩
def Dbi : WL := [(4, GaA)]
theorem PaT : Oa (WG true AaD [] [] []) Dbi (lp f25 0) := Kb 4 (ls := GaA) rfl
theorem Qbf : WO LaC := Id Kbh func25 (Ga PaT Ja)
abbrev Gbj : Ia := .io Zk Ac Ac [true] (fun x0 x => PJ x0 x.1)
abbrev FaR : WF := (17, Gbj) :: LaC
def EaA : La := ⟨19, ⟨[(0, (.own 500000 int true)), (1, Da), (5, Da)], []⟩, 0, ⟨[(0, (.own 500000 int true)), (1, Da)], []⟩, ⟨[], []⟩, WM⟩
def Bbi : WL := [(2, EaA)]
theorem NaT : Oa (WG false LaC [] [] []) Bbi (lp f17 0) := Kb 2 (ls := EaA) rfl
theorem Kbf : WO FaR := UN Qbf func17 (Ga NaT Ja)
abbrev Ibl : Ia := .io Nb Ac Ac [true] (fun x0 x => Rr x0 x.1)
abbrev BaD : WF := (84, Ibl) :: FaR
theorem Lbh : WO BaD := UN (L := []) (m := []) (v := []) (l := []) Kbf func84 Ja
abbrev Ua9 : Ia := .io Bv Ac Ac [true] (fun x0 x => VM x0 x.1)
abbrev Ias : WF := (174, Ua9) :: BaD
def Pan : La := ⟨27, ⟨[(0, (.own 500000 Zb true)), (1, Da), (5, Da)], []⟩, 0, ⟨[(0, (.own 500000 Zb true)), (1, Da)], []⟩, ⟨[], []⟩, MI⟩
def Ka4 : WL := [(2, Pan)]
theorem DaN : Oa (WG false BaD [] [] []) Ka4 (lp f174 0) := Kb 2 (ls := Pan) rfl
theorem DaY : WO Ias := UN Lbh func174 (Ga DaN Ja)
abbrev Va9 : Ia := .io DZ Ac Ac [true] (fun x0 x => CC x0 x.1)
abbrev Jas : WF := (175, Va9) :: Ias
def Qan : La := ⟨36, ⟨[(0, (.own 500000 Bb true)), (1, Da), (5, Da)], []⟩, 0, ⟨[(0, (.own 500000 Bb true)), (1, Da)], []⟩, ⟨[], []⟩, NI⟩
def La4 : WL := [(2, Qan)]
theorem EaN : Oa (WG false Ias [] [] []) La4 (lp f175 0) := Kb 2 (ls := Qan) rfl
theorem EaY : WO Jas := UN DaY func175 (Ga EaN Ja)
abbrev Wa9 : Ia := .io DZ Ac Ac [true] (fun x0 x => TK x0 x.1)
abbrev WaH : WF := (176, Wa9) :: Jas
def Ran : La := ⟨36, ⟨[(0, (.own 500000 Bb true)), (1, Da), (5, Da)], []⟩, 0, ⟨[(0, (.own 500000 Bb true)), (1, Da)], []⟩, ⟨[], []⟩, YG⟩
def Ma4 : WL := [(2, Ran)]
theorem FaN : Oa (WG false Jas [] [] []) Ma4 (lp f176 0) := Kb 2 (ls := Ran) rfl
theorem FaY : WO WaH := UN EaY func176 (Ga FaN Ja)
abbrev Jbl : Ia := .io Pb Ac Ac [true] (fun x0 x => Gu x0 x.1)
abbrev CaD : WF := (85, Jbl) :: WaH
theorem Mbh : WO CaD := UN (L := []) (m := []) (v := []) (l := []) FaY func85 Ja
abbrev Wa7 : Ia := .io Mt Ac Ac [true] (fun x0 x => SK x0 x.1)
abbrev War : WF := (124, Wa7) :: CaD
def Qam : La := ⟨41, ⟨[(0, (.own 500000 Wb true)), (1, Da), (5, Da)], []⟩, 0, ⟨[(0, (.own 500000 Wb true)), (1, Da)], []⟩, ⟨[], []⟩, XG⟩
def Oa3 : WL := [(2, Qam)]
theorem EaM : Oa (WG false CaD [] [] []) Oa3 (lp f124 0) := Kb 2 (ls := Qam) rfl
theorem FaW : WO War := UN Mbh func124 (Ga EaM Ja)
abbrev Gbk : Ia := .io (.sl Mt) Ac Ac [true] (fun x0 x => MH x0 x.1)
abbrev WaR : WF := (56, Gbk) :: War
def PaA : La := ⟨19, ⟨[(0, (.own 500000 Mt true)), (1, Da), (5, Da)], []⟩, 0, ⟨[(0, (.own 500000 Mt true)), (1, Da)], []⟩, ⟨[], []⟩, IE⟩
def Mbi : WL := [(2, PaA)]
theorem YaT : Oa (WG false War [(3999, 500000)] [] []) Mbi (lp f56 0) := Kb 2 (ls := PaA) rfl
theorem Jbg : WO WaR := UN FaW func56 (Ga YaT Ja)
abbrev Fbj : Ia := .io Bc Ac Ac [true] (fun x0 x => DC x0 x.1)
abbrev IaC : WF := (16, Fbj) :: WaR
theorem Jbf : WO IaC := UN (L := []) (m := []) (v := []) (l := []) Jbg func16 Ja
abbrev Gbe : Ia := .io Wi Ac Ac [true] (fun x0 x => DP x0 x.1)
abbrev Rau : WF := (291, Gbe) :: IaC
def Daq : La := ⟨34, ⟨[(0, (.own 500000 Kc true)), (1, Da), (5, Da)], []⟩, 0, ⟨[(0, (.own 500000 Kc true)), (1, Da)], []⟩, ⟨[], []⟩, ML⟩
def Ka6 : WL := [(2, Daq)]
theorem RaP : Oa (WG false IaC [] [] []) Ka6 (lp f291 0) := Kb 2 (ls := Daq) rfl
theorem Pa2 : WO Rau := UN Jbf func291 (Ga RaP Ja)
abbrev Rbc : Ia := .io MD Ac Ac [true] (fun x0 x => XM x0 x.1)
abbrev Vat : WF := (249, Rbc) :: Rau
def Gap : La := ⟨19, ⟨[(0, (.own 500000 Wi true)), (1, Da), (5, Da)], []⟩, 0, ⟨[(0, (.own 500000 Wi true)), (1, Da)], []⟩, ⟨[], []⟩, OI⟩
def Ra5 : WL := [(2, Gap)]
theorem UaO : Oa (WG false Rau [(3999, 500000)] [] []) Ra5 (lp f249 0) := Kb 2 (ls := Gap) rfl
theorem Aa1 : WO Vat := UN Pa2 func249 (Ga UaO Ja)
abbrev Sbc : Ia := .io NO Ac Ac [true] (fun x0 x => BP x0 x.1)
abbrev BaJ : WF := (250, Sbc) :: Vat
def Hap : La := ⟨52, ⟨[(0, (.own 500000 Of true)), (1, Da), (5, Da)], []⟩, 0, ⟨[(0, (.own 500000 Of true)), (1, Da)], []⟩, ⟨[], []⟩, KL⟩
def Sa5 : WL := [(2, Hap)]
theorem VaO : Oa (WG false Vat [] [] []) Sa5 (lp f250 0) := Kb 2 (ls := Hap) rfl
theorem Ba1 : WO BaJ := UN Aa1 func250 (Ga VaO Ja)
abbrev Xa9 : Ia := .io Dc Ac Ac [true] (fun x0 x => BC x0 x.1)
abbrev XaH : WF := (177, Xa9) :: BaJ
theorem GaY : WO XaH := UN (L := []) (m := []) (v := []) (l := []) Ba1 func177 Ja
abbrev Kbl : Ia := .io Hc Ac Ac [true] (fun x0 x => Ux x0 x.1)
abbrev OaS : WF := (86, Kbl) :: XaH
theorem Nbh : WO OaS := UN (L := []) (m := []) (v := []) (l := []) GaY func86 Ja
abbrev Nbj : Ia := .io Ed Ac Ac [true] (fun x0 x => DG x0 x.1)
abbrev MaC : WF := (26, Nbj) :: OaS
theorem Rbf : WO MaC := UN (L := []) (m := []) (v := []) (l := []) Nbh func26 Ja
abbrev Abk : Ia := .io U5 Ac Ac [true] (fun x0 x => EG x0 x.1)
abbrev RaR : WF := (40, Abk) :: MaC
def LaA : La := ⟨20, ⟨[(0, (.own 500000 Uh true)), (1, Da), (5, Da)], []⟩, 0, ⟨[(0, (.own 500000 Uh true)), (1, Da)], []⟩, ⟨[], []⟩, JL⟩
def Ibi : WL := [(2, LaA)]
theorem UaT : Oa (WG false MaC [] [] []) Ibi (lp f40 0) := Kb 2 (ls := LaA) rfl
theorem Dbg : WO RaR := UN Rbf func40 (Ga UaT Ja)
abbrev Ha7 : Ia := .io Tc Ac Ac [true] (fun x0 x => Iu x0 x.1)
abbrev DaG : WF := (107, Ha7) :: RaR
theorem QaV : WO DaG := UN (L := []) (m := []) (v := []) (l := []) Dbg func107 Ja
abbrev Zbj : Ia := .io Fe Ac Ac [true] (fun x0 x => Sr x0 x.1)
abbrev PaC : WF := (39, Zbj) :: DaG
theorem Cbg : WO PaC := UN (L := []) (m := []) (v := []) (l := []) QaV func39 Ja
abbrev Pbj : Ia := .io AH Ac Ac [true] (fun x0 x => CP x0 x.1)
abbrev NaC : WF := (27, Pbj) :: PaC
def HaA : La := ⟨36, ⟨[(0, (.own 500000 Wj true)), (1, Da), (5, Da)], []⟩, 0, ⟨[(0, (.own 500000 Wj true)), (1, Da)], []⟩, ⟨[], []⟩, LL⟩
def Ebi : WL := [(2, HaA)]
theorem QaT : Oa (WG false PaC [(3999, 500000)] [] []) Ebi (lp f27 0) := Kb 2 (ls := HaA) rfl
theorem Sbf : WO NaC := UN Cbg func27 (Ga QaT Ja)
abbrev Hbk : Ia := .pu (.p Zk Ac) Ac [true] (fun x => OJ x.1 x.2.1)
abbrev XaR : WF := (57, Hbk) :: NaC
def QaA : La := ⟨21, ⟨[(0, (.data Zk)), (1, Da), (5, Da)], []⟩, 0, ⟨[(1, Da)], []⟩, ⟨[(4, Da)], []⟩, TM⟩
def Nbi : WL := [(2, QaA)]
theorem ZaT : Oa (WG true NaC [] [] []) Nbi (lp f57 0) := Kb 2 (ls := QaA) rfl
theorem Kbg : WO XaR := Id Sbf func57 (Ga ZaT Ja)
abbrev Lbl : Ia := .pu (.p Nb Ac) Ac [true] (fun x => Kr x.1 x.2.1)
abbrev DaD : WF := (87, Lbl) :: XaR
theorem Obh : WO DaD := Tb Kbg func87
abbrev Ya9 : Ia := .pu (.p Bv Ac) Ac [true] (fun x => SM x.1 x.2.1)
abbrev Kas : WF := (178, Ya9) :: DaD
def San : La := ⟨31, ⟨[(0, So), (1, Da), (5, Da)], []⟩, 0, ⟨[(1, Da)], []⟩, ⟨[(4, Da)], []⟩, JI⟩
def Na4 : WL := [(2, San)]
theorem GaN : Oa (WG true DaD [] [] []) Na4 (lp f178 0) := Kb 2 (ls := San) rfl
theorem HaY : WO Kas := Id Obh func178 (Ga GaN Ja)
abbrev Za9 : Ia := .pu EM Ac [true] (fun x => ZB x.1 x.2.1)
abbrev Las : WF := (179, Za9) :: Kas
def Tan : La := ⟨42, ⟨[(0, Li), (1, Da), (5, Da)], []⟩, 0, ⟨[(1, Da)], []⟩, ⟨[(4, Da)], []⟩, KI⟩
def Oa4 : WL := [(2, Tan)]
theorem HaN : Oa (WG true Kas [] [] []) Oa4 (lp f179 0) := Kb 2 (ls := Tan) rfl
theorem IaY : WO Las := Id HaY func179 (Ga HaN Ja)
abbrev Aba : Ia := .pu EM Ac [true] (fun x => RK x.1 x.2.1)
abbrev YaH : WF := (180, Aba) :: Las
def Uan : La := ⟨42, ⟨[(0, Li), (1, Da), (5, Da)], []⟩, 0, ⟨[(1, Da)], []⟩, ⟨[(4, Da)], []⟩, VG⟩
def Pa4 : WL := [(2, Uan)]
theorem IaN : Oa (WG true Las [] [] []) Pa4 (lp f180 0) := Kb 2 (ls := Uan) rfl
theorem JaY : WO YaH := Id IaY func180 (Ga IaN Ja)
abbrev Mbl : Ia := .pu (.p Pb Ac) Ac [true] (fun x => Du x.1 x.2.1)
abbrev EaD : WF := (88, Mbl) :: YaH
theorem Pbh : WO EaD := Tb JaY func88
abbrev Wbe : Ia := .pu (.p Mt Ac) Ac [true] (fun x => QK x.1 x.2.1)
abbrev Yau : WF := (307, Wbe) :: EaD
def Jaq : La := ⟨49, ⟨[(0, (.data Mt)), (1, Da), (5, Da)], []⟩, 0, ⟨[(1, Da)], []⟩, ⟨[(4, Da)], []⟩, UG⟩
def Qa6 : WL := [(2, Jaq)]
theorem XaP : Oa (WG true EaD [] [] []) Qa6 (lp f307 0) := Kb 2 (ls := Jaq) rfl
theorem Fa3 : WO Yau := Id Pbh func307 (Ga XaP Ja)
abbrev Hbe : Ia := .pu (.p (.sl Mt) Ac) Ac [true] (fun x => LH x.1 x.2.1)
abbrev RaJ : WF := (292, Hbe) :: Yau
def Eaq : La := ⟨21, ⟨[(0, CM), (1, Da), (5, Da)], []⟩, 0, ⟨[(1, Da)], []⟩, ⟨[(4, Da)], []⟩, HE⟩
def La6 : WL := [(2, Eaq)]
theorem SaP : Oa (WG true Yau [] [] []) La6 (lp f292 0) := Kb 2 (ls := Eaq) rfl
theorem Qa2 : WO RaJ := Id Fa3 func292 (Ga SaP Ja)
abbrev Tbc : Ia := .pu (.p Bc Ac) Ac [true] (fun x => AC x.1 x.2.1)
abbrev Wat : WF := (251, Tbc) :: RaJ
theorem Ca1 : WO Wat := Tb Qa2 func251
abbrev Ibe : Ia := .pu (.p Wi Ac) Ac [true] (fun x => AP x.1 x.2.1)
abbrev Sau : WF := (293, Ibe) :: Wat
def Faq : La := ⟨40, ⟨[(0, (.data Wi)), (1, Da), (5, Da)], []⟩, 0, ⟨[(1, Da)], []⟩, ⟨[(4, Da)], []⟩, IL⟩
def Ma6 : WL := [(2, Faq)]
theorem TaP : Oa (WG true Wat [] [] []) Ma6 (lp f293 0) := Kb 2 (ls := Faq) rfl
theorem Ra2 : WO Sau := Id Ca1 func293 (Ga TaP Ja)
abbrev Ubc : Ia := .pu (.p MD Ac) Ac [true] (fun x => UM x.1 x.2.1)
abbrev Xat : WF := (252, Ubc) :: Sau
def Iap : La := ⟨21, ⟨[(0, (.data MD)), (1, Da), (5, Da)], []⟩, 0, ⟨[(1, Da)], []⟩, ⟨[(4, Da)], []⟩, LI⟩
def Ta5 : WL := [(2, Iap)]
theorem WaO : Oa (WG true Sau [] [] []) Ta5 (lp f252 0) := Kb 2 (ls := Iap) rfl
theorem Da1 : WO Xat := Id Ra2 func252 (Ga WaO Ja)
abbrev Vbc : Ia := .pu (.p NO Ac) Ac [true] (fun x => ZO x.1 x.2.1)
abbrev CaJ : WF := (253, Vbc) :: Xat
def Jap : La := ⟨62, ⟨[(0, Yk), (1, Da), (5, Da)], []⟩, 0, ⟨[(1, Da)], []⟩, ⟨[(4, Da)], []⟩, GL⟩
def Ua5 : WL := [(2, Jap)]
theorem XaO : Oa (WG true Xat [] [] []) Ua5 (lp f253 0) := Kb 2 (ls := Jap) rfl
theorem Ea1 : WO CaJ := Id Da1 func253 (Ga XaO Ja)
abbrev Bba : Ia := .pu (.p Dc Ac) Ac [true] (fun x => YB x.1 x.2.1)
abbrev ZaH : WF := (181, Bba) :: CaJ
theorem KaY : WO ZaH := Tb Ea1 func181
abbrev Nbl : Ia := .pu (.p Hc Ac) Ac [true] (fun x => Tx x.1 x.2.1)
abbrev PaS : WF := (89, Nbl) :: ZaH
theorem Qbh : WO PaS := Tb KaY func89
abbrev Qbj : Ia := .pu (.p Ed Ac) Ac [true] (fun x => BG x.1 x.2.1)
abbrev OaC : WF := (28, Qbj) :: PaS
theorem Tbf : WO OaC := Tb Qbh func28
abbrev Jba : Ia := .pu (.p U5 Ac) Ac [true] (fun x => YO x.1 x.2.1)
abbrev EaI : WF := (189, Jba) :: OaC
def Xan : La := ⟨22, ⟨[(0, KD), (1, Da), (5, Da)], []⟩, 0, ⟨[(1, Da)], []⟩, ⟨[(4, Da)], []⟩, FL⟩
def Qa4 : WL := [(2, Xan)]
theorem LaN : Oa (WG true OaC [] [] []) Qa4 (lp f189 0) := Kb 2 (ls := Xan) rfl
theorem SaY : WO EaI := Id Tbf func189 (Ga LaN Ja)
abbrev Ia7 : Ia := .pu (.p Tc Ac) Ac [true] (fun x => Fu x.1 x.2.1)
abbrev EaG : WF := (108, Ia7) :: EaI
theorem RaV : WO EaG := Tb SaY func108
abbrev Bbk : Ia := .pu (.p Fe Ac) Ac [true] (fun x => Lr x.1 x.2.1)
abbrev QaC : WF := (41, Bbk) :: EaG
theorem Ebg : WO QaC := Tb RaV func41
abbrev Rbj : Ia := .pu (.p AH Ac) Ac [true] (fun x => CG x.1 x.2.1)
abbrev JaR : WF := (29, Rbj) :: QaC
def IaA : La := ⟨42, ⟨[(0, (.data AH)), (1, Da), (5, Da)], []⟩, 0, ⟨[(1, Da)], []⟩, ⟨[(4, Da)], []⟩, HL⟩
def Fbi : WL := [(2, IaA)]
theorem RaT : Oa (WG true QaC [] [] []) Fbi (lp f29 0) := Kb 2 (ls := IaA) rfl
theorem Ubf : WO JaR := Id Ebg func29 (Ga RaT Ja)
abbrev s_6 : Ia := .pu (.p Fe (.p int (.p int LA))) Sd [true] (fun x => Ol x.1 x.2.1 x.2.2.1 x.2.2.2.1)
abbrev F_6 : WF := (6, s_6) :: JaR
theorem E_6 : WO F_6 := Tb Ubf func6
theorem JR : Vj Tryz.prog II 6 s_6 := FaV E_6 (by kernel_rfl)
end
end KF
