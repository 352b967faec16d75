/- An evaluator of Go functions on plain data, its soundness, and plain laws on what the functions compute, part 7 (conditions: as each lemma tells). -/
import Derived.Test.YtoncbegnhhcgmaaGreatF
import Derived.Test.YtoncbegnhhcgmaaGreatRows
set_option linter.unusedSimpArgs false
set_option linter.unusedVariables false
namespace KF
open Go Go.Proofs Go.Proofs.Tryz
def GT : List (Nat × Ty) := [(3, int), (4, .b), (5, Tf), (9, .s), (22, (.sl (.sl Ub))), (24, Dc), (25, (.sl int)), (27, (.sl Hc)), (30, (.sl (.sl Ub))), (32, Dc), (43, Ab), (45, Nb), (46, (.sl Xb)), (47, (.sl Ab)), (48, (.sl Ab)), (50, Pb), (51, (.sl (.sl Mc))), (52, (.sl Jf)), (54, Gc), (56, Mc), (58, Ic), (60, Md), (62, Ab), (63, Nb), (64, (.sl Xb)), (65, (.sl Ab)), (66, (.sl Ab)), (68, Pb), (69, (.sl (.sl Mc))), (70, (.sl Jf)), (72, Gc), (73, Mc), (75, Ic), (77, Md), (78, (.sl Oi)), (89, (.sl Tf)), (91, Wc), (93, Bd), (95, Wc), (97, Bd), (107, (.sl (.sl Tf))), (121, Hc), (134, Ab), (152, Oi), (172, (.sl Ub)), (177, (.sl Ub)), (194, Xb), (212, Ab), (235, (.i .u64)), (240, (.sl Mc)), (242, Ub), (244, Jf), (255, Ub), (271, Xb), (273, Ab), (275, Ab), (295, Mc), (301, (.sl Xb)), (303, Xb), (306, (.sl Mc)), (312, Jf), (323, Mc), (325, (.i .u32)), (327, (.i .u64))]
def GA : List (Nat × Ty × Nat) := [(214, int, 4)]
theorem Fa6 : ((GT.all fun x => Lf Tryz.prog x.2 x.1) && (GA.all fun x => L7 Tryz.prog x.1 x.2.1 x.2.2)) = true := by kernel_rfl
theorem Oae : Tryz.prog.follows .mixedOrders = true := by kernel_rfl
noncomputable abbrev II : Vi := noI
noncomputable section
abbrev WP : Program := Tryz.prog
abbrev WF := List (Nat × Ja)
abbrev WL := List (Nat × La)
abbrev WG (z : Bool) (fs : WF) (m : List (Nat × Nat)) (v l : List Nat) : Ng := ⟨GT, fs, m, z, GA, v, l⟩
def WO (fs : WF) : Prop := ∀ z m v l, Zk WP II (WG z fs m v l)
theorem Sbp : WO [] := fun _ _ _ _ => Wae Fa6
theorem wc {f : Nat} {s : Ja} {fs : WF} (e : WO fs) (h : Ck WP II f s) : WO ((f, s) :: fs) := fun z m v l => Zk.cons h (e z m v l)
theorem DaY {f : Nat} {s : Ja} {fs : WF} (e : WO fs) (h : Jc fs f = some s) : Ck WP II f s := (e true [] [] []).fn f s h
theorem Hb {z : Bool} {fs : WF} {m : List (Nat × Nat)} {v l : List Nat} {L : WL} {fn : Func} {i : Nat} (r : Nat) {ls : La} {R : ls.inT.X → Option (ls.inT.X ⊕ (ls.outT.X ⊕ ls.retT.X))}
 (h3 : ls.F = Ta R) (h1 : Sl (lp fn i) = some r := by kernel_rfl) (h2 : (Jc L r) = some ls := by kernel_rfl) (h4 : ∀ x, IW (WG z fs m v l) L ls (lp fn i) x = R x := by intro _; kernel_rfl) : Na (WG z fs m v l) L (lp fn i) := Daf h1 h2 h3 h4
theorem Rb {f : Nat} {fn : Func} {pt rt : Ty} {fr : List Bool} {F : T pt → Option (T rt)} {fs : WF} (e : WO fs) (hf : WP.funcs[f]? = some fn)
 (hb : (fn.body.isSome && !(fn.name == "runtime.NumGoroutine") && Nat.ble pt.npar fn.ntmps && Nat.beq (Gf (fn.body.getD .skip)).length 0) = true := by kernel_rfl)
 (hF : ∀ x, evF (WG true fs [] [] []) [] fn pt rt fr x = F x := by intro _; kernel_rfl) : WO ((f, .pu pt rt fr F) :: fs) := wc e (N3 (e _ _ _ _) Oae hf hb Ia hF)
theorem Id {k : Nat} {L : WL} {m : List (Nat × Nat)} {v l : List Nat} {f : Nat} {fn : Func} {pt rt : Ty} {fr : List Bool} {F : T pt → Option (T rt)} {fs : WF} (e : WO fs) (hf : WP.funcs[f]? = some fn) (hL : ∀ i, i < k → Na (WG true fs m v l) L (lp fn i))
 (hb : (fn.body.isSome && !(fn.name == "runtime.NumGoroutine") && Nat.ble pt.npar fn.ntmps && Nat.beq (Gf (fn.body.getD .skip)).length k) = true := by kernel_rfl)
 (hF : ∀ x, evF (WG true fs m v l) L fn pt rt fr x = F x := by intro _; kernel_rfl) : WO ((f, .pu pt rt fr F) :: fs) := wc e (N3 (e _ _ _ _) Oae hf hb hL hF)
theorem TM {k : Nat} {L : WL} {m : List (Nat × Nat)} {v l : List Nat} {f : Nat} {fn : Func} {τ pt rt : Ty} {fr : List Bool} {F : T τ → T pt → Option (T τ × T rt)} {fs : WF} (e : WO fs) (hf : WP.funcs[f]? = some fn) (hL : ∀ i, i < k → Na (WG false fs m v l) L (lp fn i))
 (hb : (fn.body.isSome && !(fn.name == "runtime.NumGoroutine") && Nat.ble (pt.npar + 1) fn.ntmps && Nat.beq (Gf (fn.body.getD .skip)).length k) = true := by kernel_rfl)
 (hF : ∀ x0 x, Zah (WG false fs m v l) L fn τ pt rt fr x0 x = F x0 x := by intro _ _; kernel_rfl) : WO ((f, .io τ pt rt fr F) :: fs) := wc e (ZaD (e _ _ _ _) rfl Oae hf hb hL hF)
theorem wco {k : Nat} {L : WL} {m : List (Nat × Nat)} {v l : List Nat} {f : Nat} {fn : Func} {pt rt : Ty} {fr : List Bool} {F : T pt → Option (T rt)} {fs : WF} (e : WO fs) (hf : WP.funcs[f]? = some fn) (hL : ∀ i, i < k → Na (WG false fs m v l) L (lp fn i))
 (hb : (fn.body.isSome && !(fn.name == "runtime.NumGoroutine") && Nat.ble pt.npar fn.ntmps && Nat.beq (Gf (fn.body.getD .skip)).length k) = true := by kernel_rfl)
 (hF : ∀ x, Yah (WG false fs m v l) L fn pt rt fr x = F x := by intro _; kernel_rfl) : WO ((f, .co pt rt fr F) :: fs) := wc e (YaD (e _ _ _ _) rfl Oae hf hb hL hF)
theorem A7 {k : Nat} {L : WL} {m : List (Nat × Nat)} {v l : List Nat} {f : Nat} {fn : Func} {vw cv : Bool} {τ pt rt : Ty} {fr : List Bool} {F : T τ → T pt → Option (T τ × T rt)} {fs : WF} (e : WO fs) (hf : WP.funcs[f]? = some fn) (hL : ∀ i, i < k → Na (WG false fs m v l) L (lp fn i))
 (hb : (fn.body.isSome && !(fn.name == "runtime.NumGoroutine") && Nat.ble (pt.npar + 1) fn.ntmps && Nat.beq (Gf (fn.body.getD .skip)).length k) = true := by kernel_rfl)
 (hF : ∀ x0 x, Xah (WG false fs m v l) L fn vw cv τ pt rt fr x0 x = F x0 x := by intro _ _; kernel_rfl) : WO ((f, .bx vw cv τ pt rt fr F) :: fs) := wc e (WaD (e _ _ _ _) rfl Oae hf hb hL hF)
abbrev Da : TD := .data int
abbrev Yb : Ty := .p int .u
abbrev Sd : Ty := .p .b .u
abbrev c7_ : TD := .pr (.own 200002 Xb true) (.pr Da (.pr (.own 200003 Ab true) (.pr Da (.pr Da (.pr Da (.pr (.own 200004 Ab true) .un))))))
abbrev S0 : Ty := .sl Ab
abbrev Ek : Ty := .sl Ub
abbrev Uax : TD := .pr (.own 200001 Xb true) (.pr Da (.pr (.own 200002 Ab true) (.pr Da (.pr Da (.pr Da (.pr (.own 200003 Ab true) .un))))))
abbrev LS : Ty := .sl Tf
abbrev Ff : TD := .data .b
abbrev GB : TD := .own 200001 int true
abbrev Hi : Ty := .sl Mc
abbrev Jh : TD := .ptr 2 []
abbrev GL : TD := .own 200001 Ab true
abbrev Ri : TD := .data S0
abbrev Ln : Ty := .p Ub .u
abbrev Ii : TD := .ptr 1 []
abbrev XP : TD := .own 200001 Oi true
abbrev Kv : Ty := .sl int
abbrev Vax : TD := .pr Da (.pr Da (.pr Da (.pr Da (.pr Da (.pr GB (.data .u))))))
abbrev Sac : TD := .pr Da (.pr (.own 200001 Ek true) .un)
abbrev Oq : TD := .data Ab
abbrev Xm : TD := .ptr 4 []
abbrev DN : Ty := .p Pb .u
abbrev EN : TD := .data (.sl Ek)
abbrev YP : Ty := .sl Jf
abbrev Il : TD := .data YP
abbrev FN : TD := .ptr 500000 []
abbrev Lv : Ty := .sl Xb
abbrev Pj : TD := .data Lv
abbrev Rx : TD := .data Mc
abbrev IE : Ty := .p LS .u
abbrev JE : TD := .data LS
abbrev Sx : TD := .ptr 3 []
abbrev YY : Ty := .p (.sl Hc) .u
abbrev WW : Ty := .p int (.p .o .u)
abbrev GN : Ty := .p Ab .u
abbrev HB : Ty := .sl Oi
abbrev Mv : Ty := .p int Sd
abbrev c1_ : TD := .pr (.pr Oq (.pr (.pr Da (.pr Da (.pr Da (.pr Da (.pr Da (.pr (.own 200002 int true) .un)))))) (.pr (.pr (.own 200003 Xb true) (.pr Da (.pr (.own 200004 Ab true) (.pr Da (.pr Da (.pr Da (.pr (.own 200005 Ab true) .un))))))) (.pr (.pr (.pr (.pr Da (.pr (.own 200006 Ek true) .un)) (.pr (.own 200007 Hi true) (.pr Da (.pr (.own 200008 Jf true) (.data Mv))))) (.pr Rx (.pr (.own 200009 Ab true) (.data Ub)))) (.data Xb))))) (.pr (.pr (.own 200010 Tf true) Rx) (.data Yb))
abbrev c2_ : TD := .pr (.pr Oq (.pr (.pr Da (.pr Da (.pr Da (.pr Da (.pr Da (.pr (.own 200011 int true) .un)))))) (.pr (.pr (.own 200012 Xb true) (.pr Da (.pr (.own 200013 Ab true) (.pr Da (.pr Da (.pr Da (.pr (.own 200014 Ab true) .un))))))) (.pr (.pr (.pr (.pr Da (.pr (.own 200015 Ek true) .un)) (.pr (.own 200016 Hi true) (.pr Da (.pr (.own 200017 Jf true) (.data Mv))))) (.pr Rx (.pr (.own 200018 Ab true) (.data Ub)))) (.data Xb))))) (.pr (.pr (.own 200019 Tf true) Rx) (.data Yb))
abbrev c4_ : TD := .pr (.pr (.pr Da (.pr (.own 200002 Ek true) .un)) (.pr (.own 200003 Hi true) (.pr Da (.pr (.own 200004 Jf true) (.data Mv))))) (.pr Rx (.pr (.own 200005 Ab true) (.data Ub)))
abbrev MS : TD := .data Gc
abbrev Zai : TD := .pr (.own 200002 Tf true) Rx
abbrev ZH : TD := .ptr 5 []
abbrev HN : Ty := .p S0 Yb
abbrev Tac : TD := .own 200001 Hc true
abbrev ZY : Ty := .p Wc .u
abbrev IN : TD := .data Kv
abbrev LE : TD := .pr Da (.pr IN .un)
abbrev Aaj : TD := .pr Da (.pr Da (.pr Da (.pr Da LE)))
abbrev XW : Ty := .p Gc .u
abbrev YW : Ty := .p Ab Yb
abbrev ZW : TD := .data Dc
abbrev KE : Ty := .sl Hi
abbrev c8_ : TD := .pr (.pr Da (.pr EN .un)) (.pr (.data KE) (.pr Da (.pr Il (.data Mv))))
abbrev VaV : TD := .pr Oq (.pr Aaj (.pr (.pr Pj (.pr Da (.pr Ri (.pr Da (.pr Da (.pr Da (.pr Ri .un))))))) (.pr (.pr c8_ (.pr Rx (.pr Ri (.data Ub)))) (.data Xb))))
abbrev Uac : TD := .own 200001 Tf true
abbrev NS : Ty := .p YP .u
abbrev ZP : Ty := .sl LS
abbrev AZ : Ty := .p Dc .u
abbrev BZ : Ty := .p Bd .u
abbrev CZ : Ty := .p Hc .u
abbrev AX : Ty := .p Mc .u
abbrev OS : Ty := .p S0 .u
abbrev DZ : Ty := .p Md .u
abbrev P7 : TD := .data Pb
abbrev WaF : Ty := .p Bd (.p Kv (.p Kv (.p ZP .u)))
abbrev Xba : Ja := .pu (.p Kv Yb) Yb [true] (fun x => HR x.1 x.2.1)
abbrev XaI : WF := (125, Xba) :: ([] : WF)
theorem FaZ : WO XaI := Rb Sbp func125
abbrev Bbo : Ja := .pu (.p Nb Yb) Yb [true] (fun x => Ry x.1 x.2.1)
abbrev NaU : WF := (58, Bbo) :: XaI
theorem Rbj : WO NaU := Rb FaZ func58
abbrev Yba : Ja := .pu (.p Lv Yb) Yb [true] (fun x => OK x.1 x.2.1)
abbrev YaI : WF := (126, Yba) :: NaU
theorem GaZ : WO YaI := Rb Rbj func126
abbrev Zba : Ja := .pu HN Yb [true] (fun x => JA x.1 x.2.1)
abbrev ZaI : WF := (127, Zba) :: YaI
theorem HaZ : WO ZaI := Rb GaZ func127
abbrev Abb : Ja := .pu HN Yb [true] (fun x => BH x.1 x.2.1)
abbrev AaJ : WF := (128, Abb) :: ZaI
theorem IaZ : WO AaJ := Rb HaZ func128
abbrev Cbo : Ja := .pu (.p Pb Yb) Yb [true] (fun x => AD x.1 x.2.1)
abbrev OaU : WF := (59, Cbo) :: AaJ
theorem Sbj : WO OaU := Rb IaZ func59
abbrev Kba : Ja := .pu (.p Ek Yb) Yb [true] (fun x => Iw x.1 x.2.1)
abbrev Qat : WF := (111, Kba) :: OaU
theorem SaY : WO Qat := Rb Sbj func111
abbrev Vbn : Ja := .pu (.p (.sl Ek) Yb) Yb [true] (fun x => ZC x.1 x.2.1)
abbrev HaU : WF := (48, Vbn) :: Qat
def QaC : La := ⟨27, ⟨[(0, EN), (1, Da), (5, Da)], []⟩, 0, ⟨[(1, Da)], []⟩, ⟨[(4, Da)], []⟩, LJ⟩
def Xbl : WL := [(5, QaC)]
theorem SaW : Na (WG true Qat [] [] []) Xbl (lp f48 0) := Hb 5 (ls := QaC) rfl
theorem Kbj : WO HaU := Id SaY func48 (Ga SaW Ia)
abbrev s_8 : Ja := .pu (.p Dc Yb) Yb [true] (fun x => RK x.1 x.2.1)
abbrev F_8 : WF := (8, s_8) :: HaU
theorem E_8 : WO F_8 := Rb Kbj func8
abbrev Qbg : Ja := .pu (.p Hi Yb) Yb [true] (fun x => GF x.1 x.2.1)
abbrev Daw : WF := (275, Qbg) :: F_8
theorem Ya4 : WO Daw := Rb E_8 func275
abbrev Hbe : Ja := .pu (.p KE Yb) Yb [true] (fun x => SK x.1 x.2.1)
abbrev YaK : WF := (213, Hbe) :: Daw
def Oaq : La := ⟨27, ⟨[(0, (.data KE)), (1, Da), (5, Da)], []⟩, 0, ⟨[(1, Da)], []⟩, ⟨[(4, Da)], []⟩, HO⟩
def Ba8 : WL := [(5, Oaq)]
theorem QaQ : Na (WG true Daw [] [] []) Ba8 (lp f213 0) := Hb 5 (ls := Oaq) rfl
theorem Pa2 : WO YaK := Id Ya4 func213 (Ga QaQ Ia)
abbrev Ibe : Ja := .pu (.p YP Yb) Yb [true] (fun x => GO x.1 x.2.1)
abbrev ZaK : WF := (214, Ibe) :: YaK
theorem Qa2 : WO ZaK := Rb Pa2 func214
abbrev Bbb : Ja := .pu (.p Gc Yb) Yb [true] (fun x => PK x.1 x.2.1)
abbrev BaJ : WF := (129, Bbb) :: ZaK
theorem JaZ : WO BaJ := Rb Qa2 func129
abbrev Dbo : Ja := .pu (.p Ic Yb) Yb [true] (fun x => DH x.1 x.2.1)
abbrev PaU : WF := (60, Dbo) :: BaJ
theorem Tbj : WO PaU := Rb JaZ func60
abbrev Vbm : Ja := .pu (.p Md Yb) Yb [true] (fun x => DO x.1 x.2.1)
abbrev VaT : WF := (20, Vbm) :: PaU
theorem Kbi : WO VaT := Rb Tbj func20
abbrev Iba : Ja := .pu (.p LS Yb) Yb [true] (fun x => Jw x.1 x.2.1)
abbrev QaI : WF := (109, Iba) :: VaT
theorem QaY : WO QaI := Rb Kbi func109
abbrev Jbp : Ja := .pu (.p Wc Yb) Yb [true] (fun x => BD x.1 x.2.1)
abbrev FaV : WF := (92, Jbp) :: QaI
theorem Zbk : WO FaV := Rb QaY func92
abbrev Fbn : Ja := .pu (.p Bd Yb) Yb [true] (fun x => QK x.1 x.2.1)
abbrev SaE : WF := (32, Fbn) :: FaV
theorem Ubi : WO SaE := Rb Zbk func32
abbrev Pbn : Ja := .pu (.p ZP Yb) Yb [true] (fun x => NK x.1 x.2.1)
abbrev DaU : WF := (42, Pbn) :: SaE
def KaC : La := ⟨27, ⟨[(0, (.data ZP)), (1, Da), (5, Da)], []⟩, 0, ⟨[(1, Da)], []⟩, ⟨[(4, Da)], []⟩, EO⟩
def Rbl : WL := [(5, KaC)]
theorem MaW : Na (WG true SaE [] [] []) Rbl (lp f42 0) := Hb 5 (ls := KaC) rfl
theorem Ebj : WO DaU := Id Ubi func42 (Ga MaW Ia)
abbrev Kbo : Ja := .pu GN GN [true] (fun x => WK x.1)
abbrev DaF : WF := (67, Kbo) :: DaU
theorem Abk : WO DaF := Rb Ebj func67
abbrev Qbm : Ja := .pu (.p Kv .u) (.p Kv .u) [true] (fun x => Fi x.1)
abbrev RaT : WF := (11, Qbm) :: DaF
def AaC : La := ⟨22, ⟨[(0, IN), (3, GB), (4, Da)], []⟩, 0, ⟨[(3, GB)], []⟩, ⟨[], []⟩, JF⟩
def Hbl : WL := [(3, AaC)]
theorem CaW : Na (WG true DaF [] [] []) Hbl (lp f11 0) := Hb 3 (ls := AaC) rfl
theorem Fbi : WO RaT := Id Abk func11 (Ga CaW Ia)
abbrev Lbo : Ja := .pu (.p Nb .u) (.p Nb .u) [true] (fun x => Uy x.1)
abbrev TaU : WF := (68, Lbo) :: RaT
theorem Bbk : WO TaU := Rb Fbi func68
abbrev Vbe : Ja := .pu (.p Xb .u) (.p Xb .u) [true] (fun x => HF x.1)
abbrev Hav : WF := (227, Vbe) :: TaU
theorem Da3 : WO Hav := Rb Bbk func227
abbrev Sbb : Ja := .pu (.p Lv .u) (.p Lv .u) [true] (fun x => RS x.1)
abbrev MaJ : WF := (146, Sbb) :: Hav
def Cap : La := ⟨23, ⟨[(0, Pj), (3, (.own 200001 Xb true)), (4, Da)], []⟩, 0, ⟨[(3, (.own 200001 Xb true))], []⟩, ⟨[], []⟩, MO⟩
def Wa6 : WL := [(3, Cap)]
theorem EaP : Na (WG true Hav [] [] []) Wa6 (lp f146 0) := Hb 3 (ls := Cap) rfl
theorem Aa0 : WO MaJ := Id Da3 func146 (Ga EaP Ia)
abbrev Wbe : Ja := .pu GN GN [true] (fun x => IF x.1)
abbrev Iav : WF := (228, Wbe) :: MaJ
theorem Ea3 : WO Iav := Rb Aa0 func228
abbrev Tbb : Ja := .pu OS OS [true] (fun x => UK x.1)
abbrev NaJ : WF := (147, Tbb) :: Iav
def Dap : La := ⟨23, ⟨[(0, Ri), (3, GL), (4, Da)], []⟩, 0, ⟨[(3, GL)], []⟩, ⟨[], []⟩, NO⟩
def Xa6 : WL := [(3, Dap)]
theorem FaP : Na (WG true Iav [] [] []) Xa6 (lp f147 0) := Hb 3 (ls := Dap) rfl
theorem Ba0 : WO NaJ := Id Ea3 func147 (Ga FaP Ia)
abbrev Xbe : Ja := .pu GN GN [true] (fun x => KA x.1)
abbrev Jav : WF := (229, Xbe) :: NaJ
theorem Fa3 : WO Jav := Rb Ba0 func229
abbrev Ubb : Ja := .pu OS OS [true] (fun x => MQ x.1)
abbrev OaJ : WF := (148, Ubb) :: Jav
def Eap : La := ⟨23, ⟨[(0, Ri), (3, GL), (4, Da)], []⟩, 0, ⟨[(3, GL)], []⟩, ⟨[], []⟩, QM⟩
def Ya6 : WL := [(3, Eap)]
theorem GaP : Na (WG true Jav [] [] []) Ya6 (lp f148 0) := Hb 3 (ls := Eap) rfl
theorem Ca0 : WO OaJ := Id Fa3 func148 (Ga GaP Ia)
abbrev Mbo : Ja := .pu DN DN [true] (fun x => CD x.1)
abbrev UaU : WF := (69, Mbo) :: OaJ
theorem Cbk : WO UaU := Rb Ca0 func69
abbrev Ybd : Ja := .pu Ln Ln [true] (fun x => Zq x.1)
abbrev Vau : WF := (204, Ybd) :: UaU
theorem Ga2 : WO Vau := Rb Cbk func204
abbrev Pba : Ja := .pu (.p Ek .u) (.p Ek .u) [true] (fun x => EH x.1)
abbrev Rat : WF := (116, Pba) :: Vau
def Lao : La := ⟨23, ⟨[(0, (.data Ek)), (3, (.own 200001 Ub true)), (4, Da)], []⟩, 0, ⟨[(3, (.own 200001 Ub true))], []⟩, ⟨[], []⟩, OM⟩
def Ja6 : WL := [(3, Lao)]
theorem NaO : Na (WG true Vau [] [] []) Ja6 (lp f116 0) := Hb 3 (ls := Lao) rfl
theorem XaY : WO Rat := Id Ga2 func116 (Ga NaO Ia)
abbrev Wbn : Ja := .pu (.p (.sl Ek) .u) (.p (.sl Ek) .u) [true] (fun x => JO x.1)
abbrev IaU : WF := (51, Wbn) :: Rat
def RaC : La := ⟨23, ⟨[(0, EN), (3, (.own 200001 Ek true)), (4, Da)], []⟩, 0, ⟨[(3, (.own 200001 Ek true))], []⟩, ⟨[], []⟩, MJ⟩
def Ybl : WL := [(3, RaC)]
theorem TaW : Na (WG true Rat [] [] []) Ybl (lp f51 0) := Hb 3 (ls := RaC) rfl
theorem Lbj : WO IaU := Id XaY func51 (Ga TaW Ia)
abbrev Pbm : Ja := .pu AZ AZ [true] (fun x => VK x.1)
abbrev QaT : WF := (10, Pbm) :: IaU
theorem Ebi : WO QaT := Rb Lbj func10
abbrev Sbh : Ja := .pu AX AX [true] (fun x => OJ x.1)
abbrev Vaw : WF := (303, Sbh) :: QaT
theorem Aa6 : WO Vaw := Rb Ebi func303
abbrev Wbg : Ja := .pu (.p Hi .u) (.p Hi .u) [true] (fun x => PO x.1)
abbrev Iaw : WF := (281, Wbg) :: Vaw
def Zar : La := ⟨23, ⟨[(0, (.data Hi)), (3, (.own 200001 Mc true)), (4, Da)], []⟩, 0, ⟨[(3, (.own 200001 Mc true))], []⟩, ⟨[], []⟩, MP⟩
def Fa9 : WL := [(3, Zar)]
theorem BaS : Na (WG true Vaw [] [] []) Fa9 (lp f281 0) := Hb 3 (ls := Zar) rfl
theorem Ea5 : WO Iaw := Id Aa6 func281 (Ga BaS Ia)
abbrev Ybe : Ja := .pu (.p KE .u) (.p KE .u) [true] (fun x => SS x.1)
abbrev DaL : WF := (230, Ybe) :: Iaw
def Vaq : La := ⟨23, ⟨[(0, (.data KE)), (3, (.own 200001 Hi true)), (4, Da)], []⟩, 0, ⟨[(3, (.own 200001 Hi true))], []⟩, ⟨[], []⟩, QO⟩
def Fa8 : WL := [(3, Vaq)]
theorem XaQ : Na (WG true Iaw [] [] []) Fa8 (lp f230 0) := Hb 3 (ls := Vaq) rfl
theorem Ga3 : WO DaL := Id Ea5 func230 (Ga XaQ Ia)
abbrev Xbg : Ja := .pu (.p Jf .u) (.p Jf .u) [true] (fun x => NJ x.1)
abbrev Jaw : WF := (282, Xbg) :: DaL
theorem Fa5 : WO Jaw := Rb Ga3 func282
abbrev Zbe : Ja := .pu NS NS [true] (fun x => QU x.1)
abbrev EaL : WF := (231, Zbe) :: Jaw
def Waq : La := ⟨23, ⟨[(0, Il), (3, (.own 200001 Jf true)), (4, Da)], []⟩, 0, ⟨[(3, (.own 200001 Jf true))], []⟩, ⟨[], []⟩, LP⟩
def Ga8 : WL := [(3, Waq)]
theorem YaQ : Na (WG true Jaw [] [] []) Ga8 (lp f231 0) := Hb 3 (ls := Waq) rfl
theorem Ha3 : WO EaL := Id Fa5 func231 (Ga YaQ Ia)
abbrev Vbb : Ja := .pu XW XW [true] (fun x => TK x.1)
abbrev PaJ : WF := (149, Vbb) :: EaL
theorem Da0 : WO PaJ := Rb Ha3 func149
abbrev Wbb : Ja := .pu AX AX [true] (fun x => XK x.1)
abbrev QaJ : WF := (150, Wbb) :: PaJ
theorem Ea0 : WO QaJ := Rb Da0 func150
abbrev Nbo : Ja := .pu (.p Ic .u) (.p Ic .u) [true] (fun x => FH x.1)
abbrev VaU : WF := (70, Nbo) :: QaJ
theorem Dbk : WO VaU := Rb Ea0 func70
abbrev Xbm : Ja := .pu DZ DZ [true] (fun x => KO x.1)
abbrev MaE : WF := (22, Xbm) :: VaU
theorem Mbi : WO MaE := Rb Dbk func22
abbrev Ibn : Ja := .pu IE IE [true] (fun x => Kw x.1)
abbrev ZaT : WF := (35, Ibn) :: MaE
def HaC : La := ⟨22, ⟨[(0, JE), (3, Uac), (4, Da)], []⟩, 0, ⟨[(3, Uac)], []⟩, ⟨[], []⟩, PB⟩
def Obl : WL := [(3, HaC)]
theorem JaW : Na (WG true MaE [] [] []) Obl (lp f35 0) := Hb 3 (ls := HaC) rfl
theorem Xbi : WO ZaT := Id Mbi func35 (Ga JaW Ia)
abbrev Qbp : Ja := .pu ZY ZY [true] (fun x => ED x.1)
abbrev MaV : WF := (99, Qbp) :: ZaT
theorem Gbl : WO MaV := Rb Xbi func99
abbrev Hbn : Ja := .pu BZ BZ [true] (fun x => Bn x.1)
abbrev UaE : WF := (34, Hbn) :: MaV
theorem Wbi : WO UaE := Rb Gbl func34
abbrev Rbn : Ja := .pu (.p ZP .u) (.p ZP .u) [true] (fun x => Ar x.1)
abbrev FaU : WF := (44, Rbn) :: UaE
def MaC : La := ⟨23, ⟨[(0, (.data ZP)), (3, (.own 200001 LS true)), (4, Da)], []⟩, 0, ⟨[(3, (.own 200001 LS true))], []⟩, ⟨[], []⟩, LO⟩
def Tbl : WL := [(3, MaC)]
theorem OaW : Na (WG true UaE [] [] []) Tbl (lp f44 0) := Hb 3 (ls := MaC) rfl
theorem Gbj : WO FaU := Id Wbi func44 (Ga OaW Ia)
abbrev Mbp : Ja := .pu Mc Sd [true] (fun x => Tb x.1 x.2.1 x.2.2.1)
abbrev IaV : WF := (95, Mbp) :: FaU
theorem Cbl : WO IaV := Rb Gbj func95
abbrev Jbe : Ja := .pu GN Sd [true] (fun x => SA x.1)
abbrev AaL : WF := (215, Jbe) :: IaV
theorem Ra2 : WO AaL := Rb Cbl func215
abbrev Ebb : Ja := .pu GN Yb [true] (fun x => Yk x.1)
abbrev Xat : WF := (132, Ebb) :: AaL
theorem MaZ : WO Xat := Rb Ra2 func132
abbrev Fbb : Ja := .pu (.p Nb .u) Sd [true] (fun x => Mp x.1)
abbrev DaJ : WF := (133, Fbb) :: Xat
def Tao : La := ⟨58, ⟨[(1, Ii), (3, Da)], [(1, Nb, (.data Nb))]⟩, 0, ⟨[(1, Ii)], [(1, Nb, (.data Nb))]⟩, ⟨[(2, Ff)], []⟩, Rq⟩
def Oa6 : WL := [(4, Tao)]
theorem VaO : Na (WG true Xat [] [] []) Oa6 (lp f133 0) := Hb 4 (ls := Tao) rfl
theorem NaZ : WO DaJ := Id MaZ func133 (Ga VaO Ia)
abbrev Cbb : Ja := .pu YW Sd [true] (fun x => Oo x.1 x.2.1)
abbrev Wat : WF := (130, Cbb) :: DaJ
theorem KaZ : WO Wat := Rb NaZ func130
abbrev Rbg : Ja := .pu Yb Yb [true] (fun x => VA x.1)
abbrev Hah : WF := (276, Rbg) :: Wat
def Var : La := ⟨16, ⟨[(0, Da), (3, Da), (4, Da)], []⟩, 0, ⟨[(3, Da)], []⟩, ⟨[], []⟩, Lz⟩
def Ba9 : WL := [(3, Var)]
theorem XaR : Na (WG true Wat [] [] []) Ba9 (lp f276 0) := Hb 3 (ls := Var) rfl
theorem Za4 : WO Hah := Id KaZ func276 (Ga XaR Ia)
abbrev Lbe : Ja := .pu (.p Lv .u) Sd [true] (fun x => PA x.1)
abbrev Aav : WF := (217, Lbe) :: Hah
def Qaq : La := ⟨69, ⟨[(0, Pj), (3, Da), (4, Da)], []⟩, 2, ⟨[(0, Pj), (3, Da)], []⟩, ⟨[(2, Ff)], []⟩, Ez⟩
def Paq : La := ⟨69, ⟨[(0, Pj), (3, Da)], []⟩, 0, ⟨[(0, Pj)], []⟩, ⟨[(2, Ff)], []⟩, Dz⟩
def RaM : WL := [(7, Qaq), (2, Paq)]
theorem SaQ : Na (WG true Hah [] [] []) RaM (lp f217 1) := Hb 7 (ls := Qaq) rfl
theorem RaQ : Na (WG true Hah [] [] []) RaM (lp f217 0) := Hb 2 (ls := Paq) rfl
theorem Ta2 : WO Aav := Id Za4 func217 (Ga SaQ (Ga RaQ Ia))
abbrev Sbe : Ja := .pu (.p Lv Yb) Yb [true] (fun x => VF x.1 x.2.1)
abbrev Eah : WF := (224, Sbe) :: Aav
def Taq : La := ⟨24, ⟨[(0, Pj), (1, Da), (5, Da)], []⟩, 0, ⟨[], []⟩, ⟨[(4, Da)], []⟩, VB⟩
def Da8 : WL := [(2, Taq)]
theorem VaQ : Na (WG true Aav [] [] []) Da8 (lp f224 0) := Hb 2 (ls := Taq) rfl
theorem Aa3 : WO Eah := Id Ta2 func224 (Ga VaQ Ia)
abbrev Mbe : Ja := .pu DN Sd [true] (fun x => PH x.1)
abbrev Bav : WF := (218, Mbe) :: Eah
def Mak : La := ⟨74, ⟨[(1, Ii), (3, Da), (4, Da), (5, ZH), (7, Da)], [(1, Pb, P7), (5, Ab, Oq)]⟩, 2, ⟨[(1, Ii), (3, Da), (4, Da), (5, ZH)], [(1, Pb, P7), (5, Ab, Oq)]⟩, ⟨[(2, Ff)], []⟩, Vt⟩
def Raq : La := ⟨74, ⟨[(1, Ii), (3, Da), (4, Da)], [(1, Pb, P7)]⟩, 0, ⟨[(1, Ii)], [(1, Pb, P7)]⟩, ⟨[(2, Ff)], []⟩, Ww⟩
def SaM : WL := [(10, Mak), (3, Raq)]
theorem VaG : Na (WG true Eah [] [] []) SaM (lp f218 1) := Hb 10 (ls := Mak) rfl
theorem TaQ : Na (WG true Eah [] [] []) SaM (lp f218 0) := Hb 3 (ls := Raq) rfl
theorem Ua2 : WO Bav := Id Aa3 func218 (Ga VaG (Ga TaQ Ia))
abbrev Jbb : Ja := .pu DN Yb [true] (fun x => Yw x.1)
abbrev FaJ : WF := (137, Jbb) :: Bav
def Vao : La := ⟨23, ⟨[(1, Ii), (3, Da), (4, Da)], [(1, Pb, P7)]⟩, 0, ⟨[(3, Da)], []⟩, ⟨[], []⟩, UB⟩
def Qa6 : WL := [(3, Vao)]
theorem XaO : Na (WG true Bav [] [] []) Qa6 (lp f137 0) := Hb 3 (ls := Vao) rfl
theorem RaZ : WO FaJ := Id Ua2 func137 (Ga XaO Ia)
abbrev Qbe : Ja := .pu GN Sd [true] (fun x => Rw x.1)
abbrev Eav : WF := (222, Qbe) :: FaJ
theorem Ya2 : WO Eav := Rb RaZ func222
abbrev Obb : Ja := .pu (.p S0 Mc) Sd [true] (fun x => Ok x.1 x.2.1 x.2.2.1 x.2.2.2.1)
abbrev JaJ : WF := (142, Obb) :: Eav
def Zao : La := ⟨73, ⟨[(0, Ri), (1, Da), (2, Da), (3, Da), (9, Da)], []⟩, 0, ⟨[(0, Ri)], []⟩, ⟨[(8, Ff)], []⟩, Ut⟩
def Ua6 : WL := [(2, Zao)]
theorem BaP : Na (WG true Eav [] [] []) Ua6 (lp f142 0) := Hb 2 (ls := Zao) rfl
theorem WaZ : WO JaJ := Id Ya2 func142 (Ga BaP Ia)
abbrev Gbb : Ja := .pu DN Sd [true] (fun x => Ss x.1)
abbrev EaJ : WF := (134, Gbb) :: JaJ
theorem OaZ : WO EaJ := Rb WaZ func134
abbrev Zbf : Ja := .pu Ln Sd [true] (fun x => Xk x.1)
abbrev Fah : WF := (257, Zbf) :: EaJ
theorem Ha4 : WO Fah := Rb OaZ func257
abbrev Kbd : Ja := .pu AZ Sd [true] (fun x => RA x.1)
abbrev QaK : WF := (190, Kbd) :: Fah
def Zap : La := ⟨74, ⟨[(1, Ii), (3, Da), (4, Da)], [(1, Dc, ZW)]⟩, 2, ⟨[(1, Ii), (3, Da)], [(1, Dc, ZW)]⟩, ⟨[(2, Ff)], []⟩, Io⟩
def Yap : La := ⟨74, ⟨[(1, Ii), (3, Da)], [(1, Dc, ZW)]⟩, 0, ⟨[(1, Ii)], [(1, Dc, ZW)]⟩, ⟨[(2, Ff)], []⟩, Ho⟩
def PaM : WL := [(7, Zap), (2, Yap)]
theorem BaQ : Na (WG true Fah [] [] []) PaM (lp f190 1) := Hb 7 (ls := Zap) rfl
theorem AaQ : Na (WG true Fah [] [] []) PaM (lp f190 0) := Hb 2 (ls := Yap) rfl
theorem Sa1 : WO QaK := Id Ha4 func190 (Ga BaQ (Ga AaQ Ia))
abbrev Abg : Ja := .pu Ln Sd [true] (fun x => Ol x.1)
abbrev Xav : WF := (258, Abg) :: QaK
theorem Ia4 : WO Xav := Rb Sa1 func258
abbrev Lbd : Ja := .pu NS Sd [true] (fun x => Pt x.1)
abbrev Pau : WF := (191, Lbd) :: Xav
def Aaq : La := ⟨57, ⟨[(0, Il), (3, Da), (4, Da)], []⟩, 0, ⟨[], []⟩, ⟨[(2, Ff)], []⟩, RF⟩
def Qa7 : WL := [(3, Aaq)]
theorem CaQ : Na (WG true Xav [] [] []) Qa7 (lp f191 0) := Hb 3 (ls := Aaq) rfl
theorem Ta1 : WO Pau := Id Ia4 func191 (Ga CaQ Ia)
abbrev Bbg : Ja := .pu (.p YP AX) Yb [true] (fun x => Po x.1 x.2.1)
abbrev RaL : WF := (259, Bbg) :: Pau
def Mar : La := ⟨33, ⟨[(0, Il), (3, Sx), (5, Da)], [(3, Mc, Rx)]⟩, 0, ⟨[], []⟩, ⟨[(4, Da)], []⟩, CG⟩
def Ua8 : WL := [(2, Mar)]
theorem OaR : Na (WG true Pau [] [] []) Ua8 (lp f259 0) := Hb 2 (ls := Mar) rfl
theorem Ja4 : WO RaL := Id Ta1 func259 (Ga OaR Ia)
abbrev Cbg : Ja := .pu AX Ln [true] (fun x => Cr x.1)
abbrev SaL : WF := (260, Cbg) :: RaL
theorem Ka4 : WO SaL := Rb Ja4 func260
abbrev Xbd : Ja := .pu (.p YP Yb) NS [true] (fun x => Rg x.1 x.2.1)
abbrev Uau : WF := (203, Xbd) :: SaL
theorem Fa2 : WO Uau := Rb Ka4 func203
abbrev Mbd : Ja := .pu (.p Hi .u) Sd [true] (fun x => SF x.1)
abbrev Cah : WF := (192, Mbd) :: Uau
def Baq : La := ⟨62, ⟨[(0, (.data Hi)), (3, (.own 200001 Jf true)), (4, Da)], []⟩, 0, ⟨[(0, (.data Hi)), (3, (.own 200001 Jf true))], []⟩, ⟨[(2, Ff)], []⟩, RB⟩
def Ra7 : WL := [(3, Baq)]
theorem DaQ : Na (WG true Uau [] [] []) Ra7 (lp f192 0) := Hb 3 (ls := Baq) rfl
theorem Ua1 : WO Cah := Id Fa2 func192 (Ga DaQ Ia)
abbrev Lba : Ja := .pu XW Sd [true] (fun x => Br x.1)
abbrev RaI : WF := (112, Lba) :: Cah
def Iao : La := ⟨96, ⟨[(1, Ii), (3, Da)], [(1, Gc, MS)]⟩, 0, ⟨[(1, Ii)], [(1, Gc, MS)]⟩, ⟨[(2, Ff)], []⟩, Eo⟩
def Jao : La := ⟨96, ⟨[(1, Ii), (4, Da)], [(1, Gc, MS)]⟩, 2, ⟨[(1, Ii)], [(1, Gc, MS)]⟩, ⟨[(2, Ff)], []⟩, Fo⟩
def LaM : WL := [(4, Iao), (9, Jao)]
theorem KaO : Na (WG true Cah [] [] []) LaM (lp f112 0) := Hb 4 (ls := Iao) rfl
theorem LaO : Na (WG true Cah [] [] []) LaM (lp f112 1) := Hb 9 (ls := Jao) rfl
theorem TaY : WO RaI := Id Ua1 func112 (Ga LaO (Ga KaO Ia))
abbrev Nbe : Ja := .pu AX Sd [true] (fun x => TA x.1)
abbrev BaL : WF := (219, Nbe) :: RaI
theorem Va2 : WO BaL := Rb TaY func219
abbrev Obe : Ja := .pu Yb Yb [true] (fun x => Tt x.1)
abbrev Cav : WF := (220, Obe) :: BaL
theorem Wa2 : WO Cav := Rb Va2 func220
abbrev Kbb : Ja := .pu XW Yb [true] (fun x => Vw x.1)
abbrev GaJ : WF := (138, Kbb) :: Cav
def Wao : La := ⟨22, ⟨[(1, Ii), (3, Da), (4, Da)], [(1, Gc, MS)]⟩, 0, ⟨[(3, Da)], []⟩, ⟨[], []⟩, SB⟩
def Ra6 : WL := [(3, Wao)]
theorem YaO : Na (WG true Cav [] [] []) Ra6 (lp f138 0) := Hb 3 (ls := Wao) rfl
theorem SaZ : WO GaJ := Id Wa2 func138 (Ga YaO Ia)
abbrev Hbb : Ja := .pu (.p Ic .u) Sd [true] (fun x => Qw x.1)
abbrev Yat : WF := (135, Hbb) :: GaJ
theorem PaZ : WO Yat := Rb SaZ func135
abbrev Ibb : Ja := .pu (.p int OS) Yb [true] (fun x => Zs x.1 x.2.1)
abbrev Zat : WF := (136, Ibb) :: Yat
def Uao : La := ⟨21, ⟨[(0, Da), (1, Ri), (5, Da)], []⟩, 0, ⟨[(0, Da)], []⟩, ⟨[], []⟩, Wt⟩
def Pa6 : WL := [(2, Uao)]
theorem WaO : Na (WG true Yat [] [] []) Pa6 (lp f136 0) := Hb 2 (ls := Uao) rfl
theorem QaZ : WO Zat := Id PaZ func136 (Ga WaO Ia)
abbrev Lbb : Ja := .pu DN Yb [true] (fun x => LR x.1)
abbrev Aau : WF := (139, Lbb) :: Zat
def Xao : La := ⟨30, ⟨[(1, Ii), (3, Da), (4, Da)], [(1, Pb, P7)]⟩, 0, ⟨[(3, Da)], []⟩, ⟨[], []⟩, YF⟩
def Sa6 : WL := [(3, Xao)]
theorem ZaO : Na (WG true Zat [] [] []) Sa6 (lp f139 0) := Hb 3 (ls := Xao) rfl
theorem TaZ : WO Aau := Id QaZ func139 (Ga ZaO Ia)
abbrev Fbo : Ja := .pu DZ Sd [true] (fun x => QF x.1)
abbrev RaU : WF := (62, Fbo) :: Aau
def VaC : La := ⟨129, ⟨[(1, Ii), (4, Da), (5, Da)], [(1, Md, (.data Md))]⟩, 0, ⟨[(1, Ii)], [(1, Md, (.data Md))]⟩, ⟨[(2, Ff)], []⟩, QB⟩
def Cbm : WL := [(6, VaC)]
theorem XaW : Na (WG true Aau [] [] []) Cbm (lp f62 0) := Hb 6 (ls := VaC) rfl
theorem Vbj : WO RaU := Id TaZ func62 (Ga XaW Ia)
abbrev Kbp : Ja := .pu BZ Yb [true] (fun x => OA x.1)
abbrev GaV : WF := (93, Kbp) :: RaU
theorem Abl : WO GaV := Rb Vbj func93
abbrev Dbd : Ja := .pu ZY Sd [true] (fun x => Nk x.1)
abbrev MaK : WF := (183, Dbd) :: GaV
theorem La1 : WO MaK := Rb Abl func183
abbrev Lbp : Ja := .pu BZ Sd [true] (fun x => QA x.1)
abbrev HaV : WF := (94, Lbp) :: MaK
theorem Bbl : WO HaV := Rb La1 func94
abbrev Pbb : Ja := .pu DN DN [true] (fun x => Xw x.1)
abbrev Bau : WF := (143, Pbb) :: HaV
theorem XaZ : WO Bau := Rb Bbl func143
abbrev Nbd : Ja := .pu AZ AZ [true] (fun x => NR x.1)
abbrev Qau : WF := (193, Nbd) :: Bau
def Caq : La := ⟨28, ⟨[(1, Ii), (2, Jh), (3, Sx), (4, Da)], [(1, Dc, ZW), (2, Dc, (.pr Da (.pr EN .un))), (3, Dc, Sac)]⟩, 0, ⟨[(2, Jh), (3, Sx)], [(2, Dc, (.pr Da (.pr EN .un))), (3, Dc, Sac)]⟩, ⟨[], []⟩, BG⟩
def Sa7 : WL := [(3, Caq)]
theorem EaQ : Na (WG true Bau [] [] []) Sa7 (lp f193 0) := Hb 3 (ls := Caq) rfl
theorem Va1 : WO Qau := Id XaZ func193 (Ga EaQ Ia)
abbrev Mba : Ja := .pu XW XW [true] (fun x => Qo x.1)
abbrev SaI : WF := (113, Mba) :: Qau
def Kao : La := ⟨37, ⟨[(1, Ii), (2, Jh), (3, Sx), (4, Da)], [(1, Gc, MS), (2, Gc, c8_), (3, Gc, (.pr Sac (.pr (.own 200002 Hi true) (.data (.p int (.p YP Mv))))))]⟩, 0, ⟨[(1, Ii), (2, Jh), (3, Sx)], [(1, Gc, MS), (2, Gc, c8_), (3, Gc, (.pr Sac (.pr (.own 200002 Hi true) (.data (.p int (.p YP Mv))))))]⟩, ⟨[], []⟩, DG⟩
def Ia6 : WL := [(5, Kao)]
theorem MaO : Na (WG true Qau [] [] []) Ia6 (lp f113 0) := Hb 5 (ls := Kao) rfl
theorem UaY : WO SaI := Id Va1 func113 (Ga MaO Ia)
abbrev Hbp : Ja := .pu DZ DZ [true] (fun x => DP x.1)
abbrev EaV : WF := (90, Hbp) :: SaI
theorem Xbk : WO EaV := Rb UaY func90
abbrev Jba : Ja := .pu BZ BZ [true] (fun x => GV x.1)
abbrev Zag : WF := (110, Jba) :: EaV
theorem RaY : WO Zag := Rb Xbk func110
abbrev Xbf : Ja := .pu IE Yb [true] (fun x => NA x.1)
abbrev PaL : WF := (255, Xbf) :: Zag
def Lar : La := ⟨30, ⟨[(0, JE), (3, Da), (4, Da), (5, Da)], []⟩, 2, ⟨[(0, JE), (3, Da), (4, Da)], []⟩, ⟨[], []⟩, Bo⟩
def Kar : La := ⟨30, ⟨[(0, JE), (3, Da), (4, Da)], []⟩, 0, ⟨[(3, Da)], []⟩, ⟨[], []⟩, Zy⟩
def UaM : WL := [(7, Lar), (3, Kar)]
theorem NaR : Na (WG true Zag [] [] []) UaM (lp f255 1) := Hb 7 (ls := Lar) rfl
theorem MaR : Na (WG true Zag [] [] []) UaM (lp f255 0) := Hb 3 (ls := Kar) rfl
theorem Fa4 : WO PaL := Id RaY func255 (Ga NaR (Ga MaR Ia))
abbrev Fbd : Ja := .pu Xb IE [true] (fun x => NH x.1 x.2.1)
abbrev Nau : WF := (185, Fbd) :: PaL
theorem Na1 : WO Nau := Rb Fa4 func185
abbrev Obp : Ja := .pu (.p int (.p int IE)) IE [true] (fun x => CL x.1 x.2.1 x.2.2.1)
abbrev KaV : WF := (97, Obp) :: Nau
def DaD : La := ⟨41, ⟨[(2, JE), (7, Uac), (8, Da)], []⟩, 0, ⟨[(7, Uac)], []⟩, ⟨[], []⟩, Ko⟩
def Jbm : WL := [(7, DaD)]
theorem FaX : Na (WG true Nau [] [] []) Jbm (lp f97 0) := Hb 7 (ls := DaD) rfl
theorem Ebl : WO KaV := Id Na1 func97 (Ga FaX Ia)
abbrev Wbf : Ja := .pu IE Ab [true, true, true] (fun x => OH x.1)
abbrev OaL : WF := (254, Wbf) :: KaV
theorem Ea4 : WO OaL := Rb Ebl func254
abbrev Ebd : Ja := .pu (.p Wc (.p Tf .u)) (.p Wc Yb) [true, true] (fun x => Gz x.1 x.2.1)
abbrev Mau : WF := (184, Ebd) :: OaL
theorem Ma1 : WO Mau := Id (L := []) (m := []) (v := [39]) (l := []) Ea4 func184 Ia
abbrev Nbp : Ja := .pu (.p Wc IE) (.p Wc (.p Kv .u)) [true, true] (fun x => ND x.1 x.2.1)
abbrev JaV : WF := (96, Nbp) :: Mau
def CaD : La := ⟨52, ⟨[(1, JE), (4, Xm), (6, GB), (7, (.ptr 7 [])), (8, Da)], [(4, Wc, Zai), (7, Wc, (.pr (.own 200003 Tf true) Rx))]⟩, 0, ⟨[(4, Xm), (6, GB), (7, (.ptr 7 []))], [(4, Wc, Zai), (7, Wc, (.pr (.own 200003 Tf true) Rx))]⟩, ⟨[(4, Xm), (5, GB)], [(4, Wc, Zai)]⟩, Qt⟩
def Ibm : WL := [(5, CaD)]
theorem EaX : Na (WG true Mau [] [] []) Ibm (lp f96 0) := Hb 5 (ls := CaD) rfl
theorem Dbl : WO JaV := Id Ma1 func96 (Ga EaX Ia)
abbrev Pbp : Ja := .pu ZY ZY [true] (fun x => PD x.1)
abbrev LaV : WF := (98, Pbp) :: JaV
theorem Fbl : WO LaV := Rb Dbl func98
abbrev Kbe : Ja := .pu (.p Ab Xb) Yb [true] (fun x => SH x.1 x.2.1 x.2.2.1)
abbrev R9 : WF := (216, Kbe) :: LaV
theorem Sa2 : WO R9 := Rb Fbl func216
abbrev Dbb : Ja := .pu YW Yb [true] (fun x => Xt x.1 x.2.1)
abbrev CaJ : WF := (131, Dbb) :: R9
def Iak : La := ⟨53, ⟨[(2, Jh), (5, Da), (6, Da), (7, Da), (8, Da)], [(2, Ab, Oq)]⟩, 4, ⟨[(2, Jh), (5, Da), (6, Da), (7, Da)], [(2, Ab, Oq)]⟩, ⟨[], []⟩, WB⟩
def Sao : La := ⟨53, ⟨[(2, Jh), (5, Da), (6, Da), (7, Da)], [(2, Ab, Oq)]⟩, 2, ⟨[(2, Jh), (5, Da), (6, Da)], [(2, Ab, Oq)]⟩, ⟨[], []⟩, AG⟩
def Rao : La := ⟨53, ⟨[(2, Jh), (5, Da), (6, Da)], [(2, Ab, Oq)]⟩, 0, ⟨[(5, Da)], []⟩, ⟨[], []⟩, ZF⟩
def Zaw : WL := [(11, Iak), (8, Sao), (5, Rao)]
theorem RaG : Na (WG true R9 [] [] []) Zaw (lp f131 2) := Hb 11 (ls := Iak) rfl
theorem UaO : Na (WG true R9 [] [] []) Zaw (lp f131 1) := Hb 8 (ls := Sao) rfl
theorem TaO : Na (WG true R9 [] [] []) Zaw (lp f131 0) := Hb 5 (ls := Rao) rfl
theorem LaZ : WO CaJ := Id Sa2 func131 (Ga RaG (Ga UaO (Ga TaO Ia)))
abbrev Ebo : Ja := .pu YW Mv [true, true] (fun x => MD x.1 x.2.1)
abbrev QaU : WF := (61, Ebo) :: CaJ
theorem Ubj : WO QaU := Rb LaZ func61
abbrev Mbb : Ja := .pu YW Sd [true] (fun x => Xo x.1 x.2.1)
abbrev HaJ : WF := (140, Mbb) :: QaU
theorem UaZ : WO HaJ := Rb Ubj func140
abbrev Pbe : Ja := .pu (.p Ab Xb) Mv [true, true] (fun x => Yy x.1 x.2.1 x.2.2.1)
abbrev Dav : WF := (221, Pbe) :: HaJ
theorem Xa2 : WO Dav := Rb UaZ func221
abbrev Nbb : Ja := .pu YW Yb [true] (fun x => LH x.1 x.2.1)
abbrev IaJ : WF := (141, Nbb) :: Dav
def Yao : La := ⟨41, ⟨[(1, Da), (2, Jh), (5, Da), (6, Da)], [(2, Ab, Oq)]⟩, 0, ⟨[(5, Da)], []⟩, ⟨[], []⟩, Rm⟩
def Ta6 : WL := [(3, Yao)]
theorem AaP : Na (WG true Dav [] [] []) Ta6 (lp f141 0) := Hb 3 (ls := Yao) rfl
theorem VaZ : WO IaJ := Id Xa2 func141 (Ga AaP Ia)
abbrev Gbo : Ja := .pu (.p Ab Xb) Mv [true, true] (fun x => Ns x.1 x.2.1 x.2.2.1)
abbrev AaF : WF := (63, Gbo) :: IaJ
theorem Wbj : WO AaF := Rb VaZ func63
abbrev Hbo : Ja := .pu (.p Nb Yb) (.p Nb Sd) [true, true] (fun x => Kn x.1 x.2.1)
abbrev SaU : WF := (64, Hbo) :: AaF
def WaC : La := ⟨94, ⟨[(1, Da), (2, Jh), (4, Xm), (6, (.ptr 6 [])), (7, Da)], [(2, Nb, (.data Nb)), (4, Nb, Aaj), (6, Nb, Vax)]⟩, 0, ⟨[(1, Da), (4, Xm), (6, (.ptr 6 []))], [(4, Nb, Aaj), (6, Nb, Vax)]⟩, ⟨[], []⟩, Lp⟩
def Dbm : WL := [(6, WaC)]
theorem YaW : Na (WG true AaF [] [] []) Dbm (lp f64 0) := Hb 6 (ls := WaC) rfl
theorem Xbj : WO SaU := Id Wbj func64 (Ga YaW Ia)
abbrev Sbg : Ja := .pu GN Sd [true] (fun x => Zw x.1)
abbrev Eaw : WF := (277, Sbg) :: SaU
theorem Aa5 : WO Eaw := Rb Xbj func277
abbrev Tbg : Ja := .pu (.p Lv Yb) Sd [true] (fun x => UF x.1 x.2.1)
abbrev Faw : WF := (278, Tbg) :: Eaw
def War : La := ⟨20, ⟨[(0, Pj), (1, Da), (5, Da)], []⟩, 0, ⟨[], []⟩, ⟨[(4, Ff)], []⟩, TB⟩
def Ca9 : WL := [(2, War)]
theorem YaR : Na (WG true Eaw [] [] []) Ca9 (lp f278 0) := Hb 2 (ls := War) rfl
theorem Ba5 : WO Faw := Id Aa5 func278 (Ga YaR Ia)
abbrev Ubg : Ja := .pu (.p Lv Yb) Mv [true, true] (fun x => RJ x.1 x.2.1)
abbrev Gaw : WF := (279, Ubg) :: Faw
def Xar : La := ⟨37, ⟨[(0, Pj), (1, Da), (6, Da), (7, Ff), (8, Da)], []⟩, 0, ⟨[(6, Da), (7, Ff)], []⟩, ⟨[], []⟩, XF⟩
def Da9 : WL := [(4, Xar)]
theorem ZaR : Na (WG true Faw [] [] []) Da9 (lp f279 0) := Hb 4 (ls := Xar) rfl
theorem Ca5 : WO Gaw := Id Ba5 func279 (Ga ZaR Ia)
abbrev Rbe : Ja := .pu (.p Lv (.p int HN)) Mc [true, true, true] (fun x => KD x.1 x.2.1 x.2.2.1 x.2.2.2.1)
abbrev Fav : WF := (223, Rbe) :: Gaw
def Saq : La := ⟨134, ⟨[(0, Pj), (2, Ri), (3, Da), (11, Da), (12, Da), (13, Da), (14, Da)], []⟩, 0, ⟨[(0, Pj), (11, Da), (13, Da), (14, Da)], []⟩, ⟨[(8, Da), (9, Da), (10, Da)], []⟩, Xl⟩
def Ca8 : WL := [(9, Saq)]
theorem UaQ : Na (WG true Gaw [] [] []) Ca8 (lp f223 0) := Hb 9 (ls := Saq) rfl
theorem Za2 : WO Fav := Id Ca5 func223 (Ga UaQ Ia)
abbrev Tbe : Ja := .bx false false Pb Xb OS [true] (fun x0 x => CP x0 x.1 x.2.1)
abbrev Gav : WF := (225, Tbe) :: Fav
def Uaq : La := ⟨93, ⟨[(0, FN), (1, Da), (2, Da), (7, Da)], [(500000, Pb, Uax)]⟩, 0, ⟨[(0, FN), (1, Da), (2, Da)], [(500000, Pb, Uax)]⟩, ⟨[(0, FN), (6, GL)], [(500000, Pb, c7_)]⟩, OI⟩
def Ea8 : WL := [(2, Uaq)]
theorem WaQ : Na (WG false Fav [] [] []) Ea8 (lp f225 0) := Hb 2 (ls := Uaq) rfl
theorem Ba3 : WO Gav := A7 Za2 func225 (Ga WaQ Ia)
abbrev Qbb : Ja := .bx false false Pb .u OS [true] (fun x0 x => EB x0)
abbrev KaJ : WF := (144, Qbb) :: Gav
def Aap : La := ⟨130, ⟨[(0, FN), (3, GL)], [(500000, Pb, c7_)]⟩, 0, ⟨[(0, FN), (3, GL)], [(500000, Pb, c7_)]⟩, ⟨[(0, FN), (2, GL)], [(500000, Pb, c7_)]⟩, Bk⟩
def Va6 : WL := [(2, Aap)]
theorem CaP : Na (WG false Gav [] [] []) Va6 (lp f144 0) := Hb 2 (ls := Aap) rfl
theorem YaZ : WO KaJ := A7 Ba3 func144 (Ga CaP Ia)
abbrev Ibo : Ja := .pu (.p Pb HN) (.p Pb (.p S0 Sd)) [true, true, true] (fun x => Qs x.1 x.2.1 x.2.2.1)
abbrev BaF : WF := (65, Ibo) :: KaJ
theorem Ybj : WO BaF := Rb YaZ func65
abbrev Qbd : Ja := .pu (.p int NS) Yb [true] (fun x => UA x.1 x.2.1)
abbrev Sau : WF := (196, Qbd) :: BaF
def Eaq : La := ⟨38, ⟨[(1, Il), (5, Da), (6, Da)], []⟩, 0, ⟨[(5, Da)], []⟩, ⟨[], []⟩, Jo⟩
def Ua7 : WL := [(5, Eaq)]
theorem GaQ : Na (WG true BaF [] [] []) Ua7 (lp f196 0) := Hb 5 (ls := Eaq) rfl
theorem Ya1 : WO Sau := Id Ybj func196 (Ga GaQ Ia)
abbrev Dbg : Ja := .pu (.p Dc Xb) Yb [true] (fun x => ZO x.1 x.2.1 x.2.2.1)
abbrev TaL : WF := (261, Dbg) :: Sau
def Nar : La := ⟨45, ⟨[(1, Da), (2, Da), (3, Sx), (7, Da)], [(3, Dc, ZW)]⟩, 0, ⟨[], []⟩, ⟨[(6, Da)], []⟩, Aj⟩
def Va8 : WL := [(4, Nar)]
theorem PaR : Na (WG true Sau [] [] []) Va8 (lp f261 0) := Hb 4 (ls := Nar) rfl
theorem La4 : WO TaL := Id Ya1 func261 (Ga PaR Ia)
abbrev Pbd : Ja := .pu (.p Dc Xb) Ln [true] (fun x => MA x.1 x.2.1 x.2.2.1)
abbrev Rau : WF := (195, Pbd) :: TaL
theorem Xa1 : WO Rau := Rb La4 func195
abbrev Vbg : Ja := .pu (.p Mc (.p int (.p int HN))) Xb [true, true] (fun x => BL x.1 x.2.1 x.2.2.1 x.2.2.2.1 x.2.2.2.2.1)
abbrev Haw : WF := (280, Vbg) :: Rau
def Yar : La := ⟨101, ⟨[(1, Da), (3, Ri), (4, Da), (5, ZH), (12, Da), (13, Da), (14, Da)], [(5, Mc, Rx)]⟩, 0, ⟨[(4, Da), (12, Da)], []⟩, ⟨[(10, Da), (11, Da)], []⟩, Az⟩
def Ea9 : WL := [(6, Yar)]
theorem AaS : Na (WG true Rau [] [] []) Ea9 (lp f280 0) := Hb 6 (ls := Yar) rfl
theorem Da5 : WO Haw := Id Xa1 func280 (Ga AaS Ia)
abbrev Obd : Ja := .pu (.p Gc Yb) Yb [true] (fun x => QJ x.1 x.2.1)
abbrev RaK : WF := (194, Obd) :: Haw
def Daq : La := ⟨22, ⟨[(1, Da), (2, Jh), (5, Da)], [(2, Gc, MS)]⟩, 0, ⟨[], []⟩, ⟨[(4, Da)], []⟩, PF⟩
def Ta7 : WL := [(2, Daq)]
theorem FaQ : Na (WG true Haw [] [] []) Ta7 (lp f194 0) := Hb 2 (ls := Daq) rfl
theorem Wa1 : WO RaK := Id Da5 func194 (Ga FaQ Ia)
abbrev Rbd : Ja := .pu Ln Ln [true] (fun x => KR x.1)
abbrev SaK : WF := (197, Rbd) :: RaK
theorem Za1 : WO SaK := Rb Wa1 func197
abbrev Sbd : Ja := .pu Ln Ln [true] (fun x => NT x.1)
abbrev TaK : WF := (198, Sbd) :: SaK
theorem Aa2 : WO TaK := Rb Za1 func198
abbrev Jbh : Ja := .pu Yb Sd [true] (fun x => JD x.1)
abbrev DaM : WF := (294, Jbh) :: TaK
theorem Ra5 : WO DaM := Rb Aa2 func294
abbrev Ebg : Ja := .bx false false Gc Ln Ln [true] (fun x0 x => H0 x0 x.1)
abbrev UaL : WF := (262, Ebg) :: DaM
theorem Ma4 : WO UaL := A7 (L := []) (m := []) (v := []) (l := []) Ra5 func262 Ia
abbrev Tbd : Ja := .bx false false Gc Ln Ln [true] (fun x0 x => Fn x0 x.1)
abbrev Q9 : WF := (199, Tbd) :: UaL
theorem Ba2 : WO Q9 := A7 (L := []) (m := []) (v := []) (l := []) Ma4 func199 Ia
abbrev Vbd : Ja := .pu NS CZ [true] (fun x => Xe x.1)
abbrev B4 : WF := (201, Vbd) :: Q9
def Gaq : La := ⟨70, ⟨[(0, Il), (2, Jh), (3, Sx), (4, Da)], [(2, Hc, LE), (3, Hc, (.pr Da (.pr GB .un)))]⟩, 0, ⟨[(0, Il), (2, Jh), (3, Sx)], [(2, Hc, LE), (3, Hc, (.pr Da (.pr GB .un)))]⟩, ⟨[], []⟩, Hz⟩
def Lak : La := ⟨70, ⟨[(0, Il), (2, Jh), (3, Sx), (5, Da), (6, Da)], [(2, Hc, LE), (3, Hc, (.pr Da (.pr (.own 200201 int true) .un)))]⟩, 4, ⟨[(0, Il), (2, Jh), (3, Sx), (5, Da)], [(2, Hc, LE), (3, Hc, (.pr Da (.pr (.own 200201 int true) .un)))]⟩, ⟨[], []⟩, Tm⟩
def Kak : La := ⟨70, ⟨[(0, Il), (2, Jh), (3, Sx), (5, Da)], [(2, Hc, LE), (3, Hc, (.pr Da (.pr (.own 200101 int true) .un)))]⟩, 2, ⟨[(2, Jh), (3, Sx)], [(2, Hc, LE), (3, Hc, (.pr Da (.pr (.own 200101 int true) .un)))]⟩, ⟨[], []⟩, Tw⟩
def Aax : WL := [(5, Gaq), (13, Lak), (10, Kak)]
theorem IaQ : Na (WG true Q9 [] [] []) Aax (lp f201 0) := Hb 5 (ls := Gaq) rfl
theorem UaG : Na (WG true Q9 [] [] []) Aax (lp f201 2) := Hb 13 (ls := Lak) rfl
theorem TaG : Na (WG true Q9 [] [] []) Aax (lp f201 1) := Hb 10 (ls := Kak) rfl
theorem Da2 : WO B4 := Id Ba2 func201 (Ga UaG (Ga TaG (Ga IaQ Ia)))
abbrev Fbg : Ja := .pu (.p YP NS) CZ [true] (fun x => Gi x.1 x.2.1)
abbrev Yav : WF := (263, Fbg) :: B4
def Oar : La := ⟨77, ⟨[(1, Il), (4, Xm), (5, ZH), (6, Da)], [(4, Hc, LE), (5, Hc, (.pr Da (.pr GB .un)))]⟩, 0, ⟨[(1, Il), (4, Xm), (5, ZH)], [(4, Hc, LE), (5, Hc, (.pr Da (.pr GB .un)))]⟩, ⟨[], []⟩, Qz⟩
def Pak : La := ⟨77, ⟨[(1, Il), (4, Xm), (5, ZH), (7, (.own 200201 int true)), (8, Da), (9, Ff), (10, Da)], [(4, Hc, LE), (5, Hc, (.pr Da (.pr (.own 200202 int true) .un)))]⟩, 4, ⟨[(1, Il), (4, Xm), (5, ZH), (7, (.own 200201 int true)), (8, Da), (9, Ff)], [(4, Hc, LE), (5, Hc, (.pr Da (.pr (.own 200202 int true) .un)))]⟩, ⟨[], []⟩, Um⟩
def Qak : La := ⟨77, ⟨[(1, Il), (4, Xm), (5, ZH), (7, (.own 200301 int true)), (8, Da), (9, Ff), (11, Da)], [(4, Hc, LE), (5, Hc, (.pr Da (.pr (.own 200302 int true) .un)))]⟩, 6, ⟨[(1, Il), (4, Xm), (5, ZH), (7, (.own 200301 int true)), (8, Da), (9, Ff)], [(4, Hc, LE), (5, Hc, (.pr Da (.pr (.own 200302 int true) .un)))]⟩, ⟨[], []⟩, Vm⟩
def Par : La := ⟨77, ⟨[(1, Il), (4, Xm), (5, ZH), (7, (.own 200101 int true)), (8, Da)], [(4, Hc, LE), (5, Hc, (.pr Da (.pr (.own 200102 int true) .un)))]⟩, 2, ⟨[(4, Xm), (5, ZH), (7, (.own 200101 int true))], [(4, Hc, LE), (5, Hc, (.pr Da (.pr (.own 200102 int true) .un)))]⟩, ⟨[], []⟩, Rz⟩
def Jah : WL := [(3, Oar), (12, Pak), (16, Qak), (8, Par)]
theorem QaR : Na (WG true B4 [] [] []) Jah (lp f263 0) := Hb 3 (ls := Oar) rfl
theorem YaG : Na (WG true B4 [] [] []) Jah (lp f263 2) := Hb 12 (ls := Pak) rfl
theorem ZaG : Na (WG true B4 [] [] []) Jah (lp f263 3) := Hb 16 (ls := Qak) rfl
theorem RaR : Na (WG true B4 [] [] []) Jah (lp f263 1) := Hb 8 (ls := Par) rfl
theorem Na4 : WO Yav := Id Da2 func263 (Ga ZaG (Ga YaG (Ga RaR (Ga QaR Ia))))
abbrev Ubd : Ja := .pu (.p YP (.p Hi .u)) YY [true] (fun x => Tk x.1 x.2.1)
abbrev Tau : WF := (200, Ubd) :: Yav
def Faq : La := ⟨60, ⟨[(0, Il), (1, (.data Hi)), (5, Tac), (6, (.own 200002 Jf true)), (7, Da)], []⟩, 0, ⟨[(5, Tac)], []⟩, ⟨[], []⟩, Pp⟩
def Va7 : WL := [(6, Faq)]
theorem HaQ : Na (WG true Yav [] [] []) Va7 (lp f200 0) := Hb 6 (ls := Faq) rfl
theorem Ca2 : WO Tau := Id Na4 func200 (Ga HaQ Ia)
abbrev Gbg : Ja := .pu (.p Hc CZ) Sd [true] (fun x => OD x.1 x.2.1)
abbrev VaL : WF := (264, Gbg) :: Tau
def Qar : La := ⟨38, ⟨[(2, Jh), (3, Sx), (5, Da)], [(2, Hc, (.data Hc)), (3, Hc, (.data Hc))]⟩, 0, ⟨[], []⟩, ⟨[(4, Ff)], []⟩, Rt⟩
def Wa8 : WL := [(4, Qar)]
theorem SaR : Na (WG true Tau [] [] []) Wa8 (lp f264 0) := Hb 4 (ls := Qar) rfl
theorem Oa4 : WO VaL := Id Ca2 func264 (Ga SaR Ia)
abbrev Hbg : Ja := .pu CZ CZ [true] (fun x => OR x.1)
abbrev Zav : WF := (265, Hbg) :: VaL
theorem Pa4 : WO Zav := Rb Oa4 func265
abbrev Wbd : Ja := .pu (.p Hc YY) YY [true] (fun x => Fh x.1 x.2.1)
abbrev UaK : WF := (202, Wbd) :: Zav
def Haq : La := ⟨34, ⟨[(1, (.data (.sl Hc))), (2, Jh), (5, Tac), (6, Da)], [(2, Hc, (.data Hc))]⟩, 0, ⟨[(5, Tac)], []⟩, ⟨[], []⟩, Ax⟩
def Wa7 : WL := [(3, Haq)]
theorem JaQ : Na (WG true Zav [] [] []) Wa7 (lp f202 0) := Hb 3 (ls := Haq) rfl
theorem Ea2 : WO UaK := Id Pa4 func202 (Ga JaQ Ia)
abbrev Nba : Ja := .pu (.p Gc Mv) (.p Gc (.p (.sl Hc) Sd)) [true, true, true] (fun x => Yl x.1 x.2.1 x.2.2.1)
abbrev TaI : WF := (114, Nba) :: UaK
theorem VaY : WO TaI := Rb Ea2 func114
abbrev Ube : Ja := .bx false false Ic YW (.p (.sl Hc) Mv) [true, true, true] (fun x0 x => Uw x0 x.1 x.2.1)
abbrev CaL : WF := (226, Ube) :: TaI
theorem Ca3 : WO CaL := A7 (L := []) (m := []) (v := []) (l := []) VaY func226 Ia
abbrev Oba : Ja := .pu (.p Gc Yb) (.p Gc (.p (.sl Hc) Sd)) [true, true, true] (fun x => TF x.1 x.2.1)
abbrev Aah : WF := (115, Oba) :: CaL
theorem WaY : WO Aah := Rb Ca3 func115
abbrev Rbb : Ja := .bx false false Ic .u (.p HB .u) [true] (fun x0 x => DB x0)
abbrev LaJ : WF := (145, Rbb) :: Aah
def Jak : La := ⟨109, ⟨[(0, FN), (3, (.own 200101 Oi true)), (5, Da), (6, (.mov 200102 Hc)), (13, Da)], [(500000, Ic, (.pr (.pr (.pr Da (.pr (.own 200103 Ek true) .un)) (.pr (.own 200104 Hi true) (.pr Da (.pr (.own 200105 Jf true) (.data Mv))))) (.pr Rx (.pr (.own 200106 Ab true) (.data Ub)))))]⟩, 2, ⟨[(0, FN), (3, (.own 200101 Oi true)), (5, Da)], [(500000, Ic, (.pr (.pr (.pr Da (.pr (.own 200102 Ek true) .un)) (.pr (.own 200103 Hi true) (.pr Da (.pr (.own 200104 Jf true) (.data Mv))))) (.pr Rx (.pr (.own 200105 Ab true) (.data Ub)))))]⟩, ⟨[], []⟩, Bj⟩
def Bap : La := ⟨109, ⟨[(0, FN), (3, XP)], [(500000, Ic, c4_)]⟩, 0, ⟨[(0, FN), (3, XP)], [(500000, Ic, c4_)]⟩, ⟨[(0, FN), (2, XP)], [(500000, Ic, c4_)]⟩, Ak⟩
def NaM : WL := [(18, Jak), (2, Bap)]
theorem SaG : Na (WG false Aah [] [] [90]) NaM (lp f145 1) := Hb 18 (ls := Jak) rfl
theorem DaP : Na (WG false Aah [] [] [90]) NaM (lp f145 0) := Hb 2 (ls := Bap) rfl
theorem ZaZ : WO LaJ := A7 WaY func145 (Ga SaG (Ga DaP Ia))
abbrev Jbo : Ja := .pu (.p Ic HN) (.p Ic (.p HB Sd)) [true, true, true] (fun x => LD x.1 x.2.1 x.2.2.1)
abbrev CaF : WF := (66, Jbo) :: LaJ
theorem Zbj : WO CaF := Rb ZaZ func66
abbrev Wbm : Ja := .pu (.p Md Yb) (.p Md (.p HB Sd)) [true, true, true] (fun x => Nl x.1 x.2.1)
abbrev WaT : WF := (21, Wbm) :: CaF
def DaC : La := ⟨127, ⟨[(2, Jh), (4, Xm), (9, Da), (11, (.ptr 11 [])), (13, GL), (14, Da)], [(2, Md, (.data Md)), (4, Md, VaV), (11, Nb, (.pr Da (.pr Da (.pr Da (.pr Da (.pr Da (.pr (.own 200002 int true) .un)))))))]⟩, 0, ⟨[(2, Jh), (4, Xm), (9, Da), (11, (.ptr 11 [])), (13, GL)], [(2, Md, (.data Md)), (4, Md, VaV), (11, Nb, (.pr Da (.pr Da (.pr Da (.pr Da (.pr Da (.pr (.own 200002 int true) .un)))))))]⟩, ⟨[], []⟩, Xj⟩
def Kbl : WL := [(8, DaC)]
theorem FaW : Na (WG true CaF [] [] []) Kbl (lp f21 0) := Hb 8 (ls := DaC) rfl
theorem Lbi : WO WaT := Id Zbj func21 (Ga FaW Ia)
abbrev Gbn : Ja := .pu (.p Bd (.p int (.p int IE))) (.p Bd (.p HB Sd)) [true, true, true] (fun x => Mk x.1 x.2.1 x.2.2.1 x.2.2.2.1)
abbrev TaE : WF := (33, Gbn) :: WaT
theorem Vbi : WO TaE := Rb Lbi func33
abbrev Qbn : Ja := .pu WaF (.p Bd (.p HB Sd)) [true, true, true] (fun x => Ow x.1 x.2.1 x.2.2.1 x.2.2.2.1)
abbrev EaU : WF := (43, Qbn) :: TaE
def LaC : La := ⟨78, ⟨[(1, IN), (2, IN), (3, (.data ZP)), (8, (.ptr 8 [])), (11, XP), (12, (.ptr 12 [])), (13, Da)], [(8, Bd, c1_), (12, Bd, c2_)]⟩, 0, ⟨[(8, (.ptr 8 [])), (11, XP), (12, (.ptr 12 []))], [(8, Bd, c1_), (12, Bd, c2_)]⟩, ⟨[(8, (.ptr 8 [])), (9, XP), (10, Ff)], [(8, Bd, c1_)]⟩, Pw⟩
def Sbl : WL := [(6, LaC)]
theorem NaW : Na (WG true TaE [] [] []) Sbl (lp f43 0) := Hb 6 (ls := LaC) rfl
theorem Fbj : WO EaU := Id Vbi func43 (Ga NaW Ia)
abbrev Xbb : Ja := .pu GN Sd [true] (fun x => Vq x.1)
abbrev Cau : WF := (151, Xbb) :: EaU
theorem Fa0 : WO Cau := Rb Fbj func151
abbrev Ybb : Ja := .pu (.p Nb .u) Sd [true] (fun x => Dp x.1)
abbrev RaJ : WF := (152, Ybb) :: Cau
def Fap : La := ⟨79, ⟨[(66, IN), (67, Da), (68, Da)], []⟩, 0, ⟨[], []⟩, ⟨[(2, Ff)], []⟩, Qq⟩
def Za6 : WL := [(6, Fap)]
theorem HaP : Na (WG true Cau [] [] []) Za6 (lp f152 0) := Hb 6 (ls := Fap) rfl
theorem Ga0 : WO RaJ := Id Fa0 func152 (Ga HaP Ia)
abbrev Tbh : Ja := .pu (.p (.i .u32) .u) Yb [true] (fun x => O7 x.1)
abbrev JaM : WF := (304, Tbh) :: RaJ
theorem Ba6 : WO JaM := Rb Ga0 func304
abbrev Ubh : Ja := .pu (.p (.i .u64) .u) Yb [true] (fun x => FL x.1)
abbrev KaM : WF := (305, Ubh) :: JaM
theorem Ca6 : WO KaM := Rb Ba6 func305
abbrev Ybg : Ja := .pu (.p (.i .u64) .u) Yb [true] (fun x => JG x.1)
abbrev Iah : WF := (283, Ybg) :: KaM
theorem Ga5 : WO Iah := Rb Ca6 func283
abbrev Abf : Ja := .pu (.p Lv .u) Sd [true] (fun x => BA x.1)
abbrev Kav : WF := (232, Abf) :: Iah
def Nak : La := ⟨68, ⟨[(0, Pj), (4, Xm), (11, Pj), (12, Da), (13, Da), (48, Pj), (49, Da), (50, Da)], [(4, Xb, (.data Xb))]⟩, 2, ⟨[(0, Pj), (11, Pj), (12, Da), (13, Da)], []⟩, ⟨[(2, Ff)], []⟩, Tv⟩
def Xaq : La := ⟨68, ⟨[(0, Pj), (11, Pj), (12, Da), (13, Da)], []⟩, 0, ⟨[], []⟩, ⟨[(2, Ff)], []⟩, Cy⟩
def TaM : WL := [(12, Nak), (4, Xaq)]
theorem WaG : Na (WG true Iah [] [] []) TaM (lp f232 1) := Hb 12 (ls := Nak) rfl
theorem ZaQ : Na (WG true Iah [] [] []) TaM (lp f232 0) := Hb 4 (ls := Xaq) rfl
theorem Ia3 : WO Kav := Id Ga5 func232 (Ga WaG (Ga ZaQ Ia))
abbrev Hbf : Ja := .pu (.p Lv Yb) (.p Xb Sd) [true, true] (fun x => RE x.1 x.2.1)
abbrev HaL : WF := (239, Hbf) :: Kav
def Bar : La := ⟨21, ⟨[(1, Da), (4, Xm), (8, Pj), (9, Da), (10, Da)], [(4, Xb, (.data Xb))]⟩, 0, ⟨[(4, Xm)], [(4, Xb, (.data Xb))]⟩, ⟨[(4, Xm), (5, Ff)], [(4, Xb, (.data Xb))]⟩, NB⟩
def La8 : WL := [(2, Bar)]
theorem DaR : Na (WG true Kav [] [] []) La8 (lp f239 0) := Hb 2 (ls := Bar) rfl
theorem Pa3 : WO HaL := Id Ia3 func239 (Ga DaR Ia)
abbrev Hbc : Ja := .pu Xb Yb [true] (fun x => Ye x.1 x.2.1)
abbrev Dau : WF := (161, Hbc) :: HaL
theorem Pa0 : WO Dau := Rb Pa3 func161
abbrev Bbf : Ja := .pu DN Sd [true] (fun x => IC x.1)
abbrev Lav : WF := (233, Bbf) :: Dau
def Yaq : La := ⟨61, ⟨[(1, Ii), (3, Da), (9, Ri), (10, Da), (11, Da)], [(1, Pb, P7)]⟩, 0, ⟨[], []⟩, ⟨[(2, Ff)], []⟩, It⟩
def Ha8 : WL := [(3, Yaq)]
theorem AaR : Na (WG true Dau [] [] []) Ha8 (lp f233 0) := Hb 3 (ls := Yaq) rfl
theorem Ja3 : WO Lav := Id Pa0 func233 (Ga AaR Ia)
abbrev Cbc : Ja := .pu DN Mv [true, true] (fun x => Si x.1)
abbrev VaJ : WF := (156, Cbc) :: Lav
def Gap : La := ⟨27, ⟨[(4, Da), (10, Ri), (11, Da), (12, Da)], []⟩, 0, ⟨[(4, Da)], []⟩, ⟨[(2, Da), (3, Ff)], []⟩, Hp⟩
def Aa7 : WL := [(3, Gap)]
theorem IaP : Na (WG true Lav [] [] []) Aa7 (lp f156 0) := Hb 3 (ls := Gap) rfl
theorem Ka0 : WO VaJ := Id Ja3 func156 (Ga IaP Ia)
abbrev Zbg : Ja := .pu GN Sd [true] (fun x => Vv x.1)
abbrev Kaw : WF := (284, Zbg) :: VaJ
theorem Ha5 : WO Kaw := Rb Ka0 func284
abbrev Ebf : Ja := .pu HN Mv [true, true] (fun x => FR x.1 x.2.1)
abbrev Oav : WF := (236, Ebf) :: Kaw
def Zaq : La := ⟨53, ⟨[(0, Ri), (1, Da), (11, Ri), (12, Da), (13, Da)], []⟩, 0, ⟨[(1, Da)], []⟩, ⟨[(4, Da), (5, Ff)], []⟩, TE⟩
def Ia8 : WL := [(4, Zaq)]
theorem BaR : Na (WG true Kaw [] [] []) Ia8 (lp f236 0) := Hb 4 (ls := Zaq) rfl
theorem Ma3 : WO Oav := Id Ha5 func236 (Ga BaR Ia)
abbrev Kbc : Ja := .pu (.p S0 Xb) Sd [true] (fun x => Ni x.1 x.2.1 x.2.2.1)
abbrev AaK : WF := (164, Kbc) :: Oav
def Kap : La := ⟨29, ⟨[(0, Ri), (1, Da), (2, Da), (11, Ri), (12, Da), (13, Da)], []⟩, 0, ⟨[(0, Ri), (1, Da)], []⟩, ⟨[(6, Ff)], []⟩, Cw⟩
def Ea7 : WL := [(2, Kap)]
theorem MaP : Na (WG true Oav [] [] []) Ea7 (lp f164 0) := Hb 2 (ls := Kap) rfl
theorem Sa0 : WO AaK := Id Ma3 func164 (Ga MaP Ia)
abbrev Ibc : Ja := .pu HN Sd [true] (fun x => Li x.1 x.2.1)
abbrev ZaJ : WF := (162, Ibc) :: AaK
theorem Qa0 : WO ZaJ := Rb Sa0 func162
abbrev Zbb : Ja := .pu DN Sd [true] (fun x => Mr x.1)
abbrev SaJ : WF := (153, Zbb) :: ZaJ
theorem Ha0 : WO SaJ := Rb Qa0 func153
abbrev Kbh : Ja := .pu Yb Sd [true] (fun x => AB x.1)
abbrev EaM : WF := (295, Kbh) :: SaJ
theorem Sa5 : WO EaM := Rb Ha0 func295
abbrev Lbh : Ja := .pu Yb Sd [true] (fun x => Lt x.1)
abbrev FaM : WF := (296, Lbh) :: EaM
theorem Ta5 : WO FaM := Rb Sa5 func296
abbrev Mbh : Ja := .pu Yb Sd [true] (fun x => Zv x.1)
abbrev GaM : WF := (297, Mbh) :: FaM
theorem Ua5 : WO GaM := Rb Ta5 func297
abbrev Ibg : Ja := .pu Ln Sd [true] (fun x => Vk x.1)
abbrev Gah : WF := (266, Ibg) :: GaM
theorem Qa4 : WO Gah := Rb Ua5 func266
abbrev Zbd : Ja := .pu AZ Sd [true] (fun x => DA x.1)
abbrev Wau : WF := (205, Zbd) :: Gah
def Jaq : La := ⟨73, ⟨[(1, Ii), (3, Da), (28, EN), (29, Da), (30, Da), (40, (.data Ek)), (41, Da), (42, Da)], [(1, Dc, ZW)]⟩, 2, ⟨[(1, Ii), (28, EN), (29, Da), (30, Da)], [(1, Dc, ZW)]⟩, ⟨[(2, Ff)], []⟩, Tn⟩
def Iaq : La := ⟨73, ⟨[(1, Ii), (28, EN), (29, Da), (30, Da)], [(1, Dc, ZW)]⟩, 0, ⟨[], []⟩, ⟨[(2, Ff)], []⟩, Sn⟩
def QaM : WL := [(9, Jaq), (4, Iaq)]
theorem LaQ : Na (WG true Gah [] [] []) QaM (lp f205 1) := Hb 9 (ls := Jaq) rfl
theorem KaQ : Na (WG true Gah [] [] []) QaM (lp f205 0) := Hb 4 (ls := Iaq) rfl
theorem Ha2 : WO Wau := Id Qa4 func205 (Ga LaQ (Ga KaQ Ia))
abbrev Abe : Ja := .pu NS Sd [true] (fun x => Tl x.1)
abbrev Xau : WF := (206, Abe) :: Wau
def Kaq : La := ⟨46, ⟨[(3, Da), (6, Il), (7, Da), (8, Da)], []⟩, 0, ⟨[], []⟩, ⟨[(2, Ff)], []⟩, PE⟩
def Xa7 : WL := [(3, Kaq)]
theorem MaQ : Na (WG true Wau [] [] []) Xa7 (lp f206 0) := Hb 3 (ls := Kaq) rfl
theorem Ia2 : WO Xau := Id Ha2 func206 (Ga MaQ Ia)
abbrev Jbg : Ja := .pu (.p Lv (.p Xb .u)) Yb [true] (fun x => YI x.1 x.2.1)
abbrev Aaw : WF := (267, Jbg) :: Xau
def Rar : La := ⟨19, ⟨[(3, Sx), (7, Pj), (8, Da), (9, Da)], [(3, Xb, (.data Xb))]⟩, 0, ⟨[], []⟩, ⟨[(4, Da)], []⟩, WE⟩
def Xa8 : WL := [(2, Rar)]
theorem TaR : Na (WG true Xau [] [] []) Xa8 (lp f267 0) := Hb 2 (ls := Rar) rfl
theorem Ra4 : WO Aaw := Id Ia2 func267 (Ga TaR Ia)
abbrev Bbe : Ja := .pu (.p Hi .u) Sd [true] (fun x => QE x.1)
abbrev Dah : WF := (207, Bbe) :: Aaw
def Laq : La := ⟨62, ⟨[(3, (.own 200001 Xb true)), (11, (.data Hi)), (12, Da), (13, Da)], []⟩, 0, ⟨[(3, (.own 200001 Xb true))], []⟩, ⟨[(2, Ff)], []⟩, KB⟩
def Ya7 : WL := [(5, Laq)]
theorem NaQ : Na (WG true Aaw [] [] []) Ya7 (lp f207 0) := Hb 5 (ls := Laq) rfl
theorem Ja2 : WO Dah := Id Ra4 func207 (Ga NaQ Ia)
abbrev Sba : Ja := .pu XW Sd [true] (fun x => AK x.1)
abbrev VaI : WF := (119, Sba) :: Dah
def Oao : La := ⟨92, ⟨[(1, Ii), (35, (.data KE)), (36, Da), (37, Da)], [(1, Gc, MS)]⟩, 0, ⟨[(1, Ii)], [(1, Gc, MS)]⟩, ⟨[(2, Ff)], []⟩, Rn⟩
def Hak : La := ⟨92, ⟨[(1, Ii), (5, Da), (50, Il), (51, Da), (52, Da)], [(1, Gc, MS)]⟩, 2, ⟨[(1, Ii), (5, Da)], [(1, Gc, MS)]⟩, ⟨[(2, Ff)], []⟩, Jm⟩
def MaM : WL := [(4, Oao), (11, Hak)]
theorem QaO : Na (WG true Dah [] [] []) MaM (lp f119 0) := Hb 4 (ls := Oao) rfl
theorem QaG : Na (WG true Dah [] [] []) MaM (lp f119 1) := Hb 11 (ls := Hak) rfl
theorem AaZ : WO VaI := Id Ja2 func119 (Ga QaG (Ga QaO Ia))
abbrev Cbf : Ja := .pu AX Sd [true] (fun x => EA x.1)
abbrev Mav : WF := (234, Cbf) :: VaI
theorem Ka3 : WO Mav := Rb AaZ func234
abbrev Ebc : Ja := .pu NS Yb [true] (fun x => Ym x.1)
abbrev WaJ : WF := (158, Ebc) :: Mav
def Iap : La := ⟨19, ⟨[(3, Da), (6, Il), (7, Da), (8, Da)], []⟩, 0, ⟨[(3, Da)], []⟩, ⟨[], []⟩, Jy⟩
def Ca7 : WL := [(3, Iap)]
theorem KaP : Na (WG true Mav [] [] []) Ca7 (lp f158 0) := Hb 3 (ls := Iap) rfl
theorem Ma0 : WO WaJ := Id Ka3 func158 (Ga KaP Ia)
abbrev Abc : Ja := .pu (.p Ic .u) Sd [true] (fun x => Uv x.1)
abbrev TaJ : WF := (154, Abc) :: WaJ
theorem Ia0 : WO TaJ := Rb Ma0 func154
abbrev Bbc : Ja := .pu GN Yb [true] (fun x => Lj x.1)
abbrev UaJ : WF := (155, Bbc) :: TaJ
theorem Ja0 : WO UaJ := Rb Ia0 func155
abbrev Pbo : Ja := .pu YW Sd [true] (fun x => Lo x.1 x.2.1)
abbrev EaF : WF := (72, Pbo) :: UaJ
theorem Fbk : WO EaF := Rb Ja0 func72
abbrev Dbc : Ja := .pu (.p int OS) Yb [true] (fun x => Aw x.1 x.2.1)
abbrev Bah : WF := (157, Dbc) :: EaF
def Hap : La := ⟨27, ⟨[(0, Da), (7, Ri), (8, Da), (9, Da)], []⟩, 0, ⟨[(0, Da)], []⟩, ⟨[], []⟩, Bw⟩
def Ba7 : WL := [(2, Hap)]
theorem JaP : Na (WG true EaF [] [] []) Ba7 (lp f157 0) := Hb 2 (ls := Hap) rfl
theorem La0 : WO Bah := Id Fbk func157 (Ga JaP Ia)
abbrev Obo : Ja := .pu DZ Sd [true] (fun x => OE x.1)
abbrev WaU : WF := (71, Obo) :: Bah
def XaC : La := ⟨152, ⟨[(1, Ii), (3, Da), (62, Pj), (63, Da), (64, Da)], [(1, Md, (.data Md))]⟩, 0, ⟨[(1, Ii)], [(1, Md, (.data Md))]⟩, ⟨[(2, Ff)], []⟩, JB⟩
def Kas : La := ⟨152, ⟨[(1, Ii), (6, Da), (8, Da), (116, Ri), (117, Da), (118, Da)], [(1, Md, (.data Md))]⟩, 2, ⟨[(1, Ii), (6, Da), (8, Da)], [(1, Md, (.data Md))]⟩, ⟨[], []⟩, Pn⟩
def OaV : WL := [(7, XaC), (17, Kas)]
theorem ZaW : Na (WG true Bah [] [] []) OaV (lp f71 0) := Hb 7 (ls := XaC) rfl
theorem MaS : Na (WG true Bah [] [] []) OaV (lp f71 1) := Hb 17 (ls := Kas) rfl
theorem Ebk : WO WaU := Id La0 func71 (Ga MaS (Ga ZaW Ia))
abbrev Gbd : Ja := .pu ZY Sd [true] (fun x => Kk x.1)
abbrev NaK : WF := (186, Gbd) :: WaU
theorem Oa1 : WO NaK := Rb Ebk func186
abbrev Aba : Ja := .pu BZ Yb [true] (fun x => AA x.1)
abbrev KaI : WF := (101, Aba) :: NaK
theorem IaY : WO KaI := Rb Oa1 func101
abbrev Za9 : Ja := .pu BZ Sd [true] (fun x => CA x.1)
abbrev JaI : WF := (100, Za9) :: KaI
theorem HaY : WO JaI := Rb IaY func100
abbrev Cbd : Ja := .pu (.p Kv .u) (.p Kv .u) [true] (fun x => Wq x.1)
abbrev LaK : WF := (182, Cbd) :: JaI
theorem Ka1 : WO LaK := Rb HaY func182
abbrev Jbc : Ja := .pu DN DN [true] (fun x => Sk x.1)
abbrev Eau : WF := (163, Jbc) :: LaK
theorem Ra0 : WO Eau := Rb Ka1 func163
abbrev Qba : Ja := .pu AZ AZ [true] (fun x => JC x.1)
abbrev Sat : WF := (117, Qba) :: Eau
def Mao : La := ⟨25, ⟨[(2, Jh), (3, Sx), (10, EN), (11, Da), (12, Da)], [(2, Dc, (.pr Da (.pr EN .un))), (3, Dc, Sac)]⟩, 0, ⟨[(2, Jh), (3, Sx)], [(2, Dc, (.pr Da (.pr EN .un))), (3, Dc, Sac)]⟩, ⟨[], []⟩, Jt⟩
def Ka6 : WL := [(3, Mao)]
theorem OaO : Na (WG true Eau [] [] []) Ka6 (lp f117 0) := Hb 3 (ls := Mao) rfl
theorem YaY : WO Sat := Id Ra0 func117 (Ga OaO Ia)
abbrev Rba : Ja := .pu (.p KE .u) (.p KE .u) [true] (fun x => KC x.1)
abbrev UaI : WF := (118, Rba) :: Sat
def Nao : La := ⟨19, ⟨[(3, (.own 200001 Hi true)), (6, (.data KE)), (7, Da), (8, Da)], []⟩, 0, ⟨[(3, (.own 200001 Hi true))], []⟩, ⟨[], []⟩, Kt⟩
def La6 : WL := [(3, Nao)]
theorem PaO : Na (WG true Sat [] [] []) La6 (lp f118 0) := Hb 3 (ls := Nao) rfl
theorem ZaY : WO UaI := Id YaY func118 (Ga PaO Ia)
abbrev Tba : Ja := .pu XW XW [true] (fun x => Lm x.1)
abbrev WaI : WF := (120, Tba) :: UaI
theorem BaZ : WO WaI := Rb ZaY func120
abbrev Mbc : Ja := .pu (.p Ic .u) (.p Ic .u) [true] (fun x => Kl x.1)
abbrev BaK : WF := (166, Mbc) :: WaI
theorem Ua0 : WO BaK := Rb BaZ func166
abbrev Ibp : Ja := .pu DZ DZ [true] (fun x => NG x.1)
abbrev Yaw : WF := (91, Ibp) :: BaK
theorem Ybk : WO Yaw := Rb Ua0 func91
abbrev Ibd : Ja := .pu IE Yb [true] (fun x => ZJ x.1)
abbrev OaK : WF := (188, Ibd) :: Yaw
def Wap : La := ⟨27, ⟨[(3, Da), (6, JE), (7, Da), (8, Da), (16, Da)], []⟩, 2, ⟨[(3, Da), (6, JE), (7, Da), (8, Da)], []⟩, ⟨[], []⟩, Nn⟩
def Vap : La := ⟨27, ⟨[(3, Da), (6, JE), (7, Da), (8, Da)], []⟩, 0, ⟨[(3, Da)], []⟩, ⟨[], []⟩, Xx⟩
def OaM : WL := [(7, Wap), (3, Vap)]
theorem YaP : Na (WG true Yaw [] [] []) OaM (lp f188 1) := Hb 7 (ls := Wap) rfl
theorem XaP : Na (WG true Yaw [] [] []) OaM (lp f188 0) := Hb 3 (ls := Vap) rfl
theorem Qa1 : WO OaK := Id Ybk func188 (Ga YaP (Ga XaP Ia))
abbrev Dba : Ja := .pu Xb IE [true] (fun x => Xv x.1 x.2.1)
abbrev Pat : WF := (104, Dba) :: OaK
theorem LaY : WO Pat := Rb Qa1 func104
abbrev Cba : Ja := .pu (.p LS IE) IE [false] (fun x => ON x.1 x.2.1)
abbrev MaI : WF := (103, Cba) :: Pat
def Hao : La := ⟨33, ⟨[(1, JE), (5, Uac), (15, JE), (16, Da), (17, Da)], []⟩, 1, ⟨[(5, Uac)], []⟩, ⟨[], []⟩, LB⟩
def Ha6 : WL := [(7, Hao)]
theorem JaO : Na (WG true Pat [(11999, 1000200001)] [] []) Ha6 (lp f103 0) := Hb 7 (ls := Hao) rfl
theorem KaY : WO MaI := Id LaY func103 (Ga JaO Ia)
abbrev Ybf : Ja := .pu IE Ab [true, true, true] (fun x => MG x.1)
abbrev QaL : WF := (256, Ybf) :: MaI
theorem Ga4 : WO QaL := Rb KaY func256
abbrev Hbd : Ja := .pu (.p Wc (.p Tf .u)) (.p Wc Yb) [true, true] (fun x => Dy x.1 x.2.1)
abbrev Oau : WF := (187, Hbd) :: QaL
theorem Pa1 : WO Oau := Id (L := []) (m := []) (v := [36]) (l := []) Ga4 func187 Ia
abbrev Bba : Ja := .pu (.p Wc IE) (.p Wc (.p Kv .u)) [true, true] (fun x => GC x.1 x.2.1)
abbrev LaI : WF := (102, Bba) :: Oau
def Gao : La := ⟨42, ⟨[(2, Jh), (4, Xm), (6, GB), (19, JE), (20, Da), (21, Da)], [(2, Wc, Zai), (4, Wc, (.pr JE Rx))]⟩, 0, ⟨[(2, Jh), (4, Xm), (6, GB)], [(2, Wc, Zai), (4, Wc, (.pr JE Rx))]⟩, ⟨[], []⟩, Ht⟩
def Ga6 : WL := [(6, Gao)]
theorem IaO : Na (WG true Oau [] [] []) Ga6 (lp f102 0) := Hb 6 (ls := Gao) rfl
theorem JaY : WO LaI := Id Pa1 func102 (Ga IaO Ia)
abbrev Eba : Ja := .pu ZY ZY [true] (fun x => HC x.1)
abbrev MY : WF := (105, Eba) :: LaI
theorem MaY : WO MY := Rb JaY func105
abbrev Rbo : Ja := .pu YW Yb [true] (fun x => XE x.1 x.2.1)
abbrev XaU : WF := (74, Rbo) :: MY
def YaC : La := ⟨83, ⟨[(1, Da), (2, Jh), (5, (.arr 200001 int)), (15, Da), (16, Da)], [(2, Ab, Oq)]⟩, 0, ⟨[(2, Jh), (5, (.arr 200001 int))], [(2, Ab, Oq)]⟩, ⟨[], []⟩, ML⟩
def Nas : La := ⟨83, ⟨[(2, Jh), (5, (.arr 200301 int)), (7, Da), (34, Da), (35, Da), (38, Da), (39, Da), (43, Da), (44, Da)], [(2, Ab, Oq)]⟩, 6, ⟨[(2, Jh), (5, (.arr 200301 int)), (34, Da), (35, Da), (38, Da), (39, Da)], [(2, Ab, Oq)]⟩, ⟨[], []⟩, GI⟩
def Mas : La := ⟨83, ⟨[(2, Jh), (5, (.arr 200201 int)), (34, Da), (35, Da), (38, Da), (39, Da)], [(2, Ab, Oq)]⟩, 4, ⟨[(2, Jh), (5, (.arr 200201 int)), (34, Da), (35, Da)], [(2, Ab, Oq)]⟩, ⟨[], []⟩, FI⟩
def Las : La := ⟨83, ⟨[(2, Jh), (5, (.arr 200101 int)), (34, Da), (35, Da)], [(2, Ab, Oq)]⟩, 2, ⟨[(2, Jh), (5, (.arr 200101 int))], [(2, Ab, Oq)]⟩, ⟨[], []⟩, EI⟩
def Oas : La := ⟨83, ⟨[(2, Jh), (5, (.arr 200401 int)), (9, Da), (67, Da), (68, Da)], [(2, Ab, Oq)]⟩, 8, ⟨[(9, Da)], []⟩, ⟨[], []⟩, HI⟩
def Iai : WL := [(5, YaC), (15, Nas), (12, Mas), (10, Las), (24, Oas)]
theorem AaX : Na (WG true MY [] [] []) Iai (lp f74 0) := Hb 5 (ls := YaC) rfl
theorem PaS : Na (WG true MY [] [] []) Iai (lp f74 3) := Hb 15 (ls := Nas) rfl
theorem OaS : Na (WG true MY [] [] []) Iai (lp f74 2) := Hb 12 (ls := Mas) rfl
theorem NaS : Na (WG true MY [] [] []) Iai (lp f74 1) := Hb 10 (ls := Las) rfl
theorem QaS : Na (WG true MY [] [] []) Iai (lp f74 4) := Hb 24 (ls := Oas) rfl
theorem Hbk : WO XaU := Id MaY func74 (Ga QaS (Ga PaS (Ga OaS (Ga NaS (Ga AaX Ia)))))
abbrev Fbc : Ja := .pu YW Sd [true] (fun x => To x.1 x.2.1)
abbrev XaJ : WF := (159, Fbc) :: XaU
theorem Na0 : WO XaJ := Rb Hbk func159
abbrev Dbf : Ja := .pu (.p Ab Xb) Mv [true, true] (fun x => Wx x.1 x.2.1 x.2.2.1)
abbrev Nav : WF := (235, Dbf) :: XaJ
theorem La3 : WO Nav := Rb Na0 func235
abbrev Gbc : Ja := .pu YW Yb [true] (fun x => KG x.1 x.2.1)
abbrev YaJ : WF := (160, Gbc) :: Nav
def Jap : La := ⟨38, ⟨[(1, Da), (2, Jh), (5, Da), (14, Da), (15, Da)], [(2, Ab, Oq)]⟩, 0, ⟨[(5, Da)], []⟩, ⟨[], []⟩, Rv⟩
def Da7 : WL := [(5, Jap)]
theorem LaP : Na (WG true Nav [] [] []) Da7 (lp f160 0) := Hb 5 (ls := Jap) rfl
theorem Oa0 : WO YaJ := Id La3 func160 (Ga LaP Ia)
abbrev Qbo : Ja := .pu (.p Ab Xb) Mv [true, true] (fun x => Ir x.1 x.2.1 x.2.2.1)
abbrev FaF : WF := (73, Qbo) :: YaJ
theorem Gbk : WO FaF := Rb Oa0 func73
abbrev Sbo : Ja := .pu (.p Nb Yb) (.p Nb Sd) [true, true] (fun x => Gn x.1 x.2.1)
abbrev GaF : WF := (75, Sbo) :: FaF
def ZaC : La := ⟨94, ⟨[(1, Da), (2, Jh), (4, Xm), (6, (.ptr 6 [])), (27, IN), (28, Da), (29, Da)], [(2, Nb, (.data Nb)), (4, Nb, Aaj), (6, Nb, Vax)]⟩, 0, ⟨[(1, Da), (4, Xm), (6, (.ptr 6 []))], [(4, Nb, Aaj), (6, Nb, Vax)]⟩, ⟨[], []⟩, Bp⟩
def Ebm : WL := [(6, ZaC)]
theorem BaX : Na (WG true FaF [] [] []) Ebm (lp f75 0) := Hb 6 (ls := ZaC) rfl
theorem Ibk : WO GaF := Id Gbk func75 (Ga BaX Ia)
abbrev Ubo : Ja := .pu Mc OS [true] (fun x => Sr x.1 x.2.1 x.2.2.1)
abbrev IaF : WF := (77, Ubo) :: GaF
def AaD : La := ⟨31, ⟨[(0, Da), (1, Da), (2, Da), (7, GL), (8, Da)], []⟩, 0, ⟨[(7, GL)], []⟩, ⟨[], []⟩, Vn⟩
def Gbm : WL := [(3, AaD)]
theorem CaX : Na (WG true GaF [] [] []) Gbm (lp f77 0) := Hb 3 (ls := AaD) rfl
theorem Kbk : WO IaF := Id Ibk func77 (Ga CaX Ia)
abbrev Fbf : Ja := .bx false false Pb Xb OS [true] (fun x0 x => Ap x0 x.1 x.2.1)
abbrev FaL : WF := (237, Fbf) :: IaF
def Aar : La := ⟨92, ⟨[(0, FN), (1, Da), (2, Da), (14, Da), (15, Da)], [(500000, Pb, Uax)]⟩, 0, ⟨[(0, FN), (1, Da), (2, Da)], [(500000, Pb, Uax)]⟩, ⟨[(0, FN), (6, GL)], [(500000, Pb, c7_)]⟩, Pq⟩
def Ja8 : WL := [(2, Aar)]
theorem CaR : Na (WG false IaF [] [] []) Ja8 (lp f237 0) := Hb 2 (ls := Aar) rfl
theorem Na3 : WO FaL := A7 Kbk func237 (Ga CaR Ia)
abbrev Abh : Ja := .pu GN Sd [true] (fun x => Cm x.1)
abbrev Law : WF := (285, Abh) :: FaL
theorem Ia5 : WO Law := Rb Na3 func285
abbrev Bbh : Ja := .pu (.p Lv Yb) Sd [true] (fun x => ZI x.1 x.2.1)
abbrev Maw : WF := (286, Bbh) :: Law
def Aas : La := ⟨19, ⟨[(1, Da), (7, Pj), (8, Da), (9, Da)], []⟩, 0, ⟨[], []⟩, ⟨[(4, Ff)], []⟩, ZE⟩
def Ga9 : WL := [(2, Aas)]
theorem CaS : Na (WG true Law [] [] []) Ga9 (lp f286 0) := Hb 2 (ls := Aas) rfl
theorem Ja5 : WO Maw := Id Ia5 func286 (Ga CaS Ia)
abbrev Cbh : Ja := .pu (.p Lv Yb) Mv [true, true] (fun x => Nm x.1 x.2.1)
abbrev Naw : WF := (287, Cbh) :: Maw
def Bas : La := ⟨32, ⟨[(1, Da), (6, Da), (7, Ff), (10, Pj), (11, Da), (12, Da)], []⟩, 0, ⟨[(6, Da), (7, Ff)], []⟩, ⟨[], []⟩, Nt⟩
def Ha9 : WL := [(3, Bas)]
theorem DaS : Na (WG true Maw [] [] []) Ha9 (lp f287 0) := Hb 3 (ls := Bas) rfl
theorem Ka5 : WO Naw := Id Ja5 func287 (Ga DaS Ia)
abbrev Gbf : Ja := .pu (.p Lv (.p int HN)) Mc [true, true, true] (fun x => EC x.1 x.2.1 x.2.2.1 x.2.2.2.1)
abbrev GaL : WF := (238, Gbf) :: Naw
def Oak : La := ⟨146, ⟨[(0, Pj), (1, Da), (3, Da), (11, (.ptr 11 [])), (12, Da), (13, Da), (14, Da), (15, Ff), (69, Ri), (70, Da), (71, Da)], [(11, Ab, Oq)]⟩, 0, ⟨[(0, Pj), (3, Da), (12, Da), (13, Da), (14, Da), (15, Ff)], []⟩, ⟨[(8, Da), (9, Da), (10, Da)], []⟩, Cl⟩
def Ka8 : WL := [(11, Oak)]
theorem XaG : Na (WG true Naw [] [] []) Ka8 (lp f238 0) := Hb 11 (ls := Oak) rfl
theorem Oa3 : WO GaL := Id Ka5 func238 (Ga XaG Ia)
abbrev Lbc : Ja := .bx false false Pb .u (.p S0 Sd) [true, true] (fun x0 x => Wh x0)
abbrev Fau : WF := (165, Lbc) :: GaL
theorem Ta0 : WO Fau := A7 (L := []) (m := []) (v := []) (l := []) Oa3 func165 Ia
abbrev Tbo : Ja := .pu (.p Pb HN) (.p Pb (.p S0 Sd)) [true, true, true] (fun x => Kr x.1 x.2.1 x.2.2.1)
abbrev HaF : WF := (76, Tbo) :: Fau
def Pas : La := ⟨84, ⟨[(6, (.ptr 6 [])), (9, (.ptr 9 [])), (12, GL)], [(6, Pb, (.pr Pj (.pr Da (.pr Ri (.pr Da (.pr Da (.pr Da (.pr Ri .un)))))))), (9, Pb, c7_)]⟩, 0, ⟨[(6, (.ptr 6 [])), (9, (.ptr 9 [])), (12, GL)], [(6, Pb, (.pr Pj (.pr Da (.pr Ri (.pr Da (.pr Da (.pr Da (.pr Ri .un)))))))), (9, Pb, c7_)]⟩, ⟨[], []⟩, Vf⟩
def Fbm : WL := [(10, Pas)]
theorem RaS : Na (WG true Fau [] [] []) Fbm (lp f76 0) := Hb 10 (ls := Pas) rfl
theorem Jbk : WO HaF := Id Ta0 func76 (Ga RaS Ia)
abbrev Cbe : Ja := .pu (.p Gc Yb) Yb [true] (fun x => DR x.1 x.2.1)
abbrev VaK : WF := (208, Cbe) :: HaF
def Maq : La := ⟨21, ⟨[(1, Da), (8, Il), (9, Da), (10, Da)], []⟩, 0, ⟨[], []⟩, ⟨[(4, Da)], []⟩, NE⟩
def Za7 : WL := [(2, Maq)]
theorem OaQ : Na (WG true HaF [] [] []) Za7 (lp f208 0) := Hb 2 (ls := Maq) rfl
theorem Ka2 : WO VaK := Id Jbk func208 (Ga OaQ Ia)
abbrev Qbh : Ja := .io Kv .u .u [] (fun x0 _ => sort_Ints x0)
abbrev Taw : WF := (301, Qbh) :: VaK
end
end KF
namespace Go.Proofs
open Go.Shelf
def Tryz.lays_sort_Ints_ren : Go.Shelf.Ren := ⟨fun | 191 => 301 | 189 => 308 | 125 => 310 | 257 => 309 | 128 => 320 | 129 => 321 | 294 => 311 | 295 => 312 | 296 => 313 | 297 => 314 | 298 => 315 | 299 => 316 | 216 => 317 | 300 => 318 | 301 => 319 | 328 => 322 | 329 => 323 | 330 => 324 | 331 => 325 | 332 => 326 | 215 => 327 | 343 => 328 | n => n, fun | 28 => 25 | 0 => 0 | 3 => 3 | 46 => 235 | 51 => 325 | 53 => 327 | 4 => 4 | 183 => 332 | 182 => 331 | 131 => 127 | 5 => 5 | 9 => 9 | 218 => 338 | 222 => 342 | 228 => 344 | 229 => 283 | n => n, fun | n => n⟩
theorem Tryz.lays_sort_Ints : Go.Proofs.Lays.n191 Tryz.prog Tryz.lays_sort_Ints_ren := {
 mixed := by kernel_rfl
 f125 := Tryz.func310.trans (congrArg some (by kernel_rfl))
 f128 := Tryz.func320.trans (congrArg some (by kernel_rfl))
 f129 := Tryz.func321.trans (congrArg some (by kernel_rfl))
 f189 := Tryz.func308.trans (congrArg some (by kernel_rfl))
 f191 := Tryz.func301.trans (congrArg some (by kernel_rfl))
 f215 := Tryz.func327.trans (congrArg some (by kernel_rfl))
 f216 := Tryz.func317.trans (congrArg some (by kernel_rfl))
 f257 := Tryz.func309.trans (congrArg some (by kernel_rfl))
 f294 := Tryz.func311.trans (congrArg some (by kernel_rfl))
 f295 := Tryz.func312.trans (congrArg some (by kernel_rfl))
 f296 := Tryz.func313.trans (congrArg some (by kernel_rfl))
 f297 := Tryz.func314.trans (congrArg some (by kernel_rfl))
 f298 := Tryz.func315.trans (congrArg some (by kernel_rfl))
 f299 := Tryz.func316.trans (congrArg some (by kernel_rfl))
 f300 := Tryz.func318.trans (congrArg some (by kernel_rfl))
 f301 := Tryz.func319.trans (congrArg some (by kernel_rfl))
 f328 := Tryz.func322.trans (congrArg some (by kernel_rfl))
 f329 := Tryz.func323.trans (congrArg some (by kernel_rfl))
 f330 := Tryz.func324.trans (congrArg some (by kernel_rfl))
 f331 := Tryz.func325.trans (congrArg some (by kernel_rfl))
 f332 := Tryz.func326.trans (congrArg some (by kernel_rfl))
 f343 := Tryz.func328.trans (congrArg some (by kernel_rfl))
 t0 := Tryz.underlying0
 a0 := Tryz.isAgg0
 z0 := Tryz.sizeOf0
 v0 := Tryz.zeroValue0
 t3 := Tryz.underlying3
 a3 := Tryz.isAgg3
 z3 := Tryz.sizeOf3
 v3 := Tryz.zeroValue3
 t4 := Tryz.underlying4
 a4 := Tryz.isAgg4
 z4 := Tryz.sizeOf4
 v4 := Tryz.zeroValue4
 t5 := Tryz.underlying5
 a5 := Tryz.isAgg5
 z5 := Tryz.sizeOf5
 v5 := Tryz.zeroValue5
 t9 := Tryz.underlying9
 a9 := Tryz.isAgg9
 z9 := Tryz.sizeOf9
 v9 := Tryz.zeroValue9
 t28 := Tryz.underlying25
 a28 := Tryz.isAgg25
 z28 := Tryz.sizeOf25
 v28 := Tryz.zeroValue25
 t46 := Tryz.underlying235
 a46 := Tryz.isAgg235
 z46 := Tryz.sizeOf235
 v46 := Tryz.zeroValue235
 t51 := Tryz.underlying325
 a51 := Tryz.isAgg325
 z51 := Tryz.sizeOf325
 v51 := Tryz.zeroValue325
 t53 := Tryz.underlying327
 a53 := Tryz.isAgg327
 z53 := Tryz.sizeOf327
 v53 := Tryz.zeroValue327
 t131 := Tryz.underlying127
 a131 := Tryz.isAgg127
 z131 := Tryz.sizeOf127
 v131 := Tryz.zeroValue127
 t182 := Tryz.underlying331
 a182 := Tryz.isAgg331
 z182 := Tryz.sizeOf331
 v182 := Tryz.zeroValue331
 t183 := Tryz.underlying332
 a183 := Tryz.isAgg332
 z183 := Tryz.sizeOf332
 v183 := Tryz.zeroValue332
 t218 := Tryz.underlying338
 a218 := Tryz.isAgg338
 z218 := Tryz.sizeOf338
 v218 := Tryz.zeroValue338
 t222 := Tryz.underlying342
 a222 := Tryz.isAgg342
 z222 := Tryz.sizeOf342
 v222 := Tryz.zeroValue342
 t228 := Tryz.underlying344
 a228 := Tryz.isAgg344
 z228 := Tryz.sizeOf344
 v228 := Tryz.zeroValue344
 t229 := Tryz.underlying283
 a229 := Tryz.isAgg283
 z229 := Tryz.sizeOf283
 v229 := Tryz.zeroValue283 }
end Go.Proofs
namespace KF
open Go Go.Proofs Go.Proofs.Tryz
noncomputable section
theorem Ya5 : WO Taw := wc Ka2 (Laz Tryz.lays_sort_Ints (by kernel_rfl))
abbrev Rbh : Ja := .pu (.p Kv Yb) Sd [true] (fun x => GR x.1 x.2.1)
abbrev Uaw : WF := (302, Rbh) :: Taw
def Ias : La := ⟨17, ⟨[(1, Da), (7, IN), (8, Da), (9, Da)], []⟩, 0, ⟨[], []⟩, ⟨[(4, Ff)], []⟩, UE⟩
def Oa9 : WL := [(2, Ias)]
theorem KaS : Na (WG true Taw [] [] []) Oa9 (lp f302 0) := Hb 2 (ls := Ias) rfl
theorem Za5 : WO Uaw := Id Ya5 func302 (Ga KaS Ia)
abbrev Pbg : Ja := .pu (.p Kv .u) (.p Kv .u) [true] (fun x => Yv x.1)
abbrev Caw : WF := (274, Pbg) :: Uaw
def Uar : La := ⟨31, ⟨[(4, GB), (11, (.own 200002 int true)), (12, Da), (13, Da)], []⟩, 0, ⟨[(4, GB)], []⟩, ⟨[], []⟩, MB⟩
def Aa9 : WL := [(5, Uar)]
theorem WaR : Na (WG true Uaw [] [] []) Aa9 (lp f274 0) := Hb 5 (ls := Uar) rfl
theorem Xa4 : WO Caw := Id Za5 func274 (Ga WaR Ia)
abbrev Fbe : Ja := .pu NS CZ [true] (fun x => Me x.1)
abbrev Yau : WF := (211, Fbe) :: Caw
def Naq : La := ⟨45, ⟨[(2, Jh), (3, Sx), (4, GB), (11, Il), (12, Da), (13, Da)], [(2, Hc, LE), (3, Hc, LE)]⟩, 0, ⟨[(2, Jh), (3, Sx), (4, GB)], [(2, Hc, LE), (3, Hc, LE)]⟩, ⟨[], []⟩, Ey⟩
def Aa8 : WL := [(6, Naq)]
theorem PaQ : Na (WG true Caw [] [] []) Aa8 (lp f211 0) := Hb 6 (ls := Naq) rfl
theorem Na2 : WO Yau := Id Xa4 func211 (Ga PaQ Ia)
abbrev Pbh : Ja := .pu (.p Kv (.p Kv .u)) Sd [true] (fun x => CK x.1 x.2.1)
abbrev IaM : WF := (300, Pbh) :: Yau
def Has : La := ⟨26, ⟨[(0, IN), (1, IN), (12, Da), (13, Da)], []⟩, 0, ⟨[], []⟩, ⟨[(4, Ff)], []⟩, Ky⟩
def Na9 : WL := [(4, Has)]
theorem JaS : Na (WG true Yau [] [] []) Na9 (lp f300 0) := Hb 4 (ls := Has) rfl
theorem Xa5 : WO IaM := Id Na2 func300 (Ga JaS Ia)
abbrev LaN : Ja := .pu (.p Hc CZ) Sd [true] (fun x => Rr x.1 x.2.1)
abbrev AaM : WF := (273, LaN) :: IaM
theorem IaI : WO AaM := Rb Xa5 func273
abbrev Ebe : Ja := .co (.p Hc YY) YY [true] (fun x => Kf x.1 x.2.1)
abbrev XaK : WF := (210, Ebe) :: AaM
def GTo : List (Nat × Ty) := [(3, int), (27, (.sl WW)), (121, WW)]
theorem NaV : ((GTo.all fun x => Lf Tryz.prog x.2 x.1) && (([] : List (Nat × Ty × Nat)).all fun x => L7 Tryz.prog x.1 x.2.1 x.2.2)) = true := by kernel_rfl
@[reducible] def ZaF (c : T Cf → T Cf → Option Bool) : Ja := .pu (.p WW (.p (.sl WW) .u)) (.p (.sl WW) .u) [true] (fun x => Xax c x.1 x.2.1)
def AaB (c : T Cf → T Cf → Option Bool) : Ng := ⟨GTo, [(273, Yad c)], [], true, [], [], []⟩
theorem YaF (I : Vi) (c : T Cf → T Cf → Option Bool) (h : Ck Tryz.prog I 273 (Yad c)) : Zk Tryz.prog I (AaB c) := Zk.cons h (Wae NaV)
def Sae (c : T Cf → T Cf → Option Bool) : La := ⟨25, ⟨[(2, Jh), (5, (.own 200001 WW true)), (8, (.data (.sl WW))), (9, Da), (10, Da)], [(2, WW, (.data WW))]⟩, 0, ⟨[(5, (.own 200001 WW true))], []⟩, ⟨[], []⟩, XA c⟩
def BaB (c : T Cf → T Cf → Option Bool) : List (Nat × La) := [(3, Sae c)]
theorem Yax (c : T Cf → T Cf → Option Bool) : Na (AaB c) (BaB c) (lp Tryz.f210 0) := Daf (r := 3) (ls := Sae c) (R := fun x => AQ c x.1.1 x.1.2.1 x.1.2.2.1 x.1.2.2.2.1 x.1.2.2.2.2.1 x.2.1) (by kernel_rfl) (by kernel_rfl) rfl (fun x => by kernel_rfl)
theorem AaG (I : Vi) (c : T Cf → T Cf → Option Bool) (h : Ck Tryz.prog I 273 (Yad c)) : Ck Tryz.prog I 210 (ZaF c) := N3 (L := BaB c) (k := 1) (YaF I c h) Oae Tryz.func210 (by kernel_rfl) (Ga (Yax c) Ia) (fun x => by kernel_rfl)
theorem Ma2 : WO XaK := wc IaI (XaD (f2 := 273) (SR := fun x => Rr x.1 x.2.1) (same := Dl) XaH (DaY (s := LaN) IaI (by kernel_rfl)) (fun I c h => ⟨_, AaG I c h, TaN c⟩))
abbrev Uba : Ja := .pu (.p Gc Yb) (.p Gc YY) [true, true] (fun x => YE x.1 x.2.1)
abbrev Tat : WF := (122, Uba) :: XaK
theorem CaZ : WO Tat := Rb Ma2 func122
abbrev Ibf : Ja := .pu (.p int NS) Yb [true] (fun x => FA x.1 x.2.1)
abbrev Pav : WF := (240, Ibf) :: Tat
def Car : La := ⟨39, ⟨[(5, Da), (21, Il), (22, Da), (23, Da)], []⟩, 0, ⟨[(5, Da)], []⟩, ⟨[], []⟩, Lk⟩
def Ma8 : WL := [(7, Car)]
theorem EaR : Na (WG true Tat [] [] []) Ma8 (lp f240 0) := Hb 7 (ls := Car) rfl
theorem Qa3 : WO Pav := Id CaZ func240 (Ga EaR Ia)
abbrev Kbg : Ja := .pu (.p Dc Xb) Yb [true] (fun x => VE x.1 x.2.1 x.2.2.1)
abbrev WaL : WF := (268, Kbg) :: Pav
def Sar : La := ⟨33, ⟨[(1, Da), (2, Da), (3, Sx), (7, Da)], [(3, Dc, ZW)]⟩, 0, ⟨[], []⟩, ⟨[(6, Da)], []⟩, Zi⟩
def Ya8 : WL := [(2, Sar)]
theorem UaR : Na (WG true Pav [] [] []) Ya8 (lp f268 0) := Hb 2 (ls := Sar) rfl
theorem Sa4 : WO WaL := Id Qa3 func268 (Ga UaR Ia)
abbrev Dbh : Ja := .pu (.p Dc Xb) Yb [true] (fun x => LU x.1 x.2.1 x.2.2.1)
abbrev BaM : WF := (288, Dbh) :: WaL
theorem La5 : WO BaM := Rb Sa4 func288
abbrev Kbf : Ja := .pu (.p Dc Xb) Ln [true] (fun x => YJ x.1 x.2.1 x.2.2.1)
abbrev IaL : WF := (242, Kbf) :: BaM
theorem Sa3 : WO IaL := Rb La5 func242
abbrev Jbf : Ja := .pu Ln Sd [true] (fun x => Uo x.1)
abbrev Qav : WF := (241, Jbf) :: IaL
theorem Ra3 : WO Qav := Rb Sa3 func241
abbrev Lbf : Ja := .pu (.p Mc (.p int (.p int HN))) Xb [true, true] (fun x => Zz x.1 x.2.1 x.2.2.1 x.2.2.2.1 x.2.2.2.2.1)
abbrev JaL : WF := (243, Lbf) :: Qav
def Dar : La := ⟨102, ⟨[(1, Da), (2, Da), (4, Da), (5, ZH), (12, Da), (26, Ri), (27, Da), (28, Da)], [(5, Mc, Rx)]⟩, 0, ⟨[(2, Da), (4, Da), (5, ZH)], [(5, Mc, Rx)]⟩, ⟨[(10, Da), (11, Da)], []⟩, Yx⟩
def Na8 : WL := [(5, Dar)]
theorem FaR : Na (WG true Qav [] [] []) Na8 (lp f243 0) := Hb 5 (ls := Dar) rfl
theorem Ta3 : WO JaL := Id Ra3 func243 (Ga FaR Ia)
abbrev Lbg : Ja := .pu Ln Ln [true] (fun x => ER x.1)
abbrev XaL : WF := (269, Lbg) :: JaL
theorem Ta4 : WO XaL := Rb Ta3 func269
abbrev Mbg : Ja := .pu Ln Ln [true] (fun x => IT x.1)
abbrev YaL : WF := (270, Mbg) :: XaL
theorem Ua4 : WO YaL := Rb Ta4 func270
abbrev Nbh : Ja := .pu Yb Sd [true] (fun x => DC x.1)
abbrev HaM : WF := (298, Nbh) :: YaL
theorem Va5 : WO HaM := Rb Ua4 func298
abbrev Nbg : Ja := .bx false false Gc Ln Ln [true] (fun x0 x => Mt x0 x.1)
abbrev Baw : WF := (271, Nbg) :: HaM
theorem Va4 : WO Baw := A7 (L := []) (m := []) (v := []) (l := []) Va5 func271 Ia
abbrev Obh : Ja := .pu (.p Hc (.p Lv .u)) CZ [true] (fun x => Zf x.1 x.2.1)
abbrev Saw : WF := (299, Obh) :: Baw
def Gas : La := ⟨37, ⟨[(4, Xm), (5, ZH), (6, GB), (15, Pj), (16, Da), (17, Da)], [(4, Hc, LE), (5, Hc, LE)]⟩, 0, ⟨[(4, Xm), (5, ZH), (6, GB)], [(4, Hc, LE), (5, Hc, LE)]⟩, ⟨[], []⟩, Dw⟩
def Ma9 : WL := [(4, Gas)]
theorem IaS : Na (WG true Baw [] [] []) Ma9 (lp f299 0) := Hb 4 (ls := Gas) rfl
theorem Wa5 : WO Saw := Id Va4 func299 (Ga IaS Ia)
abbrev Obg : Ja := .pu (.p YP (.p Hi .u)) YY [true] (fun x => Rk x.1 x.2.1)
abbrev ZaL : WF := (272, Obg) :: Saw
def Tar : La := ⟨74, ⟨[(5, ZH), (6, Tac), (7, (.own 200002 Xb true)), (22, (.data Hi)), (23, Da), (24, Da)], [(5, Hc, (.pr Da (.pr (.own 200003 int true) .un)))]⟩, 0, ⟨[(6, Tac)], []⟩, ⟨[], []⟩, Gp⟩
def Za8 : WL := [(7, Tar)]
theorem VaR : Na (WG true Saw [] [] []) Za8 (lp f272 0) := Hb 7 (ls := Tar) rfl
theorem Wa4 : WO ZaL := Id Wa5 func272 (Ga VaR Ia)
abbrev Dbe : Ja := .pu (.p Gc Mv) (.p Gc YY) [true, true] (fun x => Mi x.1 x.2.1 x.2.2.1)
abbrev WaK : WF := (209, Dbe) :: ZaL
theorem La2 : WO WaK := Rb Wa4 func209
abbrev Nbc : Ja := .bx false false Ic .u (.p (.sl Hc) Sd) [true, true] (fun x0 x => Ki x0)
abbrev Gau : WF := (167, Nbc) :: WaK
theorem Va0 : WO Gau := A7 (L := []) (m := []) (v := []) (l := []) La2 func167 Ia
abbrev Obc : Ja := .co (.p HB (.p int YY)) (.p HB .u) [true] (fun x => WR x.1 x.2.1 x.2.2.1)
abbrev Hau : WF := (168, Obc) :: Gau
def Lap : La := ⟨23, ⟨[(0, XP), (1, Da), (9, (.mov 200002 Hc)), (10, Da), (11, Da)], []⟩, 0, ⟨[(0, XP)], []⟩, ⟨[], []⟩, NL⟩
def Fa7 : WL := [(2, Lap)]
theorem NaP : Na (WG false Gau [] [] [14]) Fa7 (lp f168 0) := Hb 2 (ls := Lap) rfl
theorem Wa0 : WO Hau := wco Va0 func168 (Ga NaP Ia)
abbrev Vbo : Ja := .pu (.p Ic HN) (.p Ic (.p HB Sd)) [true, true, true] (fun x => FC x.1 x.2.1 x.2.2.1)
abbrev YaU : WF := (78, Vbo) :: Hau
def BaD : La := ⟨86, ⟨[(6, (.ptr 6 [])), (9, (.ptr 9 [])), (10, XP)], [(6, Ic, (.pr c8_ (.pr Rx (.pr Ri (.data Ub))))), (9, Ic, c4_)]⟩, 0, ⟨[(6, (.ptr 6 [])), (9, (.ptr 9 [])), (10, XP)], [(6, Ic, (.pr c8_ (.pr Rx (.pr Ri (.data Ub))))), (9, Ic, c4_)]⟩, ⟨[], []⟩, Vg⟩
def Hbm : WL := [(9, BaD)]
theorem DaX : Na (WG true Hau [] [] []) Hbm (lp f78 0) := Hb 9 (ls := BaD) rfl
theorem Lbk : WO YaU := Id Wa0 func78 (Ga DaX Ia)
abbrev Ybm : Ja := .pu (.p Md Yb) (.p Md (.p HB Sd)) [true, true, true] (fun x => Jl x.1 x.2.1)
abbrev XaT : WF := (23, Ybm) :: YaU
theorem Nbi : WO XaT := Rb Lbk func23
abbrev Jbn : Ja := .pu (.p Bd (.p int (.p int IE))) (.p Bd (.p HB Sd)) [true, true, true] (fun x => Jk x.1 x.2.1 x.2.2.1 x.2.2.2.1)
abbrev VaE : WF := (36, Jbn) :: XaT
theorem Ybi : WO VaE := Rb Nbi func36
abbrev Sbn : Ja := .pu WaF (.p Bd (.p HB Sd)) [true, true, true] (fun x => So x.1 x.2.1 x.2.2.1 x.2.2.2.1)
abbrev GaU : WF := (45, Sbn) :: VaE
def NaC : La := ⟨86, ⟨[(1, IN), (2, IN), (3, (.data ZP)), (8, (.ptr 8 [])), (11, (.ptr 11 [])), (12, XP), (49, Da), (50, Da)], [(8, Bd, c1_), (11, Bd, c2_)]⟩, 0, ⟨[(8, (.ptr 8 [])), (11, (.ptr 11 [])), (12, XP)], [(8, Bd, c1_), (11, Bd, c2_)]⟩, ⟨[(8, (.ptr 8 [])), (9, XP), (10, Ff)], [(8, Bd, c1_)]⟩, Sv⟩
def Ubl : WL := [(7, NaC)]
theorem PaW : Na (WG true VaE [] [] []) Ubl (lp f45 0) := Hb 7 (ls := NaC) rfl
theorem Hbj : WO GaU := Id Ybi func45 (Ga PaW Ia)
abbrev Wbo : Ja := .pu Waz Sd [true] (fun x => IK x.1 x.2.1)
abbrev JaF : WF := (79, Wbo) :: GaU
theorem Mbk : WO JaF := Rb Hbj func79
abbrev Sbm : Ja := .pu (.p Kv (.p Kv .u)) Sd [true] (fun x => Ot x.1 x.2.1)
abbrev TaT : WF := (15, Sbm) :: JaF
def BaC : La := ⟨26, ⟨[(0, IN), (1, IN), (5, Da)], []⟩, 0, ⟨[], []⟩, ⟨[(4, Ff)], []⟩, CF⟩
def Ibl : WL := [(4, BaC)]
theorem DaW : Na (WG true JaF [] [] []) Ibl (lp f15 0) := Hb 4 (ls := BaC) rfl
theorem Hbi : WO TaT := Id Mbk func15 (Ga DaW Ia)
abbrev Xbo : Ja := .pu (.p Nb (.p Nb .u)) Sd [true] (fun x => Oy x.1 x.2.1)
abbrev ZaU : WF := (80, Xbo) :: TaT
theorem Nbk : WO ZaU := Rb Hbi func80
abbrev Mbf : Ja := .pu (.p Xb (.p Xb .u)) Sd [true] (fun x => AF x.1 x.2.1)
abbrev Rav : WF := (244, Mbf) :: ZaU
theorem Ua3 : WO Rav := Rb Nbk func244
abbrev Pbc : Ja := .pu (.p Lv (.p Lv .u)) Sd [true] (fun x => FK x.1 x.2.1)
abbrev CaK : WF := (169, Pbc) :: Rav
def Map : La := ⟨27, ⟨[(0, Pj), (1, Pj), (5, Da)], []⟩, 0, ⟨[], []⟩, ⟨[(4, Ff)], []⟩, SN⟩
def Ga7 : WL := [(4, Map)]
theorem OaP : Na (WG true Rav [] [] []) Ga7 (lp f169 0) := Hb 4 (ls := Map) rfl
theorem Xa0 : WO CaK := Id Ua3 func169 (Ga OaP Ia)
abbrev Nbf : Ja := .pu Waz Sd [true] (fun x => BF x.1 x.2.1)
abbrev Sav : WF := (245, Nbf) :: CaK
theorem Va3 : WO Sav := Rb Xa0 func245
abbrev Qbc : Ja := .pu (.p S0 OS) Sd [true] (fun x => IA x.1 x.2.1)
abbrev DaK : WF := (170, Qbc) :: Sav
def Nap : La := ⟨27, ⟨[(0, Ri), (1, Ri), (5, Da)], []⟩, 0, ⟨[], []⟩, ⟨[(4, Ff)], []⟩, TN⟩
def Ha7 : WL := [(4, Nap)]
theorem PaP : Na (WG true Sav [] [] []) Ha7 (lp f170 0) := Hb 4 (ls := Nap) rfl
theorem Ya0 : WO DaK := Id Va3 func170 (Ga PaP Ia)
abbrev Obf : Ja := .pu Waz Sd [true] (fun x => HA x.1 x.2.1)
abbrev Tav : WF := (246, Obf) :: DaK
theorem Wa3 : WO Tav := Rb Ya0 func246
abbrev Rbc : Ja := .pu (.p S0 OS) Sd [true] (fun x => TG x.1 x.2.1)
abbrev EaK : WF := (171, Rbc) :: Tav
def Oap : La := ⟨27, ⟨[(0, Ri), (1, Ri), (5, Da)], []⟩, 0, ⟨[], []⟩, ⟨[(4, Ff)], []⟩, EM⟩
def Ia7 : WL := [(4, Oap)]
theorem QaP : Na (WG true Tav [] [] []) Ia7 (lp f171 0) := Hb 4 (ls := Oap) rfl
theorem Za0 : WO EaK := Id Wa3 func171 (Ga QaP Ia)
abbrev Ybo : Ja := .pu (.p Pb DN) Sd [true] (fun x => QC x.1 x.2.1)
abbrev AaV : WF := (81, Ybo) :: EaK
theorem Obk : WO AaV := Rb Za0 func81
abbrev Gbe : Ja := .pu (.p Ub Ln) Sd [true] (fun x => Xq x.1 x.2.1)
abbrev Zau : WF := (212, Gbe) :: AaV
theorem Oa2 : WO Zau := Rb Obk func212
abbrev Vba : Ja := .pu (.p Ek (.p Ek .u)) Sd [true] (fun x => Fw x.1 x.2.1)
abbrev Uat : WF := (123, Vba) :: Zau
def Pao : La := ⟨27, ⟨[(0, (.data Ek)), (1, (.data Ek)), (5, Da)], []⟩, 0, ⟨[], []⟩, ⟨[(4, Ff)], []⟩, DM⟩
def Ma6 : WL := [(4, Pao)]
theorem RaO : Na (WG true Zau [] [] []) Ma6 (lp f123 0) := Hb 4 (ls := Pao) rfl
theorem DaZ : WO Uat := Id Oa2 func123 (Ga RaO Ia)
abbrev Ybn : Ja := .pu (.p (.sl Ek) (.p (.sl Ek) .u)) Sd [true] (fun x => PC x.1 x.2.1)
abbrev KaU : WF := (55, Ybn) :: Uat
def SaC : La := ⟨27, ⟨[(0, EN), (1, EN), (5, Da)], []⟩, 0, ⟨[], []⟩, ⟨[(4, Ff)], []⟩, AJ⟩
def Zbl : WL := [(4, SaC)]
theorem UaW : Na (WG true Uat [] [] []) Zbl (lp f55 0) := Hb 4 (ls := SaC) rfl
theorem Nbj : WO KaU := Id DaZ func55 (Ga UaW Ia)
abbrev Rbm : Ja := .pu (.p Dc AZ) Sd [true] (fun x => HK x.1 x.2.1)
abbrev SaT : WF := (14, Rbm) :: KaU
theorem Gbi : WO SaT := Rb Nbj func14
abbrev Vbh : Ja := .pu (.p Mc AX) Sd [true] (fun x => DJ x.1 x.2.1)
abbrev Waw : WF := (306, Vbh) :: SaT
theorem Da6 : WO Waw := Rb Gbi func306
abbrev Ebh : Ja := .pu (.p Hi (.p Hi .u)) Sd [true] (fun x => DF x.1 x.2.1)
abbrev Oaw : WF := (289, Ebh) :: Waw
def Cas : La := ⟨27, ⟨[(0, (.data Hi)), (1, (.data Hi)), (5, Da)], []⟩, 0, ⟨[], []⟩, ⟨[(4, Ff)], []⟩, KP⟩
def Ia9 : WL := [(4, Cas)]
theorem EaS : Na (WG true Waw [] [] []) Ia9 (lp f289 0) := Hb 4 (ls := Cas) rfl
theorem Ma5 : WO Oaw := Id Da6 func289 (Ga EaS Ia)
abbrev Pbf : Ja := .pu (.p KE (.p KE .u)) Sd [true] (fun x => KK x.1 x.2.1)
abbrev KaL : WF := (247, Pbf) :: Oaw
def Ear : La := ⟨27, ⟨[(0, (.data KE)), (1, (.data KE)), (5, Da)], []⟩, 0, ⟨[], []⟩, ⟨[(4, Ff)], []⟩, VN⟩
def Oa8 : WL := [(4, Ear)]
theorem GaR : Na (WG true Oaw [] [] []) Oa8 (lp f247 0) := Hb 4 (ls := Ear) rfl
theorem Xa3 : WO KaL := Id Ma5 func247 (Ga GaR Ia)
abbrev Fbh : Ja := .pu (.p Jf (.p Jf .u)) Sd [true] (fun x => BJ x.1 x.2.1)
abbrev Paw : WF := (290, Fbh) :: KaL
theorem Na5 : WO Paw := Rb Xa3 func290
abbrev Qbf : Ja := .pu (.p YP NS) Sd [true] (fun x => UN x.1 x.2.1)
abbrev LaL : WF := (248, Qbf) :: Paw
def Far : La := ⟨27, ⟨[(0, Il), (1, Il), (5, Da)], []⟩, 0, ⟨[], []⟩, ⟨[(4, Ff)], []⟩, IP⟩
def Pa8 : WL := [(4, Far)]
theorem HaR : Na (WG true Paw [] [] []) Pa8 (lp f248 0) := Hb 4 (ls := Far) rfl
theorem Ya3 : WO LaL := Id Na5 func248 (Ga HaR Ia)
abbrev Sbc : Ja := .pu (.p Gc XW) Sd [true] (fun x => GK x.1 x.2.1)
abbrev FaK : WF := (172, Sbc) :: LaL
theorem Aa1 : WO FaK := Rb Ya3 func172
abbrev Tbc : Ja := .pu (.p Mc AX) Sd [true] (fun x => LK x.1 x.2.1)
abbrev GaK : WF := (173, Tbc) :: FaK
theorem Ba1 : WO GaK := Rb Aa1 func173
abbrev Zbo : Ja := .pu (.p Ic (.p Ic .u)) Sd [true] (fun x => UG x.1 x.2.1)
abbrev BaV : WF := (82, Zbo) :: GaK
theorem Pbk : WO BaV := Rb Ba1 func82
abbrev Zbm : Ja := .pu (.p Md DZ) Sd [true] (fun x => QN x.1 x.2.1)
abbrev NaE : WF := (24, Zbm) :: BaV
theorem Obi : WO NaE := Rb Pbk func24
abbrev Lbn : Ja := .pu (.p LS IE) Sd [true] (fun x => Gw x.1 x.2.1)
abbrev BaU : WF := (38, Lbn) :: NaE
def IaC : La := ⟨26, ⟨[(0, JE), (1, JE), (5, Da)], []⟩, 0, ⟨[], []⟩, ⟨[(4, Ff)], []⟩, OB⟩
def Pbl : WL := [(4, IaC)]
theorem KaW : Na (WG true NaE [] [] []) Pbl (lp f38 0) := Hb 4 (ls := IaC) rfl
theorem Abj : WO BaU := Id Obi func38 (Ga KaW Ia)
abbrev Fba : Ja := .pu (.p Wc ZY) Sd [true] (fun x => SC x.1 x.2.1)
abbrev NaI : WF := (106, Fba) :: BaU
theorem NaY : WO NaI := Rb Abj func106
abbrev Kbn : Ja := .pu (.p Bd BZ) Sd [true] (fun x => An x.1 x.2.1)
abbrev AaU : WF := (37, Kbn) :: NaI
theorem Zbi : WO AaU := Rb NaY func37
abbrev Xbn : Ja := .pu (.p Hc CZ) Sd [true] (fun x => JK x.1 x.2.1)
abbrev JaU : WF := (54, Xbn) :: AaU
theorem Mbj : WO JaU := Rb Zbi func54
abbrev Abp : Ja := .pu (.p Oi (.p Oi .u)) Sd [true] (fun x => CJ x.1 x.2.1)
abbrev KaF : WF := (83, Abp) :: JaU
theorem Qbk : WO KaF := Rb Mbj func83
abbrev Abn : Ja := .pu (.p HB (.p HB .u)) Sd [true] (fun x => Hw x.1 x.2.1)
abbrev OaE : WF := (25, Abn) :: KaF
def EaC : La := ⟨27, ⟨[(0, (.data HB)), (1, (.data HB)), (5, Da)], []⟩, 0, ⟨[], []⟩, ⟨[(4, Ff)], []⟩, JP⟩
def Lbl : WL := [(4, EaC)]
theorem GaW : Na (WG true KaF [] [] []) Lbl (lp f25 0) := Hb 4 (ls := EaC) rfl
theorem Pbi : WO OaE := Id Qbk func25 (Ga GaW Ia)
abbrev Tbn : Ja := .pu (.p ZP (.p ZP .u)) Sd [true] (fun x => EK x.1 x.2.1)
abbrev YaE : WF := (46, Tbn) :: OaE
def OaC : La := ⟨27, ⟨[(0, (.data ZP)), (1, (.data ZP)), (5, Da)], []⟩, 0, ⟨[], []⟩, ⟨[(4, Ff)], []⟩, RN⟩
def Vbl : WL := [(4, OaC)]
theorem QaW : Na (WG true OaE [] [] []) Vbl (lp f46 0) := Hb 4 (ls := OaC) rfl
theorem Ibj : WO YaE := Id Pbi func46 (Ga QaW Ia)
abbrev Ubm : Ja := .io Kv Yb Yb [true] (fun x0 x => Yq x0 x.1)
abbrev UaT : WF := (17, Ubm) :: YaE
def CaC : La := ⟨19, ⟨[(0, (.own 500000 int true)), (1, Da), (5, Da)], []⟩, 0, ⟨[(0, (.own 500000 int true)), (1, Da)], []⟩, ⟨[], []⟩, BO⟩
def Jbl : WL := [(2, CaC)]
theorem EaW : Na (WG false YaE [] [] []) Jbl (lp f17 0) := Hb 2 (ls := CaC) rfl
theorem Jbi : WO UaT := TM Ibj func17 (Ga EaW Ia)
abbrev Bbp : Ja := .io Nb Yb Yb [true] (fun x0 x => Ds x0 x.1)
abbrev LaF : WF := (84, Bbp) :: UaT
theorem Rbk : WO LaF := TM (L := []) (m := []) (v := []) (l := []) Jbi func84 Ia
abbrev Ubc : Ja := .io Lv Yb Yb [true] (fun x0 x => AO x0 x.1)
abbrev Iau : WF := (174, Ubc) :: LaF
def Pap : La := ⟨27, ⟨[(0, (.own 500000 Xb true)), (1, Da), (5, Da)], []⟩, 0, ⟨[(0, (.own 500000 Xb true)), (1, Da)], []⟩, ⟨[], []⟩, IJ⟩
def Ja7 : WL := [(2, Pap)]
theorem RaP : Na (WG false LaF [] [] []) Ja7 (lp f174 0) := Hb 2 (ls := Pap) rfl
theorem Ca1 : WO Iau := TM Rbk func174 (Ga RaP Ia)
abbrev Vbc : Ja := .io S0 Yb Yb [true] (fun x0 x => XC x0 x.1)
abbrev Jau : WF := (175, Vbc) :: Iau
def Qap : La := ⟨36, ⟨[(0, (.own 500000 Ab true)), (1, Da), (5, Da)], []⟩, 0, ⟨[(0, (.own 500000 Ab true)), (1, Da)], []⟩, ⟨[], []⟩, JJ⟩
def Ka7 : WL := [(2, Qap)]
theorem SaP : Na (WG false Iau [] [] []) Ka7 (lp f175 0) := Hb 2 (ls := Qap) rfl
theorem Da1 : WO Jau := TM Ca1 func175 (Ga SaP Ia)
abbrev Wbc : Ja := .io S0 Yb Yb [true] (fun x0 x => SL x0 x.1)
abbrev HaK : WF := (176, Wbc) :: Jau
def Rap : La := ⟨36, ⟨[(0, (.own 500000 Ab true)), (1, Da), (5, Da)], []⟩, 0, ⟨[(0, (.own 500000 Ab true)), (1, Da)], []⟩, ⟨[], []⟩, YH⟩
def La7 : WL := [(2, Rap)]
theorem TaP : Na (WG false Jau [] [] []) La7 (lp f176 0) := Hb 2 (ls := Rap) rfl
theorem Ea1 : WO HaK := TM Da1 func176 (Ga TaP Ia)
abbrev Cbp : Ja := .io Pb Yb Yb [true] (fun x0 x => Ru x0 x.1)
abbrev MaF : WF := (85, Cbp) :: HaK
theorem Sbk : WO MaF := TM (L := []) (m := []) (v := []) (l := []) Ea1 func85 Ia
abbrev Wba : Ja := .io Ek Yb Yb [true] (fun x0 x => RL x0 x.1)
abbrev Vat : WF := (124, Wba) :: MaF
def Qao : La := ⟨41, ⟨[(0, (.own 500000 Ub true)), (1, Da), (5, Da)], []⟩, 0, ⟨[(0, (.own 500000 Ub true)), (1, Da)], []⟩, ⟨[], []⟩, XH⟩
def Na6 : WL := [(2, Qao)]
theorem SaO : Na (WG false MaF [] [] []) Na6 (lp f124 0) := Hb 2 (ls := Qao) rfl
theorem EaZ : WO Vat := TM Sbk func124 (Ga SaO Ia)
abbrev Zbn : Ja := .io (.sl Ek) Yb Yb [true] (fun x0 x => KI x0 x.1)
abbrev LaU : WF := (56, Zbn) :: Vat
def TaC : La := ⟨19, ⟨[(0, (.own 500000 Ek true)), (1, Da), (5, Da)], []⟩, 0, ⟨[(0, (.own 500000 Ek true)), (1, Da)], []⟩, ⟨[], []⟩, FF⟩
def Abm : WL := [(2, TaC)]
theorem VaW : Na (WG false Vat [(3999, 500000)] [] []) Abm (lp f56 0) := Hb 2 (ls := TaC) rfl
theorem Pbj : WO LaU := TM EaZ func56 (Ga VaW Ia)
abbrev Tbm : Ja := .io Dc Yb Yb [true] (fun x0 x => YC x0 x.1)
abbrev LaE : WF := (16, Tbm) :: LaU
theorem Ibi : WO LaE := TM (L := []) (m := []) (v := []) (l := []) Pbj func16 Ia
abbrev Gbh : Ja := .io Hi Yb Yb [true] (fun x0 x => LQ x0 x.1)
abbrev Qaw : WF := (291, Gbh) :: LaE
def Das : La := ⟨34, ⟨[(0, (.own 500000 Mc true)), (1, Da), (5, Da)], []⟩, 0, ⟨[(0, (.own 500000 Mc true)), (1, Da)], []⟩, ⟨[], []⟩, NM⟩
def Ja9 : WL := [(2, Das)]
theorem FaS : Na (WG false LaE [] [] []) Ja9 (lp f291 0) := Hb 2 (ls := Das) rfl
theorem Oa5 : WO Qaw := TM Ibi func291 (Ga FaS Ia)
abbrev Rbf : Ja := .io KE Yb Yb [true] (fun x0 x => CO x0 x.1)
abbrev Uav : WF := (249, Rbf) :: Qaw
def Gar : La := ⟨19, ⟨[(0, (.own 500000 Hi true)), (1, Da), (5, Da)], []⟩, 0, ⟨[(0, (.own 500000 Hi true)), (1, Da)], []⟩, ⟨[], []⟩, KJ⟩
def Qa8 : WL := [(2, Gar)]
theorem IaR : Na (WG false Qaw [(3999, 500000)] [] []) Qa8 (lp f249 0) := Hb 2 (ls := Gar) rfl
theorem Za3 : WO Uav := TM Oa5 func249 (Ga IaR Ia)
abbrev Sbf : Ja := .io YP Yb Yb [true] (fun x0 x => JQ x0 x.1)
abbrev MaL : WF := (250, Sbf) :: Uav
def Har : La := ⟨52, ⟨[(0, (.own 500000 Jf true)), (1, Da), (5, Da)], []⟩, 0, ⟨[(0, (.own 500000 Jf true)), (1, Da)], []⟩, ⟨[], []⟩, LM⟩
def Ra8 : WL := [(2, Har)]
theorem JaR : Na (WG false Uav [] [] []) Ra8 (lp f250 0) := Hb 2 (ls := Har) rfl
theorem Aa4 : WO MaL := TM Za3 func250 (Ga JaR Ia)
abbrev Xbc : Ja := .io Gc Yb Yb [true] (fun x0 x => WC x0 x.1)
abbrev IaK : WF := (177, Xbc) :: MaL
theorem Fa1 : WO IaK := TM (L := []) (m := []) (v := []) (l := []) Aa4 func177 Ia
abbrev Dbp : Ja := .io Ic Yb Yb [true] (fun x0 x => Qy x0 x.1)
abbrev CaV : WF := (86, Dbp) :: IaK
theorem Tbk : WO CaV := TM (L := []) (m := []) (v := []) (l := []) Fa1 func86 Ia
abbrev Bbn : Ja := .io Md Yb Yb [true] (fun x0 x => ZG x0 x.1)
abbrev PaE : WF := (26, Bbn) :: CaV
theorem Qbi : WO PaE := TM (L := []) (m := []) (v := []) (l := []) Tbk func26 Ia
abbrev Nbn : Ja := .io LS Yb Yb [true] (fun x0 x => AH x0 x.1)
abbrev CaU : WF := (40, Nbn) :: PaE
def JaC : La := ⟨20, ⟨[(0, (.own 500000 Tf true)), (1, Da), (5, Da)], []⟩, 0, ⟨[(0, (.own 500000 Tf true)), (1, Da)], []⟩, ⟨[], []⟩, KM⟩
def Qbl : WL := [(2, JaC)]
theorem LaW : Na (WG false PaE [] [] []) Qbl (lp f40 0) := Hb 2 (ls := JaC) rfl
theorem Cbj : WO CaU := TM Qbi func40 (Ga LaW Ia)
abbrev Gba : Ja := .io Wc Yb Yb [true] (fun x0 x => Tu x0 x.1)
abbrev OaI : WF := (107, Gba) :: CaU
theorem OaY : WO OaI := TM (L := []) (m := []) (v := []) (l := []) Cbj func107 Ia
abbrev Mbn : Ja := .io Bd Yb Yb [true] (fun x0 x => Es x0 x.1)
abbrev WaE : WF := (39, Mbn) :: OaI
theorem Bbj : WO WaE := TM (L := []) (m := []) (v := []) (l := []) OaY func39 Ia
abbrev Ubn : Ja := .io ZP Yb Yb [true] (fun x0 x => ZN x0 x.1)
abbrev ZaE : WF := (47, Ubn) :: WaE
def PaC : La := ⟨19, ⟨[(0, (.own 500000 LS true)), (1, Da), (5, Da)], []⟩, 0, ⟨[(0, (.own 500000 LS true)), (1, Da)], []⟩, ⟨[], []⟩, HJ⟩
def Wbl : WL := [(2, PaC)]
theorem RaW : Na (WG false WaE [(3999, 500000)] [] []) Wbl (lp f47 0) := Hb 2 (ls := PaC) rfl
theorem Jbj : WO ZaE := TM Bbj func47 (Ga RaW Ia)
abbrev Cbn : Ja := .io HB Yb Yb [true] (fun x0 x => KQ x0 x.1)
abbrev QaE : WF := (27, Cbn) :: ZaE
def FaC : La := ⟨36, ⟨[(0, (.own 500000 Oi true)), (1, Da), (5, Da)], []⟩, 0, ⟨[(0, (.own 500000 Oi true)), (1, Da)], []⟩, ⟨[], []⟩, MM⟩
def Mbl : WL := [(2, FaC)]
theorem HaW : Na (WG false ZaE [(3999, 500000)] [] []) Mbl (lp f27 0) := Hb 2 (ls := FaC) rfl
theorem Rbi : WO QaE := TM Jbj func27 (Ga HaW Ia)
abbrev Abo : Ja := .pu (.p Kv Yb) Yb [true] (fun x => MK x.1 x.2.1)
abbrev MaU : WF := (57, Abo) :: QaE
def UaC : La := ⟨21, ⟨[(0, IN), (1, Da), (5, Da)], []⟩, 0, ⟨[(1, Da)], []⟩, ⟨[(4, Da)], []⟩, XN⟩
def Bbm : WL := [(2, UaC)]
theorem WaW : Na (WG true QaE [] [] []) Bbm (lp f57 0) := Hb 2 (ls := UaC) rfl
theorem Qbj : WO MaU := Id Rbi func57 (Ga WaW Ia)
abbrev Ebp : Ja := .pu (.p Nb Yb) Yb [true] (fun x => Xr x.1 x.2.1)
abbrev NaF : WF := (87, Ebp) :: MaU
theorem Ubk : WO NaF := Rb Qbj func87
abbrev Ybc : Ja := .pu (.p Lv Yb) Yb [true] (fun x => WN x.1 x.2.1)
abbrev Kau : WF := (178, Ybc) :: NaF
def Sap : La := ⟨31, ⟨[(0, Pj), (1, Da), (5, Da)], []⟩, 0, ⟨[(1, Da)], []⟩, ⟨[(4, Da)], []⟩, EJ⟩
def Ma7 : WL := [(2, Sap)]
theorem UaP : Na (WG true NaF [] [] []) Ma7 (lp f178 0) := Hb 2 (ls := Sap) rfl
theorem Ga1 : WO Kau := Id Ubk func178 (Ga UaP Ia)
abbrev Zbc : Ja := .pu HN Yb [true] (fun x => UC x.1 x.2.1)
abbrev Lau : WF := (179, Zbc) :: Kau
def Tap : La := ⟨42, ⟨[(0, Ri), (1, Da), (5, Da)], []⟩, 0, ⟨[(1, Da)], []⟩, ⟨[(4, Da)], []⟩, FJ⟩
def Na7 : WL := [(2, Tap)]
theorem VaP : Na (WG true Kau [] [] []) Na7 (lp f179 0) := Hb 2 (ls := Tap) rfl
theorem Ha1 : WO Lau := Id Ga1 func179 (Ga VaP Ia)
abbrev Abd : Ja := .pu HN Yb [true] (fun x => QL x.1 x.2.1)
abbrev JaK : WF := (180, Abd) :: Lau
def Uap : La := ⟨42, ⟨[(0, Ri), (1, Da), (5, Da)], []⟩, 0, ⟨[(1, Da)], []⟩, ⟨[(4, Da)], []⟩, WH⟩
def Oa7 : WL := [(2, Uap)]
theorem WaP : Na (WG true Lau [] [] []) Oa7 (lp f180 0) := Hb 2 (ls := Uap) rfl
theorem Ia1 : WO JaK := Id Ha1 func180 (Ga WaP Ia)
abbrev Fbp : Ja := .pu (.p Pb Yb) Yb [true] (fun x => Ou x.1 x.2.1)
abbrev OaF : WF := (88, Fbp) :: JaK
theorem Vbk : WO OaF := Rb Ia1 func88
abbrev Wbh : Ja := .pu (.p Ek Yb) Yb [true] (fun x => PL x.1 x.2.1)
abbrev Xaw : WF := (307, Wbh) :: OaF
def Jas : La := ⟨49, ⟨[(0, (.data Ek)), (1, Da), (5, Da)], []⟩, 0, ⟨[(1, Da)], []⟩, ⟨[(4, Da)], []⟩, VH⟩
def Pa9 : WL := [(2, Jas)]
theorem LaS : Na (WG true OaF [] [] []) Pa9 (lp f307 0) := Hb 2 (ls := Jas) rfl
theorem Ea6 : WO Xaw := Id Vbk func307 (Ga LaS Ia)
abbrev Hbh : Ja := .pu (.p (.sl Ek) Yb) Yb [true] (fun x => JI x.1 x.2.1)
abbrev CaM : WF := (292, Hbh) :: Xaw
def Eas : La := ⟨21, ⟨[(0, EN), (1, Da), (5, Da)], []⟩, 0, ⟨[(1, Da)], []⟩, ⟨[(4, Da)], []⟩, EF⟩
def Ka9 : WL := [(2, Eas)]
theorem GaS : Na (WG true Xaw [] [] []) Ka9 (lp f292 0) := Hb 2 (ls := Eas) rfl
theorem Pa5 : WO CaM := Id Ea6 func292 (Ga GaS Ia)
abbrev Tbf : Ja := .pu (.p Dc Yb) Yb [true] (fun x => VC x.1 x.2.1)
abbrev Vav : WF := (251, Tbf) :: CaM
theorem Ba4 : WO Vav := Rb Pa5 func251
abbrev Ibh : Ja := .pu (.p Hi Yb) Yb [true] (fun x => IQ x.1 x.2.1)
abbrev Raw : WF := (293, Ibh) :: Vav
def Fas : La := ⟨40, ⟨[(0, (.data Hi)), (1, Da), (5, Da)], []⟩, 0, ⟨[(1, Da)], []⟩, ⟨[(4, Da)], []⟩, JM⟩
def La9 : WL := [(2, Fas)]
theorem HaS : Na (WG true Vav [] [] []) La9 (lp f293 0) := Hb 2 (ls := Fas) rfl
theorem Qa5 : WO Raw := Id Ba4 func293 (Ga HaS Ia)
abbrev Ubf : Ja := .pu (.p KE Yb) Yb [true] (fun x => YN x.1 x.2.1)
abbrev Wav : WF := (252, Ubf) :: Raw
def Iar : La := ⟨21, ⟨[(0, (.data KE)), (1, Da), (5, Da)], []⟩, 0, ⟨[(1, Da)], []⟩, ⟨[(4, Da)], []⟩, GJ⟩
def Sa8 : WL := [(2, Iar)]
theorem KaR : Na (WG true Raw [] [] []) Sa8 (lp f252 0) := Hb 2 (ls := Iar) rfl
theorem Ca4 : WO Wav := Id Qa5 func252 (Ga KaR Ia)
abbrev Vbf : Ja := .pu (.p YP Yb) Yb [true] (fun x => HQ x.1 x.2.1)
abbrev NaL : WF := (253, Vbf) :: Wav
def Jar : La := ⟨62, ⟨[(0, Il), (1, Da), (5, Da)], []⟩, 0, ⟨[(1, Da)], []⟩, ⟨[(4, Da)], []⟩, GM⟩
def Ta8 : WL := [(2, Jar)]
theorem LaR : Na (WG true Wav [] [] []) Ta8 (lp f253 0) := Hb 2 (ls := Jar) rfl
theorem Da4 : WO NaL := Id Ca4 func253 (Ga LaR Ia)
abbrev Bbd : Ja := .pu (.p Gc Yb) Yb [true] (fun x => TC x.1 x.2.1)
abbrev KaK : WF := (181, Bbd) :: NaL
theorem Ja1 : WO KaK := Rb Da4 func181
abbrev Gbp : Ja := .pu (.p Ic Yb) Yb [true] (fun x => Py x.1 x.2.1)
abbrev DaV : WF := (89, Gbp) :: KaK
theorem Wbk : WO DaV := Rb Ja1 func89
abbrev Dbn : Ja := .pu (.p Md Yb) Yb [true] (fun x => VG x.1 x.2.1)
abbrev RaE : WF := (28, Dbn) :: DaV
theorem Sbi : WO RaE := Rb Wbk func28
abbrev Jbd : Ja := .pu (.p LS Yb) Yb [true] (fun x => XG x.1 x.2.1)
abbrev PaK : WF := (189, Jbd) :: RaE
def Xap : La := ⟨22, ⟨[(0, JE), (1, Da), (5, Da)], []⟩, 0, ⟨[(1, Da)], []⟩, ⟨[(4, Da)], []⟩, FM⟩
def Pa7 : WL := [(2, Xap)]
theorem ZaP : Na (WG true RaE [] [] []) Pa7 (lp f189 0) := Hb 2 (ls := Xap) rfl
theorem Ra1 : WO PaK := Id Sbi func189 (Ga ZaP Ia)
abbrev Hba : Ja := .pu (.p Wc Yb) Yb [true] (fun x => Qu x.1 x.2.1)
abbrev PaI : WF := (108, Hba) :: PaK
theorem PaY : WO PaI := Rb Ra1 func108
abbrev Obn : Ja := .pu (.p Bd Yb) Yb [true] (fun x => Yr x.1 x.2.1)
abbrev XaE : WF := (41, Obn) :: PaI
theorem Dbj : WO XaE := Rb PaY func41
abbrev Ebn : Ja := .pu (.p HB Yb) Yb [true] (fun x => YG x.1 x.2.1)
abbrev YaT : WF := (29, Ebn) :: XaE
def GaC : La := ⟨42, ⟨[(0, (.data HB)), (1, Da), (5, Da)], []⟩, 0, ⟨[(1, Da)], []⟩, ⟨[(4, Da)], []⟩, HM⟩
def Nbl : WL := [(2, GaC)]
theorem IaW : Na (WG true XaE [] [] []) Nbl (lp f29 0) := Hb 2 (ls := GaC) rfl
theorem Tbi : WO YaT := Id Dbj func29 (Ga IaW Ia)
abbrev s_7 : Ja := .pu WaF Sd [true] (fun x => Om x.1 x.2.1 x.2.2.1 x.2.2.2.1)
abbrev F_7 : WF := (7, s_7) :: YaT
theorem E_7 : WO F_7 := Rb Tbi func7
theorem KT : Ck Tryz.prog II 7 s_7 := DaY E_7 (by kernel_rfl)
end
end KF
