/- An evaluator of Go functions on plain data, its soundness, and plain laws on what the functions compute, part 7 (conditions: as each lemma tells). -/
import Derived.Test.YthipacpeljffpaaGreatF
import Derived.Test.YthipacpeljffpaaGreatRows
set_option linter.unusedSimpArgs false
set_option linter.unusedVariables false
namespace KF
open Go Go.Proofs Go.Proofs.Tryz
def GT : List (Nat × Ty) := [(3, int), (4, .b), (5, DJ), (9, .s), (22, (.sl DJ)), (25, Nc), (26, (.sl int)), (28, Zc), (29, (.sl Vc)), (30, (.sl Nc)), (31, (.sl Nc)), (33, Yd), (34, (.sl (.sl Sc))), (36, Ec), (37, (.sl (.sl Td))), (38, (.sl Ev)), (40, Pc), (42, Td), (44, Be), (46, Ze), (49, (.sl IC)), (66, Qg), (68, IC), (97, Nc), (106, (.sl Qg)), (120, Vg), (125, Vc), (133, Nc), (149, Sc), (151, Ev), (173, (.sl Sc)), (179, (.i .u64)), (186, (.sl Td)), (213, (.i .u32)), (215, (.i .u64)), (216, (.sl Vc)), (218, Td), (220, Vc)]
def GA : List (Nat × Ty × Nat) := [(177, int, 4)]
theorem RaG : ((GT.all fun x => Ee Tryz.prog x.2 x.1) && (GA.all fun x => NV Tryz.prog x.1 x.2.1 x.2.2)) = true := by kernel_rfl
theorem X2 : Tryz.prog.follows .mixedOrders = true := by kernel_rfl
noncomputable abbrev II : Ni := noI
noncomputable section
abbrev WP : Program := Tryz.prog
abbrev WF := List (Nat × Qa)
abbrev WL := List (Nat × Ta)
abbrev WG (z : Bool) (fs : WF) (m : List (Nat × Nat)) (v l : List Nat) : Wf := ⟨GT, fs, m, z, GA, v, l⟩
def WO (fs : WF) : Prop := ∀ z m v l, Wj WP II (WG z fs m v l)
theorem YaS : WO [] := fun _ _ _ _ => K3 RaG
theorem wc {f : Nat} {s : Qa} {fs : WF} (e : WO fs) (h : Qj WP II f s) : WO ((f, s) :: fs) := fun z m v l => Wj.cons h (e z m v l)
theorem FaE {f : Nat} {s : Qa} {fs : WF} (e : WO fs) (h : Ub fs f = some s) : Qj WP II f s := (e true [] [] []).fn f s h
theorem Wc {z : Bool} {fs : WF} {m : List (Nat × Nat)} {v l : List Nat} {L : WL} {fn : Func} {i : Nat} (r : Nat) {ls : Ta} {R : ls.inT.X → Option (ls.inT.X ⊕ (ls.outT.X ⊕ ls.retT.X))}
 (h3 : ls.F = Nb R) (h1 : Ll (lp fn i) = some r := by kernel_rfl) (h2 : (Ub L r) = some ls := by kernel_rfl) (h4 : ∀ x, JL (WG z fs m v l) L ls (lp fn i) x = R x := by intro _; kernel_rfl) : Gb (WG z fs m v l) L (lp fn i) := Z3 h1 h2 h3 h4
theorem Qe {f : Nat} {fn : Func} {pt rt : Ty} {fr : List Bool} {F : T pt → Option (T rt)} {fs : WF} (e : WO fs) (hf : WP.funcs[f]? = some fn)
 (hb : (fn.body.isSome && !(fn.name == "runtime.NumGoroutine") && Nat.ble pt.npar fn.ntmps && Nat.beq (Ue (fn.body.getD .skip)).length 0) = true := by kernel_rfl)
 (hF : ∀ x, evF (WG true fs [] [] []) [] fn pt rt fr x = F x := by intro _; kernel_rfl) : WO ((f, .pu pt rt fr F) :: fs) := wc e (LS (e _ _ _ _) X2 hf hb Oa hF)
theorem Cg {k : Nat} {L : WL} {m : List (Nat × Nat)} {v l : List Nat} {f : Nat} {fn : Func} {pt rt : Ty} {fr : List Bool} {F : T pt → Option (T rt)} {fs : WF} (e : WO fs) (hf : WP.funcs[f]? = some fn) (hL : ∀ i, i < k → Gb (WG true fs m v l) L (lp fn i))
 (hb : (fn.body.isSome && !(fn.name == "runtime.NumGoroutine") && Nat.ble pt.npar fn.ntmps && Nat.beq (Ue (fn.body.getD .skip)).length k) = true := by kernel_rfl)
 (hF : ∀ x, evF (WG true fs m v l) L fn pt rt fr x = F x := by intro _; kernel_rfl) : WO ((f, .pu pt rt fr F) :: fs) := wc e (LS (e _ _ _ _) X2 hf hb hL hF)
theorem wco {k : Nat} {L : WL} {m : List (Nat × Nat)} {v l : List Nat} {f : Nat} {fn : Func} {pt rt : Ty} {fr : List Bool} {F : T pt → Option (T rt)} {fs : WF} (e : WO fs) (hf : WP.funcs[f]? = some fn) (hL : ∀ i, i < k → Gb (WG false fs m v l) L (lp fn i))
 (hb : (fn.body.isSome && !(fn.name == "runtime.NumGoroutine") && Nat.ble pt.npar fn.ntmps && Nat.beq (Ue (fn.body.getD .skip)).length k) = true := by kernel_rfl)
 (hF : ∀ x, I6 (WG false fs m v l) L fn pt rt fr x = F x := by intro _; kernel_rfl) : WO ((f, .co pt rt fr F) :: fs) := wc e (Ian (e _ _ _ _) rfl X2 hf hb hL hF)
theorem OH {z : Bool} {k : Nat} {L : WL} {m : List (Nat × Nat)} {v l : List Nat} {f : Nat} {fn : Func} {vw cv : Bool} {τ pt rt : Ty} {fr : List Bool} {F : T τ → T pt → Option (T τ × T rt)} {fs : WF} (e : WO fs) (hf : WP.funcs[f]? = some fn) (hL : ∀ i, i < k → Gb (WG z fs m v l) L (lp fn i))
 (hb : (fn.body.isSome && !(fn.name == "runtime.NumGoroutine") && Nat.ble (pt.npar + 1) fn.ntmps && Nat.beq (Ue (fn.body.getD .skip)).length k) = true := by kernel_rfl)
 (hF : ∀ x0 x, H6 (WG z fs m v l) L fn vw cv τ pt rt fr x0 x = F x0 x := by intro _ _; kernel_rfl) (hz : (!z || ((vw && !cv) && XP m)) = true := by kernel_rfl) : WO ((f, .bx vw cv τ pt rt fr F) :: fs) := wc e (Gan (e _ _ _ _) hz X2 hf hb hL hF)
theorem wnw {k : Nat} {L : WL} {m : List (Nat × Nat)} {v l : List Nat} {f : Nat} {fn : Func} {pt τ : Ty} {F : T pt → Option (T τ)} {fs : WF} (e : WO fs) (hf : WP.funcs[f]? = some fn) (hL : ∀ i, i < k → Gb (WG true fs m v l) L (lp fn i))
 (hb : (fn.body.isSome && !(fn.name == "runtime.NumGoroutine") && Nat.ble pt.npar fn.ntmps && Nat.beq (Ue (fn.body.getD .skip)).length k) = true := by kernel_rfl)
 (hF : ∀ x, J6 (WG true fs m v l) L fn pt τ x = F x := by intro _; kernel_rfl) : WO ((f, .nw pt τ F) :: fs) := wc e (Jan (e _ _ _ _) X2 hf hb hL hF)
abbrev Ea : TD := .data int
abbrev Fe : Ty := .p .b .u
abbrev Eg : Ty := .p int .u
abbrev GY : TD := .pr Ea (.pr (.own 200001 (.sl Sc) true) .un)
abbrev LA : TD := .data (.sl Vc)
abbrev Fw : TD := .own 200001 int true
abbrev Tg : TD := .data .b
abbrev Map : TD := .pr (.own 200002 Vc true) (.pr Ea (.pr (.own 200003 Nc true) (.pr Ea (.pr Ea (.pr Ea (.pr (.own 200004 Nc true) .un))))))
abbrev Pi : TD := .ptr 1 []
abbrev Km : TD := .ptr 2 []
abbrev KC : TD := .ptr 500000 []
abbrev Xm : Ty := .sl Ev
abbrev Fp : TD := .ptr 4 []
abbrev LC : TD := .data Ec
abbrev CO : TD := .data (.sl (.sl Sc))
abbrev Ym : Ty := .sl Td
abbrev c2_ : TD := .pr (.pr Ea (.pr CO .un)) (.pr (.data (.sl Ym)) (.pr Ea (.pr (.data Xm) (.data (.p int Fe)))))
abbrev CaB : TD := .pr (.pr (.pr Ea (.pr (.own 200002 (.sl Sc) true) .un)) (.pr (.own 200003 Ym true) (.pr Ea (.pr (.own 200004 Ev true) (.data (.p int Fe)))))) (.pr (.data Td) (.pr (.own 200005 Nc true) (.data Sc)))
abbrev SH : Ty := .p (.sl int) .u
abbrev QQ : TD := .own 200001 Nc true
abbrev Gw : Ty := .sl Nc
abbrev DB : TD := .data Gw
abbrev Mag : TD := .pr c2_ (.pr (.data Td) (.pr DB (.data Sc)))
abbrev UE : Ty := .p Sc .u
abbrev ZL : Ty := .p int (.p .o .u)
abbrev NA : TD := .data Nc
abbrev c1_ : TD := .pr NA (.pr (.pr Ea (.pr Ea (.pr Ea (.pr Ea (.pr Ea (.pr (.own 200002 int true) .un)))))) (.pr (.pr (.own 200003 Vc true) (.pr Ea (.pr (.own 200004 Nc true) (.pr Ea (.pr Ea (.pr Ea (.pr (.own 200005 Nc true) .un))))))) (.pr (.pr (.pr (.pr Ea (.pr (.own 200006 (.sl Sc) true) .un)) (.pr (.own 200007 Ym true) (.pr Ea (.pr (.own 200008 Ev true) (.data (.p int Fe)))))) (.pr (.data Td) (.pr (.own 200009 Nc true) (.data Sc)))) (.data Vc))))
abbrev c4_ : TD := .pr NA (.pr (.pr Ea (.pr Ea (.pr Ea (.pr Ea (.pr Ea (.pr (.own 200010 int true) .un)))))) (.pr (.pr (.own 200011 Vc true) (.pr Ea (.pr (.own 200012 Nc true) (.pr Ea (.pr Ea (.pr Ea (.pr (.own 200013 Nc true) .un))))))) (.pr (.pr (.pr (.pr Ea (.pr (.own 200014 (.sl Sc) true) .un)) (.pr (.own 200015 Ym true) (.pr Ea (.pr (.own 200016 Ev true) (.data (.p int Fe)))))) (.pr (.data Td) (.pr (.own 200017 Nc true) (.data Sc)))) (.data Vc))))
abbrev EJ : Ty := .p Yd .u
abbrev EaB : TD := .pr (.own 200001 Vc true) (.pr Ea (.pr (.own 200002 Nc true) (.pr Ea (.pr Ea (.pr Ea (.pr (.own 200003 Nc true) .un))))))
abbrev QV : TD := .own 200001 IC true
abbrev TH : TD := .data Vg
abbrev FJ : TD := .data Pc
abbrev MC : TD := .ptr 3 []
abbrev AM : TD := .data (.sl int)
abbrev HY : TD := .pr Ea (.pr AM .un)
abbrev Nag : TD := .pr Ea (.pr Ea (.pr Ea (.pr Ea HY)))
abbrev FaB : TD := .pr GY (.pr (.own 200002 Ym true) (.pr Ea (.pr (.own 200003 Ev true) (.data (.p int Fe)))))
abbrev DO : Ty := .p Pc .u
abbrev Y0 : Ty := .p (.sl Qg) .u
abbrev UH : TD := .ptr 6 []
abbrev GaB : TD := .pr Ea (.pr Ea (.pr Ea (.pr Ea (.pr Ea (.pr (.own 200002 int true) (.data .u))))))
abbrev RV : TD := .data Yd
abbrev RQ : Ty := .p Ec .u
abbrev s_5 : Qa := .pu (.p (.sl DJ) .u) Fe [true] (fun x => CF x.1)
abbrev F_5 : WF := (5, s_5) :: ([] : WF)
theorem E_5 : WO F_5 := Qe YaS func5
abbrev FaR : Qa := .nw (.p (.sl DJ) .u) Vg (fun x => PI x.1)
abbrev Kaz : WF := (52, FaR) :: F_5
def Kal : Ta := ⟨32, ⟨[(0, (.data (.sl DJ))), (3, Ea), (4, Ea)], []⟩, 0, ⟨[(0, (.data (.sl DJ))), (3, Ea)], []⟩, ⟨[], []⟩, ZA⟩
def WaO : WL := [(3, Kal)]
theorem JaC : Gb (WG true F_5 [] [] []) WaO (lp f52 0) := Wc 3 (ls := Kal) rfl
theorem SaM : WO Kaz := wnw E_5 func52 (Na JaC Oa)
abbrev CaQ : Qa := .nw (.p (.sl DJ) Eg) Vg (fun x => KG x.1 x.2.1)
abbrev Tay : WF := (19, CaQ) :: Kaz
theorem PaL : WO Tay := wnw (L := []) (m := []) (v := []) (l := []) SaM func19 Oa
abbrev KaS : Qa := .bx true false Vg .u Eg [true] (fun x0 x => Wn x0)
abbrev DaA : WF := (89, KaS) :: Tay
theorem XaN : WO DaA := OH (L := []) (m := []) (v := []) (l := []) (z := false) PaL func89 Oa
abbrev GaR : Qa := .bx true false Vg Eg Eg [true] (fun x0 x => Cb x0 x.1)
abbrev Laz : WF := (53, GaR) :: DaA
theorem TaM : WO Laz := OH (L := []) (m := []) (v := []) (l := []) (z := false) XaN func53 Oa
abbrev HaR : Qa := .bx true false Vg Eg Fe [true] (fun x0 x => Bh x0 x.1)
abbrev Maz : WF := (54, HaR) :: Laz
theorem UaM : WO Maz := OH (L := []) (m := []) (v := []) (l := []) (z := false) TaM func54 Oa
abbrev GaJ : Qa := .pu Td Fe [true] (fun x => Ic x.1 x.2.1 x.2.2.1)
abbrev Oas : WF := (125, GaJ) :: Maz
theorem BaF : WO Oas := Qe UaM func125
abbrev LaS : Qa := .pu (.p Nc .u) Fe [true] (fun x => Vv x.1)
abbrev FaA : WF := (90, LaS) :: Oas
theorem YaN : WO FaA := Qe BaF func90
abbrev IaR : Qa := .pu (.p Nc .u) Eg [true] (fun x => Tp x.1)
abbrev Pao : WF := (55, IaR) :: FaA
theorem VaM : WO Pao := Qe YaN func55
abbrev MaS : Qa := .pu (.p Zc .u) Fe [true] (fun x => Oo x.1)
abbrev Bap : WF := (91, MaS) :: Pao
def Bam : Ta := ⟨58, ⟨[(1, Pi), (3, Ea)], [(1, Zc, (.data Zc))]⟩, 0, ⟨[(1, Pi)], [(1, Zc, (.data Zc))]⟩, ⟨[(2, Tg)], []⟩, Lp⟩
def JaP : WL := [(4, Bam)]
theorem AaD : Gb (WG true Pao [] [] []) JaP (lp f91 0) := Wc 4 (ls := Bam) rfl
theorem ZaN : WO Bap := Cg VaM func91 (Na AaD Oa)
abbrev JaR : Qa := .pu Td (.p Zc Fe) [true, true] (fun x => Ds x.1 x.2.1 x.2.2.1)
abbrev Qao : WF := (56, JaR) :: Bap
def Lal : Ta := ⟨33, ⟨[(2, Ea), (6, UH), (8, (.ptr 8 [])), (9, Ea)], [(6, Zc, Nag), (8, Zc, (.pr Ea (.pr Ea (.pr Ea (.pr Ea (.pr Ea (.pr Fw .un)))))))]⟩, 0, ⟨[(6, UH), (8, (.ptr 8 []))], [(6, Zc, Nag), (8, Zc, (.pr Ea (.pr Ea (.pr Ea (.pr Ea (.pr Ea (.pr Fw .un)))))))]⟩, ⟨[], []⟩, Qo⟩
def XaO : WL := [(3, Lal)]
theorem KaC : Gb (WG true Bap [] [] []) XaO (lp f56 0) := Wc 3 (ls := Lal) rfl
theorem WaM : WO Qao := Cg ZaN func56 (Na KaC Oa)
abbrev EaK : Qa := .pu Eg Eg [true] (fun x => Wv x.1)
abbrev V5 : WF := (151, EaK) :: Qao
def Sac : Ta := ⟨16, ⟨[(0, Ea), (3, Ea), (4, Ea)], []⟩, 0, ⟨[(3, Ea)], []⟩, ⟨[], []⟩, Av⟩
def MaH : WL := [(3, Sac)]
theorem Uaw : Gb (WG true Qao [] [] []) MaH (lp f151 0) := Wc 3 (ls := Sac) rfl
theorem ZaF : WO V5 := Cg WaM func151 (Na Uaw Oa)
abbrev HaJ : Qa := .pu (.p (.sl Vc) .u) Fe [true] (fun x => CC x.1)
abbrev Yae : WF := (126, HaJ) :: V5
def Eac : Ta := ⟨69, ⟨[(0, LA), (3, Ea), (4, Ea)], []⟩, 2, ⟨[(0, LA), (3, Ea)], []⟩, ⟨[(2, Tg)], []⟩, Yu⟩
def Dac : Ta := ⟨69, ⟨[(0, LA), (3, Ea)], []⟩, 0, ⟨[(0, LA)], []⟩, ⟨[(2, Tg)], []⟩, Xu⟩
def Iat : WL := [(7, Eac), (2, Dac)]
theorem Gaw : Gb (WG true V5 [] [] []) Iat (lp f126 1) := Wc 7 (ls := Eac) rfl
theorem Faw : Gb (WG true V5 [] [] []) Iat (lp f126 0) := Wc 2 (ls := Dac) rfl
theorem CaF : WO Yae := Cg ZaF func126 (Na Gaw (Na Faw Oa))
abbrev FaK : Qa := .pu (.p (.sl Vc) Eg) Eg [true] (fun x => FE x.1 x.2.1)
abbrev W5 : WF := (152, FaK) :: Yae
def Tac : Ta := ⟨24, ⟨[(0, LA), (1, Ea), (5, Ea)], []⟩, 0, ⟨[], []⟩, ⟨[(4, Ea)], []⟩, Tw⟩
def NaH : WL := [(2, Tac)]
theorem Vaw : Gb (WG true Yae [] [] []) NaH (lp f152 0) := Wc 2 (ls := Tac) rfl
theorem AaG : WO W5 := Cg CaF func152 (Na Vaw Oa)
abbrev IaJ : Qa := .pu EJ Fe [true] (fun x => KA x.1)
abbrev Zae : WF := (127, IaJ) :: W5
def Y8 : Ta := ⟨74, ⟨[(1, Pi), (3, Ea), (4, Ea), (5, (.ptr 5 [])), (7, Ea)], [(1, Yd, RV), (5, Nc, NA)]⟩, 2, ⟨[(1, Pi), (3, Ea), (4, Ea), (5, (.ptr 5 []))], [(1, Yd, RV), (5, Nc, NA)]⟩, ⟨[(2, Tg)], []⟩, Ar⟩
def Fac : Ta := ⟨74, ⟨[(1, Pi), (3, Ea), (4, Ea)], [(1, Yd, RV)]⟩, 0, ⟨[(1, Pi)], [(1, Yd, RV)]⟩, ⟨[(2, Tg)], []⟩, Gt⟩
def Jat : WL := [(10, Y8), (3, Fac)]
theorem Oaq : Gb (WG true W5 [] [] []) Jat (lp f127 1) := Wc 10 (ls := Y8) rfl
theorem Haw : Gb (WG true W5 [] [] []) Jat (lp f127 0) := Wc 3 (ls := Fac) rfl
theorem DaF : WO Zae := Cg AaG func127 (Na Oaq (Na Haw Oa))
abbrev KaJ : Qa := .pu EJ Eg [true] (fun x => Gz x.1)
abbrev Qas : WF := (129, KaJ) :: Zae
def Hac : Ta := ⟨23, ⟨[(1, Pi), (3, Ea), (4, Ea)], [(1, Yd, RV)]⟩, 0, ⟨[(3, Ea)], []⟩, ⟨[], []⟩, Sw⟩
def DaH : WL := [(3, Hac)]
theorem Jaw : Gb (WG true Zae [] [] []) DaH (lp f129 0) := Wc 3 (ls := Hac) rfl
theorem FaF : WO Qas := Cg DaF func129 (Na Jaw Oa)
abbrev GaK : Qa := .pu (.p Nc .u) Fe [true] (fun x => CE x.1)
abbrev Jaf : WF := (153, GaK) :: Qas
theorem BaG : WO Jaf := Qe FaF func153
abbrev JaJ : Qa := .pu (.p Gw Td) Fe [true] (fun x => Iq x.1 x.2.1 x.2.2.1 x.2.2.2.1)
abbrev Pas : WF := (128, JaJ) :: Jaf
def Gac : Ta := ⟨73, ⟨[(0, DB), (1, Ea), (2, Ea), (3, Ea), (9, Ea)], []⟩, 0, ⟨[(0, DB)], []⟩, ⟨[(8, Tg)], []⟩, Zq⟩
def CaH : WL := [(2, Gac)]
theorem Iaw : Gb (WG true Jaf [] [] []) CaH (lp f128 0) := Wc 2 (ls := Gac) rfl
theorem EaF : WO Pas := Cg BaG func128 (Na Iaw Oa)
abbrev NaS : Qa := .pu EJ Fe [true] (fun x => Gq x.1)
abbrev GaA : WF := (92, NaS) :: Pas
theorem AaO : WO GaA := Qe EaF func92
abbrev OaS : Qa := .pu EJ EJ [true] (fun x => Ez x.1)
abbrev HaA : WF := (93, OaS) :: GaA
theorem BaO : WO HaA := Qe AaO func93
abbrev KaR : Qa := .pu (.p (.sl Vc) Eg) (.p Yd Fe) [true, true] (fun x => Ah x.1 x.2.1)
abbrev Naz : WF := (57, KaR) :: HaA
theorem XaM : WO Naz := Qe BaO func57
abbrev QaJ : Qa := .bx true true Vg SH Eg [true] (fun x0 x => Ht x0 x.1)
abbrev Caf : WF := (135, QaJ) :: Naz
theorem LaF : WO Caf := OH (L := []) (m := []) (v := []) (l := []) (z := false) XaM func135 Oa
abbrev LaJ : Qa := .bx true false Vg .u (.p Ym .u) [true] (fun x0 x => OG x0)
abbrev Ras : WF := (130, LaJ) :: Caf
def Iac : Ta := ⟨41, ⟨[(0, KC), (3, (.own 200001 Td true)), (4, Ea)], [(500000, Vg, TH)]⟩, 0, ⟨[(0, KC), (3, (.own 200001 Td true))], [(500000, Vg, TH)]⟩, ⟨[], []⟩, Mz⟩
def EaH : WL := [(3, Iac)]
theorem Kaw : Gb (WG false Caf [] [] []) EaH (lp f130 0) := Wc 3 (ls := Iac) rfl
theorem GaF : WO Ras := OH LaF func130 (Na Kaw Oa)
abbrev IaK : Qa := .bx true false Vg Eg UE [true] (fun x0 x => LG x0 x.1)
abbrev X5 : WF := (155, IaK) :: Ras
theorem DaG : WO X5 := OH (L := []) (m := []) (v := []) (l := []) (z := false) GaF func155 Oa
abbrev NaJ : Qa := .bx true false Vg Eg RQ [true] (fun x0 x => NG x0 x.1)
abbrev Sas : WF := (132, NaJ) :: X5
def Kac : Ta := ⟨48, ⟨[(0, KC), (1, Ea), (4, Fp), (5, Ea), (6, UH), (7, Ea), (8, (.own 200101 Sc true)), (9, Ea)], [(500000, Vg, TH), (4, Ec, (.pr Ea (.pr (.own 200102 (.sl Sc) true) .un))), (6, Ec, (.pr Ea (.pr (.own 200103 (.sl Sc) true) .un)))]⟩, 2, ⟨[(0, KC), (1, Ea), (4, Fp), (5, Ea), (6, UH), (7, Ea), (8, (.own 200101 Sc true))], [(500000, Vg, TH), (4, Ec, (.pr Ea (.pr (.own 200102 (.sl Sc) true) .un))), (6, Ec, (.pr Ea (.pr (.own 200103 (.sl Sc) true) .un)))]⟩, ⟨[], []⟩, Lz⟩
def Jac : Ta := ⟨48, ⟨[(0, KC), (1, Ea), (4, Fp), (5, Ea), (6, UH), (7, Ea)], [(500000, Vg, TH), (4, Ec, GY), (6, Ec, (.pr Ea (.pr (.own 200002 (.sl Sc) true) .un)))]⟩, 0, ⟨[(0, KC), (4, Fp), (6, UH)], [(500000, Vg, TH), (4, Ec, GY), (6, Ec, (.pr Ea (.pr (.own 200002 (.sl Sc) true) .un)))]⟩, ⟨[], []⟩, Kz⟩
def Kat : WL := [(8, Kac), (4, Jac)]
theorem Maw : Gb (WG false X5 [] [] []) Kat (lp f132 1) := Wc 8 (ls := Kac) rfl
theorem Law : Gb (WG false X5 [] [] []) Kat (lp f132 0) := Wc 4 (ls := Jac) rfl
theorem IaF : WO Sas := OH DaG func132 (Na Maw (Na Law Oa))
abbrev RaK : Qa := .pu UE Fe [true] (fun x => Qk x.1)
abbrev Z5 : WF := (165, RaK) :: Sas
theorem MaG : WO Z5 := Qe IaF func165
abbrev OaK : Qa := .pu RQ Fe [true] (fun x => DC x.1)
abbrev Dat : WF := (161, OaK) :: Z5
def Zac : Ta := ⟨74, ⟨[(1, Pi), (3, Ea), (4, Ea)], [(1, Ec, LC)]⟩, 2, ⟨[(1, Pi), (3, Ea)], [(1, Ec, LC)]⟩, ⟨[(2, Tg)], []⟩, Sn⟩
def Yac : Ta := ⟨74, ⟨[(1, Pi), (3, Ea)], [(1, Ec, LC)]⟩, 0, ⟨[(1, Pi)], [(1, Ec, LC)]⟩, ⟨[(2, Tg)], []⟩, Rn⟩
def Mat : WL := [(7, Zac), (2, Yac)]
theorem Bax : Gb (WG true Z5 [] [] []) Mat (lp f161 1) := Wc 7 (ls := Zac) rfl
theorem Aax : Gb (WG true Z5 [] [] []) Mat (lp f161 0) := Wc 2 (ls := Yac) rfl
theorem JaG : WO Dat := Cg MaG func161 (Na Bax (Na Aax Oa))
abbrev SaK : Qa := .pu UE Fe [true] (fun x => HA x.1)
abbrev Qaf : WF := (166, SaK) :: Dat
theorem NaG : WO Qaf := Qe JaG func166
abbrev PaK : Qa := .pu (.p Xm .u) Fe [true] (fun x => HG x.1)
abbrev Paf : WF := (162, PaK) :: Qaf
def Aad : Ta := ⟨57, ⟨[(0, (.data Xm)), (3, Ea), (4, Ea)], []⟩, 0, ⟨[], []⟩, ⟨[(2, Tg)], []⟩, Bz⟩
def QaH : WL := [(3, Aad)]
theorem Cax : Gb (WG true Qaf [] [] []) QaH (lp f162 0) := Wc 3 (ls := Aad) rfl
theorem KaG : WO Paf := Cg NaG func162 (Na Cax Oa)
abbrev TaK : Qa := .pu (.p Xm (.p Td .u)) Eg [true] (fun x => PG x.1 x.2.1)
abbrev Eat : WF := (167, TaK) :: Paf
def Cad : Ta := ⟨33, ⟨[(0, (.data Xm)), (3, MC), (5, Ea)], [(3, Td, (.data Td))]⟩, 0, ⟨[], []⟩, ⟨[(4, Ea)], []⟩, Nz⟩
def SaH : WL := [(2, Cad)]
theorem Eax : Gb (WG true Paf [] [] []) SaH (lp f167 0) := Wc 2 (ls := Cad) rfl
theorem OaG : WO Eat := Cg KaG func167 (Na Eax Oa)
abbrev UaK : Qa := .pu (.p Td .u) UE [true] (fun x => FC x.1)
abbrev Fat : WF := (168, UaK) :: Eat
theorem PaG : WO Fat := Qe OaG func168
abbrev VaK : Qa := .pu (.p Xm Eg) (.p Xm .u) [true] (fun x => Kt x.1 x.2.1)
abbrev Raf : WF := (169, VaK) :: Fat
theorem QaG : WO Raf := Qe PaG func169
abbrev QaK : Qa := .pu (.p Ym .u) Fe [true] (fun x => DE x.1)
abbrev Y5 : WF := (163, QaK) :: Raf
def Bad : Ta := ⟨62, ⟨[(0, (.data Ym)), (3, (.own 200001 Ev true)), (4, Ea)], []⟩, 0, ⟨[(0, (.data Ym)), (3, (.own 200001 Ev true))], []⟩, ⟨[(2, Tg)], []⟩, Qw⟩
def RaH : WL := [(3, Bad)]
theorem Dax : Gb (WG true Raf [] [] []) RaH (lp f163 0) := Wc 3 (ls := Bad) rfl
theorem LaG : WO Y5 := Cg QaG func163 (Na Dax Oa)
abbrev HaK : Qa := .pu DO Fe [true] (fun x => Uv x.1)
abbrev Kaf : WF := (154, HaK) :: Y5
def Uac : Ta := ⟨96, ⟨[(1, Pi), (3, Ea)], [(1, Pc, FJ)]⟩, 0, ⟨[(1, Pi)], [(1, Pc, FJ)]⟩, ⟨[(2, Tg)], []⟩, Pn⟩
def Vac : Ta := ⟨96, ⟨[(1, Pi), (4, Ea)], [(1, Pc, FJ)]⟩, 2, ⟨[(1, Pi)], [(1, Pc, FJ)]⟩, ⟨[(2, Tg)], []⟩, Qn⟩
def Lat : WL := [(4, Uac), (9, Vac)]
theorem Waw : Gb (WG true Y5 [] [] []) Lat (lp f154 0) := Wc 4 (ls := Uac) rfl
theorem Xaw : Gb (WG true Y5 [] [] []) Lat (lp f154 1) := Wc 9 (ls := Vac) rfl
theorem CaG : WO Kaf := Cg LaG func154 (Na Xaw (Na Waw Oa))
abbrev KaK : Qa := .pu RQ RQ [true] (fun x => MG x.1)
abbrev Laf : WF := (157, KaK) :: Kaf
def Wac : Ta := ⟨28, ⟨[(1, Pi), (2, Km), (3, MC), (4, Ea)], [(1, Ec, LC), (2, Ec, (.pr Ea (.pr CO .un))), (3, Ec, GY)]⟩, 0, ⟨[(2, Km), (3, MC)], [(2, Ec, (.pr Ea (.pr CO .un))), (3, Ec, GY)]⟩, ⟨[], []⟩, Jz⟩
def OaH : WL := [(3, Wac)]
theorem Yaw : Gb (WG true Kaf [] [] []) OaH (lp f157 0) := Wc 3 (ls := Wac) rfl
theorem FaG : WO Laf := Cg CaG func157 (Na Yaw Oa)
abbrev PaJ : Qa := .pu DO DO [true] (fun x => Ew x.1)
abbrev Uas : WF := (134, PaJ) :: Laf
def Lac : Ta := ⟨37, ⟨[(1, Pi), (2, Km), (3, MC), (4, Ea)], [(1, Pc, FJ), (2, Pc, c2_), (3, Pc, (.pr GY (.pr (.own 200002 Ym true) (.data (.p int (.p Xm (.p int Fe)))))))]⟩, 0, ⟨[(1, Pi), (2, Km), (3, MC)], [(1, Pc, FJ), (2, Pc, c2_), (3, Pc, (.pr GY (.pr (.own 200002 Ym true) (.data (.p int (.p Xm (.p int Fe)))))))]⟩, ⟨[], []⟩, Oz⟩
def FaH : WL := [(5, Lac)]
theorem Naw : Gb (WG true Laf [] [] []) FaH (lp f134 0) := Wc 5 (ls := Lac) rfl
theorem KaF : WO Uas := Cg FaG func134 (Na Naw Oa)
abbrev MaJ : Qa := .pu (.p Ec (.p (.sl Ym) .u)) (.p Pc Fe) [true, true] (fun x => JA x.1 x.2.1)
abbrev Baf : WF := (131, MaJ) :: Uas
theorem HaF : WO Baf := Qe KaF func131
abbrev PaS : Qa := .bx true false Vg Eg DO [true] (fun x0 x => QI x0 x.1)
abbrev IaA : WF := (94, PaS) :: Baf
def Cam : Ta := ⟨30, ⟨[(0, KC), (1, Ea), (4, Fp), (5, (.own 200001 Ym true)), (6, Ea)], [(500000, Vg, TH), (4, Pc, c2_)]⟩, 0, ⟨[(0, KC), (1, Ea), (4, Fp), (5, (.own 200001 Ym true))], [(500000, Vg, TH), (4, Pc, c2_)]⟩, ⟨[], []⟩, AB⟩
def KaP : WL := [(3, Cam)]
theorem BaD : Gb (WG false Baf [] [] []) KaP (lp f94 0) := Wc 3 (ls := Cam) rfl
theorem CaO : WO IaA := OH HaF func94 (Na BaD Oa)
abbrev RaS : Qa := .bx true false Vg .u (.p Td .u) [true] (fun x0 x => GF x0)
abbrev JaA : WF := (96, RaS) :: IaA
theorem EaO : WO JaA := OH (L := []) (m := []) (v := []) (l := []) (z := false) CaO func96 Oa
abbrev JaK : Qa := .pu (.p Td .u) Fe [true] (fun x => EC x.1)
abbrev Cat : WF := (156, JaK) :: JaA
theorem EaG : WO Cat := Qe EaO func156
abbrev LaK : Qa := .pu Eg Eg [true] (fun x => Yq x.1)
abbrev Maf : WF := (158, LaK) :: Cat
theorem GaG : WO Maf := Qe EaG func158
abbrev TaJ : Qa := .pu DO Eg [true] (fun x => Cz x.1)
abbrev Vas : WF := (138, TaJ) :: Maf
def Nac : Ta := ⟨22, ⟨[(1, Pi), (3, Ea), (4, Ea)], [(1, Pc, FJ)]⟩, 0, ⟨[(3, Ea)], []⟩, ⟨[], []⟩, Rw⟩
def HaH : WL := [(3, Nac)]
theorem Paw : Gb (WG true Maf [] [] []) HaH (lp f138 0) := Wc 3 (ls := Nac) rfl
theorem OaF : WO Vas := Cg GaG func138 (Na Paw Oa)
abbrev OaJ : Qa := .pu (.p Be .u) Fe [true] (fun x => Ft x.1)
abbrev Tas : WF := (133, OaJ) :: Vas
theorem JaF : WO Tas := Qe OaF func133
abbrev QaS : Qa := .pu (.p Pc (.p Td .u)) (.p Be Fe) [true, true] (fun x => Hq x.1 x.2.1)
abbrev Cap : WF := (95, QaS) :: Tas
theorem DaO : WO Cap := Qe JaF func95
abbrev LaR : Qa := .bx true false Vg Eg (.p Be .u) [true] (fun x0 x => Rf x0 x.1)
abbrev Oaz : WF := (58, LaR) :: Cap
def Mal : Ta := ⟨41, ⟨[(0, KC), (1, Ea), (4, Fp), (5, (.ptr 5 [])), (6, Ea)], [(500000, Vg, TH), (4, Be, Mag), (5, Pc, FaB)]⟩, 0, ⟨[(0, KC), (4, Fp), (5, (.ptr 5 []))], [(500000, Vg, TH), (4, Be, Mag), (5, Pc, FaB)]⟩, ⟨[], []⟩, Dz⟩
def YaO : WL := [(3, Mal)]
theorem LaC : Gb (WG false Cap [(4999, 200001)] [] []) YaO (lp f58 0) := Wc 3 (ls := Mal) rfl
theorem YaM : WO Oaz := OH DaO func58 (Na LaC Oa)
abbrev RaJ : Qa := .pu (.p Nc Eg) Fe [true] (fun x => OB x.1 x.2.1)
abbrev Daf : WF := (136, RaJ) :: Oaz
theorem MaF : WO Daf := Qe YaM func136
abbrev SaJ : Qa := .pu (.p int (.p Gw .u)) Eg [true] (fun x => Kq x.1 x.2.1)
abbrev Eaf : WF := (137, SaJ) :: Daf
def Mac : Ta := ⟨21, ⟨[(0, Ea), (1, DB), (5, Ea)], []⟩, 0, ⟨[(0, Ea)], []⟩, ⟨[], []⟩, Br⟩
def GaH : WL := [(2, Mac)]
theorem Oaw : Gb (WG true Daf [] [] []) GaH (lp f137 0) := Wc 2 (ls := Mac) rfl
theorem NaF : WO Eaf := Cg MaF func137 (Na Oaw Oa)
abbrev UaJ : Qa := .pu EJ Eg [true] (fun x => JG x.1)
abbrev Faf : WF := (139, UaJ) :: Eaf
def Oac : Ta := ⟨30, ⟨[(1, Pi), (3, Ea), (4, Ea)], [(1, Yd, RV)]⟩, 0, ⟨[(3, Ea)], []⟩, ⟨[], []⟩, Hz⟩
def IaH : WL := [(3, Oac)]
theorem Qaw : Gb (WG true Eaf [] [] []) IaH (lp f139 0) := Wc 3 (ls := Oac) rfl
theorem PaF : WO Faf := Cg NaF func139 (Na Qaw Oa)
abbrev SaS : Qa := .pu (.p Ze .u) Fe [true] (fun x => BE x.1)
abbrev KaA : WF := (97, SaS) :: Faf
def Dam : Ta := ⟨129, ⟨[(1, Pi), (4, Ea), (5, Ea)], [(1, Ze, (.data Ze))]⟩, 0, ⟨[(1, Pi)], [(1, Ze, (.data Ze))]⟩, ⟨[(2, Tg)], []⟩, Pw⟩
def LaP : WL := [(6, Dam)]
theorem CaD : Gb (WG true Faf [] [] []) LaP (lp f97 0) := Wc 6 (ls := Dam) rfl
theorem FaO : WO KaA := Cg PaF func97 (Na CaD Oa)
abbrev TaS : Qa := .pu (.p Ze .u) (.p Ze .u) [true] (fun x => GE x.1)
abbrev LaA : WF := (98, TaS) :: KaA
theorem GaO : WO LaA := Qe FaO func98
abbrev MaR : Qa := .pu (.p Nc (.p Zc (.p Yd (.p Be .u)))) (.p Ze Fe) [true, true] (fun x => Je x.1 x.2.1 x.2.2.1 x.2.2.2.1)
abbrev Paz : WF := (59, MaR) :: LaA
theorem ZaM : WO Paz := Qe GaO func59
abbrev DaQ : Qa := .bx true false Vg .u (.p Ze .u) [true] (fun x0 x => IG x0)
abbrev Dao : WF := (20, DaQ) :: Paz
theorem QaL : WO Dao := OH (L := []) (m := []) (v := []) (l := []) (z := false) ZaM func20 Oa
abbrev DaR : Qa := .bx true false Vg Vc SH [true] (fun x0 x => It x0 x.1 x.2.1)
abbrev Haz : WF := (48, DaR) :: Dao
def Jal : Ta := ⟨40, ⟨[(0, KC), (1, Ea), (7, Fw), (8, Ea), (9, Ea)], [(500000, Vg, TH)]⟩, 0, ⟨[(0, KC), (7, Fw)], [(500000, Vg, TH)]⟩, ⟨[], []⟩, Jt⟩
def VaO : WL := [(4, Jal)]
theorem IaC : Gb (WG false Dao [] [] []) VaO (lp f48 0) := Wc 4 (ls := Jal) rfl
theorem QaM : WO Haz := OH QaL func48 (Na IaC Oa)
abbrev EaQ : Qa := .bx true false Vg (.p Ze Eg) SH [true] (fun x0 x => HE x0 x.1 x.2.1)
abbrev Uay : WF := (21, EaQ) :: Haz
theorem RaL : WO Uay := OH (L := []) (m := []) (v := []) (l := []) (z := false) QaM func21 Oa
abbrev s_6 : Qa := .pu (.p (.sl DJ) .u) (.p Ze SH) [false, true] (fun x => IA x.1)
abbrev F_6 : WF := (6, s_6) :: Uay
theorem E_6 : WO F_6 := Cg (L := []) (m := [(3000, 1000100576), (3000, 1000100577), (3000, 1000100578), (3000, 1000100579), (3000, 1000100580), (3000, 1000100581), (3000, 1000100582), (3000, 1000100583)]) (v := []) (l := []) RaL func6 Oa
abbrev NaR : Qa := .pu (.p Nc .u) Fe [true] (fun x => Pp x.1)
abbrev Rao : WF := (60, NaR) :: F_6
theorem AaN : WO Rao := Qe E_6 func60
abbrev LaQ : Qa := .pu (.p Zc .u) Fe [true] (fun x => Cl x.1)
abbrev Way : WF := (28, LaQ) :: Rao
def Aal : Ta := ⟨79, ⟨[(66, AM), (67, Ea), (68, Ea)], []⟩, 0, ⟨[], []⟩, ⟨[(2, Tg)], []⟩, Kp⟩
def MaO : WL := [(6, Aal)]
theorem ZaB : Gb (WG true Rao [] [] []) MaO (lp f28 0) := Wc 6 (ls := Aal) rfl
theorem YaL : WO Way := Cg AaN func28 (Na ZaB Oa)
abbrev VaJ : Qa := .pu (.p (.i .u32) .u) Eg [true] (fun x => PV x.1)
abbrev Was : WF := (140, VaJ) :: Way
theorem QaF : WO Was := Qe YaL func140
abbrev WaJ : Qa := .pu (.p (.i .u64) .u) Eg [true] (fun x => JC x.1)
abbrev Xas : WF := (141, WaJ) :: Was
theorem RaF : WO Xas := Qe QaF func141
abbrev MaI : Qa := .pu (.p (.i .u64) .u) Eg [true] (fun x => Sz x.1)
abbrev S5 : WF := (100, MaI) :: Xas
theorem HaE : WO S5 := Qe RaF func100
abbrev TaR : Qa := .pu (.p (.sl Vc) .u) Fe [true] (fun x => Ov x.1)
abbrev Tao : WF := (66, TaR) :: S5
def Iad : Ta := ⟨68, ⟨[(0, LA), (4, Fp), (11, LA), (12, Ea), (13, Ea), (48, LA), (49, Ea), (50, Ea)], [(4, Vc, (.data Vc))]⟩, 2, ⟨[(0, LA), (11, LA), (12, Ea), (13, Ea)], []⟩, ⟨[(2, Tg)], []⟩, Rs⟩
def Qal : Ta := ⟨68, ⟨[(0, LA), (11, LA), (12, Ea), (13, Ea)], []⟩, 0, ⟨[], []⟩, ⟨[(2, Tg)], []⟩, Eu⟩
def OaA : WL := [(12, Iad), (4, Qal)]
theorem Kax : Gb (WG true S5 [] [] []) OaA (lp f66 1) := Wc 12 (ls := Iad) rfl
theorem PaC : Gb (WG true S5 [] [] []) OaA (lp f66 0) := Wc 4 (ls := Qal) rfl
theorem GaN : WO Tao := Cg HaE func66 (Na Kax (Na PaC Oa))
abbrev YaR : Qa := .pu (.p (.sl Vc) Eg) (.p Vc Fe) [true, true] (fun x => Ly x.1 x.2.1)
abbrev Vaz : WF := (71, YaR) :: Tao
def Ual : Ta := ⟨21, ⟨[(1, Ea), (4, Fp), (8, LA), (9, Ea), (10, Ea)], [(4, Vc, (.data Vc))]⟩, 0, ⟨[(4, Fp)], [(4, Vc, (.data Vc))]⟩, ⟨[(4, Fp), (5, Tg)], [(4, Vc, (.data Vc))]⟩, Nw⟩
def FaP : WL := [(2, Ual)]
theorem TaC : Gb (WG true Tao [] [] []) FaP (lp f71 0) := Wc 2 (ls := Ual) rfl
theorem LaN : WO Vaz := Cg GaN func71 (Na TaC Oa)
abbrev SaR : Qa := .pu Vc Eg [true] (fun x => He x.1 x.2.1)
abbrev Sao : WF := (65, SaR) :: Vaz
theorem FaN : WO Sao := Qe LaN func65
abbrev UaR : Qa := .pu EJ Fe [true] (fun x => Gx x.1)
abbrev Uao : WF := (67, UaR) :: Sao
def Ral : Ta := ⟨61, ⟨[(1, Pi), (3, Ea), (9, DB), (10, Ea), (11, Ea)], [(1, Yd, RV)]⟩, 0, ⟨[], []⟩, ⟨[(2, Tg)], []⟩, Pq⟩
def BaP : WL := [(3, Ral)]
theorem QaC : Gb (WG true Sao [] [] []) BaP (lp f67 0) := Wc 3 (ls := Ral) rfl
theorem HaN : WO Uao := Cg FaN func67 (Na QaC Oa)
abbrev SaQ : Qa := .pu EJ (.p int Fe) [true, true] (fun x => Vi x.1)
abbrev Aaz : WF := (35, SaQ) :: Uao
def Dal : Ta := ⟨27, ⟨[(4, Ea), (10, DB), (11, Ea), (12, Ea)], []⟩, 0, ⟨[(4, Ea)], []⟩, ⟨[(2, Ea), (3, Tg)], []⟩, Lo⟩
def PaO : WL := [(3, Dal)]
theorem CaC : Gb (WG true Uao [] [] []) PaO (lp f35 0) := Wc 3 (ls := Dal) rfl
theorem FaM : WO Aaz := Cg HaN func35 (Na CaC Oa)
abbrev NaI : Qa := .pu (.p Nc .u) Fe [true] (fun x => Ss x.1)
abbrev Pae : WF := (101, NaI) :: Aaz
theorem IaE : WO Pae := Qe FaM func101
abbrev VaR : Qa := .pu (.p Gw Eg) (.p int Fe) [true, true] (fun x => BG x.1 x.2.1)
abbrev Vao : WF := (68, VaR) :: Pae
def Sal : Ta := ⟨53, ⟨[(0, DB), (1, Ea), (11, DB), (12, Ea), (13, Ea)], []⟩, 0, ⟨[(1, Ea)], []⟩, ⟨[(4, Ea), (5, Tg)], []⟩, My⟩
def CaP : WL := [(4, Sal)]
theorem RaC : Gb (WG true Pae [] [] []) CaP (lp f68 0) := Wc 4 (ls := Sal) rfl
theorem IaN : WO Vao := Cg IaE func68 (Na RaC Oa)
abbrev TaQ : Qa := .pu (.p Gw Vc) Fe [true] (fun x => Ui x.1 x.2.1 x.2.2.1)
abbrev Baz : WF := (36, TaQ) :: Vao
def Eal : Ta := ⟨29, ⟨[(0, DB), (1, Ea), (2, Ea), (11, DB), (12, Ea), (13, Ea)], []⟩, 0, ⟨[(0, DB), (1, Ea)], []⟩, ⟨[(6, Tg)], []⟩, Xs⟩
def QaO : WL := [(2, Eal)]
theorem DaC : Gb (WG true Vao [] [] []) QaO (lp f36 0) := Wc 2 (ls := Eal) rfl
theorem GaM : WO Baz := Cg IaN func36 (Na DaC Oa)
abbrev QaQ : Qa := .pu (.p Gw Eg) Fe [true] (fun x => Si x.1 x.2.1)
abbrev Zay : WF := (33, QaQ) :: Baz
theorem DaM : WO Zay := Qe GaM func33
abbrev PaQ : Qa := .pu EJ Fe [true] (fun x => Yp x.1)
abbrev Yay : WF := (32, PaQ) :: Zay
theorem CaM : WO Yay := Qe DaM func32
abbrev ZaJ : Qa := .pu Eg Fe [true] (fun x => Bw x.1)
abbrev Yas : WF := (144, ZaJ) :: Yay
theorem UaF : WO Yas := Qe CaM func144
abbrev AaK : Qa := .pu Eg Fe [true] (fun x => Sq x.1)
abbrev Zas : WF := (145, AaK) :: Yas
theorem VaF : WO Zas := Qe UaF func145
abbrev BaK : Qa := .pu Eg Fe [true] (fun x => Us x.1)
abbrev Aat : WF := (146, BaK) :: Zas
theorem WaF : WO Aat := Qe VaF func146
abbrev ZaI : Qa := .pu UE Fe [true] (fun x => Mk x.1)
abbrev U5 : WF := (113, ZaI) :: Aat
theorem UaE : WO U5 := Qe WaF func113
abbrev RaI : Qa := .pu RQ Fe [true] (fun x => Pv x.1)
abbrev Tae : WF := (105, RaI) :: U5
def Tab : Ta := ⟨73, ⟨[(1, Pi), (3, Ea), (28, CO), (29, Ea), (30, Ea), (40, (.data (.sl Sc))), (41, Ea), (42, Ea)], [(1, Ec, LC)]⟩, 2, ⟨[(1, Pi), (28, CO), (29, Ea), (30, Ea)], [(1, Ec, LC)]⟩, ⟨[(2, Tg)], []⟩, Kn⟩
def Sab : Ta := ⟨73, ⟨[(1, Pi), (28, CO), (29, Ea), (30, Ea)], [(1, Ec, LC)]⟩, 0, ⟨[], []⟩, ⟨[(2, Tg)], []⟩, Jn⟩
def Hat : WL := [(9, Tab), (4, Sab)]
theorem Vav : Gb (WG true U5 [] [] []) Hat (lp f105 1) := Wc 9 (ls := Tab) rfl
theorem Uav : Gb (WG true U5 [] [] []) Hat (lp f105 0) := Wc 4 (ls := Sab) rfl
theorem MaE : WO Tae := Cg UaE func105 (Na Vav (Na Uav Oa))
abbrev SaI : Qa := .pu (.p Xm .u) Fe [true] (fun x => Ml x.1)
abbrev Uae : WF := (106, SaI) :: Tae
def Uab : Ta := ⟨46, ⟨[(3, Ea), (6, (.data Xm)), (7, Ea), (8, Ea)], []⟩, 0, ⟨[], []⟩, ⟨[(2, Tg)], []⟩, Jy⟩
def UaG : WL := [(3, Uab)]
theorem Wav : Gb (WG true Tae [] [] []) UaG (lp f106 0) := Wc 3 (ls := Uab) rfl
theorem NaE : WO Uae := Cg MaE func106 (Na Wav Oa)
abbrev XaJ : Qa := .pu (.p (.sl Vc) (.p Vc .u)) Eg [true] (fun x => KB x.1 x.2.1)
abbrev Gaf : WF := (142, XaJ) :: Uae
def Pac : Ta := ⟨19, ⟨[(3, MC), (7, LA), (8, Ea), (9, Ea)], [(3, Vc, (.data Vc))]⟩, 0, ⟨[], []⟩, ⟨[(4, Ea)], []⟩, Py⟩
def JaH : WL := [(2, Pac)]
theorem Raw : Gb (WG true Uae [] [] []) JaH (lp f142 0) := Wc 2 (ls := Pac) rfl
theorem SaF : WO Gaf := Cg NaE func142 (Na Raw Oa)
abbrev TaI : Qa := .pu (.p Ym .u) Fe [true] (fun x => Ky x.1)
abbrev T5 : WF := (107, TaI) :: Gaf
def Vab : Ta := ⟨62, ⟨[(3, (.own 200001 Vc true)), (11, (.data Ym)), (12, Ea), (13, Ea)], []⟩, 0, ⟨[(3, (.own 200001 Vc true))], []⟩, ⟨[(2, Tg)], []⟩, Lw⟩
def VaG : WL := [(5, Vab)]
theorem Xav : Gb (WG true Gaf [] [] []) VaG (lp f107 0) := Wc 5 (ls := Vab) rfl
theorem OaE : WO T5 := Cg SaF func107 (Na Xav Oa)
abbrev ZaR : Qa := .pu DO Fe [true] (fun x => WB x.1)
abbrev Waz : WF := (72, ZaR) :: T5
def Val : Ta := ⟨92, ⟨[(1, Pi), (35, (.data (.sl Ym))), (36, Ea), (37, Ea)], [(1, Pc, FJ)]⟩, 0, ⟨[(1, Pi)], [(1, Pc, FJ)]⟩, ⟨[(2, Tg)], []⟩, Hn⟩
def Kad : Ta := ⟨92, ⟨[(1, Pi), (5, Ea), (50, (.data Xm)), (51, Ea), (52, Ea)], [(1, Pc, FJ)]⟩, 2, ⟨[(1, Pi), (5, Ea)], [(1, Pc, FJ)]⟩, ⟨[(2, Tg)], []⟩, Cm⟩
def PaA : WL := [(4, Val), (11, Kad)]
theorem UaC : Gb (WG true T5 [] [] []) PaA (lp f72 0) := Wc 4 (ls := Val) rfl
theorem Max : Gb (WG true T5 [] [] []) PaA (lp f72 1) := Wc 11 (ls := Kad) rfl
theorem MaN : WO Waz := Cg OaE func72 (Na Max (Na UaC Oa))
abbrev AaS : Qa := .pu (.p Td .u) Fe [true] (fun x => Qv x.1)
abbrev Wao : WF := (73, AaS) :: Waz
theorem NaN : WO Wao := Qe MaN func73
abbrev XaQ : Qa := .pu (.p Xm .u) Eg [true] (fun x => Mm x.1)
abbrev Eaz : WF := (40, XaQ) :: Wao
def Fal : Ta := ⟨19, ⟨[(3, Ea), (6, (.data Xm)), (7, Ea), (8, Ea)], []⟩, 0, ⟨[(3, Ea)], []⟩, ⟨[], []⟩, Mu⟩
def RaO : WL := [(3, Fal)]
theorem EaC : Gb (WG true Wao [] [] []) RaO (lp f40 0) := Wc 3 (ls := Fal) rfl
theorem KaM : WO Eaz := Cg NaN func40 (Na EaC Oa)
abbrev VaQ : Qa := .pu (.p Be .u) Fe [true] (fun x => Dl x.1)
abbrev Caz : WF := (38, VaQ) :: Eaz
theorem IaM : WO Caz := Qe KaM func38
abbrev EaR : Qa := .pu (.p Nc .u) Eg [true] (fun x => Nk x.1)
abbrev Iaz : WF := (49, EaR) :: Caz
theorem RaM : WO Iaz := Qe IaM func49
abbrev IaQ : Qa := .pu (.p Nc Eg) Fe [true] (fun x => Uj x.1 x.2.1)
abbrev Fao : WF := (25, IaQ) :: Iaz
theorem VaL : WO Fao := Qe RaM func25
abbrev OaR : Qa := .pu (.p int (.p Gw .u)) Eg [true] (fun x => Vs x.1 x.2.1)
abbrev Saf : WF := (61, OaR) :: Fao
def Nal : Ta := ⟨27, ⟨[(0, Ea), (7, DB), (8, Ea), (9, Ea)], []⟩, 0, ⟨[(0, Ea)], []⟩, ⟨[], []⟩, Ws⟩
def ZaO : WL := [(2, Nal)]
theorem MaC : Gb (WG true Fao [] [] []) ZaO (lp f61 0) := Wc 2 (ls := Nal) rfl
theorem BaN : WO Saf := Cg VaL func61 (Na MaC Oa)
abbrev FaQ : Qa := .pu (.p Ze .u) Fe [true] (fun x => Iy x.1)
abbrev Vay : WF := (22, FaQ) :: Saf
def Zak : Ta := ⟨152, ⟨[(1, Pi), (3, Ea), (62, LA), (63, Ea), (64, Ea)], [(1, Ze, (.data Ze))]⟩, 0, ⟨[(1, Pi)], [(1, Ze, (.data Ze))]⟩, ⟨[(2, Tg)], []⟩, Jw⟩
def Dad : Ta := ⟨152, ⟨[(1, Pi), (6, Ea), (8, Ea), (116, DB), (117, Ea), (118, Ea)], [(1, Ze, (.data Ze))]⟩, 2, ⟨[(1, Pi), (6, Ea), (8, Ea)], [(1, Ze, (.data Ze))]⟩, ⟨[], []⟩, En⟩
def NaA : WL := [(7, Zak), (17, Dad)]
theorem YaB : Gb (WG true Saf [] [] []) NaA (lp f22 0) := Wc 7 (ls := Zak) rfl
theorem Fax : Gb (WG true Saf [] [] []) NaA (lp f22 1) := Wc 17 (ls := Dad) rfl
theorem SaL : WO Vay := Cg BaN func22 (Na Fax (Na YaB Oa))
abbrev MaQ : Qa := .pu SH SH [true] (fun x => Lm x.1)
abbrev Xay : WF := (29, MaQ) :: Vay
theorem ZaL : WO Xay := Qe SaL func29
abbrev RaQ : Qa := .pu EJ EJ [true] (fun x => Gk x.1)
abbrev Kao : WF := (34, RaQ) :: Xay
theorem EaM : WO Kao := Qe ZaL func34
abbrev UaI : Qa := .pu RQ RQ [true] (fun x => Hx x.1)
abbrev Vae : WF := (108, UaI) :: Kao
def Wab : Ta := ⟨25, ⟨[(2, Km), (3, MC), (10, CO), (11, Ea), (12, Ea)], [(2, Ec, (.pr Ea (.pr CO .un))), (3, Ec, GY)]⟩, 0, ⟨[(2, Km), (3, MC)], [(2, Ec, (.pr Ea (.pr CO .un))), (3, Ec, GY)]⟩, ⟨[], []⟩, Qq⟩
def WaG : WL := [(3, Wab)]
theorem Yav : Gb (WG true Kao [] [] []) WaG (lp f108 0) := Wc 3 (ls := Wab) rfl
theorem PaE : WO Vae := Cg EaM func108 (Na Yav Oa)
abbrev VaI : Qa := .pu (.p (.sl Ym) .u) (.p (.sl Ym) .u) [true] (fun x => Ix x.1)
abbrev Gas : WF := (109, VaI) :: Vae
def Xab : Ta := ⟨19, ⟨[(3, (.own 200001 Ym true)), (6, (.data (.sl Ym))), (7, Ea), (8, Ea)], []⟩, 0, ⟨[(3, (.own 200001 Ym true))], []⟩, ⟨[], []⟩, Rq⟩
def XaG : WL := [(3, Xab)]
theorem Zav : Gb (WG true Vae [] [] []) XaG (lp f109 0) := Wc 3 (ls := Xab) rfl
theorem QaE : WO Gas := Cg PaE func109 (Na Zav Oa)
abbrev BaS : Qa := .pu DO DO [true] (fun x => Bk x.1)
abbrev Xaz : WF := (74, BaS) :: Gas
theorem OaN : WO Xaz := Qe QaE func74
abbrev WaQ : Qa := .pu (.p Be .u) (.p Be .u) [true] (fun x => Gl x.1)
abbrev Daz : WF := (39, WaQ) :: Xaz
theorem JaM : WO Daz := Qe OaN func39
abbrev GaQ : Qa := .pu (.p Ze .u) (.p Ze .u) [true] (fun x => Xz x.1)
abbrev HV : WF := (23, GaQ) :: Daz
theorem TaL : WO HV := Qe JaM func23
abbrev PaR : Qa := .pu (.p Nc Eg) Eg [true] (fun x => Ot x.1 x.2.1)
abbrev Qaz : WF := (62, PaR) :: HV
def Oal : Ta := ⟨83, ⟨[(1, Ea), (2, Km), (5, (.arr 200001 int)), (15, Ea), (16, Ea)], [(2, Nc, NA)]⟩, 0, ⟨[(2, Km), (5, (.arr 200001 int))], [(2, Nc, NA)]⟩, ⟨[], []⟩, TC⟩
def Gad : Ta := ⟨83, ⟨[(2, Km), (5, (.arr 200301 int)), (7, Ea), (34, Ea), (35, Ea), (38, Ea), (39, Ea), (43, Ea), (44, Ea)], [(2, Nc, NA)]⟩, 6, ⟨[(2, Km), (5, (.arr 200301 int)), (34, Ea), (35, Ea), (38, Ea), (39, Ea)], [(2, Nc, NA)]⟩, ⟨[], []⟩, UA⟩
def Fad : Ta := ⟨83, ⟨[(2, Km), (5, (.arr 200201 int)), (34, Ea), (35, Ea), (38, Ea), (39, Ea)], [(2, Nc, NA)]⟩, 4, ⟨[(2, Km), (5, (.arr 200201 int)), (34, Ea), (35, Ea)], [(2, Nc, NA)]⟩, ⟨[], []⟩, TA⟩
def Ead : Ta := ⟨83, ⟨[(2, Km), (5, (.arr 200101 int)), (34, Ea), (35, Ea)], [(2, Nc, NA)]⟩, 2, ⟨[(2, Km), (5, (.arr 200101 int))], [(2, Nc, NA)]⟩, ⟨[], []⟩, SA⟩
def Had : Ta := ⟨83, ⟨[(2, Km), (5, (.arr 200401 int)), (9, Ea), (67, Ea), (68, Ea)], [(2, Nc, NA)]⟩, 8, ⟨[(9, Ea)], []⟩, ⟨[], []⟩, VA⟩
def Q6 : WL := [(5, Oal), (15, Gad), (12, Fad), (10, Ead), (24, Had)]
theorem NaC : Gb (WG true HV [] [] []) Q6 (lp f62 0) := Wc 5 (ls := Oal) rfl
theorem Iax : Gb (WG true HV [] [] []) Q6 (lp f62 3) := Wc 15 (ls := Gad) rfl
theorem Hax : Gb (WG true HV [] [] []) Q6 (lp f62 2) := Wc 12 (ls := Fad) rfl
theorem Gax : Gb (WG true HV [] [] []) Q6 (lp f62 1) := Wc 10 (ls := Ead) rfl
theorem Jax : Gb (WG true HV [] [] []) Q6 (lp f62 4) := Wc 24 (ls := Had) rfl
theorem CaN : WO Qaz := Cg TaL func62 (Na Jax (Na Iax (Na Hax (Na Gax (Na NaC Oa)))))
abbrev QaR : Qa := .pu (.p Nc Eg) Fe [true] (fun x => Xn x.1 x.2.1)
abbrev Raz : WF := (63, QaR) :: Qaz
theorem DaN : WO Raz := Qe CaN func63
abbrev UaS : Qa := .pu (.p Nc Vc) (.p int Fe) [true, true] (fun x => Yt x.1 x.2.1 x.2.2.1)
abbrev Dap : WF := (99, UaS) :: Raz
theorem HaO : WO Dap := Qe DaN func99
abbrev RaR : Qa := .pu (.p Nc Eg) Eg [true] (fun x => Vz x.1 x.2.1)
abbrev Saz : WF := (64, RaR) :: Dap
def Pal : Ta := ⟨38, ⟨[(1, Ea), (2, Km), (5, Ea), (14, Ea), (15, Ea)], [(2, Nc, NA)]⟩, 0, ⟨[(5, Ea)], []⟩, ⟨[], []⟩, Qs⟩
def AaP : WL := [(5, Pal)]
theorem OaC : Gb (WG true Dap [] [] []) AaP (lp f64 0) := Wc 5 (ls := Pal) rfl
theorem EaN : WO Saz := Cg HaO func64 (Na OaC Oa)
abbrev KaQ : Qa := .pu (.p Nc Vc) (.p int Fe) [true, true] (fun x => Vl x.1 x.2.1 x.2.2.1)
abbrev Hao : WF := (27, KaQ) :: Saz
theorem XaL : WO Hao := Qe EaN func27
abbrev NaQ : Qa := .pu (.p Zc Eg) (.p Zc Fe) [true, true] (fun x => Ek x.1 x.2.1)
abbrev Iao : WF := (30, NaQ) :: Hao
def Bal : Ta := ⟨94, ⟨[(1, Ea), (2, Km), (4, Fp), (6, UH), (27, AM), (28, Ea), (29, Ea)], [(2, Zc, (.data Zc)), (4, Zc, Nag), (6, Zc, (.pr Ea (.pr Ea (.pr Ea (.pr Ea (.pr Ea (.pr Fw (.data .u))))))))]⟩, 0, ⟨[(1, Ea), (4, Fp), (6, UH)], [(4, Zc, Nag), (6, Zc, (.pr Ea (.pr Ea (.pr Ea (.pr Ea (.pr Ea (.pr Fw (.data .u))))))))]⟩, ⟨[], []⟩, Io⟩
def NaO : WL := [(6, Bal)]
theorem AaC : Gb (WG true Hao [] [] []) NaO (lp f30 0) := Wc 6 (ls := Bal) rfl
theorem AaM : WO Iao := Cg XaL func30 (Na AaC Oa)
abbrev OaQ : Qa := .pu Td (.p Gw .u) [true] (fun x => Xl x.1 x.2.1 x.2.2.1)
abbrev Jao : WF := (31, OaQ) :: Iao
def Cal : Ta := ⟨31, ⟨[(0, Ea), (1, Ea), (2, Ea), (7, QQ), (8, Ea)], []⟩, 0, ⟨[(7, QQ)], []⟩, ⟨[], []⟩, Mn⟩
def OaO : WL := [(3, Cal)]
theorem BaC : Gb (WG true Iao [] [] []) OaO (lp f31 0) := Wc 3 (ls := Cal) rfl
theorem BaM : WO Jao := Cg AaM func31 (Na BaC Oa)
abbrev WaR : Qa := .bx false false Yd Vc (.p Gw .u) [true] (fun x0 x => Fo x0 x.1 x.2.1)
abbrev Taz : WF := (69, WaR) :: Jao
def Tal : Ta := ⟨92, ⟨[(0, KC), (1, Ea), (2, Ea), (14, Ea), (15, Ea)], [(500000, Yd, EaB)]⟩, 0, ⟨[(0, KC), (1, Ea), (2, Ea)], [(500000, Yd, EaB)]⟩, ⟨[(0, KC), (6, QQ)], [(500000, Yd, Map)]⟩, Ip⟩
def DaP : WL := [(2, Tal)]
theorem SaC : Gb (WG false Jao [] [] []) DaP (lp f69 0) := Wc 2 (ls := Tal) rfl
theorem JaN : WO Taz := OH BaM func69 (Na SaC Oa)
abbrev OaI : Qa := .pu (.p Nc .u) Fe [true] (fun x => Yl x.1)
abbrev Qae : WF := (102, OaI) :: Taz
theorem JaE : WO Qae := Qe JaN func102
abbrev PaI : Qa := .pu (.p (.sl Vc) Eg) Fe [true] (fun x => LB x.1 x.2.1)
abbrev Rae : WF := (103, PaI) :: Qae
def Qab : Ta := ⟨19, ⟨[(1, Ea), (7, LA), (8, Ea), (9, Ea)], []⟩, 0, ⟨[], []⟩, ⟨[(4, Tg)], []⟩, Ry⟩
def SaG : WL := [(2, Qab)]
theorem Sav : Gb (WG true Qae [] [] []) SaG (lp f103 0) := Wc 2 (ls := Qab) rfl
theorem KaE : WO Rae := Cg JaE func103 (Na Sav Oa)
abbrev QaI : Qa := .pu (.p (.sl Vc) Eg) (.p int Fe) [true, true] (fun x => Gm x.1 x.2.1)
abbrev Sae : WF := (104, QaI) :: Rae
def Rab : Ta := ⟨32, ⟨[(1, Ea), (6, Ea), (7, Tg), (10, LA), (11, Ea), (12, Ea)], []⟩, 0, ⟨[(6, Ea), (7, Tg)], []⟩, ⟨[], []⟩, Uq⟩
def TaG : WL := [(3, Rab)]
theorem Tav : Gb (WG true Rae [] [] []) TaG (lp f104 0) := Wc 3 (ls := Rab) rfl
theorem LaE : WO Sae := Cg KaE func104 (Na Tav Oa)
abbrev XaR : Qa := .pu (.p (.sl Vc) (.p int (.p Gw Eg))) Td [true, true, true] (fun x => Bx x.1 x.2.1 x.2.2.1 x.2.2.2.1)
abbrev Uaz : WF := (70, XaR) :: Sae
def Jad : Ta := ⟨146, ⟨[(0, LA), (1, Ea), (3, Ea), (11, (.ptr 11 [])), (12, Ea), (13, Ea), (14, Ea), (15, Tg), (69, DB), (70, Ea), (71, Ea)], [(11, Nc, NA)]⟩, 0, ⟨[(0, LA), (3, Ea), (12, Ea), (13, Ea), (14, Ea), (15, Tg)], []⟩, ⟨[(8, Ea), (9, Ea), (10, Ea)], []⟩, Xk⟩
def EaP : WL := [(11, Jad)]
theorem Lax : Gb (WG true Sae [] [] []) EaP (lp f70 0) := Wc 11 (ls := Jad) rfl
theorem KaN : WO Uaz := Cg LaE func70 (Na Lax Oa)
abbrev UaQ : Qa := .bx false false Yd .u (.p Gw Fe) [true, true] (fun x0 x => Di x0)
abbrev Lao : WF := (37, UaQ) :: Uaz
theorem HaM : WO Lao := OH (L := []) (m := []) (v := []) (l := []) (z := false) KaN func37 Oa
abbrev YaP : Qa := .pu (.p Yd (.p Gw Eg)) (.p Yd (.p Gw Fe)) [true, true, true] (fun x => Gi x.1 x.2.1 x.2.2.1)
abbrev Cao : WF := (11, YaP) :: Lao
def Cac : Ta := ⟨84, ⟨[(6, UH), (9, (.ptr 9 [])), (12, QQ)], [(6, Yd, (.pr LA (.pr Ea (.pr DB (.pr Ea (.pr Ea (.pr Ea (.pr DB .un)))))))), (9, Yd, Map)]⟩, 0, ⟨[(6, UH), (9, (.ptr 9 [])), (12, QQ)], [(6, Yd, (.pr LA (.pr Ea (.pr DB (.pr Ea (.pr Ea (.pr Ea (.pr DB .un)))))))), (9, Yd, Map)]⟩, ⟨[], []⟩, Tf⟩
def JaO : WL := [(10, Cac)]
theorem Eaw : Gb (WG true Lao [] [] []) JaO (lp f11 0) := Wc 10 (ls := Cac) rfl
theorem LaL : WO Cao := Cg HaM func11 (Na Eaw Oa)
abbrev WaI : Qa := .pu (.p Pc Eg) Eg [true] (fun x => ZF x.1 x.2.1)
abbrev Has : WF := (110, WaI) :: Cao
def Yab : Ta := ⟨21, ⟨[(1, Ea), (8, (.data Xm)), (9, Ea), (10, Ea)], []⟩, 0, ⟨[], []⟩, ⟨[(4, Ea)], []⟩, Hy⟩
def YaG : WL := [(2, Yab)]
theorem Aaw : Gb (WG true Cao [] [] []) YaG (lp f110 0) := Wc 2 (ls := Yab) rfl
theorem RaE : WO Has := Cg LaL func110 (Na Aaw Oa)
abbrev MaK : Qa := .io (.sl int) .u .u [] (fun x0 _ => sort_Ints x0)
abbrev Naf : WF := (159, MaK) :: Has
end
end KF
namespace Go.Proofs
open Go.Shelf
def Tryz.lays_sort_Ints_ren : Go.Shelf.Ren := ⟨fun | 191 => 159 | 189 => 164 | 125 => 171 | 257 => 170 | 128 => 181 | 129 => 182 | 294 => 172 | 295 => 173 | 296 => 174 | 297 => 175 | 298 => 176 | 299 => 177 | 216 => 178 | 300 => 179 | 301 => 180 | 328 => 183 | 329 => 184 | 330 => 185 | 331 => 186 | 332 => 187 | 215 => 188 | 343 => 189 | n => n, fun | 28 => 26 | 0 => 0 | 3 => 3 | 46 => 179 | 51 => 213 | 53 => 215 | 4 => 4 | 183 => 237 | 182 => 236 | 131 => 87 | 5 => 5 | 9 => 9 | 218 => 243 | 222 => 247 | 228 => 249 | 229 => 158 | n => n, fun | n => n⟩
theorem Tryz.lays_sort_Ints : Go.Proofs.Lays.n191 Tryz.prog Tryz.lays_sort_Ints_ren := {
 mixed := by kernel_rfl
 f125 := Tryz.func171.trans (congrArg some (by kernel_rfl))
 f128 := Tryz.func181.trans (congrArg some (by kernel_rfl))
 f129 := Tryz.func182.trans (congrArg some (by kernel_rfl))
 f189 := Tryz.func164.trans (congrArg some (by kernel_rfl))
 f191 := Tryz.func159.trans (congrArg some (by kernel_rfl))
 f215 := Tryz.func188.trans (congrArg some (by kernel_rfl))
 f216 := Tryz.func178.trans (congrArg some (by kernel_rfl))
 f257 := Tryz.func170.trans (congrArg some (by kernel_rfl))
 f294 := Tryz.func172.trans (congrArg some (by kernel_rfl))
 f295 := Tryz.func173.trans (congrArg some (by kernel_rfl))
 f296 := Tryz.func174.trans (congrArg some (by kernel_rfl))
 f297 := Tryz.func175.trans (congrArg some (by kernel_rfl))
 f298 := Tryz.func176.trans (congrArg some (by kernel_rfl))
 f299 := Tryz.func177.trans (congrArg some (by kernel_rfl))
 f300 := Tryz.func179.trans (congrArg some (by kernel_rfl))
 f301 := Tryz.func180.trans (congrArg some (by kernel_rfl))
 f328 := Tryz.func183.trans (congrArg some (by kernel_rfl))
 f329 := Tryz.func184.trans (congrArg some (by kernel_rfl))
 f330 := Tryz.func185.trans (congrArg some (by kernel_rfl))
 f331 := Tryz.func186.trans (congrArg some (by kernel_rfl))
 f332 := Tryz.func187.trans (congrArg some (by kernel_rfl))
 f343 := Tryz.func189.trans (congrArg some (by kernel_rfl))
 t0 := Tryz.underlying0
 a0 := Tryz.isAgg0
 z0 := Tryz.sizeOf0
 v0 := Tryz.zeroValue0
 t3 := Tryz.underlying3
 a3 := Tryz.isAgg3
 z3 := Tryz.sizeOf3
 v3 := Tryz.zeroValue3
 t4 := Tryz.underlying4
 a4 := Tryz.isAgg4
 z4 := Tryz.sizeOf4
 v4 := Tryz.zeroValue4
 t5 := Tryz.underlying5
 a5 := Tryz.isAgg5
 z5 := Tryz.sizeOf5
 v5 := Tryz.zeroValue5
 t9 := Tryz.underlying9
 a9 := Tryz.isAgg9
 z9 := Tryz.sizeOf9
 v9 := Tryz.zeroValue9
 t28 := Tryz.underlying26
 a28 := Tryz.isAgg26
 z28 := Tryz.sizeOf26
 v28 := Tryz.zeroValue26
 t46 := Tryz.underlying179
 a46 := Tryz.isAgg179
 z46 := Tryz.sizeOf179
 v46 := Tryz.zeroValue179
 t51 := Tryz.underlying213
 a51 := Tryz.isAgg213
 z51 := Tryz.sizeOf213
 v51 := Tryz.zeroValue213
 t53 := Tryz.underlying215
 a53 := Tryz.isAgg215
 z53 := Tryz.sizeOf215
 v53 := Tryz.zeroValue215
 t131 := Tryz.underlying87
 a131 := Tryz.isAgg87
 z131 := Tryz.sizeOf87
 v131 := Tryz.zeroValue87
 t182 := Tryz.underlying236
 a182 := Tryz.isAgg236
 z182 := Tryz.sizeOf236
 v182 := Tryz.zeroValue236
 t183 := Tryz.underlying237
 a183 := Tryz.isAgg237
 z183 := Tryz.sizeOf237
 v183 := Tryz.zeroValue237
 t218 := Tryz.underlying243
 a218 := Tryz.isAgg243
 z218 := Tryz.sizeOf243
 v218 := Tryz.zeroValue243
 t222 := Tryz.underlying247
 a222 := Tryz.isAgg247
 z222 := Tryz.sizeOf247
 v222 := Tryz.zeroValue247
 t228 := Tryz.underlying249
 a228 := Tryz.isAgg249
 z228 := Tryz.sizeOf249
 v228 := Tryz.zeroValue249
 t229 := Tryz.underlying158
 a229 := Tryz.isAgg158
 z229 := Tryz.sizeOf158
 v229 := Tryz.zeroValue158 }
end Go.Proofs
namespace KF
open Go Go.Proofs Go.Proofs.Tryz
noncomputable section
theorem HaG : WO Naf := wc RaE (Lai Tryz.lays_sort_Ints (by kernel_rfl))
abbrev NaK : Qa := .pu (.p (.sl int) Eg) Fe [true] (fun x => CG x.1 x.2.1)
abbrev Oaf : WF := (160, NaK) :: Naf
def Xac : Ta := ⟨17, ⟨[(1, Ea), (7, AM), (8, Ea), (9, Ea)], []⟩, 0, ⟨[], []⟩, ⟨[(4, Tg)], []⟩, Ny⟩
def PaH : WL := [(2, Xac)]
theorem Zaw : Gb (WG true Naf [] [] []) PaH (lp f160 0) := Wc 2 (ls := Xac) rfl
theorem IaG : WO Oaf := Cg HaG func160 (Na Zaw Oa)
abbrev YaJ : Qa := .pu SH SH [true] (fun x => Ts x.1)
abbrev Haf : WF := (143, YaJ) :: Oaf
def Qac : Ta := ⟨31, ⟨[(4, Fw), (11, (.own 200002 int true)), (12, Ea), (13, Ea)], []⟩, 0, ⟨[(4, Fw)], []⟩, ⟨[], []⟩, Mw⟩
def KaH : WL := [(5, Qac)]
theorem Saw : Gb (WG true Oaf [] [] []) KaH (lp f143 0) := Wc 5 (ls := Qac) rfl
theorem TaF : WO Haf := Cg IaG func143 (Na Saw Oa)
abbrev YaI : Qa := .pu (.p Xm .u) (.p Qg .u) [true] (fun x => Ud x.1)
abbrev Wae : WF := (112, YaI) :: Haf
def Zab : Ta := ⟨45, ⟨[(2, Km), (3, MC), (4, Fw), (11, (.data Xm)), (12, Ea), (13, Ea)], [(2, Qg, HY), (3, Qg, HY)]⟩, 0, ⟨[(2, Km), (3, MC), (4, Fw)], [(2, Qg, HY), (3, Qg, HY)]⟩, ⟨[], []⟩, Gu⟩
def ZaG : WL := [(6, Zab)]
theorem Baw : Gb (WG true Haf [] [] []) ZaG (lp f112 0) := Wc 6 (ls := Zab) rfl
theorem TaE : WO Wae := Cg TaF func112 (Na Baw Oa)
abbrev CaR : Qa := .pu (.p (.sl int) SH) Fe [true] (fun x => YB x.1 x.2.1)
abbrev Gaz : WF := (45, CaR) :: Wae
def Ial : Ta := ⟨26, ⟨[(0, AM), (1, AM), (12, Ea), (13, Ea)], []⟩, 0, ⟨[], []⟩, ⟨[(4, Tg)], []⟩, Nu⟩
def UaO : WL := [(4, Ial)]
theorem HaC : Gb (WG true Wae [] [] []) UaO (lp f45 0) := Wc 4 (ls := Ial) rfl
theorem PaM : WO Gaz := Cg TaE func45 (Na HaC Oa)
abbrev XaD : Qa := .pu (.p Qg (.p Qg .u)) Fe [true] (fun x => Bi x.1 x.2.1)
abbrev Say : WF := (15, XaD) :: Gaz
theorem Pay : WO Say := Qe PaM func15
abbrev XaI : Qa := .co (.p Qg Y0) Y0 [true] (fun x => Ye x.1 x.2.1)
abbrev Ias : WF := (111, XaI) :: Say
def GTo : List (Nat × Ty) := [(3, int), (66, ZL), (106, (.sl ZL))]
theorem MaA : ((GTo.all fun x => Ee Tryz.prog x.2 x.1) && (([] : List (Nat × Ty × Nat)).all fun x => NV Tryz.prog x.1 x.2.1 x.2.2)) = true := by kernel_rfl
@[reducible] def Pap (c : T Te → T Te → Option Bool) : Qa := .pu (.p ZL (.p (.sl ZL) .u)) (.p (.sl ZL) .u) [true] (fun x => Rag c x.1 x.2.1)
def Raj (c : T Te → T Te → Option Bool) : Wf := ⟨GTo, [(15, I2 c)], [], true, [], [], []⟩
theorem Oap (I : Ni) (c : T Te → T Te → Option Bool) (h : Qj Tryz.prog I 15 (I2 c)) : Wj Tryz.prog I (Raj c) := Wj.cons h (K3 MaA)
def C3 (c : T Te → T Te → Option Bool) : Ta := ⟨25, ⟨[(2, Km), (5, (.own 200001 ZL true)), (8, (.data (.sl ZL))), (9, Ea), (10, Ea)], [(2, ZL, (.data ZL))]⟩, 0, ⟨[(5, (.own 200001 ZL true))], []⟩, ⟨[], []⟩, Zv c⟩
def Saj (c : T Te → T Te → Option Bool) : List (Nat × Ta) := [(3, C3 c)]
theorem Sag (c : T Te → T Te → Option Bool) : Gb (Raj c) (Saj c) (lp Tryz.f111 0) := Z3 (r := 3) (ls := C3 c) (R := fun x => VE c x.1.1 x.1.2.1 x.1.2.2.1 x.1.2.2.2.1 x.1.2.2.2.2.1 x.2.1) (by kernel_rfl) (by kernel_rfl) rfl (fun x => by kernel_rfl)
theorem Qap (I : Ni) (c : T Te → T Te → Option Bool) (h : Qj Tryz.prog I 15 (I2 c)) : Qj Tryz.prog I 111 (Pap c) := LS (L := Saj c) (k := 1) (Oap I c h) X2 Tryz.func111 (by kernel_rfl) (Na (Sag c) Oa) (fun x => by kernel_rfl)
theorem SaE : WO Ias := wc Pay (Han (f2 := 15) (SR := fun x => Bi x.1 x.2.1) (same := Zo) Tar (FaE (s := XaD) Pay (by kernel_rfl)) (fun I c h => ⟨_, Qap I c h, Bav c⟩))
abbrev CaS : Qa := .pu (.p Pc Eg) (.p Pc Y0) [true, true] (fun x => Qy x.1 x.2.1)
abbrev Xao : WF := (75, CaS) :: Ias
theorem PaN : WO Xao := Qe SaE func75
abbrev DaS : Qa := .pu (.p int (.p Xm .u)) Eg [true] (fun x => Rv x.1 x.2.1)
abbrev Yao : WF := (76, DaS) :: Xao
def Wal : Ta := ⟨39, ⟨[(5, Ea), (21, (.data Xm)), (22, Ea), (23, Ea)], []⟩, 0, ⟨[(5, Ea)], []⟩, ⟨[], []⟩, Ak⟩
def GaP : WL := [(7, Wal)]
theorem VaC : Gb (WG true Xao [] [] []) GaP (lp f76 0) := Wc 7 (ls := Wal) rfl
theorem QaN : WO Yao := Cg PaN func76 (Na VaC Oa)
abbrev BaJ : Qa := .pu (.p Ec Vc) Eg [true] (fun x => Oy x.1 x.2.1 x.2.2.1)
abbrev Kas : WF := (115, BaJ) :: Yao
def Aac : Ta := ⟨33, ⟨[(1, Ea), (2, Ea), (3, MC), (7, Ea)], [(3, Ec, LC)]⟩, 0, ⟨[], []⟩, ⟨[(6, Ea)], []⟩, Cj⟩
def AaH : WL := [(2, Aac)]
theorem Caw : Gb (WG true Yao [] [] []) AaH (lp f115 0) := Wc 2 (ls := Aac) rfl
theorem WaE : WO Kas := Cg QaN func115 (Na Caw Oa)
abbrev AaJ : Qa := .pu (.p Ec Vc) Eg [true] (fun x => OJ x.1 x.2.1 x.2.2.1)
abbrev Jas : WF := (114, AaJ) :: Kas
theorem VaE : WO Jas := Qe WaE func114
abbrev FaS : Qa := .pu (.p Ec Vc) UE [true] (fun x => VB x.1 x.2.1 x.2.2.1)
abbrev Yaz : WF := (78, FaS) :: Jas
theorem SaN : WO Yaz := Qe VaE func78
abbrev EaS : Qa := .pu UE Fe [true] (fun x => Yn x.1)
abbrev Zao : WF := (77, EaS) :: Yaz
theorem RaN : WO Zao := Qe SaN func77
abbrev GaS : Qa := .pu (.p Td (.p int (.p int (.p Gw Eg)))) Vc [true, true] (fun x => Mv x.1 x.2.1 x.2.2.1 x.2.2.2.1 x.2.2.2.2.1)
abbrev Zaz : WF := (79, GaS) :: Zao
def Xal : Ta := ⟨102, ⟨[(1, Ea), (2, Ea), (4, Ea), (5, (.ptr 5 [])), (12, Ea), (26, DB), (27, Ea), (28, Ea)], [(5, Td, (.data Td))]⟩, 0, ⟨[(2, Ea), (4, Ea), (5, (.ptr 5 []))], [(5, Td, (.data Td))]⟩, ⟨[(10, Ea), (11, Ea)], []⟩, Au⟩
def HaP : WL := [(5, Xal)]
theorem WaC : Gb (WG true Zao [] [] []) HaP (lp f79 0) := Wc 5 (ls := Xal) rfl
theorem TaN : WO Zaz := Cg RaN func79 (Na WaC Oa)
abbrev CaJ : Qa := .pu UE UE [true] (fun x => AG x.1)
abbrev Las : WF := (116, CaJ) :: Zaz
theorem XaE : WO Las := Qe TaN func116
abbrev DaJ : Qa := .pu UE UE [true] (fun x => HI x.1)
abbrev Mas : WF := (117, DaJ) :: Las
theorem YaE : WO Mas := Qe XaE func117
abbrev CaK : Qa := .pu Eg Fe [true] (fun x => Ax x.1)
abbrev Bat : WF := (147, CaK) :: Mas
theorem XaF : WO Bat := Qe YaE func147
abbrev EaJ : Qa := .bx false false Pc UE UE [true] (fun x0 x => Tq x0 x.1)
abbrev Xae : WF := (118, EaJ) :: Bat
theorem ZaE : WO Xae := OH (L := []) (m := []) (v := []) (l := []) (z := false) XaF func118 Oa
abbrev DaK : Qa := .pu (.p Qg (.p (.sl Vc) .u)) (.p Qg .u) [true] (fun x => Bg x.1 x.2.1)
abbrev Iaf : WF := (148, DaK) :: Xae
def Rac : Ta := ⟨37, ⟨[(4, Fp), (5, (.ptr 5 [])), (6, Fw), (15, LA), (16, Ea), (17, Ea)], [(4, Qg, HY), (5, Qg, HY)]⟩, 0, ⟨[(4, Fp), (5, (.ptr 5 [])), (6, Fw)], [(4, Qg, HY), (5, Qg, HY)]⟩, ⟨[], []⟩, Ys⟩
def LaH : WL := [(4, Rac)]
theorem Taw : Gb (WG true Xae [] [] []) LaH (lp f148 0) := Wc 4 (ls := Rac) rfl
theorem YaF : WO Iaf := Cg ZaE func148 (Na Taw Oa)
abbrev FaJ : Qa := .pu (.p Xm (.p Ym .u)) Y0 [true] (fun x => Fk x.1 x.2.1)
abbrev Nas : WF := (119, FaJ) :: Iaf
def Bac : Ta := ⟨74, ⟨[(5, (.ptr 5 [])), (6, (.own 200001 Qg true)), (7, (.own 200002 Vc true)), (22, (.data Ym)), (23, Ea), (24, Ea)], [(5, Qg, (.pr Ea (.pr (.own 200003 int true) .un)))]⟩, 0, ⟨[(6, (.own 200001 Qg true))], []⟩, ⟨[], []⟩, Ko⟩
def BaH : WL := [(7, Bac)]
theorem Daw : Gb (WG true Iaf [] [] []) BaH (lp f119 0) := Wc 7 (ls := Bac) rfl
theorem AaF : WO Nas := Cg YaF func119 (Na Daw Oa)
abbrev HaS : Qa := .pu (.p Pc (.p int Fe)) (.p Pc Y0) [true, true] (fun x => Ti x.1 x.2.1 x.2.2.1)
abbrev BaA : WF := (80, HaS) :: Nas
theorem UaN : WO BaA := Qe AaF func80
abbrev YaQ : Qa := .bx false false Be .u (.p (.sl Qg) Fe) [true, true] (fun x0 x => Ri x0)
abbrev Mao : WF := (41, YaQ) :: BaA
theorem LaM : WO Mao := OH (L := []) (m := []) (v := []) (l := []) (z := false) UaN func41 Oa
abbrev ZaQ : Qa := .co (.p (.sl IC) (.p int Y0)) (.p (.sl IC) .u) [true] (fun x => BH x.1 x.2.1 x.2.2.1)
abbrev Nao : WF := (42, ZaQ) :: Mao
def Gal : Ta := ⟨23, ⟨[(0, QV), (1, Ea), (9, (.mov 200002 Qg)), (10, Ea), (11, Ea)], []⟩, 0, ⟨[(0, QV)], []⟩, ⟨[], []⟩, UC⟩
def SaO : WL := [(2, Gal)]
theorem FaC : Gb (WG false Mao [] [] [14]) SaO (lp f42 0) := Wc 2 (ls := Gal) rfl
theorem MaM : WO Nao := wco LaM func42 (Na FaC Oa)
abbrev ZaP : Qa := .pu (.p Be (.p Gw Eg)) (.p Be (.p (.sl IC) Fe)) [true, true, true] (fun x => Em x.1 x.2.1 x.2.2.1)
abbrev Qay : WF := (12, ZaP) :: Nao
def Xak : Ta := ⟨86, ⟨[(6, UH), (9, (.ptr 9 [])), (10, QV)], [(6, Be, Mag), (9, Be, CaB)]⟩, 0, ⟨[(6, UH), (9, (.ptr 9 [])), (10, QV)], [(6, Be, Mag), (9, Be, CaB)]⟩, ⟨[], []⟩, Zg⟩
def KaO : WL := [(9, Xak)]
theorem WaB : Gb (WG true Nao [] [] []) KaO (lp f12 0) := Wc 9 (ls := Xak) rfl
theorem MaL : WO Qay := Cg MaM func12 (Na WaB Oa)
abbrev HaQ : Qa := .pu (.p Ze Eg) (.p Ze (.p (.sl IC) Fe)) [true, true, true] (fun x => Ps x.1 x.2.1)
abbrev Eao : WF := (24, HaQ) :: Qay
theorem UaL : WO Eao := Qe MaL func24
abbrev s_7 : Qa := .pu (.p Ze SH) (.p Ze (.p (.sl IC) Fe)) [true, true, true] (fun x => Lk x.1 x.2.1)
abbrev F_7 : WF := (7, s_7) :: Eao
def Hau : Ta := ⟨48, ⟨[(4, Fp), (7, (.ptr 7 [])), (8, QV), (25, AM), (26, Ea), (27, Ea)], [(4, Ze, c1_), (7, Ze, c4_)]⟩, 0, ⟨[(4, Fp), (7, (.ptr 7 [])), (8, QV)], [(4, Ze, c1_), (7, Ze, c4_)]⟩, ⟨[(4, Fp), (5, QV), (6, Tg)], [(4, Ze, c1_)]⟩, Zt⟩
def L_7 : WL := [(6, Hau)]
theorem AaI : Gb (WG true Eao [] [] []) L_7 (lp f7 0) := Wc 6 (ls := Hau) rfl
theorem E_7 : WO F_7 := Cg UaL func7 (Na AaI Oa)
abbrev JaQ : Qa := .pu (.p Nc Eg) (.p int Fe) [true, true] (fun x => Dx x.1 x.2.1)
abbrev Gao : WF := (26, JaQ) :: F_7
theorem WaL : WO Gao := Qe E_7 func26
abbrev s_8 : Qa := .pu (.p Nc Qg) (.p (.sl int) Fe) [true, true] (fun x => Eo x.1 x.2.1 x.2.2.1)
abbrev F_8 : WF := (8, s_8) :: Gao
def Iau : Ta := ⟨51, ⟨[(1, Ea), (3, MC), (8, Fw), (19, AM), (20, Ea), (21, Ea)], [(3, Nc, NA)]⟩, 0, ⟨[(8, Fw)], []⟩, ⟨[(6, Fw), (7, Tg)], []⟩, Hp⟩
def L_8 : WL := [(5, Iau)]
theorem BaI : Gb (WG true Gao [] [] []) L_8 (lp f8 0) := Wc 5 (ls := Iau) rfl
theorem E_8 : WO F_8 := Cg WaL func8 (Na BaI Oa)
abbrev s_9 : Qa := .pu (.p Zc SH) (.p Zc (.p (.sl int) Fe)) [true, true, true] (fun x => Ho x.1 x.2.1)
abbrev F_9 : WF := (9, s_9) :: F_8
def Jau : Ta := ⟨49, ⟨[(2, Km), (4, Fp), (7, Fw), (25, AM), (26, Ea), (27, Ea)], [(2, Zc, GaB), (4, Zc, (.pr Ea (.pr Ea (.pr Ea (.pr Ea (.pr Ea (.pr (.own 200003 int true) .un)))))))]⟩, 0, ⟨[(2, Km), (4, Fp), (7, Fw)], [(2, Zc, GaB), (4, Zc, (.pr Ea (.pr Ea (.pr Ea (.pr Ea (.pr Ea (.pr (.own 200003 int true) .un)))))))]⟩, ⟨[(4, Fp), (5, Fw), (6, Tg)], [(4, Zc, (.pr Ea (.pr Ea (.pr Ea (.pr Ea (.pr Ea (.pr (.own 200002 int true) .un)))))))]⟩, Jp⟩
def L_9 : WL := [(6, Jau)]
theorem CaI : Gb (WG true F_8 [] [] []) L_9 (lp f9 0) := Wc 6 (ls := Jau) rfl
theorem E_9 : WO F_9 := Cg E_8 func9 (Na CaI Oa)
abbrev XaP : Qa := .pu SH (.p Gw Fe) [true, true] (fun x => Nv x.1)
abbrev Bao : WF := (10, XaP) :: F_9
def Wak : Ta := ⟨36, ⟨[(4, QQ), (5, Ea), (11, AM), (12, Ea), (13, Ea)], []⟩, 0, ⟨[(4, QQ)], []⟩, ⟨[(2, QQ), (3, Tg)], []⟩, Bu⟩
def IaO : WL := [(6, Wak)]
theorem VaB : Gb (WG true F_9 [] [] []) IaO (lp f10 0) := Wc 6 (ls := Wak) rfl
theorem KaL : WO Bao := Cg E_9 func10 (Na VaB Oa)
abbrev AaQ : Qa := .pu (.p (.sl IC) (.p (.sl IC) .u)) Fe [true] (fun x => Sv x.1 x.2.1)
abbrev Aaf : WF := (13, AaQ) :: Bao
def Yak : Ta := ⟨42, ⟨[(0, (.data (.sl IC))), (1, (.data (.sl IC))), (12, Ea), (13, Ea)], []⟩, 0, ⟨[], []⟩, ⟨[(4, Tg)], []⟩, Iu⟩
def LaO : WL := [(4, Yak)]
theorem XaB : Gb (WG true Bao [] [] []) LaO (lp f13 0) := Wc 4 (ls := Yak) rfl
theorem NaL : WO Aaf := Cg KaL func13 (Na XaB Oa)
abbrev IaS : Qa := .pu (.p Ec RQ) Fe [true] (fun x => XD x.1 x.2.1)
abbrev Aap : WF := (81, IaS) :: Aaf
def Zal : Ta := ⟨68, ⟨[(2, Km), (3, MC), (5, Ea), (6, Ea)], [(2, Ec, LC), (3, Ec, LC)]⟩, 2, ⟨[(2, Km), (3, MC), (5, Ea)], [(2, Ec, LC), (3, Ec, LC)]⟩, ⟨[(4, Tg)], []⟩, Xo⟩
def Yal : Ta := ⟨68, ⟨[(2, Km), (3, MC), (5, Ea)], [(2, Ec, LC), (3, Ec, LC)]⟩, 0, ⟨[], []⟩, ⟨[(4, Tg)], []⟩, Ow⟩
def QaA : WL := [(9, Zal), (4, Yal)]
theorem YaC : Gb (WG true Aaf [] [] []) QaA (lp f81 1) := Wc 9 (ls := Zal) rfl
theorem XaC : Gb (WG true Aaf [] [] []) QaA (lp f81 0) := Wc 4 (ls := Yal) rfl
theorem VaN : WO Aap := Cg NaL func81 (Na YaC (Na XaC Oa))
abbrev JaS : Qa := .pu (.p Xm (.p Xm .u)) Fe [true] (fun x => AC x.1 x.2.1)
abbrev CaA : WF := (82, JaS) :: Aap
def Aam : Ta := ⟨26, ⟨[(0, (.data Xm)), (1, (.data Xm)), (5, Ea)], []⟩, 0, ⟨[], []⟩, ⟨[(4, Tg)], []⟩, Qu⟩
def IaP : WL := [(4, Aam)]
theorem ZaC : Gb (WG true Aap [] [] []) IaP (lp f82 0) := Wc 4 (ls := Aam) rfl
theorem WaN : WO CaA := Cg VaN func82 (Na ZaC Oa)
abbrev AaR : Qa := .pu (.p Pc DO) Fe [true] (fun x => Nx x.1 x.2.1)
abbrev Oao : WF := (43, AaR) :: CaA
theorem NaM : WO Oao := Qe WaN func43
abbrev BaR : Qa := .pu (.p Gw (.p Gw .u)) Fe [true] (fun x => Ox x.1 x.2.1)
abbrev Faz : WF := (44, BaR) :: Oao
def Hal : Ta := ⟨26, ⟨[(0, DB), (1, DB), (5, Ea)], []⟩, 0, ⟨[], []⟩, ⟨[(4, Tg)], []⟩, Vq⟩
def TaO : WL := [(4, Hal)]
theorem GaC : Gb (WG true Oao [] [] []) TaO (lp f44 0) := Wc 4 (ls := Hal) rfl
theorem OaM : WO Faz := Cg NaM func44 (Na GaC Oa)
abbrev BaQ : Qa := .pu (.p Be (.p Be .u)) Fe [true] (fun x => No x.1 x.2.1)
abbrev Ray : WF := (14, BaQ) :: Faz
theorem OaL : WO Ray := Qe OaM func14
abbrev s_3 : Qa := .pu (.p (.sl DJ) .u) Fe [true] (fun x => LI x.1)
abbrev F_3 : WF := (3, s_3) :: Ray
theorem E_3 : WO F_3 := Qe OaL func3
theorem V1 : Qj Tryz.prog II 3 s_3 := FaE E_3 (by kernel_rfl)
end
end KF
