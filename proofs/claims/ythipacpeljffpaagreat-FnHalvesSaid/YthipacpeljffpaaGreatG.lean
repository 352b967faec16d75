/- An evaluator of Go functions on plain data, its soundness, and plain laws on what the functions compute, part 7 (conditions: as each lemma tells). -/
import Derived.Test.YthipacpeljffpaaGreatF
import Derived.Test.YthipacpeljffpaaGreatRows
set_option linter.unusedSimpArgs false
set_option linter.unusedVariables false
namespace KF
open Go Go.Proofs Go.Proofs.Tryz
def GT : List (Nat × Ty) := [(3, int), (4, .b), (5, Cx), (9, .s), (22, (.sl Cx)), (25, Bc), (26, (.sl int)), (28, Je), (29, (.sl Nc)), (30, (.sl Bc)), (31, (.sl Bc)), (33, De), (34, (.sl (.sl Mc))), (36, Oc), (37, (.sl (.sl Ad))), (38, (.sl Xn)), (40, Xc), (42, Ad), (44, Ge), (46, Af), (49, (.sl Dz)), (66, Zg), (68, Dz), (70, Dh), (72, Df), (78, (.sl (.sl Cx))), (97, Bc), (106, (.sl Zg)), (120, Bh), (125, Nc), (133, Bc), (149, Mc), (151, Xn), (173, (.sl Mc)), (179, (.i .u64)), (186, (.sl Ad)), (213, (.i .u32)), (215, (.i .u64)), (216, (.sl Nc)), (218, Ad), (220, Nc)]
def GA : List (Nat × Ty × Nat) := [(177, int, 4)]
theorem CaL : ((GT.all fun x => Ke Tryz.prog x.2 x.1) && (GA.all fun x => XX Tryz.prog x.1 x.2.1 x.2.2)) = true := by kernel_rfl
theorem I5 : Tryz.prog.follows .mixedOrders = true := by kernel_rfl
noncomputable abbrev II : Oi := noI
noncomputable section
abbrev WP : Program := Tryz.prog
abbrev WF := List (Nat × Qa)
abbrev WL := List (Nat × Sa)
abbrev WG (z : Bool) (fs : WF) (m : List (Nat × Nat)) (v l : List Nat) : Yf := ⟨GT, fs, m, z, GA, v, l⟩
def WO (fs : WF) : Prop := ∀ z m v l, Dk WP II (WG z fs m v l)
theorem ZaX : WO [] := fun _ _ _ _ => W5 CaL
theorem wc {f : Nat} {s : Qa} {fs : WF} (e : WO fs) (h : Zj WP II f s) : WO ((f, s) :: fs) := fun z m v l => Dk.cons h (e z m v l)
theorem HaI {f : Nat} {s : Qa} {fs : WF} (e : WO fs) (h : Sb fs f = some s) : Zj WP II f s := (e true [] [] []).fn f s h
theorem Yc {z : Bool} {fs : WF} {m : List (Nat × Nat)} {v l : List Nat} {L : WL} {fn : Func} {i : Nat} (r : Nat) {ls : Sa} {R : ls.inT.X → Option (ls.inT.X ⊕ (ls.outT.X ⊕ ls.retT.X))}
 (h3 : ls.F = Ib R) (h1 : Ql (lp fn i) = some r := by kernel_rfl) (h2 : (Sb L r) = some ls := by kernel_rfl) (h4 : ∀ x, LN (WG z fs m v l) L ls (lp fn i) x = R x := by intro _; kernel_rfl) : Za (WG z fs m v l) L (lp fn i) := J6 h1 h2 h3 h4
theorem Ud {f : Nat} {fn : Func} {pt rt : Ty} {fr : List Bool} {F : T pt → Option (T rt)} {fs : WF} (e : WO fs) (hf : WP.funcs[f]? = some fn)
 (hb : (fn.body.isSome && !(fn.name == "runtime.NumGoroutine") && Nat.ble pt.npar fn.ntmps && Nat.beq (Cf (fn.body.getD .skip)).length 0) = true := by kernel_rfl)
 (hF : ∀ x, evF (WG true fs [] [] []) [] fn pt rt fr x = F x := by intro _; kernel_rfl) : WO ((f, .pu pt rt fr F) :: fs) := wc e (ZU (e _ _ _ _) I5 hf hb Oa hF)
theorem Cg {k : Nat} {L : WL} {m : List (Nat × Nat)} {v l : List Nat} {f : Nat} {fn : Func} {pt rt : Ty} {fr : List Bool} {F : T pt → Option (T rt)} {fs : WF} (e : WO fs) (hf : WP.funcs[f]? = some fn) (hL : ∀ i, i < k → Za (WG true fs m v l) L (lp fn i))
 (hb : (fn.body.isSome && !(fn.name == "runtime.NumGoroutine") && Nat.ble pt.npar fn.ntmps && Nat.beq (Cf (fn.body.getD .skip)).length k) = true := by kernel_rfl)
 (hF : ∀ x, evF (WG true fs m v l) L fn pt rt fr x = F x := by intro _; kernel_rfl) : WO ((f, .pu pt rt fr F) :: fs) := wc e (ZU (e _ _ _ _) I5 hf hb hL hF)
theorem wco {k : Nat} {L : WL} {m : List (Nat × Nat)} {v l : List Nat} {f : Nat} {fn : Func} {pt rt : Ty} {fr : List Bool} {F : T pt → Option (T rt)} {fs : WF} (e : WO fs) (hf : WP.funcs[f]? = some fn) (hL : ∀ i, i < k → Za (WG false fs m v l) L (lp fn i))
 (hb : (fn.body.isSome && !(fn.name == "runtime.NumGoroutine") && Nat.ble pt.npar fn.ntmps && Nat.beq (Cf (fn.body.getD .skip)).length k) = true := by kernel_rfl)
 (hF : ∀ x, L8 (WG false fs m v l) L fn pt rt fr x = F x := by intro _; kernel_rfl) : WO ((f, .co pt rt fr F) :: fs) := wc e (Raq (e _ _ _ _) rfl I5 hf hb hL hF)
theorem RJ {z : Bool} {k : Nat} {L : WL} {m : List (Nat × Nat)} {v l : List Nat} {f : Nat} {fn : Func} {vw cv : Bool} {τ pt rt : Ty} {fr : List Bool} {F : T τ → T pt → Option (T τ × T rt)} {fs : WF} (e : WO fs) (hf : WP.funcs[f]? = some fn) (hL : ∀ i, i < k → Za (WG z fs m v l) L (lp fn i))
 (hb : (fn.body.isSome && !(fn.name == "runtime.NumGoroutine") && Nat.ble (pt.npar + 1) fn.ntmps && Nat.beq (Cf (fn.body.getD .skip)).length k) = true := by kernel_rfl)
 (hF : ∀ x0 x, K8 (WG z fs m v l) L fn vw cv τ pt rt fr x0 x = F x0 x := by intro _ _; kernel_rfl) (hz : (!z || ((vw && !cv) && JS m)) = true := by kernel_rfl) : WO ((f, .bx vw cv τ pt rt fr F) :: fs) := wc e (Paq (e _ _ _ _) hz I5 hf hb hL hF)
theorem wnw {k : Nat} {L : WL} {m : List (Nat × Nat)} {v l : List Nat} {f : Nat} {fn : Func} {pt τ : Ty} {F : T pt → Option (T τ)} {fs : WF} (e : WO fs) (hf : WP.funcs[f]? = some fn) (hL : ∀ i, i < k → Za (WG true fs m v l) L (lp fn i))
 (hb : (fn.body.isSome && !(fn.name == "runtime.NumGoroutine") && Nat.ble pt.npar fn.ntmps && Nat.beq (Cf (fn.body.getD .skip)).length k) = true := by kernel_rfl)
 (hF : ∀ x, M8 (WG true fs m v l) L fn pt τ x = F x := by intro _; kernel_rfl) : WO ((f, .nw pt τ F) :: fs) := wc e (Saq (e _ _ _ _) I5 hf hb hL hF)
abbrev Da : TD := .data int
abbrev Zd : Ty := .p .b .u
abbrev Nf : Ty := .p int .u
abbrev TQ : TD := .pr Da (.pr (.own 200001 (.sl Mc) true) .un)
abbrev Lo : TD := .data (.sl Nc)
abbrev Dx : TD := .own 200001 int true
abbrev Ch : TD := .data .b
abbrev Sas : TD := .pr (.own 200002 Nc true) (.pr Da (.pr (.own 200003 Bc true) (.pr Da (.pr Da (.pr Da (.pr (.own 200004 Bc true) .un))))))
abbrev Ri : TD := .ptr 1 []
abbrev Fl : TD := .ptr 2 []
abbrev CO : TD := .own 200001 Dz true
abbrev Gx : Ty := .sl Cx
abbrev YD : TD := .ptr 500000 []
abbrev En : Ty := .sl Xn
abbrev Vk : Ty := .sl Ad
abbrev EaF : TD := .pr (.pr (.pr Da (.pr (.own 200002 (.sl Mc) true) .un)) (.pr (.own 200003 Vk true) (.pr Da (.pr (.own 200004 Xn true) (.data (.p int Zd)))))) (.pr (.data Ad) (.pr (.own 200005 Bc true) (.data Mc)))
abbrev ZD : TD := .data Oc
abbrev UQ : TD := .data (.sl (.sl Mc))
abbrev c2_ : TD := .pr (.pr Da (.pr UQ .un)) (.pr (.data (.sl Vk)) (.pr Da (.pr (.data En) (.data (.p int Zd)))))
abbrev Dr : TD := .ptr 4 []
abbrev RG : Ty := .p Mc .u
abbrev DO : Ty := .p int (.p .o .u)
abbrev Ft : TD := .data Bc
abbrev c1_ : TD := .pr Ft (.pr (.pr Da (.pr Da (.pr Da (.pr Da (.pr Da (.pr (.own 200002 int true) .un)))))) (.pr (.pr (.own 200003 Nc true) (.pr Da (.pr (.own 200004 Bc true) (.pr Da (.pr Da (.pr Da (.pr (.own 200005 Bc true) .un))))))) (.pr (.pr (.pr (.pr Da (.pr (.own 200006 (.sl Mc) true) .un)) (.pr (.own 200007 Vk true) (.pr Da (.pr (.own 200008 Xn true) (.data (.p int Zd)))))) (.pr (.data Ad) (.pr (.own 200009 Bc true) (.data Mc)))) (.data Nc))))
abbrev c3_ : TD := .pr (.pr Ft (.pr (.pr Da (.pr Da (.pr Da (.pr Da (.pr Da (.pr (.own 200004 int true) .un)))))) (.pr (.pr (.own 200005 Nc true) (.pr Da (.pr (.own 200006 Bc true) (.pr Da (.pr Da (.pr Da (.pr (.own 200007 Bc true) .un))))))) (.pr (.pr (.pr (.pr Da (.pr (.own 200008 (.sl Mc) true) .un)) (.pr (.own 200009 Vk true) (.pr Da (.pr (.own 200010 Xn true) (.data (.p int Zd)))))) (.pr (.data Ad) (.pr (.own 200011 Bc true) (.data Mc)))) (.data Nc))))) (.pr (.pr (.own 200012 Cx true) (.data Ad)) (.data Nf))
abbrev c6_ : TD := .pr (.pr Ft (.pr (.pr Da (.pr Da (.pr Da (.pr Da (.pr Da (.pr (.own 200011 int true) .un)))))) (.pr (.pr (.own 200012 Nc true) (.pr Da (.pr (.own 200013 Bc true) (.pr Da (.pr Da (.pr Da (.pr (.own 200014 Bc true) .un))))))) (.pr (.pr (.pr (.pr Da (.pr (.own 200015 (.sl Mc) true) .un)) (.pr (.own 200016 Vk true) (.pr Da (.pr (.own 200017 Xn true) (.data (.p int Zd)))))) (.pr (.data Ad) (.pr (.own 200018 Bc true) (.data Mc)))) (.data Nc))))) (.pr (.pr (.own 200019 Cx true) (.data Ad)) (.data Nf))
abbrev c7_ : TD := .pr (.pr Ft (.pr (.pr Da (.pr Da (.pr Da (.pr Da (.pr Da (.pr (.own 200104 int true) .un)))))) (.pr (.pr (.own 200105 Nc true) (.pr Da (.pr (.own 200106 Bc true) (.pr Da (.pr Da (.pr Da (.pr (.own 200107 Bc true) .un))))))) (.pr (.pr (.pr (.pr Da (.pr (.own 200108 (.sl Mc) true) .un)) (.pr (.own 200109 Vk true) (.pr Da (.pr (.own 200110 Xn true) (.data (.p int Zd)))))) (.pr (.data Ad) (.pr (.own 200111 Bc true) (.data Mc)))) (.data Nc))))) (.pr (.pr (.own 200112 Cx true) (.data Ad)) (.data Nf))
abbrev c8_ : TD := .pr Ft (.pr (.pr Da (.pr Da (.pr Da (.pr Da (.pr Da (.pr (.own 200010 int true) .un)))))) (.pr (.pr (.own 200011 Nc true) (.pr Da (.pr (.own 200012 Bc true) (.pr Da (.pr Da (.pr Da (.pr (.own 200013 Bc true) .un))))))) (.pr (.pr (.pr (.pr Da (.pr (.own 200014 (.sl Mc) true) .un)) (.pr (.own 200015 Vk true) (.pr Da (.pr (.own 200016 Xn true) (.data (.p int Zd)))))) (.pr (.data Ad) (.pr (.own 200017 Bc true) (.data Mc)))) (.data Nc))))
abbrev VK : Ty := .p De .u
abbrev Sm : Ty := .sl int
abbrev SQ : TD := .pr Da (.pr (.data Sm) .un)
abbrev FaF : TD := .pr (.own 200001 Nc true) (.pr Da (.pr (.own 200002 Bc true) (.pr Da (.pr Da (.pr Da (.pr (.own 200003 Bc true) .un))))))
abbrev Tas : TD := .pr c1_ (.pr (.pr (.own 200010 Cx true) (.data Ad)) (.data Nf))
abbrev Jz : Ty := .sl Bc
abbrev Kz : TD := .data Jz
abbrev Q9 : TD := .pr c2_ (.pr (.data Ad) (.pr Kz (.data Mc)))
abbrev R9 : TD := .pr Da (.pr Da (.pr Da (.pr Da SQ)))
abbrev DaF : TD := .pr (.pr Ft (.pr R9 (.pr (.pr Lo (.pr Da (.pr Kz (.pr Da (.pr Da (.pr Da (.pr Kz .un))))))) (.pr Q9 (.data Nc))))) (.pr (.pr (.data Gx) (.data Ad)) (.data Nf))
abbrev GJ : TD := .data Bh
abbrev VB : TD := .ptr 3 []
abbrev WK : TD := .data Xc
abbrev GF : TD := .ptr 6 []
abbrev HaF : TD := .pr TQ (.pr (.own 200002 Vk true) (.pr Da (.pr (.own 200003 Xn true) (.data (.p int Zd)))))
abbrev VQ : Ty := .p Xc .u
abbrev XK : Ty := .p Gx .u
abbrev T3 : Ty := .p (.sl Zg) .u
abbrev S9 : TD := .own 200001 Bc true
abbrev AY : TD := .data De
abbrev ET : Ty := .p Oc .u
abbrev s_5 : Qa := .pu XK Zd [true] (fun x => BH x.1)
abbrev F_5 : WF := (5, s_5) :: ([] : WF)
theorem E_5 : WO F_5 := Ud ZaX func5
abbrev CaW : Qa := .nw XK Bh (fun x => EK x.1)
abbrev IaD : WF := (52, CaW) :: F_5
def Qao : Sa := ⟨32, ⟨[(0, (.data Gx)), (3, Da), (4, Da)], []⟩, 0, ⟨[(0, (.data Gx)), (3, Da)], []⟩, ⟨[], []⟩, IC⟩
def SaT : WL := [(3, Qao)]
theorem MaG : Za (WG true F_5 [] [] []) SaT (lp f52 0) := Yc 3 (ls := Qao) rfl
theorem HaR : WO IaD := wnw E_5 func52 (Ka MaG Oa)
abbrev YaU : Qa := .nw (.p Gx Nf) Bh (fun x => EI x.1 x.2.1)
abbrev QaC : WF := (19, YaU) :: IaD
theorem DaQ : WO QaC := wnw (L := []) (m := []) (v := []) (l := []) HaR func19 Oa
abbrev NaX : Qa := .bx true false Bh .u Nf [true] (fun x0 x => Bo x0)
abbrev GaE : WF := (89, NaX) :: QaC
theorem SaS : WO GaE := RJ (L := []) (m := []) (v := []) (l := []) (z := false) DaQ func89 Oa
abbrev DaW : Qa := .bx true false Bh Nf Nf [true] (fun x0 x => Hb x0 x.1)
abbrev JaD : WF := (53, DaW) :: GaE
theorem IaR : WO JaD := RJ (L := []) (m := []) (v := []) (l := []) (z := false) SaS func53 Oa
abbrev EaW : Qa := .bx true false Bh Nf Zd [true] (fun x0 x => Yh x0 x.1)
abbrev KaD : WF := (54, EaW) :: JaD
theorem JaR : WO KaD := RJ (L := []) (m := []) (v := []) (l := []) (z := false) IaR func54 Oa
abbrev RaN : Qa := .pu Ad Zd [true] (fun x => Ec x.1 x.2.1 x.2.2.1)
abbrev Gaw : WF := (125, RaN) :: KaD
theorem KaJ : WO Gaw := Ud JaR func125
abbrev OaX : Qa := .pu (.p Bc .u) Zd [true] (fun x => Sw x.1)
abbrev HaE : WF := (90, OaX) :: Gaw
theorem TaS : WO HaE := Ud KaJ func90
abbrev FaW : Qa := .pu (.p Bc .u) Nf [true] (fun x => Zm x.1)
abbrev Var : WF := (55, FaW) :: HaE
theorem KaR : WO Var := Ud TaS func55
abbrev PaX : Qa := .pu (.p Je .u) Zd [true] (fun x => Xo x.1)
abbrev Has : WF := (91, PaX) :: Var
def Jap : Sa := ⟨58, ⟨[(1, Ri), (3, Da)], [(1, Je, (.data Je))]⟩, 0, ⟨[(1, Ri)], [(1, Je, (.data Je))]⟩, ⟨[(2, Ch)], []⟩, Vp⟩
def HaU : WL := [(4, Jap)]
theorem FaH : Za (WG true Var [] [] []) HaU (lp f91 0) := Yc 4 (ls := Jap) rfl
theorem UaS : WO Has := Cg KaR func91 (Ka FaH Oa)
abbrev GaW : Qa := .pu Ad (.p Je Zd) [true, true] (fun x => Bt x.1 x.2.1 x.2.2.1)
abbrev War : WF := (56, GaW) :: Has
def Rao : Sa := ⟨33, ⟨[(2, Da), (6, GF), (8, (.ptr 8 [])), (9, Da)], [(6, Je, R9), (8, Je, (.pr Da (.pr Da (.pr Da (.pr Da (.pr Da (.pr Dx .un)))))))]⟩, 0, ⟨[(6, GF), (8, (.ptr 8 []))], [(6, Je, R9), (8, Je, (.pr Da (.pr Da (.pr Da (.pr Da (.pr Da (.pr Dx .un)))))))]⟩, ⟨[], []⟩, Ap⟩
def TaT : WL := [(3, Rao)]
theorem NaG : Za (WG true Has [] [] []) TaT (lp f56 0) := Yc 3 (ls := Rao) rfl
theorem LaR : WO War := Cg UaS func56 (Ka NaG Oa)
abbrev RaO : Qa := .pu Nf Nf [true] (fun x => Tw x.1)
abbrev C8 : WF := (151, RaO) :: War
def Oaf : Sa := ⟨16, ⟨[(0, Da), (3, Da), (4, Da)], []⟩, 0, ⟨[(3, Da)], []⟩, ⟨[], []⟩, Tv⟩
def XaL : WL := [(3, Oaf)]
theorem NaA : Za (WG true War [] [] []) XaL (lp f151 0) := Yc 3 (ls := Oaf) rfl
theorem KaK : WO C8 := Cg LaR func151 (Ka NaA Oa)
abbrev SaN : Qa := .pu (.p (.sl Nc) .u) Zd [true] (fun x => QD x.1)
abbrev Tah : WF := (126, SaN) :: C8
def Aaf : Sa := ⟨69, ⟨[(0, Lo), (3, Da), (4, Da)], []⟩, 2, ⟨[(0, Lo), (3, Da)], []⟩, ⟨[(2, Ch)], []⟩, Qv⟩
def Zae : Sa := ⟨69, ⟨[(0, Lo), (3, Da)], []⟩, 0, ⟨[(0, Lo)], []⟩, ⟨[(2, Ch)], []⟩, Pv⟩
def Dax : WL := [(7, Aaf), (2, Zae)]
theorem Zaz : Za (WG true C8 [] [] []) Dax (lp f126 1) := Yc 7 (ls := Aaf) rfl
theorem Yaz : Za (WG true C8 [] [] []) Dax (lp f126 0) := Yc 2 (ls := Zae) rfl
theorem LaJ : WO Tah := Cg KaK func126 (Ka Zaz (Ka Yaz Oa))
abbrev SaO : Qa := .pu (.p (.sl Nc) Nf) Nf [true] (fun x => BG x.1 x.2.1)
abbrev D8 : WF := (152, SaO) :: Tah
def Paf : Sa := ⟨24, ⟨[(0, Lo), (1, Da), (5, Da)], []⟩, 0, ⟨[], []⟩, ⟨[(4, Da)], []⟩, Sx⟩
def YaL : WL := [(2, Paf)]
theorem OaA : Za (WG true Tah [] [] []) YaL (lp f152 0) := Yc 2 (ls := Paf) rfl
theorem LaK : WO D8 := Cg LaJ func152 (Ka OaA Oa)
abbrev TaN : Qa := .pu VK Zd [true] (fun x => SB x.1)
abbrev Uah : WF := (127, TaN) :: D8
def Mab : Sa := ⟨74, ⟨[(1, Ri), (3, Da), (4, Da), (5, (.ptr 5 [])), (7, Da)], [(1, De, AY), (5, Bc, Ft)]⟩, 2, ⟨[(1, Ri), (3, Da), (4, Da), (5, (.ptr 5 []))], [(1, De, AY), (5, Bc, Ft)]⟩, ⟨[(2, Ch)], []⟩, Ur⟩
def Baf : Sa := ⟨74, ⟨[(1, Ri), (3, Da), (4, Da)], [(1, De, AY)]⟩, 0, ⟨[(1, Ri)], [(1, De, AY)]⟩, ⟨[(2, Ch)], []⟩, Bu⟩
def Eax : WL := [(10, Mab), (3, Baf)]
theorem Wat : Za (WG true D8 [] [] []) Eax (lp f127 1) := Yc 10 (ls := Mab) rfl
theorem AaA : Za (WG true D8 [] [] []) Eax (lp f127 0) := Yc 3 (ls := Baf) rfl
theorem MaJ : WO Uah := Cg LaK func127 (Ka Wat (Ka AaA Oa))
abbrev VaN : Qa := .pu VK Nf [true] (fun x => OA x.1)
abbrev Iaw : WF := (129, VaN) :: Uah
def Daf : Sa := ⟨23, ⟨[(1, Ri), (3, Da), (4, Da)], [(1, De, AY)]⟩, 0, ⟨[(3, Da)], []⟩, ⟨[], []⟩, Rx⟩
def OaL : WL := [(3, Daf)]
theorem CaA : Za (WG true Uah [] [] []) OaL (lp f129 0) := Yc 3 (ls := Daf) rfl
theorem OaJ : WO Iaw := Cg MaJ func129 (Ka CaA Oa)
abbrev TaO : Qa := .pu (.p Bc .u) Zd [true] (fun x => YF x.1)
abbrev Fai : WF := (153, TaO) :: Iaw
theorem MaK : WO Fai := Ud OaJ func153
abbrev UaN : Qa := .pu (.p Jz Ad) Zd [true] (fun x => Yq x.1 x.2.1 x.2.2.1 x.2.2.2.1)
abbrev Haw : WF := (128, UaN) :: Fai
def Caf : Sa := ⟨73, ⟨[(0, Kz), (1, Da), (2, Da), (3, Da), (9, Da)], []⟩, 0, ⟨[(0, Kz)], []⟩, ⟨[(8, Ch)], []⟩, Tr⟩
def NaL : WL := [(2, Caf)]
theorem BaA : Za (WG true Fai [] [] []) NaL (lp f128 0) := Yc 2 (ls := Caf) rfl
theorem NaJ : WO Haw := Cg MaK func128 (Ka BaA Oa)
abbrev QaX : Qa := .pu VK Zd [true] (fun x => Wq x.1)
abbrev IaE : WF := (92, QaX) :: Haw
theorem VaS : WO IaE := Ud NaJ func92
abbrev RaX : Qa := .pu VK VK [true] (fun x => NA x.1)
abbrev JaE : WF := (93, RaX) :: IaE
theorem WaS : WO JaE := Ud VaS func93
abbrev HaW : Qa := .pu (.p (.sl Nc) Nf) (.p De Zd) [true, true] (fun x => Zo x.1 x.2.1)
abbrev LaD : WF := (57, HaW) :: JaE
theorem MaR : WO LaD := Ud WaS func57
abbrev BaO : Qa := .bx true true Bh (.p Sm .u) Nf [true] (fun x0 x => Cu x0 x.1)
abbrev Xah : WF := (135, BaO) :: LaD
theorem UaJ : WO Xah := RJ (L := []) (m := []) (v := []) (l := []) (z := false) MaR func135 Oa
abbrev WaN : Qa := .bx true false Bh .u (.p Vk .u) [true] (fun x0 x => JI x0)
abbrev Jaw : WF := (130, WaN) :: Xah
def Eaf : Sa := ⟨41, ⟨[(0, YD), (3, (.own 200001 Ad true)), (4, Da)], [(500000, Bh, GJ)]⟩, 0, ⟨[(0, YD), (3, (.own 200001 Ad true))], [(500000, Bh, GJ)]⟩, ⟨[], []⟩, VA⟩
def PaL : WL := [(3, Eaf)]
theorem DaA : Za (WG false Xah [] [] []) PaL (lp f130 0) := Yc 3 (ls := Eaf) rfl
theorem PaJ : WO Jaw := RJ UaJ func130 (Ka DaA Oa)
abbrev VaO : Qa := .bx true false Bh Nf RG [true] (fun x0 x => FI x0 x.1)
abbrev E8 : WF := (155, VaO) :: Jaw
theorem OaK : WO E8 := RJ (L := []) (m := []) (v := []) (l := []) (z := false) PaJ func155 Oa
abbrev YaN : Qa := .bx true false Bh Nf ET [true] (fun x0 x => HI x0 x.1)
abbrev Kaw : WF := (132, YaN) :: E8
def Gaf : Sa := ⟨48, ⟨[(0, YD), (1, Da), (4, Dr), (5, Da), (6, GF), (7, Da), (8, (.own 200101 Mc true)), (9, Da)], [(500000, Bh, GJ), (4, Oc, (.pr Da (.pr (.own 200102 (.sl Mc) true) .un))), (6, Oc, (.pr Da (.pr (.own 200103 (.sl Mc) true) .un)))]⟩, 2, ⟨[(0, YD), (1, Da), (4, Dr), (5, Da), (6, GF), (7, Da), (8, (.own 200101 Mc true))], [(500000, Bh, GJ), (4, Oc, (.pr Da (.pr (.own 200102 (.sl Mc) true) .un))), (6, Oc, (.pr Da (.pr (.own 200103 (.sl Mc) true) .un)))]⟩, ⟨[], []⟩, UA⟩
def Faf : Sa := ⟨48, ⟨[(0, YD), (1, Da), (4, Dr), (5, Da), (6, GF), (7, Da)], [(500000, Bh, GJ), (4, Oc, TQ), (6, Oc, (.pr Da (.pr (.own 200002 (.sl Mc) true) .un)))]⟩, 0, ⟨[(0, YD), (4, Dr), (6, GF)], [(500000, Bh, GJ), (4, Oc, TQ), (6, Oc, (.pr Da (.pr (.own 200002 (.sl Mc) true) .un)))]⟩, ⟨[], []⟩, TA⟩
def Fax : WL := [(8, Gaf), (4, Faf)]
theorem FaA : Za (WG false E8 [] [] []) Fax (lp f132 1) := Yc 8 (ls := Gaf) rfl
theorem EaA : Za (WG false E8 [] [] []) Fax (lp f132 0) := Yc 4 (ls := Faf) rfl
theorem RaJ : WO Kaw := RJ OaK func132 (Ka FaA (Ka EaA Oa))
abbrev EaP : Qa := .pu RG Zd [true] (fun x => Tk x.1)
abbrev G8 : WF := (165, EaP) :: Kaw
theorem XaK : WO G8 := Ud RaJ func165
abbrev BaP : Qa := .pu ET Zd [true] (fun x => RD x.1)
abbrev Xaw : WF := (161, BaP) :: G8
def Vaf : Sa := ⟨74, ⟨[(1, Ri), (3, Da), (4, Da)], [(1, Oc, ZD)]⟩, 2, ⟨[(1, Ri), (3, Da)], [(1, Oc, ZD)]⟩, ⟨[(2, Ch)], []⟩, Wn⟩
def Uaf : Sa := ⟨74, ⟨[(1, Ri), (3, Da)], [(1, Oc, ZD)]⟩, 0, ⟨[(1, Ri)], [(1, Oc, ZD)]⟩, ⟨[(2, Ch)], []⟩, Vn⟩
def Hax : WL := [(7, Vaf), (2, Uaf)]
theorem UaA : Za (WG true G8 [] [] []) Hax (lp f161 1) := Yc 7 (ls := Vaf) rfl
theorem TaA : Za (WG true G8 [] [] []) Hax (lp f161 0) := Yc 2 (ls := Uaf) rfl
theorem UaK : WO Xaw := Cg XaK func161 (Ka UaA (Ka TaA Oa))
abbrev FaP : Qa := .pu RG Zd [true] (fun x => QB x.1)
abbrev Mai : WF := (166, FaP) :: Xaw
theorem YaK : WO Mai := Ud UaK func166
abbrev CaP : Qa := .pu (.p En .u) Zd [true] (fun x => BI x.1)
abbrev Lai : WF := (162, CaP) :: Mai
def Waf : Sa := ⟨57, ⟨[(0, (.data En)), (3, Da), (4, Da)], []⟩, 0, ⟨[], []⟩, ⟨[(2, Ch)], []⟩, KA⟩
def BaM : WL := [(3, Waf)]
theorem VaA : Za (WG true Mai [] [] []) BaM (lp f162 0) := Yc 3 (ls := Waf) rfl
theorem VaK : WO Lai := Cg YaK func162 (Ka VaA Oa)
abbrev GaP : Qa := .pu (.p En (.p Ad .u)) Nf [true] (fun x => KI x.1 x.2.1)
abbrev Yaw : WF := (167, GaP) :: Lai
def Yaf : Sa := ⟨33, ⟨[(0, (.data En)), (3, VB), (5, Da)], [(3, Ad, (.data Ad))]⟩, 0, ⟨[], []⟩, ⟨[(4, Da)], []⟩, WA⟩
def DaM : WL := [(2, Yaf)]
theorem XaA : Za (WG true Lai [] [] []) DaM (lp f167 0) := Yc 2 (ls := Yaf) rfl
theorem ZaK : WO Yaw := Cg VaK func167 (Ka XaA Oa)
abbrev HaP : Qa := .pu (.p Ad .u) RG [true] (fun x => UD x.1)
abbrev Zaw : WF := (168, HaP) :: Yaw
theorem AaL : WO Zaw := Ud ZaK func168
abbrev IaP : Qa := .pu (.p En Nf) (.p En .u) [true] (fun x => Eu x.1 x.2.1)
abbrev Nai : WF := (169, IaP) :: Zaw
theorem BaL : WO Nai := Ud AaL func169
abbrev DaP : Qa := .pu (.p Vk .u) Zd [true] (fun x => ZF x.1)
abbrev F8 : WF := (163, DaP) :: Nai
def Xaf : Sa := ⟨62, ⟨[(0, (.data Vk)), (3, (.own 200001 Xn true)), (4, Da)], []⟩, 0, ⟨[(0, (.data Vk)), (3, (.own 200001 Xn true))], []⟩, ⟨[(2, Ch)], []⟩, Px⟩
def CaM : WL := [(3, Xaf)]
theorem WaA : Za (WG true Nai [] [] []) CaM (lp f163 0) := Yc 3 (ls := Xaf) rfl
theorem WaK : WO F8 := Cg BaL func163 (Ka WaA Oa)
abbrev UaO : Qa := .pu VQ Zd [true] (fun x => Qw x.1)
abbrev Gai : WF := (154, UaO) :: F8
def Qaf : Sa := ⟨96, ⟨[(1, Ri), (3, Da)], [(1, Xc, WK)]⟩, 0, ⟨[(1, Ri)], [(1, Xc, WK)]⟩, ⟨[(2, Ch)], []⟩, Tn⟩
def Raf : Sa := ⟨96, ⟨[(1, Ri), (4, Da)], [(1, Xc, WK)]⟩, 2, ⟨[(1, Ri)], [(1, Xc, WK)]⟩, ⟨[(2, Ch)], []⟩, Un⟩
def Gax : WL := [(4, Qaf), (9, Raf)]
theorem PaA : Za (WG true F8 [] [] []) Gax (lp f154 0) := Yc 4 (ls := Qaf) rfl
theorem QaA : Za (WG true F8 [] [] []) Gax (lp f154 1) := Yc 9 (ls := Raf) rfl
theorem NaK : WO Gai := Cg WaK func154 (Ka QaA (Ka PaA Oa))
abbrev XaO : Qa := .pu ET ET [true] (fun x => GI x.1)
abbrev Hai : WF := (157, XaO) :: Gai
def Saf : Sa := ⟨28, ⟨[(1, Ri), (2, Fl), (3, VB), (4, Da)], [(1, Oc, ZD), (2, Oc, (.pr Da (.pr UQ .un))), (3, Oc, TQ)]⟩, 0, ⟨[(2, Fl), (3, VB)], [(2, Oc, (.pr Da (.pr UQ .un))), (3, Oc, TQ)]⟩, ⟨[], []⟩, SA⟩
def ZaL : WL := [(3, Saf)]
theorem RaA : Za (WG true Gai [] [] []) ZaL (lp f157 0) := Yc 3 (ls := Saf) rfl
theorem QaK : WO Hai := Cg NaK func157 (Ka RaA Oa)
abbrev AaO : Qa := .pu VQ VQ [true] (fun x => Bx x.1)
abbrev Maw : WF := (134, AaO) :: Hai
def Haf : Sa := ⟨37, ⟨[(1, Ri), (2, Fl), (3, VB), (4, Da)], [(1, Xc, WK), (2, Xc, c2_), (3, Xc, (.pr TQ (.pr (.own 200002 Vk true) (.data (.p int (.p En (.p int Zd)))))))]⟩, 0, ⟨[(1, Ri), (2, Fl), (3, VB)], [(1, Xc, WK), (2, Xc, c2_), (3, Xc, (.pr TQ (.pr (.own 200002 Vk true) (.data (.p int (.p En (.p int Zd)))))))]⟩, ⟨[], []⟩, XA⟩
def QaL : WL := [(5, Haf)]
theorem GaA : Za (WG true Hai [] [] []) QaL (lp f134 0) := Yc 5 (ls := Haf) rfl
theorem TaJ : WO Maw := Cg QaK func134 (Ka GaA Oa)
abbrev XaN : Qa := .pu (.p Oc (.p (.sl Vk) .u)) (.p Xc Zd) [true, true] (fun x => RB x.1 x.2.1)
abbrev Wah : WF := (131, XaN) :: Maw
theorem QaJ : WO Wah := Ud TaJ func131
abbrev SaX : Qa := .bx true false Bh Nf VQ [true] (fun x0 x => FK x0 x.1)
abbrev KaE : WF := (94, SaX) :: Wah
def Kap : Sa := ⟨30, ⟨[(0, YD), (1, Da), (4, Dr), (5, (.own 200001 Vk true)), (6, Da)], [(500000, Bh, GJ), (4, Xc, c2_)]⟩, 0, ⟨[(0, YD), (1, Da), (4, Dr), (5, (.own 200001 Vk true))], [(500000, Bh, GJ), (4, Xc, c2_)]⟩, ⟨[], []⟩, JC⟩
def IaU : WL := [(3, Kap)]
theorem GaH : Za (WG false Wah [] [] []) IaU (lp f94 0) := Yc 3 (ls := Kap) rfl
theorem XaS : WO KaE := RJ QaJ func94 (Ka GaH Oa)
abbrev UaX : Qa := .bx true false Bh .u (.p Ad .u) [true] (fun x0 x => GH x0)
abbrev LaE : WF := (96, UaX) :: KaE
theorem ZaS : WO LaE := RJ (L := []) (m := []) (v := []) (l := []) (z := false) XaS func96 Oa
abbrev WaO : Qa := .pu (.p Ad .u) Zd [true] (fun x => SD x.1)
abbrev Waw : WF := (156, WaO) :: LaE
theorem PaK : WO Waw := Ud ZaS func156
abbrev YaO : Qa := .pu Nf Nf [true] (fun x => Sr x.1)
abbrev Iai : WF := (158, YaO) :: Waw
theorem RaK : WO Iai := Ud PaK func158
abbrev EaO : Qa := .pu VQ Nf [true] (fun x => LA x.1)
abbrev Naw : WF := (138, EaO) :: Iai
def Jaf : Sa := ⟨22, ⟨[(1, Ri), (3, Da), (4, Da)], [(1, Xc, WK)]⟩, 0, ⟨[(3, Da)], []⟩, ⟨[], []⟩, Qx⟩
def SaL : WL := [(3, Jaf)]
theorem IaA : Za (WG true Iai [] [] []) SaL (lp f138 0) := Yc 3 (ls := Jaf) rfl
theorem XaJ : WO Naw := Cg RaK func138 (Ka IaA Oa)
abbrev ZaN : Qa := .pu (.p Ge .u) Zd [true] (fun x => Au x.1)
abbrev Law : WF := (133, ZaN) :: Naw
theorem SaJ : WO Law := Ud XaJ func133
abbrev TaX : Qa := .pu (.p Xc (.p Ad .u)) (.p Ge Zd) [true, true] (fun x => Xq x.1 x.2.1)
abbrev Ias : WF := (95, TaX) :: Law
theorem YaS : WO Ias := Ud SaJ func95
abbrev IaW : Qa := .bx true false Bh Nf (.p Ge .u) [true] (fun x0 x => Ax x0 x.1)
abbrev MaD : WF := (58, IaW) :: Ias
def Sao : Sa := ⟨41, ⟨[(0, YD), (1, Da), (4, Dr), (5, (.ptr 5 [])), (6, Da)], [(500000, Bh, GJ), (4, Ge, Q9), (5, Xc, HaF)]⟩, 0, ⟨[(0, YD), (4, Dr), (5, (.ptr 5 []))], [(500000, Bh, GJ), (4, Ge, Q9), (5, Xc, HaF)]⟩, ⟨[], []⟩, MA⟩
def UaT : WL := [(3, Sao)]
theorem OaG : Za (WG false Ias [(4999, 200001)] [] []) UaT (lp f58 0) := Yc 3 (ls := Sao) rfl
theorem NaR : WO MaD := RJ YaS func58 (Ka OaG Oa)
abbrev CaO : Qa := .pu (.p Bc Nf) Zd [true] (fun x => XC x.1 x.2.1)
abbrev Yah : WF := (136, CaO) :: MaD
theorem VaJ : WO Yah := Ud NaR func136
abbrev DaO : Qa := .pu (.p int (.p Jz .u)) Nf [true] (fun x => Ar x.1 x.2.1)
abbrev Zah : WF := (137, DaO) :: Yah
def Iaf : Sa := ⟨21, ⟨[(0, Da), (1, Kz), (5, Da)], []⟩, 0, ⟨[(0, Da)], []⟩, ⟨[], []⟩, Vr⟩
def RaL : WL := [(2, Iaf)]
theorem HaA : Za (WG true Yah [] [] []) RaL (lp f137 0) := Yc 2 (ls := Iaf) rfl
theorem WaJ : WO Zah := Cg VaJ func137 (Ka HaA Oa)
abbrev FaO : Qa := .pu VK Nf [true] (fun x => CI x.1)
abbrev Aai : WF := (139, FaO) :: Zah
def Kaf : Sa := ⟨30, ⟨[(1, Ri), (3, Da), (4, Da)], [(1, De, AY)]⟩, 0, ⟨[(3, Da)], []⟩, ⟨[], []⟩, QA⟩
def TaL : WL := [(3, Kaf)]
theorem JaA : Za (WG true Zah [] [] []) TaL (lp f139 0) := Yc 3 (ls := Kaf) rfl
theorem YaJ : WO Aai := Cg WaJ func139 (Ka JaA Oa)
abbrev VaX : Qa := .pu (.p Af .u) Zd [true] (fun x => JA x.1)
abbrev MaE : WF := (97, VaX) :: Aai
def Lap : Sa := ⟨129, ⟨[(1, Ri), (4, Da), (5, Da)], [(1, Af, (.data Af))]⟩, 0, ⟨[(1, Ri)], [(1, Af, (.data Af))]⟩, ⟨[(2, Ch)], []⟩, Ox⟩
def JaU : WL := [(6, Lap)]
theorem HaH : Za (WG true Aai [] [] []) JaU (lp f97 0) := Yc 6 (ls := Lap) rfl
theorem AaT : WO MaE := Cg YaJ func97 (Ka HaH Oa)
abbrev WaX : Qa := .pu (.p Af .u) (.p Af .u) [true] (fun x => PA x.1)
abbrev NaE : WF := (98, WaX) :: MaE
theorem BaT : WO NaE := Ud AaT func98
abbrev JaW : Qa := .pu (.p Bc (.p Je (.p De (.p Ge .u)))) (.p Af Zd) [true, true] (fun x => Cq x.1 x.2.1 x.2.2.1 x.2.2.2.1)
abbrev NaD : WF := (59, JaW) :: NaE
theorem OaR : WO NaD := Ud BaT func59
abbrev MaN : Qa := .pu .u (.p Dh .u) [true] (fun x => NE)
abbrev Caw : WF := (120, MaN) :: NaD
theorem FaJ : WO Caw := Ud OaR func120
abbrev XaV : Qa := .pu (.p Df .u) Nf [true] (fun x => Pw x.1)
abbrev EaD : WF := (47, XaV) :: Caw
theorem CaR : WO EaD := Ud FaJ func47
abbrev PaO : Qa := .pu (.p Dh .u) Zd [true] (fun x => Wy x.1)
abbrev Uaw : WF := (149, PaO) :: EaD
theorem IaK : WO Uaw := Ud CaR func149
abbrev NaN : Qa := .pu (.p Df .u) Zd [true] (fun x => Rw x.1)
abbrev Daw : WF := (121, NaN) :: Uaw
theorem GaJ : WO Daw := Ud IaK func121
abbrev OaN : Qa := .pu (.p Df .u) (.p Df .u) [true] (fun x => DM x.1)
abbrev Eaw : WF := (122, OaN) :: Daw
theorem HaJ : WO Eaw := Ud GaJ func122
abbrev HaX : Qa := .pu (.p Af .u) (.p Df Zd) [true, true] (fun x => Io x.1)
abbrev CaE : WF := (83, HaX) :: Eaw
theorem MaS : WO CaE := Ud HaJ func83
abbrev WaV : Qa := .bx true false Bh .u (.p Df .u) [true] (fun x0 x => DI x0)
abbrev Sar : WF := (46, WaV) :: CaE
theorem BaR : WO Sar := RJ (L := []) (m := []) (v := []) (l := []) (z := false) MaS func46 Oa
abbrev YaV : Qa := .bx true false Bh Nc (.p Sm .u) [true] (fun x0 x => Ll x0 x.1 x.2.1)
abbrev Tar : WF := (48, YaV) :: Sar
def Oao : Sa := ⟨40, ⟨[(0, YD), (1, Da), (7, Dx), (8, Da), (9, Da)], [(500000, Bh, GJ)]⟩, 0, ⟨[(0, YD), (7, Dx)], [(500000, Bh, GJ)]⟩, ⟨[], []⟩, Du⟩
def RaT : WL := [(4, Oao)]
theorem KaG : Za (WG false Sar [] [] []) RaT (lp f48 0) := Yc 4 (ls := Oao) rfl
theorem DaR : WO Tar := RJ BaR func48 (Ka KaG Oa)
abbrev VaU : Qa := .pu XK (.p Df (.p Sm (.p Sm .u))) [true, true, true] (fun x => Xy x.1)
abbrev PaC : WF := (16, VaU) :: Tar
def Cao : Sa := ⟨47, ⟨[(2, Fl), (6, GF), (8, Dx), (9, (.own 200002 int true)), (10, (.own 200003 int true)), (11, Da)], [(2, Df, DaF), (6, Df, c3_)]⟩, 0, ⟨[(2, Fl), (6, GF), (8, Dx), (9, (.own 200002 int true))], [(2, Df, DaF), (6, Df, (.pr (.pr Ft (.pr (.pr Da (.pr Da (.pr Da (.pr Da (.pr Da (.pr (.own 200003 int true) .un)))))) (.pr (.pr (.own 200004 Nc true) (.pr Da (.pr (.own 200005 Bc true) (.pr Da (.pr Da (.pr Da (.pr (.own 200006 Bc true) .un))))))) (.pr (.pr (.pr (.pr Da (.pr (.own 200007 (.sl Mc) true) .un)) (.pr (.own 200008 Vk true) (.pr Da (.pr (.own 200009 Xn true) (.data (.p int Zd)))))) (.pr (.data Ad) (.pr (.own 200010 Bc true) (.data Mc)))) (.data Nc))))) (.pr (.pr (.own 200011 Cx true) (.data Ad)) (.data Nf))))]⟩, ⟨[], []⟩, Rr⟩
def GaT : WL := [(8, Cao)]
theorem YaF : Za (WG true Tar [] [] []) GaT (lp f16 0) := Yc 8 (ls := Cao) rfl
theorem AaQ : WO PaC := Cg DaR func16 (Ka YaF Oa)
abbrev KaW : Qa := .pu (.p Bc .u) Zd [true] (fun x => Yp x.1)
abbrev OaD : WF := (60, KaW) :: PaC
theorem PaR : WO OaD := Ud AaQ func60
abbrev ZaV : Qa := .pu (.p Bc .u) Nf [true] (fun x => Lj x.1)
abbrev FaD : WF := (49, ZaV) :: OaD
theorem EaR : WO FaD := Ud PaR func49
abbrev WaU : Qa := .pu (.p Df .u) Nf [true] (fun x => Xp x.1)
abbrev Har : WF := (17, WaU) :: FaD
theorem BaQ : WO Har := Ud EaR func17
abbrev EaV : Qa := .pu (.p Je .u) Zd [true] (fun x => Ro x.1)
abbrev TaC : WF := (28, EaV) :: Har
def Fao : Sa := ⟨79, ⟨[(66, (.data Sm)), (67, Da), (68, Da)], []⟩, 0, ⟨[], []⟩, ⟨[(2, Ch)], []⟩, Up⟩
def IaT : WL := [(6, Fao)]
theorem BaG : Za (WG true Har [] [] []) IaT (lp f28 0) := Yc 6 (ls := Fao) rfl
theorem JaQ : WO TaC := Cg BaQ func28 (Ka BaG Oa)
abbrev GaO : Qa := .pu (.p (.i .u32) .u) Nf [true] (fun x => ZX x.1)
abbrev Oaw : WF := (140, GaO) :: TaC
theorem ZaJ : WO Oaw := Ud JaQ func140
abbrev HaO : Qa := .pu (.p (.i .u64) .u) Nf [true] (fun x => XD x.1)
abbrev Paw : WF := (141, HaO) :: Oaw
theorem AaK : WO Paw := Ud ZaJ func141
abbrev SaM : Qa := .pu (.p (.i .u64) .u) Nf [true] (fun x => BB x.1)
abbrev Z7 : WF := (100, SaM) :: Paw
theorem LaI : WO Z7 := Ud AaK func100
abbrev QaW : Qa := .pu (.p (.sl Nc) .u) Zd [true] (fun x => Hw x.1)
abbrev Yar : WF := (66, QaW) :: Z7
def Eag : Sa := ⟨68, ⟨[(0, Lo), (4, Dr), (11, Lo), (12, Da), (13, Da), (48, Lo), (49, Da), (50, Da)], [(4, Nc, (.data Nc))]⟩, 2, ⟨[(0, Lo), (11, Lo), (12, Da), (13, Da)], []⟩, ⟨[(2, Ch)], []⟩, Lt⟩
def Wao : Sa := ⟨68, ⟨[(0, Lo), (11, Lo), (12, Da), (13, Da)], []⟩, 0, ⟨[], []⟩, ⟨[(2, Ch)], []⟩, Xu⟩
def QaE : WL := [(12, Eag), (4, Wao)]
theorem DaB : Za (WG true Z7 [] [] []) QaE (lp f66 1) := Yc 12 (ls := Eag) rfl
theorem SaG : Za (WG true Z7 [] [] []) QaE (lp f66 0) := Yc 4 (ls := Wao) rfl
theorem VaR : WO Yar := Cg LaI func66 (Ka DaB (Ka SaG Oa))
abbrev VaW : Qa := .pu (.p (.sl Nc) Nf) (.p Nc Zd) [true, true] (fun x => Sz x.1 x.2.1)
abbrev VaD : WF := (71, VaW) :: Yar
def Aap : Sa := ⟨21, ⟨[(1, Da), (4, Dr), (8, Lo), (9, Da), (10, Da)], [(4, Nc, (.data Nc))]⟩, 0, ⟨[(4, Dr)], [(4, Nc, (.data Nc))]⟩, ⟨[(4, Dr), (5, Ch)], [(4, Nc, (.data Nc))]⟩, Mx⟩
def BaU : WL := [(2, Aap)]
theorem WaG : Za (WG true Yar [] [] []) BaU (lp f71 0) := Yc 2 (ls := Aap) rfl
theorem AaS : WO VaD := Cg VaR func71 (Ka WaG Oa)
abbrev PaW : Qa := .pu Nc Nf [true] (fun x => Me x.1 x.2.1)
abbrev Xar : WF := (65, PaW) :: VaD
theorem UaR : WO Xar := Ud AaS func65
abbrev RaW : Qa := .pu VK Zd [true] (fun x => Jy x.1)
abbrev Zar : WF := (67, RaW) :: Xar
def Xao : Sa := ⟨61, ⟨[(1, Ri), (3, Da), (9, Kz), (10, Da), (11, Da)], [(1, De, AY)]⟩, 0, ⟨[], []⟩, ⟨[(2, Ch)], []⟩, Hr⟩
def XaT : WL := [(3, Xao)]
theorem TaG : Za (WG true Xar [] [] []) XaT (lp f67 0) := Yc 3 (ls := Xao) rfl
theorem WaR : WO Zar := Cg UaR func67 (Ka TaG Oa)
abbrev LaV : Qa := .pu VK (.p int Zd) [true, true] (fun x => Aj x.1)
abbrev XaC : WF := (35, LaV) :: Zar
def Iao : Sa := ⟨27, ⟨[(4, Da), (10, Kz), (11, Da), (12, Da)], []⟩, 0, ⟨[(4, Da)], []⟩, ⟨[(2, Da), (3, Ch)], []⟩, Vo⟩
def LaT : WL := [(3, Iao)]
theorem EaG : Za (WG true Zar [] [] []) LaT (lp f35 0) := Yc 3 (ls := Iao) rfl
theorem QaQ : WO XaC := Cg WaR func35 (Ka EaG Oa)
abbrev TaM : Qa := .pu (.p Bc .u) Zd [true] (fun x => Mt x.1)
abbrev Jah : WF := (101, TaM) :: XaC
theorem MaI : WO Jah := Ud QaQ func101
abbrev SaW : Qa := .pu (.p Jz Nf) (.p int Zd) [true, true] (fun x => WH x.1 x.2.1)
abbrev Aas : WF := (68, SaW) :: Jah
def Yao : Sa := ⟨53, ⟨[(0, Kz), (1, Da), (11, Kz), (12, Da), (13, Da)], []⟩, 0, ⟨[(1, Da)], []⟩, ⟨[(4, Da), (5, Ch)], []⟩, Tz⟩
def YaT : WL := [(4, Yao)]
theorem UaG : Za (WG true Jah [] [] []) YaT (lp f68 0) := Yc 4 (ls := Yao) rfl
theorem XaR : WO Aas := Cg MaI func68 (Ka UaG Oa)
abbrev MaV : Qa := .pu (.p Jz Nc) Zd [true] (fun x => Yi x.1 x.2.1 x.2.2.1)
abbrev YaC : WF := (36, MaV) :: Aas
def Jao : Sa := ⟨29, ⟨[(0, Kz), (1, Da), (2, Da), (11, Kz), (12, Da), (13, Da)], []⟩, 0, ⟨[(0, Kz), (1, Da)], []⟩, ⟨[(6, Ch)], []⟩, Ut⟩
def MaT : WL := [(2, Jao)]
theorem FaG : Za (WG true Aas [] [] []) MaT (lp f36 0) := Yc 2 (ls := Jao) rfl
theorem RaQ : WO YaC := Cg XaR func36 (Ka FaG Oa)
abbrev JaV : Qa := .pu (.p Jz Nf) Zd [true] (fun x => Wi x.1 x.2.1)
abbrev WaC : WF := (33, JaV) :: YaC
theorem OaQ : WO WaC := Ud RaQ func33
abbrev IaV : Qa := .pu VK Zd [true] (fun x => Nq x.1)
abbrev VaC : WF := (32, IaV) :: WaC
theorem NaQ : WO VaC := Ud OaQ func32
abbrev KaO : Qa := .pu Nf Zd [true] (fun x => Ww x.1)
abbrev Qaw : WF := (144, KaO) :: VaC
theorem DaK : WO Qaw := Ud NaQ func144
abbrev LaO : Qa := .pu Nf Zd [true] (fun x => Kr x.1)
abbrev Raw : WF := (145, LaO) :: Qaw
theorem EaK : WO Raw := Ud DaK func145
abbrev MaO : Qa := .pu Nf Zd [true] (fun x => Rt x.1)
abbrev Saw : WF := (146, MaO) :: Raw
theorem FaK : WO Saw := Ud EaK func146
abbrev FaN : Qa := .pu RG Zd [true] (fun x => Qk x.1)
abbrev B8 : WF := (113, FaN) :: Saw
theorem YaI : WO B8 := Ud FaK func113
abbrev XaM : Qa := .pu ET Zd [true] (fun x => Jw x.1)
abbrev Nah : WF := (105, XaM) :: B8
def Nae : Sa := ⟨73, ⟨[(1, Ri), (3, Da), (28, UQ), (29, Da), (30, Da), (40, (.data (.sl Mc))), (41, Da), (42, Da)], [(1, Oc, ZD)]⟩, 2, ⟨[(1, Ri), (28, UQ), (29, Da), (30, Da)], [(1, Oc, ZD)]⟩, ⟨[(2, Ch)], []⟩, Nn⟩
def Mae : Sa := ⟨73, ⟨[(1, Ri), (28, UQ), (29, Da), (30, Da)], [(1, Oc, ZD)]⟩, 0, ⟨[], []⟩, ⟨[(2, Ch)], []⟩, Mn⟩
def Bax : WL := [(9, Nae), (4, Mae)]
theorem Maz : Za (WG true B8 [] [] []) Bax (lp f105 1) := Yc 9 (ls := Nae) rfl
theorem Laz : Za (WG true B8 [] [] []) Bax (lp f105 0) := Yc 4 (ls := Mae) rfl
theorem QaI : WO Nah := Cg YaI func105 (Ka Maz (Ka Laz Oa))
abbrev YaM : Qa := .pu (.p En .u) Zd [true] (fun x => Sl x.1)
abbrev Oah : WF := (106, YaM) :: Nah
def Oae : Sa := ⟨46, ⟨[(3, Da), (6, (.data En)), (7, Da), (8, Da)], []⟩, 0, ⟨[], []⟩, ⟨[(2, Ch)], []⟩, Qz⟩
def FaL : WL := [(3, Oae)]
theorem Naz : Za (WG true Nah [] [] []) FaL (lp f106 0) := Yc 3 (ls := Oae) rfl
theorem RaI : WO Oah := Cg QaI func106 (Ka Naz Oa)
abbrev IaO : Qa := .pu (.p (.sl Nc) (.p Nc .u)) Nf [true] (fun x => SC x.1 x.2.1)
abbrev Cai : WF := (142, IaO) :: Oah
def Laf : Sa := ⟨19, ⟨[(3, VB), (7, Lo), (8, Da), (9, Da)], [(3, Nc, (.data Nc))]⟩, 0, ⟨[], []⟩, ⟨[(4, Da)], []⟩, Wz⟩
def UaL : WL := [(2, Laf)]
theorem KaA : Za (WG true Oah [] [] []) UaL (lp f142 0) := Yc 2 (ls := Laf) rfl
theorem BaK : WO Cai := Cg RaI func142 (Ka KaA Oa)
abbrev ZaM : Qa := .pu (.p Vk .u) Zd [true] (fun x => Rz x.1)
abbrev A8 : WF := (107, ZaM) :: Cai
def Pae : Sa := ⟨62, ⟨[(3, (.own 200001 Nc true)), (11, (.data Vk)), (12, Da), (13, Da)], []⟩, 0, ⟨[(3, (.own 200001 Nc true))], []⟩, ⟨[(2, Ch)], []⟩, Jx⟩
def GaL : WL := [(5, Pae)]
theorem Oaz : Za (WG true Cai [] [] []) GaL (lp f107 0) := Yc 5 (ls := Pae) rfl
theorem SaI : WO A8 := Cg BaK func107 (Ka Oaz Oa)
abbrev WaW : Qa := .pu VQ Zd [true] (fun x => ID x.1)
abbrev WaD : WF := (72, WaW) :: A8
def Bap : Sa := ⟨92, ⟨[(1, Ri), (35, (.data (.sl Vk))), (36, Da), (37, Da)], [(1, Xc, WK)]⟩, 0, ⟨[(1, Ri)], [(1, Xc, WK)]⟩, ⟨[(2, Ch)], []⟩, Ln⟩
def Gag : Sa := ⟨92, ⟨[(1, Ri), (5, Da), (50, (.data En)), (51, Da), (52, Da)], [(1, Xc, WK)]⟩, 2, ⟨[(1, Ri), (5, Da)], [(1, Xc, WK)]⟩, ⟨[(2, Ch)], []⟩, Im⟩
def RaE : WL := [(4, Bap), (11, Gag)]
theorem XaG : Za (WG true A8 [] [] []) RaE (lp f72 0) := Yc 4 (ls := Bap) rfl
theorem FaB : Za (WG true A8 [] [] []) RaE (lp f72 1) := Yc 11 (ls := Gag) rfl
theorem BaS : WO WaD := Cg SaI func72 (Ka FaB (Ka XaG Oa))
abbrev XaW : Qa := .pu (.p Ad .u) Zd [true] (fun x => Kw x.1)
abbrev Bas : WF := (73, XaW) :: WaD
theorem CaS : WO Bas := Ud BaS func73
abbrev QaV : Qa := .pu (.p En .u) Nf [true] (fun x => Um x.1)
abbrev BaD : WF := (40, QaV) :: Bas
def Kao : Sa := ⟨19, ⟨[(3, Da), (6, (.data En)), (7, Da), (8, Da)], []⟩, 0, ⟨[(3, Da)], []⟩, ⟨[], []⟩, Ev⟩
def NaT : WL := [(3, Kao)]
theorem GaG : Za (WG true Bas [] [] []) NaT (lp f40 0) := Yc 3 (ls := Kao) rfl
theorem VaQ : WO BaD := Cg CaS func40 (Ka GaG Oa)
abbrev OaV : Qa := .pu (.p Ge .u) Zd [true] (fun x => Il x.1)
abbrev ZaC : WF := (38, OaV) :: BaD
theorem TaQ : WO ZaC := Ud VaQ func38
abbrev CaV : Qa := .pu (.p Bc Nf) Zd [true] (fun x => Zn x.1 x.2.1)
abbrev Jar : WF := (25, CaV) :: ZaC
theorem HaQ : WO Jar := Ud TaQ func25
abbrev LaW : Qa := .pu (.p int (.p Jz .u)) Nf [true] (fun x => St x.1 x.2.1)
abbrev Pai : WF := (61, LaW) :: Jar
def Tao : Sa := ⟨27, ⟨[(0, Da), (7, Kz), (8, Da), (9, Da)], []⟩, 0, ⟨[(0, Da)], []⟩, ⟨[], []⟩, Tt⟩
def VaT : WL := [(2, Tao)]
theorem PaG : Za (WG true Jar [] [] []) VaT (lp f61 0) := Yc 2 (ls := Tao) rfl
theorem QaR : WO Pai := Cg HaQ func61 (Ka PaG Oa)
abbrev ZaU : Qa := .pu (.p Af .u) Zd [true] (fun x => Kt x.1)
abbrev RaC : WF := (22, ZaU) :: Pai
def Eao : Sa := ⟨152, ⟨[(1, Ri), (3, Da), (62, Lo), (63, Da), (64, Da)], [(1, Af, (.data Af))]⟩, 0, ⟨[(1, Ri)], [(1, Af, (.data Af))]⟩, ⟨[(2, Ch)], []⟩, Ix⟩
def Zaf : Sa := ⟨152, ⟨[(1, Ri), (6, Da), (8, Da), (116, Kz), (117, Da), (118, Da)], [(1, Af, (.data Af))]⟩, 2, ⟨[(1, Ri), (6, Da), (8, Da)], [(1, Af, (.data Af))]⟩, ⟨[], []⟩, Jn⟩
def PaE : WL := [(7, Eao), (17, Zaf)]
theorem AaG : Za (WG true Pai [] [] []) PaE (lp f22 0) := Yc 7 (ls := Eao) rfl
theorem YaA : Za (WG true Pai [] [] []) PaE (lp f22 1) := Yc 17 (ls := Zaf) rfl
theorem EaQ : WO RaC := Cg QaR func22 (Ka YaA (Ka AaG Oa))
abbrev IaX : Qa := .pu (.p Dh .u) Zd [true] (fun x => Ik x.1)
abbrev DaE : WF := (84, IaX) :: RaC
theorem NaS : WO DaE := Ud EaQ func84
abbrev AaW : Qa := .pu (.p Df .u) Zd [true] (fun x => Iw x.1)
abbrev HaD : WF := (50, AaW) :: DaE
theorem FaR : WO HaD := Ud NaS func50
abbrev FaV : Qa := .pu (.p Sm .u) (.p Sm .u) [true] (fun x => Zp x.1)
abbrev UaC : WF := (29, FaV) :: HaD
theorem KaQ : WO UaC := Ud FaR func29
abbrev KaV : Qa := .pu VK VK [true] (fun x => Nk x.1)
abbrev Nar : WF := (34, KaV) :: UaC
theorem PaQ : WO Nar := Ud KaQ func34
abbrev AaN : Qa := .pu ET ET [true] (fun x => Ky x.1)
abbrev Pah : WF := (108, AaN) :: Nar
def Qae : Sa := ⟨25, ⟨[(2, Fl), (3, VB), (10, UQ), (11, Da), (12, Da)], [(2, Oc, (.pr Da (.pr UQ .un))), (3, Oc, TQ)]⟩, 0, ⟨[(2, Fl), (3, VB)], [(2, Oc, (.pr Da (.pr UQ .un))), (3, Oc, TQ)]⟩, ⟨[], []⟩, Ir⟩
def HaL : WL := [(3, Qae)]
theorem Paz : Za (WG true Nar [] [] []) HaL (lp f108 0) := Yc 3 (ls := Qae) rfl
theorem TaI : WO Pah := Cg PaQ func108 (Ka Paz Oa)
abbrev BaN : Qa := .pu (.p (.sl Vk) .u) (.p (.sl Vk) .u) [true] (fun x => Ly x.1)
abbrev Uav : WF := (109, BaN) :: Pah
def Rae : Sa := ⟨19, ⟨[(3, (.own 200001 Vk true)), (6, (.data (.sl Vk))), (7, Da), (8, Da)], []⟩, 0, ⟨[(3, (.own 200001 Vk true))], []⟩, ⟨[], []⟩, Jr⟩
def IaL : WL := [(3, Rae)]
theorem Qaz : Za (WG true Pah [] [] []) IaL (lp f109 0) := Yc 3 (ls := Rae) rfl
theorem UaI : WO Uav := Cg TaI func109 (Ka Qaz Oa)
abbrev YaW : Qa := .pu VQ VQ [true] (fun x => Kk x.1)
abbrev XaD : WF := (74, YaW) :: Uav
theorem DaS : WO XaD := Ud UaI func74
abbrev PaV : Qa := .pu (.p Ge .u) (.p Ge .u) [true] (fun x => Jl x.1)
abbrev AaD : WF := (39, PaV) :: XaD
theorem UaQ : WO AaD := Ud DaS func39
abbrev AaV : Qa := .pu (.p Af .u) (.p Af .u) [true] (fun x => Qt x.1)
abbrev Oai : WF := (23, AaV) :: AaD
theorem FaQ : WO Oai := Ud UaQ func23
abbrev QaN : Qa := .pu XK Nf [true] (fun x => HD x.1)
abbrev Faw : WF := (124, QaN) :: Oai
def Yae : Sa := ⟨27, ⟨[(3, Da), (6, (.data Gx)), (7, Da), (8, Da), (16, Da)], []⟩, 2, ⟨[(3, Da), (6, (.data Gx)), (7, Da), (8, Da)], []⟩, ⟨[], []⟩, Gn⟩
def Xae : Sa := ⟨27, ⟨[(3, Da), (6, (.data Gx)), (7, Da), (8, Da)], []⟩, 0, ⟨[(3, Da)], []⟩, ⟨[], []⟩, Tu⟩
def Cax : WL := [(7, Yae), (3, Xae)]
theorem Xaz : Za (WG true Oai [] [] []) Cax (lp f124 1) := Yc 7 (ls := Yae) rfl
theorem Waz : Za (WG true Oai [] [] []) Cax (lp f124 0) := Yc 3 (ls := Xae) rfl
theorem JaJ : WO Faw := Cg FaQ func124 (Ka Xaz (Ka Waz Oa))
abbrev LaX : Qa := .pu Nc XK [true] (fun x => Ot x.1 x.2.1)
abbrev Gas : WF := (87, LaX) :: Faw
theorem QaS : WO Gas := Ud JaJ func87
abbrev KaX : Qa := .pu (.p Gx XK) XK [false] (fun x => RF x.1 x.2.1)
abbrev FaE : WF := (86, KaX) :: Gas
def Iap : Sa := ⟨33, ⟨[(1, (.data Gx)), (5, (.own 200001 Cx true)), (15, (.data Gx)), (16, Da), (17, Da)], []⟩, 1, ⟨[(5, (.own 200001 Cx true))], []⟩, ⟨[], []⟩, Kx⟩
def GaU : WL := [(7, Iap)]
theorem EaH : Za (WG true Gas [(11999, 1000200001)] [] []) GaU (lp f86 0) := Yc 7 (ls := Iap) rfl
theorem PaS : WO FaE := Cg QaS func86 (Ka EaH Oa)
abbrev QaO : Qa := .pu XK Bc [true, true, true] (fun x => GB x.1)
abbrev Vaw : WF := (150, QaO) :: FaE
theorem JaK : WO Vaw := Ud PaS func150
abbrev PaN : Qa := .pu (.p Dh (.p Cx .u)) (.p Dh Nf) [true, true] (fun x => Yu x.1 x.2.1)
abbrev Sah : WF := (123, PaN) :: Vaw
theorem IaJ : WO Sah := Cg (L := []) (m := []) (v := [36]) (l := []) JaK func123 Oa
abbrev JaX : Qa := .pu (.p Dh XK) (.p Dh (.p Sm .u)) [true, true] (fun x => Hy x.1 x.2.1)
abbrev EaE : WF := (85, JaX) :: Sah
def Hap : Sa := ⟨42, ⟨[(2, Fl), (4, Dr), (6, Dx), (19, (.data Gx)), (20, Da), (21, Da)], [(2, Dh, (.pr (.own 200002 Cx true) (.data Ad))), (4, Dh, (.pr (.data Gx) (.data Ad)))]⟩, 0, ⟨[(2, Fl), (4, Dr), (6, Dx)], [(2, Dh, (.pr (.own 200002 Cx true) (.data Ad))), (4, Dh, (.pr (.data Gx) (.data Ad)))]⟩, ⟨[], []⟩, Gr⟩
def FaU : WL := [(6, Hap)]
theorem DaH : Za (WG true Sah [] [] []) FaU (lp f85 0) := Yc 6 (ls := Hap) rfl
theorem OaS : WO EaE := Cg IaJ func85 (Ka DaH Oa)
abbrev MaX : Qa := .pu (.p Dh .u) (.p Dh .u) [true] (fun x => Iy x.1)
abbrev TX : WF := (88, MaX) :: EaE
theorem RaS : WO TX := Ud OaS func88
abbrev MaW : Qa := .pu (.p Bc Nf) Nf [true] (fun x => Xz x.1 x.2.1)
abbrev PaD : WF := (62, MaW) :: TX
def Uao : Sa := ⟨83, ⟨[(1, Da), (2, Fl), (5, (.arr 200001 int)), (15, Da), (16, Da)], [(2, Bc, Ft)]⟩, 0, ⟨[(2, Fl), (5, (.arr 200001 int))], [(2, Bc, Ft)]⟩, ⟨[], []⟩, HE⟩
def Cag : Sa := ⟨83, ⟨[(2, Fl), (5, (.arr 200301 int)), (7, Da), (34, Da), (35, Da), (38, Da), (39, Da), (43, Da), (44, Da)], [(2, Bc, Ft)]⟩, 6, ⟨[(2, Fl), (5, (.arr 200301 int)), (34, Da), (35, Da), (38, Da), (39, Da)], [(2, Bc, Ft)]⟩, ⟨[], []⟩, CC⟩
def Bag : Sa := ⟨83, ⟨[(2, Fl), (5, (.arr 200201 int)), (34, Da), (35, Da), (38, Da), (39, Da)], [(2, Bc, Ft)]⟩, 4, ⟨[(2, Fl), (5, (.arr 200201 int)), (34, Da), (35, Da)], [(2, Bc, Ft)]⟩, ⟨[], []⟩, BC⟩
def Aag : Sa := ⟨83, ⟨[(2, Fl), (5, (.arr 200101 int)), (34, Da), (35, Da)], [(2, Bc, Ft)]⟩, 2, ⟨[(2, Fl), (5, (.arr 200101 int))], [(2, Bc, Ft)]⟩, ⟨[], []⟩, AC⟩
def Dag : Sa := ⟨83, ⟨[(2, Fl), (5, (.arr 200401 int)), (9, Da), (67, Da), (68, Da)], [(2, Bc, Ft)]⟩, 8, ⟨[(9, Da)], []⟩, ⟨[], []⟩, DC⟩
def T8 : WL := [(5, Uao), (15, Cag), (12, Bag), (10, Aag), (24, Dag)]
theorem QaG : Za (WG true TX [] [] []) T8 (lp f62 0) := Yc 5 (ls := Uao) rfl
theorem BaB : Za (WG true TX [] [] []) T8 (lp f62 3) := Yc 15 (ls := Cag) rfl
theorem AaB : Za (WG true TX [] [] []) T8 (lp f62 2) := Yc 12 (ls := Bag) rfl
theorem ZaA : Za (WG true TX [] [] []) T8 (lp f62 1) := Yc 10 (ls := Aag) rfl
theorem CaB : Za (WG true TX [] [] []) T8 (lp f62 4) := Yc 24 (ls := Dag) rfl
theorem RaR : WO PaD := Cg RaS func62 (Ka CaB (Ka BaB (Ka AaB (Ka ZaA (Ka QaG Oa)))))
abbrev NaW : Qa := .pu (.p Bc Nf) Zd [true] (fun x => Eo x.1 x.2.1)
abbrev QaD : WF := (63, NaW) :: PaD
theorem SaR : WO QaD := Ud RaR func63
abbrev XaX : Qa := .pu (.p Bc Nc) (.p int Zd) [true, true] (fun x => Ru x.1 x.2.1 x.2.2.1)
abbrev Jas : WF := (99, XaX) :: QaD
theorem CaT : WO Jas := Ud SaR func99
abbrev OaW : Qa := .pu (.p Bc Nf) Nf [true] (fun x => EB x.1 x.2.1)
abbrev RaD : WF := (64, OaW) :: Jas
def Vao : Sa := ⟨38, ⟨[(1, Da), (2, Fl), (5, Da), (14, Da), (15, Da)], [(2, Bc, Ft)]⟩, 0, ⟨[(5, Da)], []⟩, ⟨[], []⟩, It⟩
def WaT : WL := [(5, Vao)]
theorem RaG : Za (WG true Jas [] [] []) WaT (lp f64 0) := Yc 5 (ls := Vao) rfl
theorem TaR : WO RaD := Cg CaT func64 (Ka RaG Oa)
abbrev DaV : Qa := .pu (.p Bc Nc) (.p int Zd) [true, true] (fun x => Jq x.1 x.2.1 x.2.2.1)
abbrev Kar : WF := (27, DaV) :: RaD
theorem IaQ : WO Kar := Ud TaR func27
abbrev GaV : Qa := .pu (.p Je Nf) (.p Je Zd) [true, true] (fun x => Dn x.1 x.2.1)
abbrev Lar : WF := (30, GaV) :: Kar
def Gao : Sa := ⟨94, ⟨[(1, Da), (2, Fl), (4, Dr), (6, GF), (27, (.data Sm)), (28, Da), (29, Da)], [(2, Je, (.data Je)), (4, Je, R9), (6, Je, (.pr Da (.pr Da (.pr Da (.pr Da (.pr Da (.pr Dx (.data .u))))))))]⟩, 0, ⟨[(1, Da), (4, Dr), (6, GF)], [(4, Je, R9), (6, Je, (.pr Da (.pr Da (.pr Da (.pr Da (.pr Da (.pr Dx (.data .u))))))))]⟩, ⟨[], []⟩, Qo⟩
def JaT : WL := [(6, Gao)]
theorem CaG : Za (WG true Kar [] [] []) JaT (lp f30 0) := Yc 6 (ls := Gao) rfl
theorem LaQ : WO Lar := Cg IaQ func30 (Ka CaG Oa)
abbrev HaV : Qa := .pu Ad (.p Jz .u) [true] (fun x => Rq x.1 x.2.1 x.2.2.1)
abbrev Mar : WF := (31, HaV) :: Lar
def Hao : Sa := ⟨31, ⟨[(0, Da), (1, Da), (2, Da), (7, S9), (8, Da)], []⟩, 0, ⟨[(7, S9)], []⟩, ⟨[], []⟩, Pn⟩
def KaT : WL := [(3, Hao)]
theorem DaG : Za (WG true Lar [] [] []) KaT (lp f31 0) := Yc 3 (ls := Hao) rfl
theorem MaQ : WO Mar := Cg LaQ func31 (Ka DaG Oa)
abbrev TaW : Qa := .bx false false De Nc (.p Jz .u) [true] (fun x0 x => Po x0 x.1 x.2.1)
abbrev SaD : WF := (69, TaW) :: Mar
def Zao : Sa := ⟨92, ⟨[(0, YD), (1, Da), (2, Da), (14, Da), (15, Da)], [(500000, De, FaF)]⟩, 0, ⟨[(0, YD), (1, Da), (2, Da)], [(500000, De, FaF)]⟩, ⟨[(0, YD), (6, S9)], [(500000, De, Sas)]⟩, Tp⟩
def ZaT : WL := [(2, Zao)]
theorem VaG : Za (WG false Mar [] [] []) ZaT (lp f69 0) := Yc 2 (ls := Zao) rfl
theorem YaR : WO SaD := RJ MaQ func69 (Ka VaG Oa)
abbrev UaM : Qa := .pu (.p Bc .u) Zd [true] (fun x => Bm x.1)
abbrev Kah : WF := (102, UaM) :: SaD
theorem NaI : WO Kah := Ud YaR func102
abbrev VaM : Qa := .pu (.p (.sl Nc) Nf) Zd [true] (fun x => TC x.1 x.2.1)
abbrev Lah : WF := (103, VaM) :: Kah
def Kae : Sa := ⟨19, ⟨[(1, Da), (7, Lo), (8, Da), (9, Da)], []⟩, 0, ⟨[], []⟩, ⟨[(4, Ch)], []⟩, Zz⟩
def DaL : WL := [(2, Kae)]
theorem Jaz : Za (WG true Kah [] [] []) DaL (lp f103 0) := Yc 2 (ls := Kae) rfl
theorem OaI : WO Lah := Cg NaI func103 (Ka Jaz Oa)
abbrev WaM : Qa := .pu (.p (.sl Nc) Nf) (.p int Zd) [true, true] (fun x => Lm x.1 x.2.1)
abbrev Mah : WF := (104, WaM) :: Lah
def Lae : Sa := ⟨32, ⟨[(1, Da), (6, Da), (7, Ch), (10, Lo), (11, Da), (12, Da)], []⟩, 0, ⟨[(6, Da), (7, Ch)], []⟩, ⟨[], []⟩, Mr⟩
def EaL : WL := [(3, Lae)]
theorem Kaz : Za (WG true Lah [] [] []) EaL (lp f104 0) := Yc 3 (ls := Lae) rfl
theorem PaI : WO Mah := Cg OaI func104 (Ka Kaz Oa)
abbrev UaW : Qa := .pu (.p (.sl Nc) (.p int (.p Jz Nf))) Ad [true, true, true] (fun x => Dy x.1 x.2.1 x.2.2.1 x.2.2.2.1)
abbrev UaD : WF := (70, UaW) :: Mah
def Fag : Sa := ⟨146, ⟨[(0, Lo), (1, Da), (3, Da), (11, (.ptr 11 [])), (12, Da), (13, Da), (14, Da), (15, Ch), (69, Kz), (70, Da), (71, Da)], [(11, Bc, Ft)]⟩, 0, ⟨[(0, Lo), (3, Da), (12, Da), (13, Da), (14, Da), (15, Ch)], []⟩, ⟨[(8, Da), (9, Da), (10, Da)], []⟩, Bl⟩
def AaU : WL := [(11, Fag)]
theorem EaB : Za (WG true Mah [] [] []) AaU (lp f70 0) := Yc 11 (ls := Fag) rfl
theorem ZaR : WO UaD := Cg PaI func70 (Ka EaB Oa)
abbrev NaV : Qa := .bx false false De .u (.p Jz Zd) [true, true] (fun x0 x => Ei x0)
abbrev Oar : WF := (37, NaV) :: UaD
theorem SaQ : WO Oar := RJ (L := []) (m := []) (v := []) (l := []) (z := false) ZaR func37 Oa
abbrev RaU : Qa := .pu (.p De (.p Jz Nf)) (.p De (.p Jz Zd)) [true, true, true] (fun x => Lq x.1 x.2.1 x.2.2.1)
abbrev Gar : WF := (11, RaU) :: Oar
def Wae : Sa := ⟨84, ⟨[(6, GF), (9, (.ptr 9 [])), (12, S9)], [(6, De, (.pr Lo (.pr Da (.pr Kz (.pr Da (.pr Da (.pr Da (.pr Kz .un)))))))), (9, De, Sas)]⟩, 0, ⟨[(6, GF), (9, (.ptr 9 [])), (12, S9)], [(6, De, (.pr Lo (.pr Da (.pr Kz (.pr Da (.pr Da (.pr Da (.pr Kz .un)))))))), (9, De, Sas)]⟩, ⟨[], []⟩, Wf⟩
def DaT : WL := [(10, Wae)]
theorem Vaz : Za (WG true Oar [] [] []) DaT (lp f11 0) := Yc 10 (ls := Wae) rfl
theorem WaP : WO Gar := Cg SaQ func11 (Ka Vaz Oa)
abbrev CaN : Qa := .pu (.p Xc Nf) Nf [true] (fun x => UH x.1 x.2.1)
abbrev Vav : WF := (110, CaN) :: Gar
def Sae : Sa := ⟨21, ⟨[(1, Da), (8, (.data En)), (9, Da), (10, Da)], []⟩, 0, ⟨[], []⟩, ⟨[(4, Da)], []⟩, Pz⟩
def JaL : WL := [(2, Sae)]
theorem Raz : Za (WG true Gar [] [] []) JaL (lp f110 0) := Yc 2 (ls := Sae) rfl
theorem VaI : WO Vav := Cg WaP func110 (Ka Raz Oa)
abbrev ZaO : Qa := .io Sm .u .u [] (fun x0 _ => sort_Ints x0)
abbrev Jai : WF := (159, ZaO) :: Vav
end
end KF
namespace Go.Proofs
open Go.Shelf
def Tryz.lays_sort_Ints_ren : Go.Shelf.Ren := ⟨fun | 191 => 159 | 189 => 164 | 125 => 171 | 257 => 170 | 128 => 181 | 129 => 182 | 294 => 172 | 295 => 173 | 296 => 174 | 297 => 175 | 298 => 176 | 299 => 177 | 216 => 178 | 300 => 179 | 301 => 180 | 328 => 183 | 329 => 184 | 330 => 185 | 331 => 186 | 332 => 187 | 215 => 188 | 343 => 189 | n => n, fun | 28 => 26 | 0 => 0 | 3 => 3 | 46 => 179 | 51 => 213 | 53 => 215 | 4 => 4 | 183 => 237 | 182 => 236 | 131 => 87 | 5 => 5 | 9 => 9 | 218 => 243 | 222 => 247 | 228 => 249 | 229 => 158 | n => n, fun | n => n⟩
theorem Tryz.lays_sort_Ints : Go.Proofs.Lays.n191 Tryz.prog Tryz.lays_sort_Ints_ren := {
 mixed := by kernel_rfl
 f125 := Tryz.func171.trans (congrArg some (by kernel_rfl))
 f128 := Tryz.func181.trans (congrArg some (by kernel_rfl))
 f129 := Tryz.func182.trans (congrArg some (by kernel_rfl))
 f189 := Tryz.func164.trans (congrArg some (by kernel_rfl))
 f191 := Tryz.func159.trans (congrArg some (by kernel_rfl))
 f215 := Tryz.func188.trans (congrArg some (by kernel_rfl))
 f216 := Tryz.func178.trans (congrArg some (by kernel_rfl))
 f257 := Tryz.func170.trans (congrArg some (by kernel_rfl))
 f294 := Tryz.func172.trans (congrArg some (by kernel_rfl))
 f295 := Tryz.func173.trans (congrArg some (by kernel_rfl))
 f296 := Tryz.func174.trans (congrArg some (by kernel_rfl))
 f297 := Tryz.func175.trans (congrArg some (by kernel_rfl))
 f298 := Tryz.func176.trans (congrArg some (by kernel_rfl))
 f299 := Tryz.func177.trans (congrArg some (by kernel_rfl))
 f300 := Tryz.func179.trans (congrArg some (by kernel_rfl))
 f301 := Tryz.func180.trans (congrArg some (by kernel_rfl))
 f328 := Tryz.func183.trans (congrArg some (by kernel_rfl))
 f329 := Tryz.func184.trans (congrArg some (by kernel_rfl))
 f330 := Tryz.func185.trans (congrArg some (by kernel_rfl))
 f331 := Tryz.func186.trans (congrArg some (by kernel_rfl))
 f332 := Tryz.func187.trans (congrArg some (by kernel_rfl))
 f343 := Tryz.func189.trans (congrArg some (by kernel_rfl))
 t0 := Tryz.underlying0
 a0 := Tryz.isAgg0
 z0 := Tryz.sizeOf0
 v0 := Tryz.zeroValue0
 t3 := Tryz.underlying3
 a3 := Tryz.isAgg3
 z3 := Tryz.sizeOf3
 v3 := Tryz.zeroValue3
 t4 := Tryz.underlying4
 a4 := Tryz.isAgg4
 z4 := Tryz.sizeOf4
 v4 := Tryz.zeroValue4
 t5 := Tryz.underlying5
 a5 := Tryz.isAgg5
 z5 := Tryz.sizeOf5
 v5 := Tryz.zeroValue5
 t9 := Tryz.underlying9
 a9 := Tryz.isAgg9
 z9 := Tryz.sizeOf9
 v9 := Tryz.zeroValue9
 t28 := Tryz.underlying26
 a28 := Tryz.isAgg26
 z28 := Tryz.sizeOf26
 v28 := Tryz.zeroValue26
 t46 := Tryz.underlying179
 a46 := Tryz.isAgg179
 z46 := Tryz.sizeOf179
 v46 := Tryz.zeroValue179
 t51 := Tryz.underlying213
 a51 := Tryz.isAgg213
 z51 := Tryz.sizeOf213
 v51 := Tryz.zeroValue213
 t53 := Tryz.underlying215
 a53 := Tryz.isAgg215
 z53 := Tryz.sizeOf215
 v53 := Tryz.zeroValue215
 t131 := Tryz.underlying87
 a131 := Tryz.isAgg87
 z131 := Tryz.sizeOf87
 v131 := Tryz.zeroValue87
 t182 := Tryz.underlying236
 a182 := Tryz.isAgg236
 z182 := Tryz.sizeOf236
 v182 := Tryz.zeroValue236
 t183 := Tryz.underlying237
 a183 := Tryz.isAgg237
 z183 := Tryz.sizeOf237
 v183 := Tryz.zeroValue237
 t218 := Tryz.underlying243
 a218 := Tryz.isAgg243
 z218 := Tryz.sizeOf243
 v218 := Tryz.zeroValue243
 t222 := Tryz.underlying247
 a222 := Tryz.isAgg247
 z222 := Tryz.sizeOf247
 v222 := Tryz.zeroValue247
 t228 := Tryz.underlying249
 a228 := Tryz.isAgg249
 z228 := Tryz.sizeOf249
 v228 := Tryz.zeroValue249
 t229 := Tryz.underlying158
 a229 := Tryz.isAgg158
 z229 := Tryz.sizeOf158
 v229 := Tryz.zeroValue158 }
end Go.Proofs
namespace KF
open Go Go.Proofs Go.Proofs.Tryz
noncomputable section
theorem SaK : WO Jai := wc VaI (Kal Tryz.lays_sort_Ints (by kernel_rfl))
abbrev AaP : Qa := .pu (.p Sm Nf) Zd [true] (fun x => XH x.1 x.2.1)
abbrev Kai : WF := (160, AaP) :: Jai
def Taf : Sa := ⟨17, ⟨[(1, Da), (7, (.data Sm)), (8, Da), (9, Da)], []⟩, 0, ⟨[], []⟩, ⟨[(4, Ch)], []⟩, Uz⟩
def AaM : WL := [(2, Taf)]
theorem SaA : Za (WG true Jai [] [] []) AaM (lp f160 0) := Yc 2 (ls := Taf) rfl
theorem TaK : WO Kai := Cg SaK func160 (Ka SaA Oa)
abbrev JaO : Qa := .pu (.p Sm .u) (.p Sm .u) [true] (fun x => Pt x.1)
abbrev Dai : WF := (143, JaO) :: Kai
def Maf : Sa := ⟨31, ⟨[(4, Dx), (11, (.own 200002 int true)), (12, Da), (13, Da)], []⟩, 0, ⟨[(4, Dx)], []⟩, ⟨[], []⟩, Lx⟩
def VaL : WL := [(5, Maf)]
theorem LaA : Za (WG true Kai [] [] []) VaL (lp f143 0) := Yc 5 (ls := Maf) rfl
theorem CaK : WO Dai := Cg TaK func143 (Ka LaA Oa)
abbrev EaN : Qa := .pu (.p En .u) (.p Zg .u) [true] (fun x => Ae x.1)
abbrev Qah : WF := (112, EaN) :: Dai
def Tae : Sa := ⟨45, ⟨[(2, Fl), (3, VB), (4, Dx), (11, (.data En)), (12, Da), (13, Da)], [(2, Zg, SQ), (3, Zg, SQ)]⟩, 0, ⟨[(2, Fl), (3, VB), (4, Dx)], [(2, Zg, SQ), (3, Zg, SQ)]⟩, ⟨[], []⟩, Zu⟩
def KaL : WL := [(6, Tae)]
theorem Saz : Za (WG true Dai [] [] []) KaL (lp f112 0) := Yc 6 (ls := Tae) rfl
theorem XaI : WO Qah := Cg CaK func112 (Ka Saz Oa)
abbrev VaV : Qa := .pu (.p Sm (.p Sm .u)) Zd [true] (fun x => KD x.1 x.2.1)
abbrev DaD : WF := (45, VaV) :: Qah
def Nao : Sa := ⟨26, ⟨[(0, (.data Sm)), (1, (.data Sm)), (12, Da), (13, Da)], []⟩, 0, ⟨[], []⟩, ⟨[(4, Ch)], []⟩, Fv⟩
def QaT : WL := [(4, Nao)]
theorem JaG : Za (WG true Qah [] [] []) QaT (lp f45 0) := Yc 4 (ls := Nao) rfl
theorem AaR : WO DaD := Cg XaI func45 (Ka JaG Oa)
abbrev AaI : Qa := .pu (.p Zg (.p Zg .u)) Zd [true] (fun x => Cj x.1 x.2.1)
abbrev OaC : WF := (15, AaI) :: DaD
theorem MaC : WO OaC := Ud AaR func15
abbrev DaN : Qa := .co (.p Zg T3) T3 [true] (fun x => Hf x.1 x.2.1)
abbrev Wav : WF := (111, DaN) :: OaC
def GTo : List (Nat × Ty) := [(3, int), (66, DO), (106, (.sl DO))]
theorem OaE : ((GTo.all fun x => Ke Tryz.prog x.2 x.1) && (([] : List (Nat × Ty × Nat)).all fun x => XX Tryz.prog x.1 x.2.1 x.2.2)) = true := by kernel_rfl
@[reducible] def Was (c : T Ze → T Ze → Option Bool) : Qa := .pu (.p DO (.p (.sl DO) .u)) (.p (.sl DO) .u) [true] (fun x => Raj c x.1 x.2.1)
def Uam (c : T Ze → T Ze → Option Bool) : Yf := ⟨GTo, [(15, X4 c)], [], true, [], [], []⟩
theorem Vas (I : Oi) (c : T Ze → T Ze → Option Bool) (h : Zj Tryz.prog I 15 (X4 c)) : Dk Tryz.prog I (Uam c) := Dk.cons h (W5 OaE)
def R5 (c : T Ze → T Ze → Option Bool) : Sa := ⟨25, ⟨[(2, Fl), (5, (.own 200001 DO true)), (8, (.data (.sl DO))), (9, Da), (10, Da)], [(2, DO, (.data DO))]⟩, 0, ⟨[(5, (.own 200001 DO true))], []⟩, ⟨[], []⟩, Vw c⟩
def Vam (c : T Ze → T Ze → Option Bool) : List (Nat × Sa) := [(3, R5 c)]
theorem Saj (c : T Ze → T Ze → Option Bool) : Za (Uam c) (Vam c) (lp Tryz.f111 0) := J6 (r := 3) (ls := R5 c) (R := fun x => SG c x.1.1 x.1.2.1 x.1.2.2.1 x.1.2.2.2.1 x.1.2.2.2.2.1 x.2.1) (by kernel_rfl) (by kernel_rfl) rfl (fun x => by kernel_rfl)
theorem Xas (I : Oi) (c : T Ze → T Ze → Option Bool) (h : Zj Tryz.prog I 15 (X4 c)) : Zj Tryz.prog I 111 (Was c) := ZU (L := Vam c) (k := 1) (Vas I c h) I5 Tryz.func111 (by kernel_rfl) (Ka (Saj c) Oa) (fun x => by kernel_rfl)
theorem WaI : WO Wav := wc MaC (Qaq (f2 := 15) (SR := fun x => Cj x.1 x.2.1) (same := PD) Eav (HaI (s := AaI) MaC (by kernel_rfl)) (fun I c h => ⟨_, Xas I c h, Say c⟩))
abbrev ZaW : Qa := .pu (.p Xc Nf) (.p Xc T3) [true, true] (fun x => Yz x.1 x.2.1)
abbrev Cas : WF := (75, ZaW) :: Wav
theorem EaS : WO Cas := Ud WaI func75
abbrev AaX : Qa := .pu (.p int (.p En .u)) Nf [true] (fun x => Lw x.1 x.2.1)
abbrev Das : WF := (76, AaX) :: Cas
def Cap : Sa := ⟨39, ⟨[(5, Da), (21, (.data En)), (22, Da), (23, Da)], []⟩, 0, ⟨[(5, Da)], []⟩, ⟨[], []⟩, Jk⟩
def CaU : WL := [(7, Cap)]
theorem YaG : Za (WG true Cas [] [] []) CaU (lp f76 0) := Yc 7 (ls := Cap) rfl
theorem FaS : WO Das := Cg EaS func76 (Ka YaG Oa)
abbrev HaN : Qa := .pu (.p Oc Nc) Nf [true] (fun x => Vz x.1 x.2.1 x.2.2.1)
abbrev Yav : WF := (115, HaN) :: Das
def Uae : Sa := ⟨33, ⟨[(1, Da), (2, Da), (3, VB), (7, Da)], [(3, Oc, ZD)]⟩, 0, ⟨[], []⟩, ⟨[(6, Da)], []⟩, Gj⟩
def LaL : WL := [(2, Uae)]
theorem Taz : Za (WG true Das [] [] []) LaL (lp f115 0) := Yc 2 (ls := Uae) rfl
theorem AaJ : WO Yav := Cg FaS func115 (Ka Taz Oa)
abbrev GaN : Qa := .pu (.p Oc Nc) Nf [true] (fun x => HL x.1 x.2.1 x.2.2.1)
abbrev Xav : WF := (114, GaN) :: Yav
theorem ZaI : WO Xav := Ud AaJ func114
abbrev CaX : Qa := .pu (.p Oc Nc) RG [true] (fun x => GD x.1 x.2.1 x.2.2.1)
abbrev YaD : WF := (78, CaX) :: Xav
theorem HaS : WO YaD := Ud ZaI func78
abbrev BaX : Qa := .pu RG Zd [true] (fun x => Fo x.1)
abbrev Eas : WF := (77, BaX) :: YaD
theorem GaS : WO Eas := Ud HaS func77
abbrev DaX : Qa := .pu (.p Ad (.p int (.p int (.p Jz Nf)))) Nc [true, true] (fun x => Gw x.1 x.2.1 x.2.2.1 x.2.2.2.1 x.2.2.2.2.1)
abbrev ZaD : WF := (79, DaX) :: Eas
def Dap : Sa := ⟨102, ⟨[(1, Da), (2, Da), (4, Da), (5, (.ptr 5 [])), (12, Da), (26, Kz), (27, Da), (28, Da)], [(5, Ad, (.data Ad))]⟩, 0, ⟨[(2, Da), (4, Da), (5, (.ptr 5 []))], [(5, Ad, (.data Ad))]⟩, ⟨[(10, Da), (11, Da)], []⟩, Uu⟩
def DaU : WL := [(5, Dap)]
theorem ZaG : Za (WG true Eas [] [] []) DaU (lp f79 0) := Yc 5 (ls := Dap) rfl
theorem IaS : WO ZaD := Cg GaS func79 (Ka ZaG Oa)
abbrev IaN : Qa := .pu RG RG [true] (fun x => VH x.1)
abbrev Zav : WF := (116, IaN) :: ZaD
theorem BaJ : WO Zav := Ud IaS func116
abbrev JaN : Qa := .pu RG RG [true] (fun x => YJ x.1)
abbrev Aaw : WF := (117, JaN) :: Zav
theorem CaJ : WO Aaw := Ud BaJ func117
abbrev NaO : Qa := .pu Nf Zd [true] (fun x => Cy x.1)
abbrev Taw : WF := (147, NaO) :: Aaw
theorem GaK : WO Taw := Ud CaJ func147
abbrev KaN : Qa := .bx false false Xc RG RG [true] (fun x0 x => Lr x0 x.1)
abbrev Rah : WF := (118, KaN) :: Taw
theorem DaJ : WO Rah := RJ (L := []) (m := []) (v := []) (l := []) (z := false) GaK func118 Oa
abbrev OaO : Qa := .pu (.p Zg (.p (.sl Nc) .u)) (.p Zg .u) [true] (fun x => Hg x.1 x.2.1)
abbrev Eai : WF := (148, OaO) :: Rah
def Naf : Sa := ⟨37, ⟨[(4, Dr), (5, (.ptr 5 [])), (6, Dx), (15, Lo), (16, Da), (17, Da)], [(4, Zg, SQ), (5, Zg, SQ)]⟩, 0, ⟨[(4, Dr), (5, (.ptr 5 [])), (6, Dx)], [(4, Zg, SQ), (5, Zg, SQ)]⟩, ⟨[], []⟩, Vt⟩
def WaL : WL := [(4, Naf)]
theorem MaA : Za (WG true Rah [] [] []) WaL (lp f148 0) := Yc 4 (ls := Naf) rfl
theorem HaK : WO Eai := Cg DaJ func148 (Ka MaA Oa)
abbrev LaN : Qa := .pu (.p En (.p Vk .u)) T3 [true] (fun x => Mk x.1 x.2.1)
abbrev Baw : WF := (119, LaN) :: Eai
def Vae : Sa := ⟨74, ⟨[(5, (.ptr 5 [])), (6, (.own 200001 Zg true)), (7, (.own 200002 Nc true)), (22, (.data Vk)), (23, Da), (24, Da)], [(5, Zg, (.pr Da (.pr (.own 200003 int true) .un)))]⟩, 0, ⟨[(6, (.own 200001 Zg true))], []⟩, ⟨[], []⟩, Uo⟩
def MaL : WL := [(7, Vae)]
theorem Uaz : Za (WG true Eai [] [] []) MaL (lp f119 0) := Yc 7 (ls := Vae) rfl
theorem EaJ : WO Baw := Cg HaK func119 (Ka Uaz Oa)
abbrev EaX : Qa := .pu (.p Xc (.p int Zd)) (.p Xc T3) [true, true] (fun x => Xi x.1 x.2.1 x.2.2.1)
abbrev AaE : WF := (80, EaX) :: Baw
theorem JaS : WO AaE := Ud EaJ func80
abbrev RaV : Qa := .bx false false Ge .u (.p (.sl Zg) Zd) [true, true] (fun x0 x => Vi x0)
abbrev Par : WF := (41, RaV) :: AaE
theorem WaQ : WO Par := RJ (L := []) (m := []) (v := []) (l := []) (z := false) JaS func41 Oa
abbrev SaV : Qa := .co (.p (.sl Dz) (.p int T3)) (.p (.sl Dz) .u) [true] (fun x => SI x.1 x.2.1 x.2.2.1)
abbrev Qar : WF := (42, SaV) :: Par
def Lao : Sa := ⟨23, ⟨[(0, CO), (1, Da), (9, (.mov 200002 Zg)), (10, Da), (11, Da)], []⟩, 0, ⟨[(0, CO)], []⟩, ⟨[], []⟩, IE⟩
def OaT : WL := [(2, Lao)]
theorem HaG : Za (WG false Par [] [] [14]) OaT (lp f42 0) := Yc 2 (ls := Lao) rfl
theorem XaQ : WO Qar := wco WaQ func42 (Ka HaG Oa)
abbrev SaU : Qa := .pu (.p Ge (.p Jz Nf)) (.p Ge (.p (.sl Dz) Zd)) [true, true, true] (fun x => Gy x.1 x.2.1 x.2.2.1)
abbrev NaC : WF := (12, SaU) :: Qar
def Aao : Sa := ⟨86, ⟨[(6, GF), (9, (.ptr 9 [])), (10, CO)], [(6, Ge, Q9), (9, Ge, EaF)]⟩, 0, ⟨[(6, GF), (9, (.ptr 9 [])), (10, CO)], [(6, Ge, Q9), (9, Ge, EaF)]⟩, ⟨[], []⟩, Ug⟩
def EaT : WL := [(9, Aao)]
theorem WaF : Za (WG true Qar [] [] []) EaT (lp f12 0) := Yc 9 (ls := Aao) rfl
theorem XaP : WO NaC := Cg XaQ func12 (Ka WaF Oa)
abbrev BaV : Qa := .pu (.p Af Nf) (.p Af (.p (.sl Dz) Zd)) [true, true, true] (fun x => Ui x.1 x.2.1)
abbrev SaC : WF := (24, BaV) :: NaC
theorem GaQ : WO SaC := Ud XaP func24
abbrev BaW : Qa := .pu (.p Df (.p int (.p int XK))) (.p Df (.p (.sl Dz) Zd)) [true, true, true] (fun x => Hk x.1 x.2.1 x.2.2.1 x.2.2.2.1)
abbrev Uar : WF := (51, BaW) :: SaC
theorem GaR : WO Uar := Ud GaQ func51
abbrev XaU : Qa := .pu (.p Df (.p Sm (.p Sm (.p (.sl Gx) .u)))) (.p Df (.p (.sl Dz) Zd)) [true, true, true] (fun x => Hl x.1 x.2.1 x.2.2.1 x.2.2.2.1)
abbrev Iar : WF := (18, XaU) :: Uar
def Dao : Sa := ⟨86, ⟨[(1, (.data Sm)), (2, (.data Sm)), (3, (.data (.sl Gx))), (8, (.ptr 8 [])), (11, (.ptr 11 [])), (12, CO), (49, Da), (50, Da)], [(8, Df, Tas), (11, Df, c6_)]⟩, 0, ⟨[(8, (.ptr 8 [])), (11, (.ptr 11 [])), (12, CO)], [(8, Df, Tas), (11, Df, c6_)]⟩, ⟨[(8, (.ptr 8 [])), (9, CO), (10, Ch)], [(8, Df, Tas)]⟩, Jt⟩
def HaT : WL := [(7, Dao)]
theorem ZaF : Za (WG true Uar [] [] []) HaT (lp f18 0) := Yc 7 (ls := Dao) rfl
theorem CaQ : WO Iar := Cg GaR func18 (Ka ZaF Oa)
abbrev s_7 : Qa := .pu (.p Af (.p Sm .u)) (.p Af (.p (.sl Dz) Zd)) [true, true, true] (fun x => Fw x.1 x.2.1)
abbrev F_7 : WF := (7, s_7) :: Iar
def Cay : Sa := ⟨48, ⟨[(4, Dr), (7, (.ptr 7 [])), (8, CO), (25, (.data Sm)), (26, Da), (27, Da)], [(4, Af, c1_), (7, Af, c8_)]⟩, 0, ⟨[(4, Dr), (7, (.ptr 7 [])), (8, CO)], [(4, Af, c1_), (7, Af, c8_)]⟩, ⟨[(4, Dr), (5, CO), (6, Ch)], [(4, Af, c1_)]⟩, Su⟩
def L_7 : WL := [(6, Cay)]
theorem IaM : Za (WG true Iar [] [] []) L_7 (lp f7 0) := Yc 6 (ls := Cay) rfl
theorem E_7 : WO F_7 := Cg CaQ func7 (Ka IaM Oa)
abbrev TaU : Qa := .pu (.p (.sl Dz) (.p (.sl Dz) .u)) Zd [true] (fun x => Mw x.1 x.2.1)
abbrev Vah : WF := (13, TaU) :: F_7
def Bao : Sa := ⟨42, ⟨[(0, (.data (.sl Dz))), (1, (.data (.sl Dz))), (12, Da), (13, Da)], []⟩, 0, ⟨[], []⟩, ⟨[(4, Ch)], []⟩, Bv⟩
def FaT : WL := [(4, Bao)]
theorem XaF : Za (WG true F_7 [] [] []) FaT (lp f13 0) := Yc 4 (ls := Bao) rfl
theorem YaP : WO Vah := Cg E_7 func13 (Ka XaF Oa)
abbrev FaX : Qa := .pu (.p Oc ET) Zd [true] (fun x => UF x.1 x.2.1)
abbrev Fas : WF := (81, FaX) :: Vah
def Fap : Sa := ⟨68, ⟨[(2, Fl), (3, VB), (5, Da), (6, Da)], [(2, Oc, ZD), (3, Oc, ZD)]⟩, 2, ⟨[(2, Fl), (3, VB), (5, Da)], [(2, Oc, ZD), (3, Oc, ZD)]⟩, ⟨[(4, Ch)], []⟩, Jp⟩
def Eap : Sa := ⟨68, ⟨[(2, Fl), (3, VB), (5, Da)], [(2, Oc, ZD), (3, Oc, ZD)]⟩, 0, ⟨[], []⟩, ⟨[(4, Ch)], []⟩, Nx⟩
def SaE : WL := [(9, Fap), (4, Eap)]
theorem BaH : Za (WG true Vah [] [] []) SaE (lp f81 1) := Yc 9 (ls := Fap) rfl
theorem AaH : Za (WG true Vah [] [] []) SaE (lp f81 0) := Yc 4 (ls := Eap) rfl
theorem KaS : WO Fas := Cg YaP func81 (Ka BaH (Ka AaH Oa))
abbrev GaX : Qa := .pu (.p En (.p En .u)) Zd [true] (fun x => ND x.1 x.2.1)
abbrev BaE : WF := (82, GaX) :: Fas
def Gap : Sa := ⟨26, ⟨[(0, (.data En)), (1, (.data En)), (5, Da)], []⟩, 0, ⟨[], []⟩, ⟨[(4, Ch)], []⟩, Iv⟩
def EaU : WL := [(4, Gap)]
theorem CaH : Za (WG true Fas [] [] []) EaU (lp f82 0) := Yc 4 (ls := Gap) rfl
theorem LaS : WO BaE := Cg KaS func82 (Ka CaH Oa)
abbrev TaV : Qa := .pu (.p Xc VQ) Zd [true] (fun x => Qy x.1 x.2.1)
abbrev Rar : WF := (43, TaV) :: BaE
theorem YaQ : WO Rar := Ud LaS func43
abbrev UaV : Qa := .pu (.p Jz (.p Jz .u)) Zd [true] (fun x => Ry x.1 x.2.1)
abbrev CaD : WF := (44, UaV) :: Rar
def Mao : Sa := ⟨26, ⟨[(0, Kz), (1, Kz), (5, Da)], []⟩, 0, ⟨[], []⟩, ⟨[(4, Ch)], []⟩, Nr⟩
def PaT : WL := [(4, Mao)]
theorem IaG : Za (WG true Rar [] [] []) PaT (lp f44 0) := Yc 4 (ls := Mao) rfl
theorem ZaQ : WO CaD := Cg YaQ func44 (Ka IaG Oa)
abbrev UaU : Qa := .pu (.p Ge (.p Ge .u)) Zd [true] (fun x => Wo x.1 x.2.1)
abbrev Bai : WF := (14, UaU) :: CaD
theorem ZaP : WO Bai := Ud ZaQ func14
abbrev s_4 : Qa := .pu XK Zd [true] (fun x => MD x.1)
abbrev F_4 : WF := (4, s_4) :: Bai
def Bay : Sa := ⟨172, ⟨[(3, VB), (4, Dx), (5, (.own 200002 int true)), (6, Da), (7, (.own 200003 int true)), (8, Da)], [(3, Df, c3_)]⟩, 0, ⟨[(3, VB), (4, Dx), (5, (.own 200002 int true)), (6, Da), (7, (.own 200003 int true))], [(3, Df, c3_)]⟩, ⟨[], []⟩, Rn⟩
def Pao : Sa := ⟨172, ⟨[(6, Da), (9, (.ptr 9 [])), (15, (.own 200101 int true)), (16, (.own 200102 int true)), (17, (.own 200103 Gx true)), (18, Da)], [(9, Df, c7_)]⟩, 2, ⟨[(9, (.ptr 9 [])), (15, (.own 200101 int true)), (16, (.own 200102 int true)), (17, (.own 200103 Gx true))], [(9, Df, c7_)]⟩, ⟨[], []⟩, Nm⟩
def L_4 : WL := [(7, Bay), (18, Pao)]
theorem HaM : Za (WG true Bai [] [] []) L_4 (lp f4 0) := Yc 7 (ls := Bay) rfl
theorem LaG : Za (WG true Bai [] [] []) L_4 (lp f4 1) := Yc 18 (ls := Pao) rfl
theorem E_4 : WO F_4 := Cg ZaP func4 (Ka LaG (Ka HaM Oa))
theorem SW : Zj Tryz.prog II 4 s_4 := HaI E_4 (by kernel_rfl)
end
end KF
