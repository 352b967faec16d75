/- An evaluator of Go functions on plain data, its soundness, and plain laws on what the functions compute, part 7 (conditions: as each lemma tells). -/
import Derived.Test.YtoncbegnhhcgmaaGreatF
import Derived.Test.YtoncbegnhhcgmaaGreatRows
set_option linter.unusedSimpArgs false
set_option linter.unusedVariables false
namespace KF
open Go Go.Proofs
def GT : List (Nat × Ty) := [(3, int), (4, .b), (5, Pa8), (9, .s), (22, (.sl (.sl Qb))), (24, Vb), (25, (.sl int)), (27, (.sl Ac)), (30, (.sl (.sl Qb))), (32, Vb), (43, Za), (45, Lb), (46, (.sl Sb)), (47, (.sl Za)), (48, (.sl Za)), (50, Nb), (51, (.sl (.sl Yb))), (52, (.sl Xe)), (54, Xb), (56, Yb), (58, Dc), (60, Jc), (62, Za), (63, Lb), (64, (.sl Sb)), (65, (.sl Za)), (66, (.sl Za)), (68, Nb), (69, (.sl (.sl Yb))), (70, (.sl Xe)), (72, Xb), (73, Yb), (75, Dc), (77, Jc), (78, (.sl Wh)), (121, Ac), (134, Za), (152, Wh), (172, (.sl Qb)), (177, (.sl Qb)), (194, Sb), (212, Za), (235, (.i .u64)), (240, (.sl Yb)), (242, Qb), (244, Xe), (255, Qb), (271, Sb), (273, Za), (275, Za), (295, Yb), (301, (.sl Sb)), (303, Sb), (306, (.sl Yb)), (312, Xe), (323, Yb), (325, (.i .u32)), (327, (.i .u64))]
def GA : List (Nat × Ty × Nat) := [(214, int, 4)]
theorem MaU : ((GT.all fun x => Ze Tryz.prog x.2 x.1) && (GA.all fun x => K1 Tryz.prog x.1 x.2.1 x.2.2)) = true := by kernel_rfl
theorem B8 : Tryz.prog.follows .mixedOrders = true := by kernel_rfl
noncomputable abbrev II : Di := noI
noncomputable section
abbrev WP : Program := Tryz.prog
abbrev WF := List (Nat × Ka)
abbrev WL := List (Nat × La)
abbrev WG (z : Bool) (fs : WF) (m : List (Nat × Nat)) (v l : List Nat) : Bg := ⟨GT, fs, m, z, GA, v, l⟩
def WO (fs : WF) : Prop := ∀ z m v l, Ak WP II (WG z fs m v l)
theorem Bbb : WO [] := fun _ _ _ _ => K8 MaU
theorem wc {f : Nat} {s : Ka} {fs : WF} (e : WO fs) (h : Ij WP II f s) : WO ((f, s) :: fs) := fun z m v l => Ak.cons h (e z m v l)
theorem GaN {f : Nat} {s : Ka} {fs : WF} (e : WO fs) (h : Ec fs f = some s) : Ij WP II f s := (e true [] [] []).fn f s h
theorem Pb {z : Bool} {fs : WF} {m : List (Nat × Nat)} {v l : List Nat} {L : WL} {fn : Func} {i : Nat} (r : Nat) {ls : La} {R : ls.inT.X → Option (ls.inT.X ⊕ (ls.outT.X ⊕ ls.retT.X))}
 (h3 : ls.F = Ua R) (h1 : Sk (lp fn i) = some r := by kernel_rfl) (h2 : (Ec L r) = some ls := by kernel_rfl) (h4 : ∀ x, LR (WG z fs m v l) L ls (lp fn i) x = R x := by intro _; kernel_rfl) : Qa (WG z fs m v l) L (lp fn i) := P8 h1 h2 h3 h4
theorem Gc {f : Nat} {fn : Func} {pt rt : Ty} {fr : List Bool} {F : T pt → Option (T rt)} {fs : WF} (e : WO fs) (hf : WP.funcs[f]? = some fn)
 (hb : (fn.body.isSome && !(fn.name == "runtime.NumGoroutine") && Nat.ble pt.npar fn.ntmps && Nat.beq (Ve (fn.body.getD .skip)).length 0) = true := by kernel_rfl)
 (hF : ∀ x, evF (WG true fs [] [] []) [] fn pt rt fr x = F x := by intro _; kernel_rfl) : WO ((f, .pu pt rt fr F) :: fs) := wc e (UX (e _ _ _ _) B8 hf hb Ia hF)
theorem Fd {k : Nat} {L : WL} {m : List (Nat × Nat)} {v l : List Nat} {f : Nat} {fn : Func} {pt rt : Ty} {fr : List Bool} {F : T pt → Option (T rt)} {fs : WF} (e : WO fs) (hf : WP.funcs[f]? = some fn) (hL : ∀ i, i < k → Qa (WG true fs m v l) L (lp fn i))
 (hb : (fn.body.isSome && !(fn.name == "runtime.NumGoroutine") && Nat.ble pt.npar fn.ntmps && Nat.beq (Ve (fn.body.getD .skip)).length k) = true := by kernel_rfl)
 (hF : ∀ x, evF (WG true fs m v l) L fn pt rt fr x = F x := by intro _; kernel_rfl) : WO ((f, .pu pt rt fr F) :: fs) := wc e (UX (e _ _ _ _) B8 hf hb hL hF)
theorem KO {k : Nat} {L : WL} {m : List (Nat × Nat)} {v l : List Nat} {f : Nat} {fn : Func} {τ pt rt : Ty} {fr : List Bool} {F : T τ → T pt → Option (T τ × T rt)} {fs : WF} (e : WO fs) (hf : WP.funcs[f]? = some fn) (hL : ∀ i, i < k → Qa (WG false fs m v l) L (lp fn i))
 (hb : (fn.body.isSome && !(fn.name == "runtime.NumGoroutine") && Nat.ble (pt.npar + 1) fn.ntmps && Nat.beq (Ve (fn.body.getD .skip)).length k) = true := by kernel_rfl)
 (hF : ∀ x0 x, Hab (WG false fs m v l) L fn τ pt rt fr x0 x = F x0 x := by intro _ _; kernel_rfl) : WO ((f, .io τ pt rt fr F) :: fs) := wc e (Pav (e _ _ _ _) rfl B8 hf hb hL hF)
theorem wco {k : Nat} {L : WL} {m : List (Nat × Nat)} {v l : List Nat} {f : Nat} {fn : Func} {pt rt : Ty} {fr : List Bool} {F : T pt → Option (T rt)} {fs : WF} (e : WO fs) (hf : WP.funcs[f]? = some fn) (hL : ∀ i, i < k → Qa (WG false fs m v l) L (lp fn i))
 (hb : (fn.body.isSome && !(fn.name == "runtime.NumGoroutine") && Nat.ble pt.npar fn.ntmps && Nat.beq (Ve (fn.body.getD .skip)).length k) = true := by kernel_rfl)
 (hF : ∀ x, Gab (WG false fs m v l) L fn pt rt fr x = F x := by intro _; kernel_rfl) : WO ((f, .co pt rt fr F) :: fs) := wc e (Oav (e _ _ _ _) rfl B8 hf hb hL hF)
theorem W0 {k : Nat} {L : WL} {m : List (Nat × Nat)} {v l : List Nat} {f : Nat} {fn : Func} {vw cv : Bool} {τ pt rt : Ty} {fr : List Bool} {F : T τ → T pt → Option (T τ × T rt)} {fs : WF} (e : WO fs) (hf : WP.funcs[f]? = some fn) (hL : ∀ i, i < k → Qa (WG false fs m v l) L (lp fn i))
 (hb : (fn.body.isSome && !(fn.name == "runtime.NumGoroutine") && Nat.ble (pt.npar + 1) fn.ntmps && Nat.beq (Ve (fn.body.getD .skip)).length k) = true := by kernel_rfl)
 (hF : ∀ x0 x, Fab (WG false fs m v l) L fn vw cv τ pt rt fr x0 x = F x0 x := by intro _ _; kernel_rfl) : WO ((f, .bx vw cv τ pt rt fr F) :: fs) := wc e (Mav (e _ _ _ _) rfl B8 hf hb hL hF)
abbrev Da : TD := .data int
abbrev Kc : Ty := .p int .u
abbrev c6_ : TD := .pr (.own 200002 Sb true) (.pr Da (.pr (.own 200003 Za true) (.pr Da (.pr Da (.pr Da (.pr (.own 200004 Za true) .un))))))
abbrev Ud : Ty := .p .b .u
abbrev QV : Ty := .sl Za
abbrev Jj : Ty := .sl Qb
abbrev Eaq : TD := .pr (.own 200001 Sb true) (.pr Da (.pr (.own 200002 Za true) (.pr Da (.pr Da (.pr Da (.pr (.own 200003 Za true) .un))))))
abbrev Cf : TD := .data .b
abbrev Ph : Ty := .sl Yb
abbrev KH : TD := .own 200001 Za true
abbrev Bh : TD := .ptr 2 []
abbrev GL : TD := .own 200001 int true
abbrev Zh : TD := .data QV
abbrev Km : Ty := .p Qb .u
abbrev Qh : TD := .ptr 1 []
abbrev HL : TD := .own 200001 Wh true
abbrev Faq : TD := .pr Da (.pr Da (.pr Da (.pr Da (.pr Da (.pr GL (.data .u))))))
abbrev I6 : TD := .pr Da (.pr (.own 200001 Jj true) .un)
abbrev Bl : TD := .ptr 4 []
abbrev Fp : TD := .data Za
abbrev BJ : Ty := .p Nb .u
abbrev CJ : TD := .data (.sl Jj)
abbrev IL : Ty := .sl Xe
abbrev Ik : TD := .data IL
abbrev DJ : TD := .ptr 500000 []
abbrev ZT : Ty := .sl int
abbrev Kt : Ty := .sl Sb
abbrev Vi : TD := .data Kt
abbrev Iv : TD := .ptr 3 []
abbrev AU : Ty := .p (.sl Ac) .u
abbrev CS : Ty := .p int (.p .o .u)
abbrev EJ : Ty := .p Za .u
abbrev Lt : Ty := .p int Ud
abbrev c1_ : TD := .pr Fp (.pr (.pr Da (.pr Da (.pr Da (.pr Da (.pr Da (.pr (.own 200002 int true) .un)))))) (.pr (.pr (.own 200003 Sb true) (.pr Da (.pr (.own 200004 Za true) (.pr Da (.pr Da (.pr Da (.pr (.own 200005 Za true) .un))))))) (.pr (.pr (.pr (.pr Da (.pr (.own 200006 Jj true) .un)) (.pr (.own 200007 Ph true) (.pr Da (.pr (.own 200008 Xe true) (.data Lt))))) (.pr (.data Yb) (.pr (.own 200009 Za true) (.data Qb)))) (.data Sb))))
abbrev c2_ : TD := .pr Fp (.pr (.pr Da (.pr Da (.pr Da (.pr Da (.pr Da (.pr (.own 200010 int true) .un)))))) (.pr (.pr (.own 200011 Sb true) (.pr Da (.pr (.own 200012 Za true) (.pr Da (.pr Da (.pr Da (.pr (.own 200013 Za true) .un))))))) (.pr (.pr (.pr (.pr Da (.pr (.own 200014 Jj true) .un)) (.pr (.own 200015 Ph true) (.pr Da (.pr (.own 200016 Xe true) (.data Lt))))) (.pr (.data Yb) (.pr (.own 200017 Za true) (.data Qb)))) (.data Sb))))
abbrev c4_ : TD := .pr (.pr (.pr Da (.pr (.own 200002 Jj true) .un)) (.pr (.own 200003 Ph true) (.pr Da (.pr (.own 200004 Xe true) (.data Lt))))) (.pr (.data Yb) (.pr (.own 200005 Za true) (.data Qb)))
abbrev RN : TD := .data Xb
abbrev GE : TD := .ptr 5 []
abbrev HE : Ty := .sl Wh
abbrev FJ : Ty := .p QV Kc
abbrev J6 : TD := .own 200001 Ac true
abbrev DS : Ty := .p Xb .u
abbrev ES : Ty := .p Za Kc
abbrev FS : TD := .data Vb
abbrev EB : Ty := .sl Ph
abbrev c8_ : TD := .pr (.pr Da (.pr CJ .un)) (.pr (.data EB) (.pr Da (.pr Ik (.data Lt))))
abbrev SN : Ty := .p IL .u
abbrev BU : Ty := .p Vb .u
abbrev CU : Ty := .p Ac .u
abbrev IP : Ty := .p ZT .u
abbrev TN : TD := .data ZT
abbrev FB : TD := .pr Da (.pr TN .un)
abbrev Hac : TD := .pr Da (.pr Da (.pr Da (.pr Da FB)))
abbrev JaL : TD := .pr Fp (.pr Hac (.pr (.pr Vi (.pr Da (.pr Zh (.pr Da (.pr Da (.pr Da (.pr Zh .un))))))) (.pr (.pr c8_ (.pr (.data Yb) (.pr Zh (.data Qb)))) (.data Sb))))
abbrev GS : Ty := .p Yb .u
abbrev UN : Ty := .p QV .u
abbrev DU : Ty := .p Jc .u
abbrev N1 : TD := .data Nb
abbrev PaY : Ka := .pu (.p ZT Kc) Kc [true] (fun x => SM x.1 x.2.1)
abbrev Taz : WF := (125, PaY) :: ([] : WF)
theorem WaN : WO Taz := Gc Bbb Tryz.func125
abbrev Ra9 : Ka := .pu (.p Lb Kc) Kc [true] (fun x => Ew x.1 x.2.1)
abbrev IaK : WF := (58, Ra9) :: Taz
theorem Ka6 : WO IaK := Gc WaN Tryz.func58
abbrev QaY : Ka := .pu (.p Kt Kc) Kc [true] (fun x => TG x.1 x.2.1)
abbrev Uaz : WF := (126, QaY) :: IaK
theorem XaN : WO Uaz := Gc Ka6 Tryz.func126
abbrev RaY : Ka := .pu FJ Kc [true] (fun x => Sx x.1 x.2.1)
abbrev Vaz : WF := (127, RaY) :: Uaz
theorem YaN : WO Vaz := Gc XaN Tryz.func127
abbrev SaY : Ka := .pu FJ Kc [true] (fun x => ND x.1 x.2.1)
abbrev Waz : WF := (128, SaY) :: Vaz
theorem ZaN : WO Waz := Gc YaN Tryz.func128
abbrev Sa9 : Ka := .pu (.p Nb Kc) Kc [true] (fun x => DA x.1 x.2.1)
abbrev JaK : WF := (59, Sa9) :: Waz
theorem La6 : WO JaK := Gc ZaN Tryz.func59
abbrev CaY : Ka := .pu (.p Jj Kc) Kc [true] (fun x => Hu x.1 x.2.1)
abbrev Eam : WF := (111, CaY) :: JaK
theorem JaN : WO Eam := Gc La6 Tryz.func111
abbrev La9 : Ka := .pu (.p (.sl Jj) Kc) Kc [true] (fun x => CA x.1 x.2.1)
abbrev CaK : WF := (48, La9) :: Eam
def Jau : La := ⟨27, ⟨[(0, CJ), (1, Da), (5, Da)], []⟩, 0, ⟨[(1, Da)], []⟩, ⟨[(4, Da)], []⟩, SF⟩
def Ca8 : WL := [(5, Jau)]
theorem ZaL : Qa (WG true Eam [] [] []) Ca8 (lp Tryz.f48 0) := Pb 5 (ls := Jau) rfl
theorem Ea6 : WO CaK := Fd JaN Tryz.func48 (Ga ZaL Ia)
abbrev s_8 : Ka := .pu (.p Vb Kc) Kc [true] (fun x => VG x.1 x.2.1)
abbrev F_8 : WF := (8, s_8) :: CaK
theorem E_8 : WO F_8 := Gc Ea6 Tryz.func8
abbrev Ya3 : Ka := .pu (.p Ph Kc) Kc [true] (fun x => AC x.1 x.2.1)
abbrev Oao : WF := (275, Ya3) :: F_8
theorem FaT : WO Oao := Gc E_8 Tryz.func275
abbrev Sa1 : Ka := .pu (.p EB Kc) Kc [true] (fun x => XG x.1 x.2.1)
abbrev QaB : WF := (213, Sa1) :: Oao
def Gaj : La := ⟨27, ⟨[(0, (.data EB)), (1, Da), (5, Da)], []⟩, 0, ⟨[(1, Da)], []⟩, ⟨[(4, Da)], []⟩, YJ⟩
def FaW : WL := [(5, Gaj)]
theorem WaG : Qa (WG true Oao [] [] []) FaW (lp Tryz.f213 0) := Pb 5 (ls := Gaj) rfl
theorem ZaQ : WO QaB := Fd FaT Tryz.func213 (Ga WaG Ia)
abbrev Ta1 : Ka := .pu (.p IL Kc) Kc [true] (fun x => XJ x.1 x.2.1)
abbrev RaB : WF := (214, Ta1) :: QaB
theorem AaR : WO RaB := Gc ZaQ Tryz.func214
abbrev TaY : Ka := .pu (.p Xb Kc) Kc [true] (fun x => UG x.1 x.2.1)
abbrev Xaz : WF := (129, TaY) :: RaB
theorem AaO : WO Xaz := Gc AaR Tryz.func129
abbrev Ta9 : Ka := .pu (.p Dc Kc) Kc [true] (fun x => OD x.1 x.2.1)
abbrev KaK : WF := (60, Ta9) :: Xaz
theorem Ma6 : WO KaK := Gc AaO Tryz.func60
abbrev Za8 : Ka := .pu (.p Jc Kc) Kc [true] (fun x => WJ x.1 x.2.1)
abbrev WaJ : WF := (20, Za8) :: KaK
theorem Sa5 : WO WaJ := Gc Ma6 Tryz.func20
abbrev Aba : Ka := .pu EJ EJ [true] (fun x => BH x.1)
abbrev Law : WF := (67, Aba) :: WaJ
theorem Ta6 : WO Law := Gc Sa5 Tryz.func67
abbrev Ua8 : Ka := .pu IP IP [true] (fun x => Jn x.1)
abbrev SaJ : WF := (11, Ua8) :: Law
def Aau : La := ⟨22, ⟨[(0, TN), (3, GL), (4, Da)], []⟩, 0, ⟨[(3, GL)], []⟩, ⟨[], []⟩, DC⟩
def Ta7 : WL := [(3, Aau)]
theorem QaL : Qa (WG true Law [] [] []) Ta7 (lp Tryz.f11 0) := Pb 3 (ls := Aau) rfl
theorem Na5 : WO SaJ := Fd Ta6 Tryz.func11 (Ga QaL Ia)
abbrev Bba : Ka := .pu (.p Lb .u) (.p Lb .u) [true] (fun x => Fw x.1)
abbrev OaK : WF := (68, Bba) :: SaJ
theorem Ua6 : WO OaK := Gc Na5 Tryz.func68
abbrev Ga2 : Ka := .pu (.p Sb .u) (.p Sb .u) [true] (fun x => BC x.1)
abbrev San : WF := (227, Ga2) :: OaK
theorem NaR : WO San := Gc Ua6 Tryz.func227
abbrev KaZ : Ka := .pu (.p Kt .u) (.p Kt .u) [true] (fun x => XN x.1)
abbrev IaA : WF := (146, KaZ) :: San
def Xah : La := ⟨23, ⟨[(0, Vi), (3, (.own 200001 Sb true)), (4, Da)], []⟩, 0, ⟨[(3, (.own 200001 Sb true))], []⟩, ⟨[], []⟩, AK⟩
def BaV : WL := [(3, Xah)]
theorem NaF : Qa (WG true San [] [] []) BaV (lp Tryz.f146 0) := Pb 3 (ls := Xah) rfl
theorem RaO : WO IaA := Fd NaR Tryz.func146 (Ga NaF Ia)
abbrev Ha2 : Ka := .pu EJ EJ [true] (fun x => CC x.1)
abbrev Tan : WF := (228, Ha2) :: IaA
theorem OaR : WO Tan := Gc RaO Tryz.func228
abbrev LaZ : Ka := .pu UN UN [true] (fun x => ZG x.1)
abbrev JaA : WF := (147, LaZ) :: Tan
def Yah : La := ⟨23, ⟨[(0, Zh), (3, KH), (4, Da)], []⟩, 0, ⟨[(3, KH)], []⟩, ⟨[], []⟩, BK⟩
def CaV : WL := [(3, Yah)]
theorem OaF : Qa (WG true Tan [] [] []) CaV (lp Tryz.f147 0) := Pb 3 (ls := Yah) rfl
theorem SaO : WO JaA := Fd OaR Tryz.func147 (Ga OaF Ia)
abbrev Ia2 : Ka := .pu EJ EJ [true] (fun x => Tx x.1)
abbrev Uan : WF := (229, Ia2) :: JaA
theorem PaR : WO Uan := Gc SaO Tryz.func229
abbrev MaZ : Ka := .pu UN UN [true] (fun x => XL x.1)
abbrev KaA : WF := (148, MaZ) :: Uan
def Zah : La := ⟨23, ⟨[(0, Zh), (3, KH), (4, Da)], []⟩, 0, ⟨[(3, KH)], []⟩, ⟨[], []⟩, PI⟩
def DaV : WL := [(3, Zah)]
theorem PaF : Qa (WG true Uan [] [] []) DaV (lp Tryz.f148 0) := Pb 3 (ls := Zah) rfl
theorem TaO : WO KaA := Fd PaR Tryz.func148 (Ga PaF Ia)
abbrev Cba : Ka := .pu BJ BJ [true] (fun x => EA x.1)
abbrev PaK : WF := (69, Cba) :: KaA
theorem Va6 : WO PaK := Gc TaO Tryz.func69
abbrev Ja1 : Ka := .pu Km Km [true] (fun x => Rp x.1)
abbrev Gan : WF := (204, Ja1) :: PaK
theorem QaQ : WO Gan := Gc Va6 Tryz.func204
abbrev HaY : Ka := .pu (.p Jj .u) (.p Jj .u) [true] (fun x => PD x.1)
abbrev Fam : WF := (116, HaY) :: Gan
def Gah : La := ⟨23, ⟨[(0, (.data Jj)), (3, (.own 200001 Qb true)), (4, Da)], []⟩, 0, ⟨[(3, (.own 200001 Qb true))], []⟩, ⟨[], []⟩, OI⟩
def OaU : WL := [(3, Gah)]
theorem WaE : Qa (WG true Gan [] [] []) OaU (lp Tryz.f116 0) := Pb 3 (ls := Gah) rfl
theorem OaN : WO Fam := Fd QaQ Tryz.func116 (Ga WaE Ia)
abbrev Ma9 : Ka := .pu (.p (.sl Jj) .u) (.p (.sl Jj) .u) [true] (fun x => ZJ x.1)
abbrev DaK : WF := (51, Ma9) :: Fam
def Kau : La := ⟨23, ⟨[(0, CJ), (3, (.own 200001 Jj true)), (4, Da)], []⟩, 0, ⟨[(3, (.own 200001 Jj true))], []⟩, ⟨[], []⟩, TF⟩
def Da8 : WL := [(3, Kau)]
theorem AaM : Qa (WG true Fam [] [] []) Da8 (lp Tryz.f51 0) := Pb 3 (ls := Kau) rfl
theorem Fa6 : WO DaK := Fd OaN Tryz.func51 (Ga AaM Ia)
abbrev Ta8 : Ka := .pu BU BU [true] (fun x => AH x.1)
abbrev RaJ : WF := (10, Ta8) :: DaK
theorem Ma5 : WO RaJ := Gc Fa6 Tryz.func10
abbrev Aa5 : Ka := .pu GS GS [true] (fun x => VF x.1)
abbrev Gap : WF := (303, Aa5) :: RaJ
theorem HaU : WO Gap := Gc Ma5 Tryz.func303
abbrev Ea4 : Ka := .pu (.p Ph .u) (.p Ph .u) [true] (fun x => CK x.1)
abbrev Tao : WF := (281, Ea4) :: Gap
def Pak : La := ⟨23, ⟨[(0, (.data Ph)), (3, (.own 200001 Yb true)), (4, Da)], []⟩, 0, ⟨[(3, (.own 200001 Yb true))], []⟩, ⟨[], []⟩, WK⟩
def JaX : WL := [(3, Pak)]
theorem FaI : Qa (WG true Gap [] [] []) JaX (lp Tryz.f281 0) := Pb 3 (ls := Pak) rfl
theorem LaT : WO Tao := Fd HaU Tryz.func281 (Ga FaI Ia)
abbrev Ja2 : Ka := .pu (.p EB .u) (.p EB .u) [true] (fun x => YN x.1)
abbrev VaB : WF := (230, Ja2) :: Tao
def Naj : La := ⟨23, ⟨[(0, (.data EB)), (3, (.own 200001 Ph true)), (4, Da)], []⟩, 0, ⟨[(3, (.own 200001 Ph true))], []⟩, ⟨[], []⟩, DK⟩
def JaW : WL := [(3, Naj)]
theorem DaH : Qa (WG true Tao [] [] []) JaW (lp Tryz.f230 0) := Pb 3 (ls := Naj) rfl
theorem QaR : WO VaB := Fd LaT Tryz.func230 (Ga DaH Ia)
abbrev Fa4 : Ka := .pu (.p Xe .u) (.p Xe .u) [true] (fun x => UF x.1)
abbrev Uao : WF := (282, Fa4) :: VaB
theorem MaT : WO Uao := Gc QaR Tryz.func282
abbrev Ka2 : Ka := .pu SN SN [true] (fun x => XP x.1)
abbrev WaB : WF := (231, Ka2) :: Uao
def Oaj : La := ⟨23, ⟨[(0, Ik), (3, (.own 200001 Xe true)), (4, Da)], []⟩, 0, ⟨[(3, (.own 200001 Xe true))], []⟩, ⟨[], []⟩, VK⟩
def KaW : WL := [(3, Oaj)]
theorem EaH : Qa (WG true Uao [] [] []) KaW (lp Tryz.f231 0) := Pb 3 (ls := Oaj) rfl
theorem RaR : WO WaB := Fd MaT Tryz.func231 (Ga EaH Ia)
abbrev NaZ : Ka := .pu DS DS [true] (fun x => YG x.1)
abbrev LaA : WF := (149, NaZ) :: WaB
theorem UaO : WO LaA := Gc RaR Tryz.func149
abbrev OaZ : Ka := .pu GS GS [true] (fun x => DH x.1)
abbrev MaA : WF := (150, OaZ) :: LaA
theorem VaO : WO MaA := Gc UaO Tryz.func150
abbrev Dba : Ka := .pu (.p Dc .u) (.p Dc .u) [true] (fun x => QD x.1)
abbrev QaK : WF := (70, Dba) :: MaA
theorem Wa6 : WO QaK := Gc VaO Tryz.func70
abbrev Ba9 : Ka := .pu DU DU [true] (fun x => Co x.1)
abbrev XaJ : WF := (22, Ba9) :: QaK
theorem Ua5 : WO XaJ := Gc Wa6 Tryz.func22
abbrev Zba : Ka := .pu Yb Ud [true] (fun x => Cc x.1 x.2.1 x.2.2.1)
abbrev AaL : WF := (95, Zba) :: XaJ
theorem Sa7 : WO AaL := Gc Ua5 Tryz.func95
abbrev Ua1 : Ka := .pu EJ Ud [true] (fun x => Zx x.1)
abbrev SaB : WF := (215, Ua1) :: AaL
theorem BaR : WO SaB := Gc Sa7 Tryz.func215
abbrev WaY : Ka := .pu EJ Kc [true] (fun x => Cm x.1)
abbrev Lam : WF := (132, WaY) :: SaB
theorem DaO : WO Lam := Gc BaR Tryz.func132
abbrev XaY : Ka := .pu (.p Lb .u) Ud [true] (fun x => Jo x.1)
abbrev Zaz : WF := (133, XaY) :: Lam
def Oah : La := ⟨58, ⟨[(1, Qh), (3, Da)], [(1, Lb, (.data Lb))]⟩, 0, ⟨[(1, Qh)], [(1, Lb, (.data Lb))]⟩, ⟨[(2, Cf)], []⟩, Ip⟩
def TaU : WL := [(4, Oah)]
theorem EaF : Qa (WG true Lam [] [] []) TaU (lp Tryz.f133 0) := Pb 4 (ls := Oah) rfl
theorem EaO : WO Zaz := Fd DaO Tryz.func133 (Ga EaF Ia)
abbrev UaY : Ka := .pu ES Ud [true] (fun x => Ln x.1 x.2.1)
abbrev Kam : WF := (130, UaY) :: Zaz
theorem BaO : WO Kam := Gc EaO Tryz.func130
abbrev Za3 : Ka := .pu Kc Kc [true] (fun x => Dy x.1)
abbrev Naa : WF := (276, Za3) :: Kam
def Lak : La := ⟨16, ⟨[(0, Da), (3, Da), (4, Da)], []⟩, 0, ⟨[(3, Da)], []⟩, ⟨[], []⟩, Uw⟩
def FaX : WL := [(3, Lak)]
theorem BaI : Qa (WG true Kam [] [] []) FaX (lp Tryz.f276 0) := Pb 3 (ls := Lak) rfl
theorem GaT : WO Naa := Fd BaO Tryz.func276 (Ga BaI Ia)
abbrev Wa1 : Ka := .pu (.p Kt .u) Ud [true] (fun x => Xx x.1)
abbrev Lan : WF := (217, Wa1) :: Naa
def Iaj : La := ⟨69, ⟨[(0, Vi), (3, Da), (4, Da)], []⟩, 2, ⟨[(0, Vi), (3, Da)], []⟩, ⟨[(2, Cf)], []⟩, Pw⟩
def Haj : La := ⟨69, ⟨[(0, Vi), (3, Da)], []⟩, 0, ⟨[(0, Vi)], []⟩, ⟨[(2, Cf)], []⟩, Ow⟩
def FaD : WL := [(7, Iaj), (2, Haj)]
theorem YaG : Qa (WG true Naa [] [] []) FaD (lp Tryz.f217 1) := Pb 7 (ls := Iaj) rfl
theorem XaG : Qa (WG true Naa [] [] []) FaD (lp Tryz.f217 0) := Pb 2 (ls := Haj) rfl
theorem DaR : WO Lan := Fd GaT Tryz.func217 (Ga YaG (Ga XaG Ia))
abbrev Da2 : Ka := .pu (.p Kt Kc) Kc [true] (fun x => NC x.1 x.2.1)
abbrev Kaa : WF := (224, Da2) :: Lan
def Laj : La := ⟨24, ⟨[(0, Vi), (1, Da), (5, Da)], []⟩, 0, ⟨[], []⟩, ⟨[(4, Da)], []⟩, Bz⟩
def HaW : WL := [(2, Laj)]
theorem BaH : Qa (WG true Lan [] [] []) HaW (lp Tryz.f224 0) := Pb 2 (ls := Laj) rfl
theorem KaR : WO Kaa := Fd DaR Tryz.func224 (Ga BaH Ia)
abbrev Xa1 : Ka := .pu BJ Ud [true] (fun x => YD x.1)
abbrev Man : WF := (218, Xa1) :: Kaa
def Sad : La := ⟨74, ⟨[(1, Qh), (3, Da), (4, Da), (5, GE), (7, Da)], [(1, Nb, N1), (5, Za, Fp)]⟩, 2, ⟨[(1, Qh), (3, Da), (4, Da), (5, GE)], [(1, Nb, N1), (5, Za, Fp)]⟩, ⟨[(2, Cf)], []⟩, Wr⟩
def Jaj : La := ⟨74, ⟨[(1, Qh), (3, Da), (4, Da)], [(1, Nb, N1)]⟩, 0, ⟨[(1, Qh)], [(1, Nb, N1)]⟩, ⟨[(2, Cf)], []⟩, Su⟩
def GaD : WL := [(10, Sad), (3, Jaj)]
theorem Aay : Qa (WG true Kaa [] [] []) GaD (lp Tryz.f218 1) := Pb 10 (ls := Sad) rfl
theorem ZaG : Qa (WG true Kaa [] [] []) GaD (lp Tryz.f218 0) := Pb 3 (ls := Jaj) rfl
theorem EaR : WO Man := Fd KaR Tryz.func218 (Ga Aay (Ga ZaG Ia))
abbrev BaZ : Ka := .pu BJ Kc [true] (fun x => Uu x.1)
abbrev BaA : WF := (137, BaZ) :: Man
def Qah : La := ⟨23, ⟨[(1, Qh), (3, Da), (4, Da)], [(1, Nb, N1)]⟩, 0, ⟨[(3, Da)], []⟩, ⟨[], []⟩, Az⟩
def VaU : WL := [(3, Qah)]
theorem GaF : Qa (WG true Man [] [] []) VaU (lp Tryz.f137 0) := Pb 3 (ls := Qah) rfl
theorem IaO : WO BaA := Fd EaR Tryz.func137 (Ga GaF Ia)
abbrev Ba2 : Ka := .pu EJ Ud [true] (fun x => Nu x.1)
abbrev Pan : WF := (222, Ba2) :: BaA
theorem IaR : WO Pan := Gc IaO Tryz.func222
abbrev GaZ : Ka := .pu (.p QV Yb) Ud [true] (fun x => Qj x.1 x.2.1 x.2.2.1 x.2.2.2.1)
abbrev FaA : WF := (142, GaZ) :: Pan
def Uah : La := ⟨73, ⟨[(0, Zh), (1, Da), (2, Da), (3, Da), (9, Da)], []⟩, 0, ⟨[(0, Zh)], []⟩, ⟨[(8, Cf)], []⟩, Vr⟩
def ZaU : WL := [(2, Uah)]
theorem KaF : Qa (WG true Pan [] [] []) ZaU (lp Tryz.f142 0) := Pb 2 (ls := Uah) rfl
theorem NaO : WO FaA := Fd IaR Tryz.func142 (Ga KaF Ia)
abbrev YaY : Ka := .pu BJ Ud [true] (fun x => Wq x.1)
abbrev AaA : WF := (134, YaY) :: FaA
theorem FaO : WO AaA := Gc NaO Tryz.func134
abbrev Ha3 : Ka := .pu Km Ud [true] (fun x => Zj x.1)
abbrev Laa : WF := (257, Ha3) :: AaA
theorem OaS : WO Laa := Gc FaO Tryz.func257
abbrev Va0 : Ka := .pu BU Ud [true] (fun x => Yx x.1)
abbrev IaB : WF := (190, Va0) :: Laa
def Rai : La := ⟨74, ⟨[(1, Qh), (3, Da), (4, Da)], [(1, Vb, FS)]⟩, 2, ⟨[(1, Qh), (3, Da)], [(1, Vb, FS)]⟩, ⟨[(2, Cf)], []⟩, En⟩
def Qai : La := ⟨74, ⟨[(1, Qh), (3, Da)], [(1, Vb, FS)]⟩, 0, ⟨[(1, Qh)], [(1, Vb, FS)]⟩, ⟨[(2, Cf)], []⟩, Dn⟩
def DaD : WL := [(7, Rai), (2, Qai)]
theorem HaG : Qa (WG true Laa [] [] []) DaD (lp Tryz.f190 1) := Pb 7 (ls := Rai) rfl
theorem GaG : Qa (WG true Laa [] [] []) DaD (lp Tryz.f190 0) := Pb 2 (ls := Qai) rfl
theorem CaQ : WO IaB := Fd OaS Tryz.func190 (Ga HaG (Ga GaG Ia))
abbrev Ia3 : Ka := .pu Km Ud [true] (fun x => Mk x.1)
abbrev Iao : WF := (258, Ia3) :: IaB
theorem PaS : WO Iao := Gc CaQ Tryz.func258
abbrev Wa0 : Ka := .pu SN Ud [true] (fun x => Sr x.1)
abbrev Aan : WF := (191, Wa0) :: Iao
def Sai : La := ⟨57, ⟨[(0, Ik), (3, Da), (4, Da)], []⟩, 0, ⟨[], []⟩, ⟨[(2, Cf)], []⟩, JC⟩
def UaV : WL := [(3, Sai)]
theorem IaG : Qa (WG true Iao [] [] []) UaV (lp Tryz.f191 0) := Pb 3 (ls := Sai) rfl
theorem DaQ : WO Aan := Fd PaS Tryz.func191 (Ga IaG Ia)
abbrev Ja3 : Ka := .pu (.p IL GS) Kc [true] (fun x => Mn x.1 x.2.1)
abbrev GaC : WF := (259, Ja3) :: Aan
def Cak : La := ⟨33, ⟨[(0, Ik), (3, Iv), (5, Da)], [(3, Yb, (.data Yb))]⟩, 0, ⟨[], []⟩, ⟨[(4, Da)], []⟩, TC⟩
def YaW : WL := [(2, Cak)]
theorem SaH : Qa (WG true Aan [] [] []) YaW (lp Tryz.f259 0) := Pb 2 (ls := Cak) rfl
theorem QaS : WO GaC := Fd DaQ Tryz.func259 (Ga SaH Ia)
abbrev Ka3 : Ka := .pu GS Km [true] (fun x => Tp x.1)
abbrev HaC : WF := (260, Ka3) :: GaC
theorem RaS : WO HaC := Gc QaS Tryz.func260
abbrev Ia1 : Ka := .pu (.p IL Kc) SN [true] (fun x => Gg x.1 x.2.1)
abbrev Fan : WF := (203, Ia1) :: HaC
theorem PaQ : WO Fan := Gc RaS Tryz.func203
abbrev Xa0 : Ka := .pu (.p Ph .u) Ud [true] (fun x => KC x.1)
abbrev Iaa : WF := (192, Xa0) :: Fan
def Tai : La := ⟨62, ⟨[(0, (.data Ph)), (3, (.own 200001 Xe true)), (4, Da)], []⟩, 0, ⟨[(0, (.data Ph)), (3, (.own 200001 Xe true))], []⟩, ⟨[(2, Cf)], []⟩, Xy⟩
def VaV : WL := [(3, Tai)]
theorem JaG : Qa (WG true Fan [] [] []) VaV (lp Tryz.f192 0) := Pb 3 (ls := Tai) rfl
theorem EaQ : WO Iaa := Fd PaQ Tryz.func192 (Ga JaG Ia)
abbrev DaY : Ka := .pu DS Ud [true] (fun x => Sp x.1)
abbrev Naz : WF := (112, DaY) :: Iaa
def Dah : La := ⟨96, ⟨[(1, Qh), (3, Da)], [(1, Xb, RN)]⟩, 0, ⟨[(1, Qh)], [(1, Xb, RN)]⟩, ⟨[(2, Cf)], []⟩, Bn⟩
def Eah : La := ⟨96, ⟨[(1, Qh), (4, Da)], [(1, Xb, RN)]⟩, 2, ⟨[(1, Qh)], [(1, Xb, RN)]⟩, ⟨[(2, Cf)], []⟩, Cn⟩
def AaD : WL := [(4, Dah), (9, Eah)]
theorem TaE : Qa (WG true Iaa [] [] []) AaD (lp Tryz.f112 0) := Pb 4 (ls := Dah) rfl
theorem UaE : Qa (WG true Iaa [] [] []) AaD (lp Tryz.f112 1) := Pb 9 (ls := Eah) rfl
theorem KaN : WO Naz := Fd EaQ Tryz.func112 (Ga UaE (Ga TaE Ia))
abbrev Ya1 : Ka := .pu GS Ud [true] (fun x => Ay x.1)
abbrev TaB : WF := (219, Ya1) :: Naz
theorem FaR : WO TaB := Gc KaN Tryz.func219
abbrev Za1 : Ka := .pu Kc Kc [true] (fun x => Ur x.1)
abbrev Nan : WF := (220, Za1) :: TaB
theorem GaR : WO Nan := Gc FaR Tryz.func220
abbrev CaZ : Ka := .pu DS Kc [true] (fun x => Ru x.1)
abbrev CaA : WF := (138, CaZ) :: Nan
def Rah : La := ⟨22, ⟨[(1, Qh), (3, Da), (4, Da)], [(1, Xb, RN)]⟩, 0, ⟨[(3, Da)], []⟩, ⟨[], []⟩, Yy⟩
def WaU : WL := [(3, Rah)]
theorem HaF : Qa (WG true Nan [] [] []) WaU (lp Tryz.f138 0) := Pb 3 (ls := Rah) rfl
theorem JaO : WO CaA := Fd GaR Tryz.func138 (Ga HaF Ia)
abbrev ZaY : Ka := .pu (.p Dc .u) Ud [true] (fun x => Mu x.1)
abbrev Mam : WF := (135, ZaY) :: CaA
theorem GaO : WO Mam := Gc JaO Tryz.func135
abbrev AaZ : Ka := .pu (.p int UN) Kc [true] (fun x => Cr x.1 x.2.1)
abbrev Nam : WF := (136, AaZ) :: Mam
def Pah : La := ⟨21, ⟨[(0, Da), (1, Zh), (5, Da)], []⟩, 0, ⟨[(0, Da)], []⟩, ⟨[], []⟩, Xr⟩
def UaU : WL := [(2, Pah)]
theorem FaF : Qa (WG true Mam [] [] []) UaU (lp Tryz.f136 0) := Pb 2 (ls := Pah) rfl
theorem HaO : WO Nam := Fd GaO Tryz.func136 (Ga FaF Ia)
abbrev DaZ : Ka := .pu BJ Kc [true] (fun x => WM x.1)
abbrev Oam : WF := (139, DaZ) :: Nam
def Sah : La := ⟨30, ⟨[(1, Qh), (3, Da), (4, Da)], [(1, Nb, N1)]⟩, 0, ⟨[(3, Da)], []⟩, ⟨[], []⟩, PC⟩
def XaU : WL := [(3, Sah)]
theorem IaF : Qa (WG true Nam [] [] []) XaU (lp Tryz.f139 0) := Pb 3 (ls := Sah) rfl
theorem KaO : WO Oam := Fd HaO Tryz.func139 (Ga IaF Ia)
abbrev Va9 : Ka := .pu DU Ud [true] (fun x => IC x.1)
abbrev MaK : WF := (62, Va9) :: Oam
def Oau : La := ⟨129, ⟨[(1, Qh), (4, Da), (5, Da)], [(1, Jc, (.data Jc))]⟩, 0, ⟨[(1, Qh)], [(1, Jc, (.data Jc))]⟩, ⟨[(2, Cf)], []⟩, Wy⟩
def Ha8 : WL := [(6, Oau)]
theorem EaM : Qa (WG true Oam [] [] []) Ha8 (lp Tryz.f62 0) := Pb 6 (ls := Oau) rfl
theorem Oa6 : WO MaK := Fd KaO Tryz.func62 (Ga EaM Ia)
abbrev HaZ : Ka := .pu BJ BJ [true] (fun x => Tu x.1)
abbrev Pam : WF := (143, HaZ) :: MaK
theorem OaO : WO Pam := Gc Oa6 Tryz.func143
abbrev Ya0 : Ka := .pu BU BU [true] (fun x => XM x.1)
abbrev Ban : WF := (193, Ya0) :: Pam
def Uai : La := ⟨28, ⟨[(1, Qh), (2, Bh), (3, Iv), (4, Da)], [(1, Vb, FS), (2, Vb, (.pr Da (.pr CJ .un))), (3, Vb, I6)]⟩, 0, ⟨[(2, Bh), (3, Iv)], [(2, Vb, (.pr Da (.pr CJ .un))), (3, Vb, I6)]⟩, ⟨[], []⟩, SC⟩
def WaV : WL := [(3, Uai)]
theorem KaG : Qa (WG true Pam [] [] []) WaV (lp Tryz.f193 0) := Pb 3 (ls := Uai) rfl
theorem FaQ : WO Ban := Fd OaO Tryz.func193 (Ga KaG Ia)
abbrev EaY : Ka := .pu DS DS [true] (fun x => Nn x.1)
abbrev Oaz : WF := (113, EaY) :: Ban
def Fah : La := ⟨37, ⟨[(1, Qh), (2, Bh), (3, Iv), (4, Da)], [(1, Xb, RN), (2, Xb, c8_), (3, Xb, (.pr I6 (.pr (.own 200002 Ph true) (.data (.p int (.p IL Lt))))))]⟩, 0, ⟨[(1, Qh), (2, Bh), (3, Iv)], [(1, Xb, RN), (2, Xb, c8_), (3, Xb, (.pr I6 (.pr (.own 200002 Ph true) (.data (.p int (.p IL Lt))))))]⟩, ⟨[], []⟩, UC⟩
def NaU : WL := [(5, Fah)]
theorem VaE : Qa (WG true Ban [] [] []) NaU (lp Tryz.f113 0) := Pb 5 (ls := Fah) rfl
theorem LaN : WO Oaz := Fd FaQ Tryz.func113 (Ga VaE Ia)
abbrev Xba : Ka := .pu DU DU [true] (fun x => OK x.1)
abbrev ZaK : WF := (90, Xba) :: Oaz
theorem Qa7 : WO ZaK := Gc LaN Tryz.func90
abbrev Va1 : Ka := .pu (.p Za Sb) Kc [true] (fun x => AE x.1 x.2.1 x.2.2.1)
abbrev T3 : WF := (216, Va1) :: ZaK
theorem CaR : WO T3 := Gc Qa7 Tryz.func216
abbrev VaY : Ka := .pu ES Kc [true] (fun x => Yr x.1 x.2.1)
abbrev Yaz : WF := (131, VaY) :: T3
def Oad : La := ⟨53, ⟨[(2, Bh), (5, Da), (6, Da), (7, Da), (8, Da)], [(2, Za, Fp)]⟩, 4, ⟨[(2, Bh), (5, Da), (6, Da), (7, Da)], [(2, Za, Fp)]⟩, ⟨[], []⟩, Cz⟩
def Nah : La := ⟨53, ⟨[(2, Bh), (5, Da), (6, Da), (7, Da)], [(2, Za, Fp)]⟩, 2, ⟨[(2, Bh), (5, Da), (6, Da)], [(2, Za, Fp)]⟩, ⟨[], []⟩, RC⟩
def Mah : La := ⟨53, ⟨[(2, Bh), (5, Da), (6, Da)], [(2, Za, Fp)]⟩, 0, ⟨[(5, Da)], []⟩, ⟨[], []⟩, QC⟩
def Jap : WL := [(11, Oad), (8, Nah), (5, Mah)]
theorem Wax : Qa (WG true T3 [] [] []) Jap (lp Tryz.f131 2) := Pb 11 (ls := Oad) rfl
theorem DaF : Qa (WG true T3 [] [] []) Jap (lp Tryz.f131 1) := Pb 8 (ls := Nah) rfl
theorem CaF : Qa (WG true T3 [] [] []) Jap (lp Tryz.f131 0) := Pb 5 (ls := Mah) rfl
theorem CaO : WO Yaz := Fd CaR Tryz.func131 (Ga Wax (Ga DaF (Ga CaF Ia)))
abbrev Ua9 : Ka := .pu ES Lt [true, true] (fun x => OA x.1 x.2.1)
abbrev LaK : WF := (61, Ua9) :: Yaz
theorem Na6 : WO LaK := Gc CaO Tryz.func61
abbrev EaZ : Ka := .pu ES Ud [true] (fun x => Sn x.1 x.2.1)
abbrev DaA : WF := (140, EaZ) :: LaK
theorem LaO : WO DaA := Gc Na6 Tryz.func140
abbrev Aa2 : Ka := .pu (.p Za Sb) Lt [true, true] (fun x => Jw x.1 x.2.1 x.2.2.1)
abbrev Oan : WF := (221, Aa2) :: DaA
theorem HaR : WO Oan := Gc LaO Tryz.func221
abbrev FaZ : Ka := .pu ES Kc [true] (fun x => WD x.1 x.2.1)
abbrev EaA : WF := (141, FaZ) :: Oan
def Tah : La := ⟨41, ⟨[(1, Da), (2, Bh), (5, Da), (6, Da)], [(2, Za, Fp)]⟩, 0, ⟨[(5, Da)], []⟩, ⟨[], []⟩, Sl⟩
def YaU : WL := [(3, Tah)]
theorem JaF : Qa (WG true Oan [] [] []) YaU (lp Tryz.f141 0) := Pb 3 (ls := Tah) rfl
theorem MaO : WO EaA := Fd HaR Tryz.func141 (Ga JaF Ia)
abbrev Wa9 : Ka := .pu (.p Za Sb) Lt [true, true] (fun x => Tq x.1 x.2.1 x.2.2.1)
abbrev Iaw : WF := (63, Wa9) :: EaA
theorem Pa6 : WO Iaw := Gc MaO Tryz.func63
abbrev Xa9 : Ka := .pu (.p Lb Kc) (.p Lb Ud) [true, true] (fun x => Jm x.1 x.2.1)
abbrev NaK : WF := (64, Xa9) :: Iaw
def Pau : La := ⟨94, ⟨[(1, Da), (2, Bh), (4, Bl), (6, (.ptr 6 [])), (7, Da)], [(2, Lb, (.data Lb)), (4, Lb, Hac), (6, Lb, Faq)]⟩, 0, ⟨[(1, Da), (4, Bl), (6, (.ptr 6 []))], [(4, Lb, Hac), (6, Lb, Faq)]⟩, ⟨[], []⟩, Io⟩
def Ia8 : WL := [(6, Pau)]
theorem FaM : Qa (WG true Iaw [] [] []) Ia8 (lp Tryz.f64 0) := Pb 6 (ls := Pau) rfl
theorem Qa6 : WO NaK := Fd Pa6 Tryz.func64 (Ga FaM Ia)
abbrev Aa4 : Ka := .pu EJ Ud [true] (fun x => Vu x.1)
abbrev Pao : WF := (277, Aa4) :: NaK
theorem HaT : WO Pao := Gc Qa6 Tryz.func277
abbrev Ba4 : Ka := .pu (.p Kt Kc) Ud [true] (fun x => MC x.1 x.2.1)
abbrev Qao : WF := (278, Ba4) :: Pao
def Mak : La := ⟨20, ⟨[(0, Vi), (1, Da), (5, Da)], []⟩, 0, ⟨[], []⟩, ⟨[(4, Cf)], []⟩, Zy⟩
def GaX : WL := [(2, Mak)]
theorem CaI : Qa (WG true Pao [] [] []) GaX (lp Tryz.f278 0) := Pb 2 (ls := Mak) rfl
theorem IaT : WO Qao := Fd HaT Tryz.func278 (Ga CaI Ia)
abbrev Ca4 : Ka := .pu (.p Kt Kc) Lt [true, true] (fun x => YF x.1 x.2.1)
abbrev Rao : WF := (279, Ca4) :: Qao
def Nak : La := ⟨37, ⟨[(0, Vi), (1, Da), (6, Da), (7, Cf), (8, Da)], []⟩, 0, ⟨[(6, Da), (7, Cf)], []⟩, ⟨[], []⟩, OC⟩
def HaX : WL := [(4, Nak)]
theorem DaI : Qa (WG true Qao [] [] []) HaX (lp Tryz.f279 0) := Pb 4 (ls := Nak) rfl
theorem JaT : WO Rao := Fd IaT Tryz.func279 (Ga DaI Ia)
abbrev Ca2 : Ka := .pu (.p Kt (.p int FJ)) Yb [true, true, true] (fun x => MA x.1 x.2.1 x.2.2.1 x.2.2.2.1)
abbrev Qan : WF := (223, Ca2) :: Rao
def Kaj : La := ⟨134, ⟨[(0, Vi), (2, Zh), (3, Da), (11, Da), (12, Da), (13, Da), (14, Da)], []⟩, 0, ⟨[(0, Vi), (11, Da), (13, Da), (14, Da)], []⟩, ⟨[(8, Da), (9, Da), (10, Da)], []⟩, Xk⟩
def GaW : WL := [(9, Kaj)]
theorem AaH : Qa (WG true Rao [] [] []) GaW (lp Tryz.f223 0) := Pb 9 (ls := Kaj) rfl
theorem JaR : WO Qan := Fd JaT Tryz.func223 (Ga AaH Ia)
abbrev Ea2 : Ka := .bx false false Nb Sb UN [true] (fun x0 x => NK x0 x.1 x.2.1)
abbrev Ran : WF := (225, Ea2) :: Qan
def Maj : La := ⟨93, ⟨[(0, DJ), (1, Da), (2, Da), (7, Da)], [(500000, Nb, Eaq)]⟩, 0, ⟨[(0, DJ), (1, Da), (2, Da)], [(500000, Nb, Eaq)]⟩, ⟨[(0, DJ), (6, KH)], [(500000, Nb, c6_)]⟩, VE⟩
def IaW : WL := [(2, Maj)]
theorem CaH : Qa (WG false Qan [] [] []) IaW (lp Tryz.f225 0) := Pb 2 (ls := Maj) rfl
theorem LaR : WO Ran := W0 JaR Tryz.func225 (Ga CaH Ia)
abbrev IaZ : Ka := .bx false false Nb .u UN [true] (fun x0 x => Oy x0)
abbrev GaA : WF := (144, IaZ) :: Ran
def Vah : La := ⟨130, ⟨[(0, DJ), (3, KH)], [(500000, Nb, c6_)]⟩, 0, ⟨[(0, DJ), (3, KH)], [(500000, Nb, c6_)]⟩, ⟨[(0, DJ), (2, KH)], [(500000, Nb, c6_)]⟩, Hj⟩
def AaV : WL := [(2, Vah)]
theorem LaF : Qa (WG false Ran [] [] []) AaV (lp Tryz.f144 0) := Pb 2 (ls := Vah) rfl
theorem PaO : WO GaA := W0 LaR Tryz.func144 (Ga LaF Ia)
abbrev Ya9 : Ka := .pu (.p Nb FJ) (.p Nb (.p QV Ud)) [true, true, true] (fun x => Vq x.1 x.2.1 x.2.2.1)
abbrev Jaw : WF := (65, Ya9) :: GaA
theorem Ra6 : WO Jaw := Gc PaO Tryz.func65
abbrev Ba1 : Ka := .pu (.p int SN) Kc [true] (fun x => Cy x.1 x.2.1)
abbrev Dan : WF := (196, Ba1) :: Jaw
def Wai : La := ⟨38, ⟨[(1, Ik), (5, Da), (6, Da)], []⟩, 0, ⟨[(5, Da)], []⟩, ⟨[], []⟩, Fn⟩
def YaV : WL := [(5, Wai)]
theorem MaG : Qa (WG true Jaw [] [] []) YaV (lp Tryz.f196 0) := Pb 5 (ls := Wai) rfl
theorem IaQ : WO Dan := Fd Ra6 Tryz.func196 (Ga MaG Ia)
abbrev La3 : Ka := .pu (.p Vb Sb) Kc [true] (fun x => KK x.1 x.2.1 x.2.2.1)
abbrev IaC : WF := (261, La3) :: Dan
def Dak : La := ⟨45, ⟨[(1, Da), (2, Da), (3, Iv), (7, Da)], [(3, Vb, FS)]⟩, 0, ⟨[], []⟩, ⟨[(6, Da)], []⟩, Ki⟩
def ZaW : WL := [(4, Dak)]
theorem TaH : Qa (WG true Dan [] [] []) ZaW (lp Tryz.f261 0) := Pb 4 (ls := Dak) rfl
theorem SaS : WO IaC := Fd IaQ Tryz.func261 (Ga TaH Ia)
abbrev Aa1 : Ka := .pu (.p Vb Sb) Km [true] (fun x => Vx x.1 x.2.1 x.2.2.1)
abbrev Can : WF := (195, Aa1) :: IaC
theorem HaQ : WO Can := Gc SaS Tryz.func195
abbrev Da4 : Ka := .pu (.p Yb (.p int (.p int FJ))) Sb [true, true] (fun x => GH x.1 x.2.1 x.2.2.1 x.2.2.2.1 x.2.2.2.2.1)
abbrev Sao : WF := (280, Da4) :: Can
def Oak : La := ⟨101, ⟨[(1, Da), (3, Zh), (4, Da), (5, GE), (12, Da), (13, Da), (14, Da)], [(5, Yb, (.data Yb))]⟩, 0, ⟨[(4, Da), (12, Da)], []⟩, ⟨[(10, Da), (11, Da)], []⟩, Lw⟩
def IaX : WL := [(6, Oak)]
theorem EaI : Qa (WG true Can [] [] []) IaX (lp Tryz.f280 0) := Pb 6 (ls := Oak) rfl
theorem KaT : WO Sao := Fd HaQ Tryz.func280 (Ga EaI Ia)
abbrev Za0 : Ka := .pu (.p Xb Kc) Kc [true] (fun x => XF x.1 x.2.1)
abbrev JaB : WF := (194, Za0) :: Sao
def Vai : La := ⟨22, ⟨[(1, Da), (2, Bh), (5, Da)], [(2, Xb, RN)]⟩, 0, ⟨[], []⟩, ⟨[(4, Da)], []⟩, HC⟩
def XaV : WL := [(2, Vai)]
theorem LaG : Qa (WG true Sao [] [] []) XaV (lp Tryz.f194 0) := Pb 2 (ls := Vai) rfl
theorem GaQ : WO JaB := Fd KaT Tryz.func194 (Ga LaG Ia)
abbrev Ca1 : Ka := .pu Km Km [true] (fun x => VM x.1)
abbrev KaB : WF := (197, Ca1) :: JaB
theorem JaQ : WO KaB := Gc GaQ Tryz.func197
abbrev Da1 : Ka := .pu Km Km [true] (fun x => VO x.1)
abbrev LaB : WF := (198, Da1) :: KaB
theorem KaQ : WO LaB := Gc JaQ Tryz.func198
abbrev Ra4 : Ka := .pu Kc Ud [true] (fun x => LA x.1)
abbrev SaC : WF := (294, Ra4) :: LaB
theorem YaT : WO SaC := Gc KaQ Tryz.func294
abbrev Ma3 : Ka := .bx false false Xb Km Km [true] (fun x0 x => FV x0 x.1)
abbrev JaC : WF := (262, Ma3) :: SaC
theorem TaS : WO JaC := W0 (L := []) (m := []) (v := []) (l := []) YaT Tryz.func262 Ia
abbrev Ea1 : Ka := .bx false false Xb Km Km [true] (fun x0 x => Dm x0 x.1)
abbrev S3 : WF := (199, Ea1) :: JaC
theorem LaQ : WO S3 := W0 (L := []) (m := []) (v := []) (l := []) TaS Tryz.func199 Ia
abbrev Ga1 : Ka := .pu SN CU [true] (fun x => Ke x.1)
abbrev FY : WF := (201, Ga1) :: S3
def Yai : La := ⟨70, ⟨[(0, Ik), (2, Bh), (3, Iv), (4, Da)], [(2, Ac, FB), (3, Ac, (.pr Da (.pr GL .un)))]⟩, 0, ⟨[(0, Ik), (2, Bh), (3, Iv)], [(2, Ac, FB), (3, Ac, (.pr Da (.pr GL .un)))]⟩, ⟨[], []⟩, Qw⟩
def Rad : La := ⟨70, ⟨[(0, Ik), (2, Bh), (3, Iv), (5, Da), (6, Da)], [(2, Ac, FB), (3, Ac, (.pr Da (.pr (.own 200201 int true) .un)))]⟩, 4, ⟨[(0, Ik), (2, Bh), (3, Iv), (5, Da)], [(2, Ac, FB), (3, Ac, (.pr Da (.pr (.own 200201 int true) .un)))]⟩, ⟨[], []⟩, Ul⟩
def Qad : La := ⟨70, ⟨[(0, Ik), (2, Bh), (3, Iv), (5, Da)], [(2, Ac, FB), (3, Ac, (.pr Da (.pr (.own 200101 int true) .un)))]⟩, 2, ⟨[(2, Bh), (3, Iv)], [(2, Ac, FB), (3, Ac, (.pr Da (.pr (.own 200101 int true) .un)))]⟩, ⟨[], []⟩, Pu⟩
def Kap : WL := [(5, Yai), (13, Rad), (10, Qad)]
theorem OaG : Qa (WG true S3 [] [] []) Kap (lp Tryz.f201 0) := Pb 5 (ls := Yai) rfl
theorem Zax : Qa (WG true S3 [] [] []) Kap (lp Tryz.f201 2) := Pb 13 (ls := Rad) rfl
theorem Yax : Qa (WG true S3 [] [] []) Kap (lp Tryz.f201 1) := Pb 10 (ls := Qad) rfl
theorem NaQ : WO FY := Fd LaQ Tryz.func201 (Ga Zax (Ga Yax (Ga OaG Ia)))
abbrev Na3 : Ka := .pu (.p IL SN) CU [true] (fun x => Oh x.1 x.2.1)
abbrev Jao : WF := (263, Na3) :: FY
def Eak : La := ⟨77, ⟨[(1, Ik), (4, Bl), (5, GE), (6, Da)], [(4, Ac, FB), (5, Ac, (.pr Da (.pr GL .un)))]⟩, 0, ⟨[(1, Ik), (4, Bl), (5, GE)], [(4, Ac, FB), (5, Ac, (.pr Da (.pr GL .un)))]⟩, ⟨[], []⟩, Zw⟩
def Vad : La := ⟨77, ⟨[(1, Ik), (4, Bl), (5, GE), (7, (.own 200201 int true)), (8, Da), (9, Cf), (10, Da)], [(4, Ac, FB), (5, Ac, (.pr Da (.pr (.own 200202 int true) .un)))]⟩, 4, ⟨[(1, Ik), (4, Bl), (5, GE), (7, (.own 200201 int true)), (8, Da), (9, Cf)], [(4, Ac, FB), (5, Ac, (.pr Da (.pr (.own 200202 int true) .un)))]⟩, ⟨[], []⟩, Vl⟩
def Wad : La := ⟨77, ⟨[(1, Ik), (4, Bl), (5, GE), (7, (.own 200301 int true)), (8, Da), (9, Cf), (11, Da)], [(4, Ac, FB), (5, Ac, (.pr Da (.pr (.own 200302 int true) .un)))]⟩, 6, ⟨[(1, Ik), (4, Bl), (5, GE), (7, (.own 200301 int true)), (8, Da), (9, Cf)], [(4, Ac, FB), (5, Ac, (.pr Da (.pr (.own 200302 int true) .un)))]⟩, ⟨[], []⟩, Wl⟩
def Fak : La := ⟨77, ⟨[(1, Ik), (4, Bl), (5, GE), (7, (.own 200101 int true)), (8, Da)], [(4, Ac, FB), (5, Ac, (.pr Da (.pr (.own 200102 int true) .un)))]⟩, 2, ⟨[(4, Bl), (5, GE), (7, (.own 200101 int true))], [(4, Ac, FB), (5, Ac, (.pr Da (.pr (.own 200102 int true) .un)))]⟩, ⟨[], []⟩, Ax⟩
def Paa : WL := [(3, Eak), (12, Vad), (16, Wad), (8, Fak)]
theorem UaH : Qa (WG true FY [] [] []) Paa (lp Tryz.f263 0) := Pb 3 (ls := Eak) rfl
theorem Day : Qa (WG true FY [] [] []) Paa (lp Tryz.f263 2) := Pb 12 (ls := Vad) rfl
theorem Eay : Qa (WG true FY [] [] []) Paa (lp Tryz.f263 3) := Pb 16 (ls := Wad) rfl
theorem VaH : Qa (WG true FY [] [] []) Paa (lp Tryz.f263 1) := Pb 8 (ls := Fak) rfl
theorem UaS : WO Jao := Fd NaQ Tryz.func263 (Ga Eay (Ga Day (Ga VaH (Ga UaH Ia))))
abbrev Fa1 : Ka := .pu (.p IL (.p Ph .u)) AU [true] (fun x => Uj x.1 x.2.1)
abbrev Ean : WF := (200, Fa1) :: Jao
def Xai : La := ⟨60, ⟨[(0, Ik), (1, (.data Ph)), (5, J6), (6, (.own 200002 Xe true)), (7, Da)], []⟩, 0, ⟨[(5, J6)], []⟩, ⟨[], []⟩, Lo⟩
def ZaV : WL := [(6, Xai)]
theorem NaG : Qa (WG true Jao [] [] []) ZaV (lp Tryz.f200 0) := Pb 6 (ls := Xai) rfl
theorem MaQ : WO Ean := Fd UaS Tryz.func200 (Ga NaG Ia)
abbrev Oa3 : Ka := .pu (.p Ac CU) Ud [true] (fun x => PA x.1 x.2.1)
abbrev KaC : WF := (264, Oa3) :: Ean
def Gak : La := ⟨38, ⟨[(2, Bh), (3, Iv), (5, Da)], [(2, Ac, (.data Ac)), (3, Ac, (.data Ac))]⟩, 0, ⟨[], []⟩, ⟨[(4, Cf)], []⟩, Tr⟩
def AaX : WL := [(4, Gak)]
theorem WaH : Qa (WG true Ean [] [] []) AaX (lp Tryz.f264 0) := Pb 4 (ls := Gak) rfl
theorem VaS : WO KaC := Fd MaQ Tryz.func264 (Ga WaH Ia)
abbrev Pa3 : Ka := .pu CU CU [true] (fun x => YM x.1)
abbrev Kao : WF := (265, Pa3) :: KaC
theorem WaS : WO Kao := Gc VaS Tryz.func265
abbrev Ha1 : Ka := .pu (.p Ac AU) AU [true] (fun x => Ug x.1 x.2.1)
abbrev MaB : WF := (202, Ha1) :: Kao
def Zai : La := ⟨34, ⟨[(1, (.data (.sl Ac))), (2, Bh), (5, J6), (6, Da)], [(2, Ac, (.data Ac))]⟩, 0, ⟨[(5, J6)], []⟩, ⟨[], []⟩, Wu⟩
def AaW : WL := [(3, Zai)]
theorem PaG : Qa (WG true Kao [] [] []) AaW (lp Tryz.f202 0) := Pb 3 (ls := Zai) rfl
theorem OaQ : WO MaB := Fd WaS Tryz.func202 (Ga PaG Ia)
abbrev FaY : Ka := .pu (.p Xb Lt) (.p Xb (.p (.sl Ac) Ud)) [true, true, true] (fun x => Yk x.1 x.2.1 x.2.2.1)
abbrev Paz : WF := (114, FaY) :: MaB
theorem MaN : WO Paz := Gc OaQ Tryz.func114
abbrev Fa2 : Ka := .bx false false Dc ES (.p (.sl Ac) Lt) [true, true, true] (fun x0 x => Qu x0 x.1 x.2.1)
abbrev UaB : WF := (226, Fa2) :: Paz
theorem MaR : WO UaB := W0 (L := []) (m := []) (v := []) (l := []) MaN Tryz.func226 Ia
abbrev GaY : Ka := .pu (.p Xb Kc) (.p Xb (.p (.sl Ac) Ud)) [true, true, true] (fun x => LC x.1 x.2.1)
abbrev Gaa : WF := (115, GaY) :: UaB
theorem NaN : WO Gaa := Gc MaR Tryz.func115
abbrev JaZ : Ka := .bx false false Dc .u (.p HE .u) [true] (fun x0 x => Ny x0)
abbrev HaA : WF := (145, JaZ) :: Gaa
def Pad : La := ⟨109, ⟨[(0, DJ), (3, (.own 200101 Wh true)), (5, Da), (6, (.mov 200102 Ac)), (13, Da)], [(500000, Dc, (.pr (.pr (.pr Da (.pr (.own 200103 Jj true) .un)) (.pr (.own 200104 Ph true) (.pr Da (.pr (.own 200105 Xe true) (.data Lt))))) (.pr (.data Yb) (.pr (.own 200106 Za true) (.data Qb)))))]⟩, 2, ⟨[(0, DJ), (3, (.own 200101 Wh true)), (5, Da)], [(500000, Dc, (.pr (.pr (.pr Da (.pr (.own 200102 Jj true) .un)) (.pr (.own 200103 Ph true) (.pr Da (.pr (.own 200104 Xe true) (.data Lt))))) (.pr (.data Yb) (.pr (.own 200105 Za true) (.data Qb)))))]⟩, ⟨[], []⟩, Li⟩
def Wah : La := ⟨109, ⟨[(0, DJ), (3, HL)], [(500000, Dc, c4_)]⟩, 0, ⟨[(0, DJ), (3, HL)], [(500000, Dc, c4_)]⟩, ⟨[(0, DJ), (2, HL)], [(500000, Dc, c4_)]⟩, Gj⟩
def CaD : WL := [(18, Pad), (2, Wah)]
theorem Xax : Qa (WG false Gaa [] [] [90]) CaD (lp Tryz.f145 1) := Pb 18 (ls := Pad) rfl
theorem MaF : Qa (WG false Gaa [] [] [90]) CaD (lp Tryz.f145 0) := Pb 2 (ls := Wah) rfl
theorem QaO : WO HaA := W0 NaN Tryz.func145 (Ga Xax (Ga MaF Ia))
abbrev Za9 : Ka := .pu (.p Dc FJ) (.p Dc (.p HE Ud)) [true, true, true] (fun x => NA x.1 x.2.1 x.2.2.1)
abbrev Kaw : WF := (66, Za9) :: HaA
theorem Sa6 : WO Kaw := Gc QaO Tryz.func66
abbrev Aa9 : Ka := .pu (.p Jc Kc) (.p Jc (.p HE Ud)) [true, true, true] (fun x => Lu x.1 x.2.1)
abbrev Caw : WF := (21, Aa9) :: Kaw
def Dau : La := ⟨127, ⟨[(2, Bh), (4, Bl), (9, Da), (11, (.ptr 11 [])), (13, KH), (14, Da)], [(2, Jc, (.data Jc)), (4, Jc, JaL), (11, Lb, (.pr Da (.pr Da (.pr Da (.pr Da (.pr Da (.pr (.own 200002 int true) .un)))))))]⟩, 0, ⟨[(2, Bh), (4, Bl), (9, Da), (11, (.ptr 11 [])), (13, KH)], [(2, Jc, (.data Jc)), (4, Jc, JaL), (11, Lb, (.pr Da (.pr Da (.pr Da (.pr Da (.pr Da (.pr (.own 200002 int true) .un)))))))]⟩, ⟨[], []⟩, Dj⟩
def Wa7 : WL := [(8, Dau)]
theorem TaL : Qa (WG true Kaw [] [] []) Wa7 (lp Tryz.f21 0) := Pb 8 (ls := Dau) rfl
theorem Ta5 : WO Caw := Fd Sa6 Tryz.func21 (Ga TaL Ia)
abbrev Ja9 : Ka := .pu (.p Jc IP) (.p Jc (.p HE Ud)) [true, true, true] (fun x => Wx x.1 x.2.1)
abbrev AaK : WF := (30, Ja9) :: Caw
def Hau : La := ⟨52, ⟨[(1, TN), (4, Bl), (7, HL), (8, (.ptr 8 [])), (9, Da)], [(4, Jc, c1_), (8, Jc, c2_)]⟩, 0, ⟨[(4, Bl), (7, HL), (8, (.ptr 8 []))], [(4, Jc, c1_), (8, Jc, c2_)]⟩, ⟨[(4, Bl), (5, HL), (6, Cf)], [(4, Jc, c1_)]⟩, Kw⟩
def Aa8 : WL := [(6, Hau)]
theorem XaL : Qa (WG true Caw [] [] []) Aa8 (lp Tryz.f30 0) := Pb 6 (ls := Hau) rfl
theorem Ca6 : WO AaK := Fd Ta5 Tryz.func30 (Ga XaL Ia)
abbrev PaZ : Ka := .pu EJ Ud [true] (fun x => Np x.1)
abbrev Qam : WF := (151, PaZ) :: AaK
theorem WaO : WO Qam := Gc Ca6 Tryz.func151
abbrev QaZ : Ka := .pu (.p Lb .u) Ud [true] (fun x => Xn x.1)
abbrev NaA : WF := (152, QaZ) :: Qam
def Aai : La := ⟨79, ⟨[(66, TN), (67, Da), (68, Da)], []⟩, 0, ⟨[], []⟩, ⟨[(2, Cf)], []⟩, Hp⟩
def EaV : WL := [(6, Aai)]
theorem QaF : Qa (WG true Qam [] [] []) EaV (lp Tryz.f152 0) := Pb 6 (ls := Aai) rfl
theorem XaO : WO NaA := Fd WaO Tryz.func152 (Ga QaF Ia)
abbrev Ba5 : Ka := .pu (.p (.i .u32) .u) Kc [true] (fun x => M1 x.1)
abbrev YaC : WF := (304, Ba5) :: NaA
theorem IaU : WO YaC := Gc XaO Tryz.func304
abbrev Ca5 : Ka := .pu (.p (.i .u64) .u) Kc [true] (fun x => JH x.1)
abbrev ZaC : WF := (305, Ca5) :: YaC
theorem JaU : WO ZaC := Gc IaU Tryz.func305
abbrev Ga4 : Ka := .pu (.p (.i .u64) .u) Kc [true] (fun x => AD x.1)
abbrev Oaa : WF := (283, Ga4) :: ZaC
theorem NaT : WO Oaa := Gc JaU Tryz.func283
abbrev La2 : Ka := .pu (.p Kt .u) Ud [true] (fun x => Lx x.1)
abbrev Van : WF := (232, La2) :: Oaa
def Tad : La := ⟨68, ⟨[(0, Vi), (4, Bl), (11, Vi), (12, Da), (13, Da), (48, Vi), (49, Da), (50, Da)], [(4, Sb, (.data Sb))]⟩, 2, ⟨[(0, Vi), (11, Vi), (12, Da), (13, Da)], []⟩, ⟨[(2, Cf)], []⟩, Tt⟩
def Paj : La := ⟨68, ⟨[(0, Vi), (11, Vi), (12, Da), (13, Da)], []⟩, 0, ⟨[], []⟩, ⟨[(2, Cf)], []⟩, Rv⟩
def HaD : WL := [(12, Tad), (4, Paj)]
theorem Bay : Qa (WG true Oaa [] [] []) HaD (lp Tryz.f232 1) := Pb 12 (ls := Tad) rfl
theorem FaH : Qa (WG true Oaa [] [] []) HaD (lp Tryz.f232 0) := Pb 4 (ls := Paj) rfl
theorem SaR : WO Van := Fd NaT Tryz.func232 (Ga Bay (Ga FaH Ia))
abbrev Sa2 : Ka := .pu (.p Kt Kc) (.p Sb Ud) [true, true] (fun x => LB x.1 x.2.1)
abbrev ZaB : WF := (239, Sa2) :: Van
def Taj : La := ⟨21, ⟨[(1, Da), (4, Bl), (8, Vi), (9, Da), (10, Da)], [(4, Sb, (.data Sb))]⟩, 0, ⟨[(4, Bl)], [(4, Sb, (.data Sb))]⟩, ⟨[(4, Bl), (5, Cf)], [(4, Sb, (.data Sb))]⟩, Vy⟩
def PaW : WL := [(2, Taj)]
theorem JaH : Qa (WG true Van [] [] []) PaW (lp Tryz.f239 0) := Pb 2 (ls := Taj) rfl
theorem ZaR : WO ZaB := Fd SaR Tryz.func239 (Ga JaH Ia)
abbrev ZaZ : Ka := .pu Sb Kc [true] (fun x => Le x.1 x.2.1)
abbrev Ram : WF := (161, ZaZ) :: ZaB
theorem GaP : WO Ram := Gc ZaR Tryz.func161
abbrev Ma2 : Ka := .pu BJ Ud [true] (fun x => Mz x.1)
abbrev Wan : WF := (233, Ma2) :: Ram
def Qaj : La := ⟨61, ⟨[(1, Qh), (3, Da), (9, Zh), (10, Da), (11, Da)], [(1, Nb, N1)]⟩, 0, ⟨[], []⟩, ⟨[(2, Cf)], []⟩, Lr⟩
def LaW : WL := [(3, Qaj)]
theorem GaH : Qa (WG true Ram [] [] []) LaW (lp Tryz.f233 0) := Pb 3 (ls := Qaj) rfl
theorem TaR : WO Wan := Fd GaP Tryz.func233 (Ga GaH Ia)
abbrev UaZ : Ka := .pu BJ Lt [true, true] (fun x => Ai x.1)
abbrev RaA : WF := (156, UaZ) :: Wan
def Bai : La := ⟨27, ⟨[(4, Da), (10, Zh), (11, Da), (12, Da)], []⟩, 0, ⟨[(4, Da)], []⟩, ⟨[(2, Da), (3, Cf)], []⟩, Ao⟩
def FaV : WL := [(3, Bai)]
theorem RaF : Qa (WG true Wan [] [] []) FaV (lp Tryz.f156 0) := Pb 3 (ls := Bai) rfl
theorem BaP : WO RaA := Fd TaR Tryz.func156 (Ga RaF Ia)
abbrev Ha4 : Ka := .pu EJ Ud [true] (fun x => Vt x.1)
abbrev Vao : WF := (284, Ha4) :: RaA
theorem OaT : WO Vao := Gc BaP Tryz.func284
abbrev Pa2 : Ka := .pu FJ Lt [true, true] (fun x => OM x.1 x.2.1)
abbrev Zan : WF := (236, Pa2) :: Vao
def Raj : La := ⟨53, ⟨[(0, Zh), (1, Da), (11, Zh), (12, Da), (13, Da)], []⟩, 0, ⟨[(1, Da)], []⟩, ⟨[(4, Da), (5, Cf)], []⟩, NB⟩
def MaW : WL := [(4, Raj)]
theorem HaH : Qa (WG true Vao [] [] []) MaW (lp Tryz.f236 0) := Pb 4 (ls := Raj) rfl
theorem WaR : WO Zan := Fd OaT Tryz.func236 (Ga HaH Ia)
abbrev Ca0 : Ka := .pu (.p QV Sb) Ud [true] (fun x => Vh x.1 x.2.1 x.2.2.1)
abbrev WaA : WF := (164, Ca0) :: Zan
def Fai : La := ⟨29, ⟨[(0, Zh), (1, Da), (2, Da), (11, Zh), (12, Da), (13, Da)], []⟩, 0, ⟨[(0, Zh), (1, Da)], []⟩, ⟨[(6, Cf)], []⟩, Bu⟩
def JaV : WL := [(2, Fai)]
theorem VaF : Qa (WG true Zan [] [] []) JaV (lp Tryz.f164 0) := Pb 2 (ls := Fai) rfl
theorem JaP : WO WaA := Fd WaR Tryz.func164 (Ga VaF Ia)
abbrev Aa0 : Ka := .pu FJ Ud [true] (fun x => Th x.1 x.2.1)
abbrev VaA : WF := (162, Aa0) :: WaA
theorem HaP : WO VaA := Gc JaP Tryz.func162
abbrev RaZ : Ka := .pu BJ Ud [true] (fun x => Aq x.1)
abbrev OaA : WF := (153, RaZ) :: VaA
theorem YaO : WO OaA := Gc HaP Tryz.func153
abbrev Sa4 : Ka := .pu Kc Ud [true] (fun x => Jy x.1)
abbrev TaC : WF := (295, Sa4) :: OaA
theorem ZaT : WO TaC := Gc YaO Tryz.func295
abbrev Ta4 : Ka := .pu Kc Ud [true] (fun x => Pr x.1)
abbrev UaC : WF := (296, Ta4) :: TaC
theorem AaU : WO UaC := Gc ZaT Tryz.func296
abbrev Ua4 : Ka := .pu Kc Ud [true] (fun x => Yt x.1)
abbrev VaC : WF := (297, Ua4) :: UaC
theorem BaU : WO VaC := Gc AaU Tryz.func297
abbrev Qa3 : Ka := .pu Km Ud [true] (fun x => Wj x.1)
abbrev Maa : WF := (266, Qa3) :: VaC
theorem XaS : WO Maa := Gc BaU Tryz.func266
abbrev Ka1 : Ka := .pu BU Ud [true] (fun x => Mx x.1)
abbrev Han : WF := (205, Ka1) :: Maa
def Baj : La := ⟨73, ⟨[(1, Qh), (3, Da), (28, CJ), (29, Da), (30, Da), (40, (.data Jj)), (41, Da), (42, Da)], [(1, Vb, FS)]⟩, 2, ⟨[(1, Qh), (28, CJ), (29, Da), (30, Da)], [(1, Vb, FS)]⟩, ⟨[(2, Cf)], []⟩, Rm⟩
def Aaj : La := ⟨73, ⟨[(1, Qh), (28, CJ), (29, Da), (30, Da)], [(1, Vb, FS)]⟩, 0, ⟨[], []⟩, ⟨[(2, Cf)], []⟩, Qm⟩
def EaD : WL := [(9, Baj), (4, Aaj)]
theorem RaG : Qa (WG true Maa [] [] []) EaD (lp Tryz.f205 1) := Pb 9 (ls := Baj) rfl
theorem QaG : Qa (WG true Maa [] [] []) EaD (lp Tryz.f205 0) := Pb 4 (ls := Aaj) rfl
theorem RaQ : WO Han := Fd XaS Tryz.func205 (Ga RaG (Ga QaG Ia))
abbrev La1 : Ka := .pu SN Ud [true] (fun x => Tk x.1)
abbrev Ian : WF := (206, La1) :: Han
def Caj : La := ⟨46, ⟨[(3, Da), (6, Ik), (7, Da), (8, Da)], []⟩, 0, ⟨[], []⟩, ⟨[(2, Cf)], []⟩, JB⟩
def BaW : WL := [(3, Caj)]
theorem SaG : Qa (WG true Han [] [] []) BaW (lp Tryz.f206 0) := Pb 3 (ls := Caj) rfl
theorem SaQ : WO Ian := Fd RaQ Tryz.func206 (Ga SaG Ia)
abbrev Ra3 : Ka := .pu (.p Kt (.p Sb .u)) Kc [true] (fun x => EF x.1 x.2.1)
abbrev Lao : WF := (267, Ra3) :: Ian
def Hak : La := ⟨19, ⟨[(3, Iv), (7, Vi), (8, Da), (9, Da)], [(3, Sb, (.data Sb))]⟩, 0, ⟨[], []⟩, ⟨[(4, Da)], []⟩, QB⟩
def BaX : WL := [(2, Hak)]
theorem XaH : Qa (WG true Ian [] [] []) BaX (lp Tryz.f267 0) := Pb 2 (ls := Hak) rfl
theorem YaS : WO Lao := Fd SaQ Tryz.func267 (Ga XaH Ia)
abbrev Ma1 : Ka := .pu (.p Ph .u) Ud [true] (fun x => KB x.1)
abbrev Jaa : WF := (207, Ma1) :: Lao
def Daj : La := ⟨62, ⟨[(3, (.own 200001 Sb true)), (11, (.data Ph)), (12, Da), (13, Da)], []⟩, 0, ⟨[(3, (.own 200001 Sb true))], []⟩, ⟨[(2, Cf)], []⟩, Sy⟩
def CaW : WL := [(5, Daj)]
theorem TaG : Qa (WG true Lao [] [] []) CaW (lp Tryz.f207 0) := Pb 5 (ls := Daj) rfl
theorem TaQ : WO Jaa := Fd YaS Tryz.func207 (Ga TaG Ia)
abbrev KaY : Ka := .pu DS Ud [true] (fun x => HG x.1)
abbrev Raz : WF := (119, KaY) :: Jaa
def Jah : La := ⟨92, ⟨[(1, Qh), (35, (.data EB)), (36, Da), (37, Da)], [(1, Xb, RN)]⟩, 0, ⟨[(1, Qh)], [(1, Xb, RN)]⟩, ⟨[(2, Cf)], []⟩, Pm⟩
def Nad : La := ⟨92, ⟨[(1, Qh), (5, Da), (50, Ik), (51, Da), (52, Da)], [(1, Xb, RN)]⟩, 2, ⟨[(1, Qh), (5, Da)], [(1, Xb, RN)]⟩, ⟨[(2, Cf)], []⟩, Ll⟩
def BaD : WL := [(4, Jah), (11, Nad)]
theorem ZaE : Qa (WG true Jaa [] [] []) BaD (lp Tryz.f119 0) := Pb 4 (ls := Jah) rfl
theorem Vax : Qa (WG true Jaa [] [] []) BaD (lp Tryz.f119 1) := Pb 11 (ls := Nad) rfl
theorem RaN : WO Raz := Fd TaQ Tryz.func119 (Ga Vax (Ga ZaE Ia))
abbrev Na2 : Ka := .pu GS Ud [true] (fun x => Nx x.1)
abbrev Xan : WF := (234, Na2) :: Raz
theorem UaR : WO Xan := Gc RaN Tryz.func234
abbrev WaZ : Ka := .pu SN Kc [true] (fun x => Yl x.1)
abbrev SaA : WF := (158, WaZ) :: Xan
def Dai : La := ⟨19, ⟨[(3, Da), (6, Ik), (7, Da), (8, Da)], []⟩, 0, ⟨[(3, Da)], []⟩, ⟨[], []⟩, Xv⟩
def HaV : WL := [(3, Dai)]
theorem TaF : Qa (WG true Xan [] [] []) HaV (lp Tryz.f158 0) := Pb 3 (ls := Dai) rfl
theorem DaP : WO SaA := Fd UaR Tryz.func158 (Ga TaF Ia)
abbrev SaZ : Ka := .pu (.p Dc .u) Ud [true] (fun x => Ut x.1)
abbrev PaA : WF := (154, SaZ) :: SaA
theorem ZaO : WO PaA := Gc DaP Tryz.func154
abbrev TaZ : Ka := .pu EJ Kc [true] (fun x => Xj x.1)
abbrev QaA : WF := (155, TaZ) :: PaA
theorem AaP : WO QaA := Gc ZaO Tryz.func155
abbrev Fba : Ka := .pu ES Ud [true] (fun x => Gn x.1 x.2.1)
abbrev Maw : WF := (72, Fba) :: QaA
theorem Ya6 : WO Maw := Gc AaP Tryz.func72
abbrev VaZ : Ka := .pu (.p int UN) Kc [true] (fun x => Zt x.1 x.2.1)
abbrev Haa : WF := (157, VaZ) :: Maw
def Cai : La := ⟨27, ⟨[(0, Da), (7, Zh), (8, Da), (9, Da)], []⟩, 0, ⟨[(0, Da)], []⟩, ⟨[], []⟩, Au⟩
def GaV : WL := [(2, Cai)]
theorem SaF : Qa (WG true Maw [] [] []) GaV (lp Tryz.f157 0) := Pb 2 (ls := Cai) rfl
theorem CaP : WO Haa := Fd Ya6 Tryz.func157 (Ga SaF Ia)
abbrev Eba : Ka := .pu DU Ud [true] (fun x => IB x.1)
abbrev RaK : WF := (71, Eba) :: Haa
def Qau : La := ⟨152, ⟨[(1, Qh), (3, Da), (62, Vi), (63, Da), (64, Da)], [(1, Jc, (.data Jc))]⟩, 0, ⟨[(1, Qh)], [(1, Jc, (.data Jc))]⟩, ⟨[(2, Cf)], []⟩, Ry⟩
def Aal : La := ⟨152, ⟨[(1, Qh), (6, Da), (8, Da), (116, Zh), (117, Da), (118, Da)], [(1, Jc, (.data Jc))]⟩, 2, ⟨[(1, Qh), (6, Da), (8, Da)], [(1, Jc, (.data Jc))]⟩, ⟨[], []⟩, Nm⟩
def CaL : WL := [(7, Qau), (17, Aal)]
theorem GaM : Qa (WG true Haa [] [] []) CaL (lp Tryz.f71 0) := Pb 7 (ls := Qau) rfl
theorem QaI : Qa (WG true Haa [] [] []) CaL (lp Tryz.f71 1) := Pb 17 (ls := Aal) rfl
theorem Xa6 : WO RaK := Fd CaP Tryz.func71 (Ga QaI (Ga GaM Ia))
abbrev Ua0 : Ka := .pu IP IP [true] (fun x => Pp x.1)
abbrev HaB : WF := (182, Ua0) :: RaK
theorem BaQ : WO HaB := Gc Xa6 Tryz.func182
abbrev Ba0 : Ka := .pu BJ BJ [true] (fun x => Tj x.1)
abbrev Sam : WF := (163, Ba0) :: HaB
theorem IaP : WO Sam := Gc BaQ Tryz.func163
abbrev IaY : Ka := .pu BU BU [true] (fun x => Nz x.1)
abbrev Gam : WF := (117, IaY) :: Sam
def Hah : La := ⟨25, ⟨[(2, Bh), (3, Iv), (10, CJ), (11, Da), (12, Da)], [(2, Vb, (.pr Da (.pr CJ .un))), (3, Vb, I6)]⟩, 0, ⟨[(2, Bh), (3, Iv)], [(2, Vb, (.pr Da (.pr CJ .un))), (3, Vb, I6)]⟩, ⟨[], []⟩, Mr⟩
def PaU : WL := [(3, Hah)]
theorem XaE : Qa (WG true Sam [] [] []) PaU (lp Tryz.f117 0) := Pb 3 (ls := Hah) rfl
theorem PaN : WO Gam := Fd IaP Tryz.func117 (Ga XaE Ia)
abbrev JaY : Ka := .pu (.p EB .u) (.p EB .u) [true] (fun x => Oz x.1)
abbrev Qaz : WF := (118, JaY) :: Gam
def Iah : La := ⟨19, ⟨[(3, (.own 200001 Ph true)), (6, (.data EB)), (7, Da), (8, Da)], []⟩, 0, ⟨[(3, (.own 200001 Ph true))], []⟩, ⟨[], []⟩, Nr⟩
def QaU : WL := [(3, Iah)]
theorem YaE : Qa (WG true Gam [] [] []) QaU (lp Tryz.f118 0) := Pb 3 (ls := Iah) rfl
theorem QaN : WO Qaz := Fd PaN Tryz.func118 (Ga YaE Ia)
abbrev LaY : Ka := .pu DS DS [true] (fun x => Nl x.1)
abbrev Saz : WF := (120, LaY) :: Qaz
theorem SaN : WO Saz := Gc QaN Tryz.func120
abbrev Ea0 : Ka := .pu (.p Dc .u) (.p Dc .u) [true] (fun x => Jk x.1)
abbrev XaA : WF := (166, Ea0) :: Saz
theorem LaP : WO XaA := Gc SaN Tryz.func166
abbrev Yba : Ka := .pu DU DU [true] (fun x => DD x.1)
abbrev C1 : WF := (91, Yba) :: XaA
theorem Ra7 : WO C1 := Gc LaP Tryz.func91
abbrev Hba : Ka := .pu ES Kc [true] (fun x => RB x.1 x.2.1)
abbrev SaK : WF := (74, Hba) :: C1
def Rau : La := ⟨83, ⟨[(1, Da), (2, Bh), (5, (.arr 200001 int)), (15, Da), (16, Da)], [(2, Za, Fp)]⟩, 0, ⟨[(2, Bh), (5, (.arr 200001 int))], [(2, Za, Fp)]⟩, ⟨[], []⟩, QH⟩
def Dal : La := ⟨83, ⟨[(2, Bh), (5, (.arr 200301 int)), (7, Da), (34, Da), (35, Da), (38, Da), (39, Da), (43, Da), (44, Da)], [(2, Za, Fp)]⟩, 6, ⟨[(2, Bh), (5, (.arr 200301 int)), (34, Da), (35, Da), (38, Da), (39, Da)], [(2, Za, Fp)]⟩, ⟨[], []⟩, OE⟩
def Cal : La := ⟨83, ⟨[(2, Bh), (5, (.arr 200201 int)), (34, Da), (35, Da), (38, Da), (39, Da)], [(2, Za, Fp)]⟩, 4, ⟨[(2, Bh), (5, (.arr 200201 int)), (34, Da), (35, Da)], [(2, Za, Fp)]⟩, ⟨[], []⟩, NE⟩
def Bal : La := ⟨83, ⟨[(2, Bh), (5, (.arr 200101 int)), (34, Da), (35, Da)], [(2, Za, Fp)]⟩, 2, ⟨[(2, Bh), (5, (.arr 200101 int))], [(2, Za, Fp)]⟩, ⟨[], []⟩, ME⟩
def Eal : La := ⟨83, ⟨[(2, Bh), (5, (.arr 200401 int)), (9, Da), (67, Da), (68, Da)], [(2, Za, Fp)]⟩, 8, ⟨[(9, Da)], []⟩, ⟨[], []⟩, PE⟩
def Qab : WL := [(5, Rau), (15, Dal), (12, Cal), (10, Bal), (24, Eal)]
theorem HaM : Qa (WG true C1 [] [] []) Qab (lp Tryz.f74 0) := Pb 5 (ls := Rau) rfl
theorem TaI : Qa (WG true C1 [] [] []) Qab (lp Tryz.f74 3) := Pb 15 (ls := Dal) rfl
theorem SaI : Qa (WG true C1 [] [] []) Qab (lp Tryz.f74 2) := Pb 12 (ls := Cal) rfl
theorem RaI : Qa (WG true C1 [] [] []) Qab (lp Tryz.f74 1) := Pb 10 (ls := Bal) rfl
theorem UaI : Qa (WG true C1 [] [] []) Qab (lp Tryz.f74 4) := Pb 24 (ls := Eal) rfl
theorem Aa7 : WO SaK := Fd Ra7 Tryz.func74 (Ga UaI (Ga TaI (Ga SaI (Ga RaI (Ga HaM Ia)))))
abbrev XaZ : Ka := .pu ES Ud [true] (fun x => On x.1 x.2.1)
abbrev TaA : WF := (159, XaZ) :: SaK
theorem EaP : WO TaA := Gc Aa7 Tryz.func159
abbrev Oa2 : Ka := .pu (.p Za Sb) Lt [true, true] (fun x => Mv x.1 x.2.1 x.2.2.1)
abbrev Yan : WF := (235, Oa2) :: TaA
theorem VaR : WO Yan := Gc EaP Tryz.func235
abbrev YaZ : Ka := .pu ES Kc [true] (fun x => BD x.1 x.2.1)
abbrev UaA : WF := (160, YaZ) :: Yan
def Eai : La := ⟨38, ⟨[(1, Da), (2, Bh), (5, Da), (14, Da), (15, Da)], [(2, Za, Fp)]⟩, 0, ⟨[(5, Da)], []⟩, ⟨[], []⟩, Rt⟩
def IaV : WL := [(5, Eai)]
theorem UaF : Qa (WG true Yan [] [] []) IaV (lp Tryz.f160 0) := Pb 5 (ls := Eai) rfl
theorem FaP : WO UaA := Fd VaR Tryz.func160 (Ga UaF Ia)
abbrev Gba : Ka := .pu (.p Za Sb) Lt [true, true] (fun x => Xp x.1 x.2.1 x.2.2.1)
abbrev Naw : WF := (73, Gba) :: UaA
theorem Za6 : WO Naw := Gc FaP Tryz.func73
abbrev Iba : Ka := .pu (.p Lb Kc) (.p Lb Ud) [true, true] (fun x => Gm x.1 x.2.1)
abbrev Oaw : WF := (75, Iba) :: Naw
def Sau : La := ⟨94, ⟨[(1, Da), (2, Bh), (4, Bl), (6, (.ptr 6 [])), (27, TN), (28, Da), (29, Da)], [(2, Lb, (.data Lb)), (4, Lb, Hac), (6, Lb, Faq)]⟩, 0, ⟨[(1, Da), (4, Bl), (6, (.ptr 6 []))], [(4, Lb, Hac), (6, Lb, Faq)]⟩, ⟨[], []⟩, Wn⟩
def Ja8 : WL := [(6, Sau)]
theorem IaM : Qa (WG true Naw [] [] []) Ja8 (lp Tryz.f75 0) := Pb 6 (ls := Sau) rfl
theorem Ba7 : WO Oaw := Fd Za6 Tryz.func75 (Ga IaM Ia)
abbrev Kba : Ka := .pu Yb UN [true] (fun x => Fq x.1 x.2.1 x.2.2.1)
abbrev Qaw : WF := (77, Kba) :: Oaw
def Tau : La := ⟨31, ⟨[(0, Da), (1, Da), (2, Da), (7, KH), (8, Da)], []⟩, 0, ⟨[(7, KH)], []⟩, ⟨[], []⟩, Tm⟩
def La8 : WL := [(3, Tau)]
theorem JaM : Qa (WG true Oaw [] [] []) La8 (lp Tryz.f77 0) := Pb 3 (ls := Tau) rfl
theorem Da7 : WO Qaw := Fd Ba7 Tryz.func77 (Ga JaM Ia)
abbrev Qa2 : Ka := .bx false false Nb Sb UN [true] (fun x0 x => Vn x0 x.1 x.2.1)
abbrev XaB : WF := (237, Qa2) :: Qaw
def Saj : La := ⟨92, ⟨[(0, DJ), (1, Da), (2, Da), (14, Da), (15, Da)], [(500000, Nb, Eaq)]⟩, 0, ⟨[(0, DJ), (1, Da), (2, Da)], [(500000, Nb, Eaq)]⟩, ⟨[(0, DJ), (6, KH)], [(500000, Nb, c6_)]⟩, Gp⟩
def NaW : WL := [(2, Saj)]
theorem IaH : Qa (WG false Qaw [] [] []) NaW (lp Tryz.f237 0) := Pb 2 (ls := Saj) rfl
theorem XaR : WO XaB := W0 Da7 Tryz.func237 (Ga IaH Ia)
abbrev Ia4 : Ka := .pu EJ Ud [true] (fun x => Dl x.1)
abbrev Wao : WF := (285, Ia4) :: XaB
theorem PaT : WO Wao := Gc XaR Tryz.func285
abbrev Ja4 : Ka := .pu (.p Kt Kc) Ud [true] (fun x => FF x.1 x.2.1)
abbrev Xao : WF := (286, Ja4) :: Wao
def Qak : La := ⟨19, ⟨[(1, Da), (7, Vi), (8, Da), (9, Da)], []⟩, 0, ⟨[], []⟩, ⟨[(4, Cf)], []⟩, TB⟩
def KaX : WL := [(2, Qak)]
theorem GaI : Qa (WG true Wao [] [] []) KaX (lp Tryz.f286 0) := Pb 2 (ls := Qak) rfl
theorem QaT : WO Xao := Fd PaT Tryz.func286 (Ga GaI Ia)
abbrev Ka4 : Ka := .pu (.p Kt Kc) Lt [true, true] (fun x => Pl x.1 x.2.1)
abbrev Yao : WF := (287, Ka4) :: Xao
def Rak : La := ⟨32, ⟨[(1, Da), (6, Da), (7, Cf), (10, Vi), (11, Da), (12, Da)], []⟩, 0, ⟨[(6, Da), (7, Cf)], []⟩, ⟨[], []⟩, Rr⟩
def LaX : WL := [(3, Rak)]
theorem HaI : Qa (WG true Xao [] [] []) LaX (lp Tryz.f287 0) := Pb 3 (ls := Rak) rfl
theorem RaT : WO Yao := Fd QaT Tryz.func287 (Ga HaI Ia)
abbrev Ra2 : Ka := .pu (.p Kt (.p int FJ)) Yb [true, true, true] (fun x => Kz x.1 x.2.1 x.2.2.1 x.2.2.2.1)
abbrev YaB : WF := (238, Ra2) :: Yao
def Uad : La := ⟨146, ⟨[(0, Vi), (1, Da), (3, Da), (11, (.ptr 11 [])), (12, Da), (13, Da), (14, Da), (15, Cf), (69, Zh), (70, Da), (71, Da)], [(11, Za, Fp)]⟩, 0, ⟨[(0, Vi), (3, Da), (12, Da), (13, Da), (14, Da), (15, Cf)], []⟩, ⟨[(8, Da), (9, Da), (10, Da)], []⟩, Dk⟩
def OaW : WL := [(11, Uad)]
theorem Cay : Qa (WG true Yao [] [] []) OaW (lp Tryz.f238 0) := Pb 11 (ls := Uad) rfl
theorem YaR : WO YaB := Fd RaT Tryz.func238 (Ga Cay Ia)
abbrev Da0 : Ka := .bx false false Nb .u (.p QV Ud) [true, true] (fun x0 x => Hh x0)
abbrev Tam : WF := (165, Da0) :: YaB
theorem KaP : WO Tam := W0 (L := []) (m := []) (v := []) (l := []) YaR Tryz.func165 Ia
abbrev Jba : Ka := .pu (.p Nb FJ) (.p Nb (.p QV Ud)) [true, true, true] (fun x => Zp x.1 x.2.1 x.2.2.1)
abbrev Paw : WF := (76, Jba) :: Tam
def Fal : La := ⟨84, ⟨[(6, (.ptr 6 [])), (9, (.ptr 9 [])), (12, KH)], [(6, Nb, (.pr Vi (.pr Da (.pr Zh (.pr Da (.pr Da (.pr Da (.pr Zh .un)))))))), (9, Nb, c6_)]⟩, 0, ⟨[(6, (.ptr 6 [])), (9, (.ptr 9 [])), (12, KH)], [(6, Nb, (.pr Vi (.pr Da (.pr Zh (.pr Da (.pr Da (.pr Da (.pr Zh .un)))))))), (9, Nb, c6_)]⟩, ⟨[], []⟩, Mf⟩
def Ka8 : WL := [(10, Fal)]
theorem VaI : Qa (WG true Tam [] [] []) Ka8 (lp Tryz.f76 0) := Pb 10 (ls := Fal) rfl
theorem Ca7 : WO Paw := Fd KaP Tryz.func76 (Ga VaI Ia)
abbrev Na1 : Ka := .pu (.p Xb Kc) Kc [true] (fun x => MM x.1 x.2.1)
abbrev NaB : WF := (208, Na1) :: Paw
def Eaj : La := ⟨21, ⟨[(1, Da), (8, Ik), (9, Da), (10, Da)], []⟩, 0, ⟨[], []⟩, ⟨[(4, Da)], []⟩, HB⟩
def DaW : WL := [(2, Eaj)]
theorem UaG : Qa (WG true Paw [] [] []) DaW (lp Tryz.f208 0) := Pb 2 (ls := Eaj) rfl
theorem UaQ : WO NaB := Fd Ca7 Tryz.func208 (Ga UaG Ia)
abbrev Ya4 : Ka := .io ZT .u .u [] (fun x0 _ => sort_Ints x0)
abbrev Eap : WF := (301, Ya4) :: NaB
end
end KF
namespace Go.Proofs
open Go.Shelf
def Tryz.lays_sort_Ints_ren : Go.Shelf.Ren := ⟨fun | 191 => 301 | 189 => 308 | 125 => 310 | 257 => 309 | 128 => 320 | 129 => 321 | 294 => 311 | 295 => 312 | 296 => 313 | 297 => 314 | 298 => 315 | 299 => 316 | 216 => 317 | 300 => 318 | 301 => 319 | 328 => 322 | 329 => 323 | 330 => 324 | 331 => 325 | 332 => 326 | 215 => 327 | 343 => 328 | n => n, fun | 28 => 25 | 0 => 0 | 3 => 3 | 46 => 235 | 51 => 325 | 53 => 327 | 4 => 4 | 183 => 332 | 182 => 331 | 131 => 127 | 5 => 5 | 9 => 9 | 218 => 338 | 222 => 342 | 228 => 344 | 229 => 283 | n => n, fun | n => n⟩
theorem Tryz.lays_sort_Ints : Go.Proofs.Lays.n191 Tryz.prog Tryz.lays_sort_Ints_ren := {
 mixed := by kernel_rfl
 f125 := Tryz.func310.trans (congrArg some (by kernel_rfl))
 f128 := Tryz.func320.trans (congrArg some (by kernel_rfl))
 f129 := Tryz.func321.trans (congrArg some (by kernel_rfl))
 f189 := Tryz.func308.trans (congrArg some (by kernel_rfl))
 f191 := Tryz.func301.trans (congrArg some (by kernel_rfl))
 f215 := Tryz.func327.trans (congrArg some (by kernel_rfl))
 f216 := Tryz.func317.trans (congrArg some (by kernel_rfl))
 f257 := Tryz.func309.trans (congrArg some (by kernel_rfl))
 f294 := Tryz.func311.trans (congrArg some (by kernel_rfl))
 f295 := Tryz.func312.trans (congrArg some (by kernel_rfl))
 f296 := Tryz.func313.trans (congrArg some (by kernel_rfl))
 f297 := Tryz.func314.trans (congrArg some (by kernel_rfl))
 f298 := Tryz.func315.trans (congrArg some (by kernel_rfl))
 f299 := Tryz.func316.trans (congrArg some (by kernel_rfl))
 f300 := Tryz.func318.trans (congrArg some (by kernel_rfl))
 f301 := Tryz.func319.trans (congrArg some (by kernel_rfl))
 f328 := Tryz.func322.trans (congrArg some (by kernel_rfl))
 f329 := Tryz.func323.trans (congrArg some (by kernel_rfl))
 f330 := Tryz.func324.trans (congrArg some (by kernel_rfl))
 f331 := Tryz.func325.trans (congrArg some (by kernel_rfl))
 f332 := Tryz.func326.trans (congrArg some (by kernel_rfl))
 f343 := Tryz.func328.trans (congrArg some (by kernel_rfl))
 t0 := Tryz.underlying0
 a0 := Tryz.isAgg0
 z0 := Tryz.sizeOf0
 v0 := Tryz.zeroValue0
 t3 := Tryz.underlying3
 a3 := Tryz.isAgg3
 z3 := Tryz.sizeOf3
 v3 := Tryz.zeroValue3
 t4 := Tryz.underlying4
 a4 := Tryz.isAgg4
 z4 := Tryz.sizeOf4
 v4 := Tryz.zeroValue4
 t5 := Tryz.underlying5
 a5 := Tryz.isAgg5
 z5 := Tryz.sizeOf5
 v5 := Tryz.zeroValue5
 t9 := Tryz.underlying9
 a9 := Tryz.isAgg9
 z9 := Tryz.sizeOf9
 v9 := Tryz.zeroValue9
 t28 := Tryz.underlying25
 a28 := Tryz.isAgg25
 z28 := Tryz.sizeOf25
 v28 := Tryz.zeroValue25
 t46 := Tryz.underlying235
 a46 := Tryz.isAgg235
 z46 := Tryz.sizeOf235
 v46 := Tryz.zeroValue235
 t51 := Tryz.underlying325
 a51 := Tryz.isAgg325
 z51 := Tryz.sizeOf325
 v51 := Tryz.zeroValue325
 t53 := Tryz.underlying327
 a53 := Tryz.isAgg327
 z53 := Tryz.sizeOf327
 v53 := Tryz.zeroValue327
 t131 := Tryz.underlying127
 a131 := Tryz.isAgg127
 z131 := Tryz.sizeOf127
 v131 := Tryz.zeroValue127
 t182 := Tryz.underlying331
 a182 := Tryz.isAgg331
 z182 := Tryz.sizeOf331
 v182 := Tryz.zeroValue331
 t183 := Tryz.underlying332
 a183 := Tryz.isAgg332
 z183 := Tryz.sizeOf332
 v183 := Tryz.zeroValue332
 t218 := Tryz.underlying338
 a218 := Tryz.isAgg338
 z218 := Tryz.sizeOf338
 v218 := Tryz.zeroValue338
 t222 := Tryz.underlying342
 a222 := Tryz.isAgg342
 z222 := Tryz.sizeOf342
 v222 := Tryz.zeroValue342
 t228 := Tryz.underlying344
 a228 := Tryz.isAgg344
 z228 := Tryz.sizeOf344
 v228 := Tryz.zeroValue344
 t229 := Tryz.underlying283
 a229 := Tryz.isAgg283
 z229 := Tryz.sizeOf283
 v229 := Tryz.zeroValue283 }
end Go.Proofs
namespace KF
open Go Go.Proofs
noncomputable section
theorem FaU : WO Eap := wc UaQ (Sar Tryz.lays_sort_Ints (by kernel_rfl))
abbrev Za4 : Ka := .pu (.p ZT Kc) Ud [true] (fun x => QM x.1 x.2.1)
abbrev Fap : WF := (302, Za4) :: Eap
def Yak : La := ⟨17, ⟨[(1, Da), (7, TN), (8, Da), (9, Da)], []⟩, 0, ⟨[], []⟩, ⟨[(4, Cf)], []⟩, OB⟩
def SaX : WL := [(2, Yak)]
theorem OaI : Qa (WG true Eap [] [] []) SaX (lp Tryz.f302 0) := Pb 2 (ls := Yak) rfl
theorem GaU : WO Fap := Fd FaU Tryz.func302 (Ga OaI Ia)
abbrev Xa3 : Ka := .pu IP IP [true] (fun x => Xt x.1)
abbrev Nao : WF := (274, Xa3) :: Fap
def Kak : La := ⟨31, ⟨[(4, GL), (11, (.own 200002 int true)), (12, Da), (13, Da)], []⟩, 0, ⟨[(4, GL)], []⟩, ⟨[], []⟩, Uy⟩
def EaX : WL := [(5, Kak)]
theorem AaI : Qa (WG true Fap [] [] []) EaX (lp Tryz.f274 0) := Pb 5 (ls := Kak) rfl
theorem EaT : WO Nao := Fd GaU Tryz.func274 (Ga AaI Ia)
abbrev Qa1 : Ka := .pu SN CU [true] (fun x => Ae x.1)
abbrev Jan : WF := (211, Qa1) :: Nao
def Faj : La := ⟨45, ⟨[(2, Bh), (3, Iv), (4, GL), (11, Ik), (12, Da), (13, Da)], [(2, Ac, FB), (3, Ac, FB)]⟩, 0, ⟨[(2, Bh), (3, Iv), (4, GL)], [(2, Ac, FB), (3, Ac, FB)]⟩, ⟨[], []⟩, Tv⟩
def EaW : WL := [(6, Faj)]
theorem VaG : Qa (WG true Nao [] [] []) EaW (lp Tryz.f211 0) := Pb 6 (ls := Faj) rfl
theorem XaQ : WO Jan := Fd EaT Tryz.func211 (Ga VaG Ia)
abbrev Xa4 : Ka := .pu (.p ZT IP) Ud [true] (fun x => JG x.1 x.2.1)
abbrev XaC : WF := (300, Xa4) :: Jan
def Xak : La := ⟨26, ⟨[(0, TN), (1, TN), (12, Da), (13, Da)], []⟩, 0, ⟨[], []⟩, ⟨[(4, Cf)], []⟩, Yv⟩
def RaX : WL := [(4, Xak)]
theorem NaI : Qa (WG true Jan [] [] []) RaX (lp Tryz.f300 0) := Pb 4 (ls := Xak) rfl
theorem EaU : WO XaC := Fd XaQ Tryz.func300 (Ga NaI Ia)
abbrev YaD : Ka := .pu (.p Ac CU) Ud [true] (fun x => Dq x.1 x.2.1)
abbrev PaC : WF := (273, YaD) :: XaC
theorem Maz : WO PaC := Gc EaU Tryz.func273
abbrev Pa1 : Ka := .co (.p Ac AU) AU [true] (fun x => Ye x.1 x.2.1)
abbrev PaB : WF := (210, Pa1) :: PaC
def GTo : List (Nat × Ty) := [(3, int), (27, (.sl CS)), (121, CS)]
theorem BaL : ((GTo.all fun x => Ze Tryz.prog x.2 x.1) && (([] : List (Nat × Ty × Nat)).all fun x => K1 Tryz.prog x.1 x.2.1 x.2.2)) = true := by kernel_rfl
@[reducible] def Gax (c : T Se → T Se → Option Bool) : Ka := .pu (.p CS (.p (.sl CS) .u)) (.p (.sl CS) .u) [true] (fun x => Haq c x.1 x.2.1)
def Aat (c : T Se → T Se → Option Bool) : Bg := ⟨GTo, [(273, M7 c)], [], true, [], [], []⟩
theorem Fax (I : Di) (c : T Se → T Se → Option Bool) (h : Ij Tryz.prog I 273 (M7 c)) : Ak Tryz.prog I (Aat c) := Ak.cons h (K8 BaL)
def F8 (c : T Se → T Se → Option Bool) : La := ⟨25, ⟨[(2, Bh), (5, (.own 200001 CS true)), (8, (.data (.sl CS))), (9, Da), (10, Da)], [(2, CS, (.data CS))]⟩, 0, ⟨[(5, (.own 200001 CS true))], []⟩, ⟨[], []⟩, Gy c⟩
def Bat (c : T Se → T Se → Option Bool) : List (Nat × La) := [(3, F8 c)]
theorem Iaq (c : T Se → T Se → Option Bool) : Qa (Aat c) (Bat c) (lp Tryz.f210 0) := P8 (r := 3) (ls := F8 c) (R := fun x => JL c x.1.1 x.1.2.1 x.1.2.2.1 x.1.2.2.2.1 x.1.2.2.2.2.1 x.2.1) (by kernel_rfl) (by kernel_rfl) rfl (fun x => by kernel_rfl)
theorem Hax (I : Di) (c : T Se → T Se → Option Bool) (h : Ij Tryz.prog I 273 (M7 c)) : Ij Tryz.prog I 210 (Gax c) := UX (L := Bat c) (k := 1) (Fax I c h) B8 Tryz.func210 (by kernel_rfl) (Ga (Iaq c) Ia) (fun x => by kernel_rfl)
theorem WaQ : WO PaB := wc Maz (Nav (f2 := 273) (SR := fun x => Dq x.1 x.2.1) (same := Ek) Caz (GaN (s := YaD) Maz (by kernel_rfl)) (fun I c h => ⟨_, Hax I c h, GaE c⟩))
abbrev MaY : Ka := .pu (.p Xb Kc) (.p Xb AU) [true, true] (fun x => SB x.1 x.2.1)
abbrev Ham : WF := (122, MaY) :: PaB
theorem TaN : WO Ham := Gc WaQ Tryz.func122
abbrev Ta2 : Ka := .pu (.p int SN) Kc [true] (fun x => Ox x.1 x.2.1)
abbrev Aao : WF := (240, Ta2) :: Ham
def Uaj : La := ⟨39, ⟨[(5, Da), (21, Ik), (22, Da), (23, Da)], []⟩, 0, ⟨[(5, Da)], []⟩, ⟨[], []⟩, Oj⟩
def QaW : WL := [(7, Uaj)]
theorem KaH : Qa (WG true Ham [] [] []) QaW (lp Tryz.f240 0) := Pb 7 (ls := Uaj) rfl
theorem AaS : WO Aao := Fd TaN Tryz.func240 (Ga KaH Ia)
abbrev Sa3 : Ka := .pu (.p Vb Sb) Kc [true] (fun x => PB x.1 x.2.1 x.2.2.1)
abbrev LaC : WF := (268, Sa3) :: Aao
def Iak : La := ⟨33, ⟨[(1, Da), (2, Da), (3, Iv), (7, Da)], [(3, Vb, FS)]⟩, 0, ⟨[], []⟩, ⟨[(6, Da)], []⟩, Ji⟩
def CaX : WL := [(2, Iak)]
theorem YaH : Qa (WG true Aao [] [] []) CaX (lp Tryz.f268 0) := Pb 2 (ls := Iak) rfl
theorem ZaS : WO LaC := Fd AaS Tryz.func268 (Ga YaH Ia)
abbrev La4 : Ka := .pu (.p Vb Sb) Kc [true] (fun x => SP x.1 x.2.1 x.2.2.1)
abbrev QaC : WF := (288, La4) :: LaC
theorem SaT : WO QaC := Gc ZaS Tryz.func288
abbrev Va2 : Ka := .pu (.p Vb Sb) Km [true] (fun x => GG x.1 x.2.1 x.2.2.1)
abbrev AaC : WF := (242, Va2) :: QaC
theorem CaS : WO AaC := Gc SaT Tryz.func242
abbrev Ua2 : Ka := .pu Km Ud [true] (fun x => Pn x.1)
abbrev Bao : WF := (241, Ua2) :: AaC
theorem BaS : WO Bao := Gc CaS Tryz.func241
abbrev Wa2 : Ka := .pu (.p Yb (.p int (.p int FJ))) Sb [true, true] (fun x => Kx x.1 x.2.1 x.2.2.1 x.2.2.2.1 x.2.2.2.2.1)
abbrev BaC : WF := (243, Wa2) :: Bao
def Vaj : La := ⟨102, ⟨[(1, Da), (2, Da), (4, Da), (5, GE), (12, Da), (26, Zh), (27, Da), (28, Da)], [(5, Yb, (.data Yb))]⟩, 0, ⟨[(2, Da), (4, Da), (5, GE)], [(5, Yb, (.data Yb))]⟩, ⟨[(10, Da), (11, Da)], []⟩, Ov⟩
def RaW : WL := [(5, Vaj)]
theorem LaH : Qa (WG true Bao [] [] []) RaW (lp Tryz.f243 0) := Pb 5 (ls := Vaj) rfl
theorem DaS : WO BaC := Fd BaS Tryz.func243 (Ga LaH Ia)
abbrev Ta3 : Ka := .pu Km Km [true] (fun x => NM x.1)
abbrev MaC : WF := (269, Ta3) :: BaC
theorem AaT : WO MaC := Gc DaS Tryz.func269
abbrev Ua3 : Ka := .pu Km Km [true] (fun x => QO x.1)
abbrev NaC : WF := (270, Ua3) :: MaC
theorem BaT : WO NaC := Gc AaT Tryz.func270
abbrev Va4 : Ka := .pu Kc Ud [true] (fun x => Jz x.1)
abbrev WaC : WF := (298, Va4) :: NaC
theorem CaU : WO WaC := Gc BaT Tryz.func298
abbrev Va3 : Ka := .bx false false Xb Km Km [true] (fun x0 x => Qr x0 x.1)
abbrev Mao : WF := (271, Va3) :: WaC
theorem CaT : WO Mao := W0 (L := []) (m := []) (v := []) (l := []) CaU Tryz.func271 Ia
abbrev Wa4 : Ka := .pu (.p Ac (.p Kt .u)) CU [true] (fun x => Qf x.1 x.2.1)
abbrev Dap : WF := (299, Wa4) :: Mao
def Wak : La := ⟨37, ⟨[(4, Bl), (5, GE), (6, GL), (15, Vi), (16, Da), (17, Da)], [(4, Ac, FB), (5, Ac, FB)]⟩, 0, ⟨[(4, Bl), (5, GE), (6, GL)], [(4, Ac, FB), (5, Ac, FB)]⟩, ⟨[], []⟩, Cu⟩
def QaX : WL := [(4, Wak)]
theorem MaI : Qa (WG true Mao [] [] []) QaX (lp Tryz.f299 0) := Pb 4 (ls := Wak) rfl
theorem DaU : WO Dap := Fd CaT Tryz.func299 (Ga MaI Ia)
abbrev Wa3 : Ka := .pu (.p IL (.p Ph .u)) AU [true] (fun x => Sj x.1 x.2.1)
abbrev OaC : WF := (272, Wa3) :: Dap
def Jak : La := ⟨74, ⟨[(5, GE), (6, J6), (7, (.own 200002 Sb true)), (22, (.data Ph)), (23, Da), (24, Da)], [(5, Ac, (.pr Da (.pr (.own 200003 int true) .un)))]⟩, 0, ⟨[(6, J6)], []⟩, ⟨[], []⟩, Zn⟩
def DaX : WL := [(7, Jak)]
theorem ZaH : Qa (WG true Dap [] [] []) DaX (lp Tryz.f272 0) := Pb 7 (ls := Jak) rfl
theorem DaT : WO OaC := Fd DaU Tryz.func272 (Ga ZaH Ia)
abbrev Oa1 : Ka := .pu (.p Xb Lt) (.p Xb AU) [true, true] (fun x => Uh x.1 x.2.1 x.2.2.1)
abbrev OaB : WF := (209, Oa1) :: OaC
theorem VaQ : WO OaB := Gc DaT Tryz.func209
abbrev Fa0 : Ka := .bx false false Dc .u (.p (.sl Ac) Ud) [true, true] (fun x0 x => Sh x0)
abbrev Uam : WF := (167, Fa0) :: OaB
theorem MaP : WO Uam := W0 (L := []) (m := []) (v := []) (l := []) VaQ Tryz.func167 Ia
abbrev Ga0 : Ka := .co (.p HE (.p int AU)) (.p HE .u) [true] (fun x => DN x.1 x.2.1 x.2.2.1)
abbrev Vam : WF := (168, Ga0) :: Uam
def Gai : La := ⟨23, ⟨[(0, HL), (1, Da), (9, (.mov 200002 Ac)), (10, Da), (11, Da)], []⟩, 0, ⟨[(0, HL)], []⟩, ⟨[], []⟩, SH⟩
def KaV : WL := [(2, Gai)]
theorem WaF : Qa (WG false Uam [] [] [14]) KaV (lp Tryz.f168 0) := Pb 2 (ls := Gai) rfl
theorem NaP : WO Vam := wco MaP Tryz.func168 (Ga WaF Ia)
abbrev Lba : Ka := .pu (.p Dc FJ) (.p Dc (.p HE Ud)) [true, true, true] (fun x => Lz x.1 x.2.1 x.2.2.1)
abbrev TaK : WF := (78, Lba) :: Vam
def Uau : La := ⟨86, ⟨[(6, (.ptr 6 [])), (9, (.ptr 9 [])), (10, HL)], [(6, Dc, (.pr c8_ (.pr (.data Yb) (.pr Zh (.data Qb))))), (9, Dc, c4_)]⟩, 0, ⟨[(6, (.ptr 6 [])), (9, (.ptr 9 [])), (10, HL)], [(6, Dc, (.pr c8_ (.pr (.data Yb) (.pr Zh (.data Qb))))), (9, Dc, c4_)]⟩, ⟨[], []⟩, Jg⟩
def Ma8 : WL := [(9, Uau)]
theorem KaM : Qa (WG true Vam [] [] []) Ma8 (lp Tryz.f78 0) := Pb 9 (ls := Uau) rfl
theorem Ea7 : WO TaK := Fd NaP Tryz.func78 (Ga KaM Ia)
abbrev Ca9 : Ka := .pu (.p Jc Kc) (.p Jc (.p HE Ud)) [true, true, true] (fun x => Qt x.1 x.2.1)
abbrev Daw : WF := (23, Ca9) :: TaK
theorem Va5 : WO Daw := Gc Ea7 Tryz.func23
abbrev Ka9 : Ka := .pu (.p Jc IP) (.p Jc (.p HE Ud)) [true, true, true] (fun x => Mp x.1 x.2.1)
abbrev BaK : WF := (31, Ka9) :: Daw
def Iau : La := ⟨48, ⟨[(4, Bl), (7, (.ptr 7 [])), (8, HL), (25, TN), (26, Da), (27, Da)], [(4, Jc, c1_), (7, Jc, c2_)]⟩, 0, ⟨[(4, Bl), (7, (.ptr 7 [])), (8, HL)], [(4, Jc, c1_), (7, Jc, c2_)]⟩, ⟨[(4, Bl), (5, HL), (6, Cf)], [(4, Jc, c1_)]⟩, Nv⟩
def Ba8 : WL := [(6, Iau)]
theorem YaL : Qa (WG true Daw [] [] []) Ba8 (lp Tryz.f31 0) := Pb 6 (ls := Iau) rfl
theorem Da6 : WO BaK := Fd Va5 Tryz.func31 (Ga YaL Ia)
abbrev Mba : Ka := .pu Cas Ud [true] (fun x => OG x.1 x.2.1)
abbrev Raw : WF := (79, Mba) :: BaK
theorem Fa7 : WO Raw := Gc Da6 Tryz.func79
abbrev Wa8 : Ka := .pu (.p ZT IP) Ud [true] (fun x => Ky x.1 x.2.1)
abbrev UaJ : WF := (15, Wa8) :: Raw
def Bau : La := ⟨26, ⟨[(0, TN), (1, TN), (5, Da)], []⟩, 0, ⟨[], []⟩, ⟨[(4, Cf)], []⟩, WB⟩
def Ua7 : WL := [(4, Bau)]
theorem RaL : Qa (WG true Raw [] [] []) Ua7 (lp Tryz.f15 0) := Pb 4 (ls := Bau) rfl
theorem Pa5 : WO UaJ := Fd Fa7 Tryz.func15 (Ga RaL Ia)
abbrev Nba : Ka := .pu (.p Lb (.p Lb .u)) Ud [true] (fun x => Bw x.1 x.2.1)
abbrev UaK : WF := (80, Nba) :: UaJ
theorem Ga7 : WO UaK := Gc Pa5 Tryz.func80
abbrev Xa2 : Ka := .pu (.p Sb (.p Sb .u)) Ud [true] (fun x => UB x.1 x.2.1)
abbrev Cao : WF := (244, Xa2) :: UaK
theorem EaS : WO Cao := Gc Ga7 Tryz.func244
abbrev Ha0 : Ka := .pu (.p Kt (.p Kt .u)) Ud [true] (fun x => LG x.1 x.2.1)
abbrev YaA : WF := (169, Ha0) :: Cao
def Hai : La := ⟨27, ⟨[(0, Vi), (1, Vi), (5, Da)], []⟩, 0, ⟨[], []⟩, ⟨[(4, Cf)], []⟩, MJ⟩
def LaV : WL := [(4, Hai)]
theorem XaF : Qa (WG true Cao [] [] []) LaV (lp Tryz.f169 0) := Pb 4 (ls := Hai) rfl
theorem OaP : WO YaA := Fd EaS Tryz.func169 (Ga XaF Ia)
abbrev Ya2 : Ka := .pu Cas Ud [true] (fun x => VB x.1 x.2.1)
abbrev Dao : WF := (245, Ya2) :: YaA
theorem FaS : WO Dao := Gc OaP Tryz.func245
abbrev Ia0 : Ka := .pu (.p QV UN) Ud [true] (fun x => Qx x.1 x.2.1)
abbrev ZaA : WF := (170, Ia0) :: Dao
def Iai : La := ⟨27, ⟨[(0, Zh), (1, Zh), (5, Da)], []⟩, 0, ⟨[], []⟩, ⟨[(4, Cf)], []⟩, NJ⟩
def MaV : WL := [(4, Iai)]
theorem YaF : Qa (WG true Dao [] [] []) MaV (lp Tryz.f170 0) := Pb 4 (ls := Iai) rfl
theorem PaP : WO ZaA := Fd FaS Tryz.func170 (Ga YaF Ia)
abbrev Za2 : Ka := .pu Cas Ud [true] (fun x => Px x.1 x.2.1)
abbrev Eao : WF := (246, Za2) :: ZaA
theorem GaS : WO Eao := Gc PaP Tryz.func246
abbrev Ja0 : Ka := .pu (.p QV UN) Ud [true] (fun x => KD x.1 x.2.1)
abbrev AaB : WF := (171, Ja0) :: Eao
def Jai : La := ⟨27, ⟨[(0, Zh), (1, Zh), (5, Da)], []⟩, 0, ⟨[], []⟩, ⟨[(4, Cf)], []⟩, GI⟩
def NaV : WL := [(4, Jai)]
theorem ZaF : Qa (WG true Eao [] [] []) NaV (lp Tryz.f171 0) := Pb 4 (ls := Jai) rfl
theorem QaP : WO AaB := Fd GaS Tryz.func171 (Ga ZaF Ia)
abbrev Oba : Ka := .pu (.p Nb BJ) Ud [true] (fun x => Uz x.1 x.2.1)
abbrev VaK : WF := (81, Oba) :: AaB
theorem Ha7 : WO VaK := Gc QaP Tryz.func81
abbrev Ra1 : Ka := .pu (.p Qb Km) Ud [true] (fun x => Qp x.1 x.2.1)
abbrev Kan : WF := (212, Ra1) :: VaK
theorem YaQ : WO Kan := Gc Ha7 Tryz.func212
abbrev NaY : Ka := .pu (.p Jj (.p Jj .u)) Ud [true] (fun x => Du x.1 x.2.1)
abbrev Iam : WF := (123, NaY) :: Kan
def Kah : La := ⟨27, ⟨[(0, (.data Jj)), (1, (.data Jj)), (5, Da)], []⟩, 0, ⟨[], []⟩, ⟨[(4, Cf)], []⟩, FI⟩
def RaU : WL := [(4, Kah)]
theorem AaF : Qa (WG true Kan [] [] []) RaU (lp Tryz.f123 0) := Pb 4 (ls := Kah) rfl
theorem UaN : WO Iam := Fd YaQ Tryz.func123 (Ga AaF Ia)
abbrev Oa9 : Ka := .pu (.p (.sl Jj) (.p (.sl Jj) .u)) Ud [true] (fun x => Tz x.1 x.2.1)
abbrev FaK : WF := (55, Oa9) :: Iam
def Lau : La := ⟨27, ⟨[(0, CJ), (1, CJ), (5, Da)], []⟩, 0, ⟨[], []⟩, ⟨[(4, Cf)], []⟩, GF⟩
def Ea8 : WL := [(4, Lau)]
theorem BaM : Qa (WG true Iam [] [] []) Ea8 (lp Tryz.f55 0) := Pb 4 (ls := Lau) rfl
theorem Ha6 : WO FaK := Fd UaN Tryz.func55 (Ga BaM Ia)
abbrev Va8 : Ka := .pu (.p Vb BU) Ud [true] (fun x => NG x.1 x.2.1)
abbrev TaJ : WF := (14, Va8) :: FaK
theorem Oa5 : WO TaJ := Gc Ha6 Tryz.func14
abbrev Da5 : Ka := .pu (.p Yb GS) Ud [true] (fun x => JF x.1 x.2.1)
abbrev Hap : WF := (306, Da5) :: TaJ
theorem KaU : WO Hap := Gc Oa5 Tryz.func306
abbrev Ma4 : Ka := .pu (.p Ph (.p Ph .u)) Ud [true] (fun x => XB x.1 x.2.1)
abbrev Zao : WF := (289, Ma4) :: Hap
def Sak : La := ⟨27, ⟨[(0, (.data Ph)), (1, (.data Ph)), (5, Da)], []⟩, 0, ⟨[], []⟩, ⟨[(4, Cf)], []⟩, UK⟩
def MaX : WL := [(4, Sak)]
theorem IaI : Qa (WG true Hap [] [] []) MaX (lp Tryz.f289 0) := Pb 4 (ls := Sak) rfl
theorem TaT : WO Zao := Fd KaU Tryz.func289 (Ga IaI Ia)
abbrev Aa3 : Ka := .pu (.p EB (.p EB .u)) Ud [true] (fun x => QG x.1 x.2.1)
abbrev CaC : WF := (247, Aa3) :: Zao
def Waj : La := ⟨27, ⟨[(0, (.data EB)), (1, (.data EB)), (5, Da)], []⟩, 0, ⟨[], []⟩, ⟨[(4, Cf)], []⟩, PJ⟩
def SaW : WL := [(4, Waj)]
theorem MaH : Qa (WG true Zao [] [] []) SaW (lp Tryz.f247 0) := Pb 4 (ls := Waj) rfl
theorem HaS : WO CaC := Fd TaT Tryz.func247 (Ga MaH Ia)
abbrev Na4 : Ka := .pu (.p Xe (.p Xe .u)) Ud [true] (fun x => HF x.1 x.2.1)
abbrev Aap : WF := (290, Na4) :: CaC
theorem UaT : WO Aap := Gc HaS Tryz.func290
abbrev Ba3 : Ka := .pu (.p IL SN) Ud [true] (fun x => OJ x.1 x.2.1)
abbrev DaC : WF := (248, Ba3) :: Aap
def Xaj : La := ⟨27, ⟨[(0, Ik), (1, Ik), (5, Da)], []⟩, 0, ⟨[], []⟩, ⟨[(4, Cf)], []⟩, SK⟩
def TaW : WL := [(4, Xaj)]
theorem NaH : Qa (WG true Aap [] [] []) TaW (lp Tryz.f248 0) := Pb 4 (ls := Xaj) rfl
theorem IaS : WO DaC := Fd UaT Tryz.func248 (Ga NaH Ia)
abbrev Ka0 : Ka := .pu (.p Xb DS) Ud [true] (fun x => MG x.1 x.2.1)
abbrev BaB : WF := (172, Ka0) :: DaC
theorem RaP : WO BaB := Gc IaS Tryz.func172
abbrev La0 : Ka := .pu (.p Yb GS) Ud [true] (fun x => RG x.1 x.2.1)
abbrev CaB : WF := (173, La0) :: BaB
theorem SaP : WO CaB := Gc RaP Tryz.func173
abbrev Pba : Ka := .pu (.p Dc (.p Dc .u)) Ud [true] (fun x => LD x.1 x.2.1)
abbrev WaK : WF := (82, Pba) :: CaB
theorem Ia7 : WO WaK := Gc SaP Tryz.func82
abbrev Da9 : Ka := .pu (.p Jc DU) Ud [true] (fun x => Bo x.1 x.2.1)
abbrev YaJ : WF := (24, Da9) :: WaK
theorem Wa5 : WO YaJ := Gc Ia7 Tryz.func24
abbrev Na9 : Ka := .pu (.p Ac CU) Ud [true] (fun x => PG x.1 x.2.1)
abbrev EaK : WF := (54, Na9) :: YaJ
theorem Ga6 : WO EaK := Gc Wa5 Tryz.func54
abbrev Qba : Ka := .pu (.p Wh (.p Wh .u)) Ud [true] (fun x => IF x.1 x.2.1)
abbrev Saw : WF := (83, Qba) :: EaK
theorem Ja7 : WO Saw := Gc Ga6 Tryz.func83
abbrev Ea9 : Ka := .pu (.p HE (.p HE .u)) Ud [true] (fun x => Eu x.1 x.2.1)
abbrev Eaw : WF := (25, Ea9) :: Saw
def Eau : La := ⟨27, ⟨[(0, (.data HE)), (1, (.data HE)), (5, Da)], []⟩, 0, ⟨[], []⟩, ⟨[(4, Cf)], []⟩, TK⟩
def Xa7 : WL := [(4, Eau)]
theorem UaL : Qa (WG true Saw [] [] []) Xa7 (lp Tryz.f25 0) := Pb 4 (ls := Eau) rfl
theorem Xa5 : WO Eaw := Fd Ja7 Tryz.func25 (Ga UaL Ia)
abbrev Ya8 : Ka := .io ZT Kc Kc [true] (fun x0 x => Rx x0 x.1)
abbrev VaJ : WF := (17, Ya8) :: Eaw
def Cau : La := ⟨19, ⟨[(0, (.own 500000 int true)), (1, Da), (5, Da)], []⟩, 0, ⟨[(0, (.own 500000 int true)), (1, Da)], []⟩, ⟨[], []⟩, UJ⟩
def Va7 : WL := [(2, Cau)]
theorem SaL : Qa (WG false Eaw [] [] []) Va7 (lp Tryz.f17 0) := Pb 2 (ls := Cau) rfl
theorem Ra5 : WO VaJ := KO Xa5 Tryz.func17 (Ga SaL Ia)
abbrev Rba : Ka := .io Lb Kc Kc [true] (fun x0 x => Nq x0 x.1)
abbrev Taw : WF := (84, Rba) :: VaJ
theorem Ka7 : WO Taw := KO (L := []) (m := []) (v := []) (l := []) Ra5 Tryz.func84 Ia
abbrev Ma0 : Ka := .io Kt Kc Kc [true] (fun x0 x => TJ x0 x.1)
abbrev Wam : WF := (174, Ma0) :: Taw
def Kai : La := ⟨27, ⟨[(0, (.own 500000 Sb true)), (1, Da), (5, Da)], []⟩, 0, ⟨[(0, (.own 500000 Sb true)), (1, Da)], []⟩, ⟨[], []⟩, PF⟩
def OaV : WL := [(2, Kai)]
theorem AaG : Qa (WG false Taw [] [] []) OaV (lp Tryz.f174 0) := Pb 2 (ls := Kai) rfl
theorem TaP : WO Wam := KO Ka7 Tryz.func174 (Ga AaG Ia)
abbrev Na0 : Ka := .io QV Kc Kc [true] (fun x0 x => AA x0 x.1)
abbrev Xam : WF := (175, Na0) :: Wam
def Lai : La := ⟨36, ⟨[(0, (.own 500000 Za true)), (1, Da), (5, Da)], []⟩, 0, ⟨[(0, (.own 500000 Za true)), (1, Da)], []⟩, ⟨[], []⟩, QF⟩
def PaV : WL := [(2, Lai)]
theorem BaG : Qa (WG false Wam [] [] []) PaV (lp Tryz.f175 0) := Pb 2 (ls := Lai) rfl
theorem UaP : WO Xam := KO TaP Tryz.func175 (Ga BaG Ia)
abbrev Oa0 : Ka := .io QV Kc Kc [true] (fun x0 x => WH x0 x.1)
abbrev DaB : WF := (176, Oa0) :: Xam
def Mai : La := ⟨36, ⟨[(0, (.own 500000 Za true)), (1, Da), (5, Da)], []⟩, 0, ⟨[(0, (.own 500000 Za true)), (1, Da)], []⟩, ⟨[], []⟩, FE⟩
def QaV : WL := [(2, Mai)]
theorem CaG : Qa (WG false Xam [] [] []) QaV (lp Tryz.f176 0) := Pb 2 (ls := Mai) rfl
theorem VaP : WO DaB := KO UaP Tryz.func176 (Ga CaG Ia)
abbrev Sba : Ka := .io Nb Kc Kc [true] (fun x0 x => Ts x0 x.1)
abbrev Uaw : WF := (85, Sba) :: DaB
theorem La7 : WO Uaw := KO (L := []) (m := []) (v := []) (l := []) VaP Tryz.func85 Ia
abbrev OaY : Ka := .io Jj Kc Kc [true] (fun x0 x => VH x0 x.1)
abbrev Jam : WF := (124, OaY) :: Uaw
def Lah : La := ⟨41, ⟨[(0, (.own 500000 Qb true)), (1, Da), (5, Da)], []⟩, 0, ⟨[(0, (.own 500000 Qb true)), (1, Da)], []⟩, ⟨[], []⟩, EE⟩
def SaU : WL := [(2, Lah)]
theorem BaF : Qa (WG false Uaw [] [] []) SaU (lp Tryz.f124 0) := Pb 2 (ls := Lah) rfl
theorem VaN : WO Jam := KO La7 Tryz.func124 (Ga BaF Ia)
abbrev Pa9 : Ka := .io (.sl Jj) Kc Kc [true] (fun x0 x => RE x0 x.1)
abbrev GaK : WF := (56, Pa9) :: Jam
def Mau : La := ⟨19, ⟨[(0, (.own 500000 Jj true)), (1, Da), (5, Da)], []⟩, 0, ⟨[(0, (.own 500000 Jj true)), (1, Da)], []⟩, ⟨[], []⟩, ZB⟩
def Fa8 : WL := [(2, Mau)]
theorem CaM : Qa (WG false Jam [(3999, 500000)] [] []) Fa8 (lp Tryz.f56 0) := Pb 2 (ls := Mau) rfl
theorem Ia6 : WO GaK := KO VaN Tryz.func56 (Ga CaM Ia)
abbrev Xa8 : Ka := .io Vb Kc Kc [true] (fun x0 x => BA x0 x.1)
abbrev Baw : WF := (16, Xa8) :: GaK
theorem Qa5 : WO Baw := KO (L := []) (m := []) (v := []) (l := []) Ia6 Tryz.func16 Ia
abbrev Oa4 : Ka := .io Ph Kc Kc [true] (fun x0 x => VL x0 x.1)
abbrev Bap : WF := (291, Oa4) :: Baw
def Tak : La := ⟨34, ⟨[(0, (.own 500000 Yb true)), (1, Da), (5, Da)], []⟩, 0, ⟨[(0, (.own 500000 Yb true)), (1, Da)], []⟩, ⟨[], []⟩, NI⟩
def NaX : WL := [(2, Tak)]
theorem JaI : Qa (WG false Baw [] [] []) NaX (lp Tryz.f291 0) := Pb 2 (ls := Tak) rfl
theorem VaT : WO Bap := KO Qa5 Tryz.func291 (Ga JaI Ia)
abbrev Ca3 : Ka := .io EB Kc Kc [true] (fun x0 x => VJ x0 x.1)
abbrev Fao : WF := (249, Ca3) :: Bap
def Yaj : La := ⟨19, ⟨[(0, (.own 500000 Ph true)), (1, Da), (5, Da)], []⟩, 0, ⟨[(0, (.own 500000 Ph true)), (1, Da)], []⟩, ⟨[], []⟩, RF⟩
def UaW : WL := [(2, Yaj)]
theorem OaH : Qa (WG false Bap [(3999, 500000)] [] []) UaW (lp Tryz.f249 0) := Pb 2 (ls := Yaj) rfl
theorem JaS : WO Fao := KO VaT Tryz.func249 (Ga OaH Ia)
abbrev Da3 : Ka := .io IL Kc Kc [true] (fun x0 x => TL x0 x.1)
abbrev EaC : WF := (250, Da3) :: Fao
def Zaj : La := ⟨52, ⟨[(0, (.own 500000 Xe true)), (1, Da), (5, Da)], []⟩, 0, ⟨[(0, (.own 500000 Xe true)), (1, Da)], []⟩, ⟨[], []⟩, LI⟩
def VaW : WL := [(2, Zaj)]
theorem PaH : Qa (WG false Fao [] [] []) VaW (lp Tryz.f250 0) := Pb 2 (ls := Zaj) rfl
theorem KaS : WO EaC := KO JaS Tryz.func250 (Ga PaH Ia)
abbrev Pa0 : Ka := .io Xb Kc Kc [true] (fun x0 x => Zz x0 x.1)
abbrev EaB : WF := (177, Pa0) :: EaC
theorem WaP : WO EaB := KO (L := []) (m := []) (v := []) (l := []) KaS Tryz.func177 Ia
abbrev Tba : Ka := .io Dc Kc Kc [true] (fun x0 x => Dw x0 x.1)
abbrev XaK : WF := (86, Tba) :: EaB
theorem Ma7 : WO XaK := KO (L := []) (m := []) (v := []) (l := []) WaP Tryz.func86 Ia
abbrev Fa9 : Ka := .io Jc Kc Kc [true] (fun x0 x => Gu x0 x.1)
abbrev Faw : WF := (26, Fa9) :: XaK
theorem Ya5 : WO Faw := KO (L := []) (m := []) (v := []) (l := []) Ma7 Tryz.func26 Ia
abbrev Ga9 : Ka := .io HE Kc Kc [true] (fun x0 x => UL x0 x.1)
abbrev Gaw : WF := (27, Ga9) :: Faw
def Fau : La := ⟨36, ⟨[(0, (.own 500000 Wh true)), (1, Da), (5, Da)], []⟩, 0, ⟨[(0, (.own 500000 Wh true)), (1, Da)], []⟩, ⟨[], []⟩, MI⟩
def Ya7 : WL := [(2, Fau)]
theorem VaL : Qa (WG false Faw [(3999, 500000)] [] []) Ya7 (lp Tryz.f27 0) := Pb 2 (ls := Fau) rfl
theorem Za5 : WO Gaw := KO Ya5 Tryz.func27 (Ga VaL Ia)
abbrev Qa9 : Ka := .pu (.p ZT Kc) Kc [true] (fun x => SG x.1 x.2.1)
abbrev HaK : WF := (57, Qa9) :: Gaw
def Nau : La := ⟨21, ⟨[(0, TN), (1, Da), (5, Da)], []⟩, 0, ⟨[(1, Da)], []⟩, ⟨[(4, Da)], []⟩, RJ⟩
def Ga8 : WL := [(2, Nau)]
theorem DaM : Qa (WG true Gaw [] [] []) Ga8 (lp Tryz.f57 0) := Pb 2 (ls := Nau) rfl
theorem Ja6 : WO HaK := Fd Za5 Tryz.func57 (Ga DaM Ia)
abbrev Uba : Ka := .pu (.p Lb Kc) Kc [true] (fun x => Jq x.1 x.2.1)
abbrev Vaw : WF := (87, Uba) :: HaK
theorem Na7 : WO Vaw := Gc Ja6 Tryz.func87
abbrev Qa0 : Ka := .pu (.p Kt Kc) Kc [true] (fun x => QJ x.1 x.2.1)
abbrev Yam : WF := (178, Qa0) :: Vaw
def Nai : La := ⟨31, ⟨[(0, Vi), (1, Da), (5, Da)], []⟩, 0, ⟨[(1, Da)], []⟩, ⟨[(4, Da)], []⟩, LF⟩
def RaV : WL := [(2, Nai)]
theorem DaG : Qa (WG true Vaw [] [] []) RaV (lp Tryz.f178 0) := Pb 2 (ls := Nai) rfl
theorem XaP : WO Yam := Fd Na7 Tryz.func178 (Ga DaG Ia)
abbrev Ra0 : Ka := .pu FJ Kc [true] (fun x => Xz x.1 x.2.1)
abbrev Zam : WF := (179, Ra0) :: Yam
def Oai : La := ⟨42, ⟨[(0, Zh), (1, Da), (5, Da)], []⟩, 0, ⟨[(1, Da)], []⟩, ⟨[(4, Da)], []⟩, NF⟩
def SaV : WL := [(2, Oai)]
theorem EaG : Qa (WG true Yam [] [] []) SaV (lp Tryz.f179 0) := Pb 2 (ls := Oai) rfl
theorem YaP : WO Zam := Fd XaP Tryz.func179 (Ga EaG Ia)
abbrev Sa0 : Ka := .pu FJ Kc [true] (fun x => UH x.1 x.2.1)
abbrev FaB : WF := (180, Sa0) :: Zam
def Pai : La := ⟨42, ⟨[(0, Zh), (1, Da), (5, Da)], []⟩, 0, ⟨[(1, Da)], []⟩, ⟨[(4, Da)], []⟩, DE⟩
def TaV : WL := [(2, Pai)]
theorem FaG : Qa (WG true Zam [] [] []) TaV (lp Tryz.f180 0) := Pb 2 (ls := Pai) rfl
theorem ZaP : WO FaB := Fd YaP Tryz.func180 (Ga FaG Ia)
abbrev Vba : Ka := .pu (.p Nb Kc) Kc [true] (fun x => Rs x.1 x.2.1)
abbrev Waw : WF := (88, Vba) :: FaB
theorem Oa7 : WO Waw := Gc ZaP Tryz.func88
abbrev Ea5 : Ka := .pu (.p Jj Kc) Kc [true] (fun x => TH x.1 x.2.1)
abbrev Iap : WF := (307, Ea5) :: Waw
def Zak : La := ⟨49, ⟨[(0, (.data Jj)), (1, Da), (5, Da)], []⟩, 0, ⟨[(1, Da)], []⟩, ⟨[(4, Da)], []⟩, CE⟩
def TaX : WL := [(2, Zak)]
theorem PaI : Qa (WG true Waw [] [] []) TaX (lp Tryz.f307 0) := Pb 2 (ls := Zak) rfl
theorem LaU : WO Iap := Fd Oa7 Tryz.func307 (Ga PaI Ia)
abbrev Pa4 : Ka := .pu (.p (.sl Jj) Kc) Kc [true] (fun x => QE x.1 x.2.1)
abbrev RaC : WF := (292, Pa4) :: Iap
def Uak : La := ⟨21, ⟨[(0, CJ), (1, Da), (5, Da)], []⟩, 0, ⟨[(1, Da)], []⟩, ⟨[(4, Da)], []⟩, YB⟩
def OaX : WL := [(2, Uak)]
theorem KaI : Qa (WG true Iap [] [] []) OaX (lp Tryz.f292 0) := Pb 2 (ls := Uak) rfl
theorem WaT : WO RaC := Fd LaU Tryz.func292 (Ga KaI Ia)
abbrev Ea3 : Ka := .pu (.p Vb Kc) Kc [true] (fun x => Yz x.1 x.2.1)
abbrev Gao : WF := (251, Ea3) :: RaC
theorem LaS : WO Gao := Gc WaT Tryz.func251
abbrev Qa4 : Ka := .pu (.p Ph Kc) Kc [true] (fun x => SL x.1 x.2.1)
abbrev Cap : WF := (293, Qa4) :: Gao
def Vak : La := ⟨40, ⟨[(0, (.data Ph)), (1, Da), (5, Da)], []⟩, 0, ⟨[(1, Da)], []⟩, ⟨[(4, Da)], []⟩, KI⟩
def PaX : WL := [(2, Vak)]
theorem LaI : Qa (WG true Gao [] [] []) PaX (lp Tryz.f293 0) := Pb 2 (ls := Vak) rfl
theorem XaT : WO Cap := Fd LaS Tryz.func293 (Ga LaI Ia)
abbrev Fa3 : Ka := .pu (.p EB Kc) Kc [true] (fun x => SJ x.1 x.2.1)
abbrev Hao : WF := (252, Fa3) :: Cap
def Aak : La := ⟨21, ⟨[(0, (.data EB)), (1, Da), (5, Da)], []⟩, 0, ⟨[(1, Da)], []⟩, ⟨[(4, Da)], []⟩, OF⟩
def WaW : WL := [(2, Aak)]
theorem QaH : Qa (WG true Cap [] [] []) WaW (lp Tryz.f252 0) := Pb 2 (ls := Aak) rfl
theorem MaS : WO Hao := Fd XaT Tryz.func252 (Ga QaH Ia)
abbrev Ga3 : Ka := .pu (.p IL Kc) Kc [true] (fun x => RL x.1 x.2.1)
abbrev FaC : WF := (253, Ga3) :: Hao
def Bak : La := ⟨62, ⟨[(0, Ik), (1, Da), (5, Da)], []⟩, 0, ⟨[(1, Da)], []⟩, ⟨[(4, Da)], []⟩, HI⟩
def XaW : WL := [(2, Bak)]
theorem RaH : Qa (WG true Hao [] [] []) XaW (lp Tryz.f253 0) := Pb 2 (ls := Bak) rfl
theorem NaS : WO FaC := Fd MaS Tryz.func253 (Ga RaH Ia)
abbrev Ta0 : Ka := .pu (.p Xb Kc) Kc [true] (fun x => Wz x.1 x.2.1)
abbrev GaB : WF := (181, Ta0) :: FaC
theorem AaQ : WO GaB := Gc NaS Tryz.func181
abbrev Wba : Ka := .pu (.p Dc Kc) Kc [true] (fun x => Cw x.1 x.2.1)
abbrev YaK : WF := (89, Wba) :: GaB
theorem Pa7 : WO YaK := Gc AaQ Tryz.func89
abbrev Ha9 : Ka := .pu (.p Jc Kc) Kc [true] (fun x => Fu x.1 x.2.1)
abbrev Haw : WF := (28, Ha9) :: YaK
theorem Aa6 : WO Haw := Gc Pa7 Tryz.func28
abbrev Ia9 : Ka := .pu (.p HE Kc) Kc [true] (fun x => MD x.1 x.2.1)
abbrev ZaJ : WF := (29, Ia9) :: Haw
def Gau : La := ⟨42, ⟨[(0, (.data HE)), (1, Da), (5, Da)], []⟩, 0, ⟨[(1, Da)], []⟩, ⟨[(4, Da)], []⟩, JI⟩
def Za7 : WL := [(2, Gau)]
theorem WaL : Qa (WG true Haw [] [] []) Za7 (lp Tryz.f29 0) := Pb 2 (ls := Gau) rfl
theorem Ba6 : WO ZaJ := Fd Aa6 Tryz.func29 (Ga WaL Ia)
abbrev s_5 : Ka := .pu (.p Jc IP) Ud [true] (fun x => Um x.1 x.2.1)
abbrev F_5 : WF := (5, s_5) :: ZaJ
theorem E_5 : WO F_5 := Gc Ba6 Tryz.func5
theorem VP : Ij Tryz.prog II 5 s_5 := GaN E_5 (by kernel_rfl)
end
end KF
