/- An evaluator of Go functions on plain data, its soundness, and plain laws on what the functions compute, part 6 (conditions: as each lemma tells). -/
import Derived.Test.YtjpnmcdibgckiaaGreatDoorE
import Derived.Test.YtjpnmcdibgckiaaGreatDoorRows
set_option linter.unusedSimpArgs false
set_option linter.unusedVariables false
namespace Go.Proofs
open Go.Shelf
def Tryz.lays_strings_Split_ren : Go.Shelf.Ren := ⟨fun | 146 => 119 | 221 => 147 | 268 => 159 | 138 => 160 | 143 => 161 | 195 => 166 | 197 => 167 | 218 => 168 | 219 => 169 | 260 => 172 | 217 => 173 | 225 => 174 | 224 => 175 | 267 => 176 | 266 => 179 | 314 => 180 | n => n, fun | 9 => 9 | 31 => 120 | 3 => 3 | 4 => 4 | 0 => 0 | 105 => 191 | 21 => 21 | 5 => 5 | 46 => 178 | 119 => 196 | 139 => 199 | 138 => 198 | 146 => 201 | 51 => 200 | n => n, fun | 1 => 0 | 3 => 1 | 4 => 2 | n => n⟩
theorem Tryz.lays_strings_Split : Go.Proofs.LaysM.n146 Tryz.prog Tryz.lays_strings_Split_ren := {
 mixed := by kernel_rfl
 f138 := Tryz.func160.trans (congrArg some (by kernel_rfl))
 f143 := Tryz.func161.trans (congrArg some (by kernel_rfl))
 f146 := Tryz.func119.trans (congrArg some (by kernel_rfl))
 f195 := Tryz.func166.trans (congrArg some (by kernel_rfl))
 f197 := Tryz.func167.trans (congrArg some (by kernel_rfl))
 f217 := Tryz.func173.trans (congrArg some (by kernel_rfl))
 f218 := Tryz.func168.trans (congrArg some (by kernel_rfl))
 f219 := Tryz.func169.trans (congrArg some (by kernel_rfl))
 f221 := Tryz.func147.trans (congrArg some (by kernel_rfl))
 f224 := Tryz.func175.trans (congrArg some (by kernel_rfl))
 f225 := Tryz.func174.trans (congrArg some (by kernel_rfl))
 f260 := Tryz.func172.trans (congrArg some (by kernel_rfl))
 f266 := Tryz.func179.trans (congrArg some (by kernel_rfl))
 f267 := Tryz.func176.trans (congrArg some (by kernel_rfl))
 f268 := Tryz.func159.trans (congrArg some (by kernel_rfl))
 f314 := Tryz.func180.trans (congrArg some (by kernel_rfl))
 t0 := Tryz.underlying0
 a0 := Tryz.isAgg0
 z0 := Tryz.sizeOf0
 v0 := Tryz.zeroValue0
 t3 := Tryz.underlying3
 a3 := Tryz.isAgg3
 z3 := Tryz.sizeOf3
 v3 := Tryz.zeroValue3
 t4 := Tryz.underlying4
 a4 := Tryz.isAgg4
 z4 := Tryz.sizeOf4
 v4 := Tryz.zeroValue4
 t5 := Tryz.underlying5
 a5 := Tryz.isAgg5
 z5 := Tryz.sizeOf5
 v5 := Tryz.zeroValue5
 t9 := Tryz.underlying9
 a9 := Tryz.isAgg9
 z9 := Tryz.sizeOf9
 v9 := Tryz.zeroValue9
 t21 := Tryz.underlying21
 a21 := Tryz.isAgg21
 z21 := Tryz.sizeOf21
 v21 := Tryz.zeroValue21
 t31 := Tryz.underlying120
 a31 := Tryz.isAgg120
 z31 := Tryz.sizeOf120
 v31 := Tryz.zeroValue120
 t46 := Tryz.underlying178
 a46 := Tryz.isAgg178
 z46 := Tryz.sizeOf178
 v46 := Tryz.zeroValue178
 t51 := Tryz.underlying200
 a51 := Tryz.isAgg200
 z51 := Tryz.sizeOf200
 v51 := Tryz.zeroValue200
 t105 := Tryz.underlying191
 a105 := Tryz.isAgg191
 z105 := Tryz.sizeOf191
 v105 := Tryz.zeroValue191
 t119 := Tryz.underlying196
 a119 := Tryz.isAgg196
 z119 := Tryz.sizeOf196
 t138 := Tryz.underlying198
 a138 := Tryz.isAgg198
 z138 := Tryz.sizeOf198
 v138 := Tryz.zeroValue198
 t139 := Tryz.underlying199
 a139 := Tryz.isAgg199
 z139 := Tryz.sizeOf199
 v139 := Tryz.zeroValue199
 t146 := Tryz.underlying201
 a146 := Tryz.isAgg201
 z146 := Tryz.sizeOf201
 v146 := Tryz.zeroValue201
 g1 := by kernel_rfl
 g3 := by kernel_rfl
 g4 := by kernel_rfl
 i0 := by kernel_rfl
 i3 := by kernel_rfl
 i4 := by kernel_rfl
 i5 := by kernel_rfl
 i9 := by kernel_rfl
 i21 := by kernel_rfl
 i31 := by kernel_rfl
 i46 := by kernel_rfl
 i51 := by kernel_rfl
 i105 := by kernel_rfl
 i138 := by kernel_rfl
 i139 := by kernel_rfl
 i146 := by kernel_rfl
 m1 := by kernel_rfl
 s1_3 := fun w h => Go.Proofs.cell_of_shapedOpen_int (zero := #[.int .i64 0]) (t := 3) h (of_decide_eq_true (by kernel_rfl)) (by kernel_rfl) rfl (by kernel_rfl) (by kernel_rfl) Tryz.underlying3
 m3 := by kernel_rfl
 m4 := by kernel_rfl }
end Go.Proofs
namespace KF
open Go Go.Proofs Go.Proofs.Tryz
def GT : List (Nat × Ty) := [(3, int), (4, .b), (5, Ay), (9, .s), (22, (.sl (.sl Nb))), (24, Bb), (26, Ec), (30, (.sl (.sl Nb))), (32, Bb), (34, Ec), (38, (.sl Ay)), (43, (.sl Kl)), (53, Nb), (55, (.sl Nb)), (57, (.sl (.sl Ec))), (58, (.sl Rj)), (60, Mb), (64, Uc), (67, (.sl Ag)), (71, (.sl int)), (73, Db), (74, (.sl Db)), (90, (.sl Nb)), (99, Kl), (105, Ag), (120, (.sl .s)), (135, (.sl Ec)), (137, Rj), (147, Nb), (162, Ec), (171, (.sl Af)), (173, Af)]
def GA : List (Nat × Ty × Nat) := []
theorem Tal : ((GT.all fun x => Od Tryz.prog x.2 x.1) && (GA.all fun x => DM Tryz.prog x.1 x.2.1 x.2.2)) = true := by kernel_rfl
theorem QW : Tryz.prog.follows .mixedOrders = true := by kernel_rfl
noncomputable abbrev II : Cg := D9 (Tryz.lays_strings_Split_ren.g 1)
noncomputable section
abbrev WP : Program := Tryz.prog
abbrev WF := List (Nat × Na)
abbrev WL := List (Nat × Ra)
abbrev WG (z : Bool) (fs : WF) (m : List (Nat × Nat)) (v l : List Nat) : Le := ⟨GT, fs, m, z, GA, v, l⟩
def WO (fs : WF) : Prop := ∀ z m v l, Ij WP II (WG z fs m v l)
theorem Naw : WO [] := fun _ _ _ _ => NR Tal
theorem wc {f : Nat} {s : Na} {fs : WF} (e : WO fs) (h : Mh WP II f s) : WO ((f, s) :: fs) := fun z m v l => Ij.cons h (e z m v l)
theorem Oaj {f : Nat} {s : Na} {fs : WF} (e : WO fs) (h : Lb fs f = some s) : Mh WP II f s := (e true [] [] []).fn f s h
theorem Ic {z : Bool} {fs : WF} {m : List (Nat × Nat)} {v l : List Nat} {L : WL} {fn : Func} {i : Nat} (r : Nat) {ls : Ra} {R : ls.inT.X → Option (ls.inT.X ⊕ (ls.outT.X ⊕ ls.retT.X))}
 (h3 : ls.F = Za R) (h1 : Zi (lp fn i) = some r := by kernel_rfl) (h2 : (Lb L r) = some ls := by kernel_rfl) (h4 : ∀ x, EE (WG z fs m v l) L ls (lp fn i) x = R x := by intro _; kernel_rfl) : Cb (WG z fs m v l) L (lp fn i) := TR h1 h2 h3 h4
theorem Gd {f : Nat} {fn : Func} {pt rt : Ty} {fr : List Bool} {F : T pt → Option (T rt)} {fs : WF} (e : WO fs) (hf : WP.funcs[f]? = some fn)
 (hb : (fn.body.isSome && !(fn.name == "runtime.NumGoroutine") && Nat.ble pt.npar fn.ntmps && Nat.beq (Vd (fn.body.getD .skip)).length 0) = true := by kernel_rfl)
 (hF : ∀ x, Q4 (WG true fs [] [] []) [] fn pt rt fr x = F x := by intro _; kernel_rfl) : WO ((f, .pu pt rt fr F) :: fs) := wc e (LJ (e _ _ _ _) QW hf hb Oa hF)
theorem Te {k : Nat} {L : WL} {m : List (Nat × Nat)} {v l : List Nat} {f : Nat} {fn : Func} {pt rt : Ty} {fr : List Bool} {F : T pt → Option (T rt)} {fs : WF} (e : WO fs) (hf : WP.funcs[f]? = some fn) (hL : ∀ i, i < k → Cb (WG true fs m v l) L (lp fn i))
 (hb : (fn.body.isSome && !(fn.name == "runtime.NumGoroutine") && Nat.ble pt.npar fn.ntmps && Nat.beq (Vd (fn.body.getD .skip)).length k) = true := by kernel_rfl)
 (hF : ∀ x, Q4 (WG true fs m v l) L fn pt rt fr x = F x := by intro _; kernel_rfl) : WO ((f, .pu pt rt fr F) :: fs) := wc e (LJ (e _ _ _ _) QW hf hb hL hF)
theorem wco {k : Nat} {L : WL} {m : List (Nat × Nat)} {v l : List Nat} {f : Nat} {fn : Func} {pt rt : Ty} {fr : List Bool} {F : T pt → Option (T rt)} {fs : WF} (e : WO fs) (hf : WP.funcs[f]? = some fn) (hL : ∀ i, i < k → Cb (WG false fs m v l) L (lp fn i))
 (hb : (fn.body.isSome && !(fn.name == "runtime.NumGoroutine") && Nat.ble pt.npar fn.ntmps && Nat.beq (Vd (fn.body.getD .skip)).length k) = true := by kernel_rfl)
 (hF : ∀ x, ST (WG false fs m v l) L fn pt rt fr x = F x := by intro _; kernel_rfl) : WO ((f, .co pt rt fr F) :: fs) := wc e (C7 (e _ _ _ _) rfl QW hf hb hL hF)
theorem RZ {k : Nat} {L : WL} {m : List (Nat × Nat)} {v l : List Nat} {f : Nat} {fn : Func} {vw cv : Bool} {τ pt rt : Ty} {fr : List Bool} {F : T τ → T pt → Option (T τ × T rt)} {fs : WF} (e : WO fs) (hf : WP.funcs[f]? = some fn) (hL : ∀ i, i < k → Cb (WG false fs m v l) L (lp fn i))
 (hb : (fn.body.isSome && !(fn.name == "runtime.NumGoroutine") && Nat.ble (pt.npar + 1) fn.ntmps && Nat.beq (Vd (fn.body.getD .skip)).length k) = true := by kernel_rfl)
 (hF : ∀ x0 x, RT (WG false fs m v l) L fn vw cv τ pt rt fr x0 x = F x0 x := by intro _ _; kernel_rfl) : WO ((f, .bx vw cv τ pt rt fr F) :: fs) := wc e (A7 (e _ _ _ _) rfl QW hf hb hL hF)
theorem Eas : ∀ w, II.p w → ∃ m, w.cell? ⟨Tryz.lays_strings_Split_ren.g 1, 0, none⟩ = some (.int .i64 m) := fun _ h => h
abbrev Qa : TD := .data int
abbrev Me : Ty := .p .b .u
abbrev Qv : Ty := .sl Nb
abbrev Mg : Ty := .p int .u
abbrev Wt : TD := .data (.sl Rj)
abbrev Ms : Ty := .p Nb .u
abbrev HC : TD := .own 200001 int true
abbrev XA : Ty := .sl Db
abbrev Hi : TD := .ptr 2 []
abbrev NE : TD := .own 200001 Db true
abbrev Cz : Ty := .sl Kl
abbrev Oh : TD := .data .b
abbrev FU : TD := .pr Qa (.pr (.own 200001 Qv true) .un)
abbrev Vt : TD := .data Db
abbrev Sl : TD := .ptr 1 []
abbrev Hn : TD := .ptr 3 []
abbrev Tl : Ty := .sl Ec
abbrev Z3 : TD := .pr (.pr (.pr Qa (.pr (.own 200002 Qv true) .un)) (.pr (.own 200003 Tl true) (.pr Qa (.pr (.own 200004 Rj true) (.data (.p int Me)))))) (.pr (.data Ec) (.pr (.own 200005 Kl true) (.data Nb)))
abbrev Cy : Ty := .p Db .u
abbrev Dz : TD := .data (.sl Qv)
abbrev c4_ : TD := .pr (.pr Qa (.pr Dz .un)) (.pr (.data (.sl Tl)) (.pr Qa (.pr Wt (.data (.p int Me)))))
abbrev Ez : TD := .data Bb
abbrev OE : Ty := .p int (.p .o .u)
abbrev AI : TD := .own 200101 int true
abbrev YA : TD := .data Mb
abbrev EG : Ty := .p (.sl Rj) .u
abbrev FM : TD := .own 200001 Ag true
abbrev EQ : TD := .own 200001 Kl true
abbrev Gz : Ty := .p XA .u
abbrev Dy : TD := .ptr 5 []
abbrev FG : Ty := .p Bb .u
abbrev GM : Ty := .p Bb Af
abbrev Zr : Ty := .sl int
abbrev Pv : TD := .pr Qa (.pr (.data Zr) .un)
abbrev GC : TD := .data Cz
abbrev Uag : TD := .pr FU (.pr (.own 200002 Tl true) (.data (.p int (.p (.sl Rj) (.p int Me)))))
abbrev Pau : Na := .pu (.p Qv Mg) Mg [true] (fun x => Zo x.1 x.2.1)
abbrev U7 : WF := (45, Pau) :: ([] : WF)
theorem Kaq : WO U7 := Gd Naw func45
abbrev Vat : Na := .pu (.p (.sl Qv) Mg) Mg [true] (fun x => Ct x.1 x.2.1)
abbrev Zae : WF := (21, Vat) :: U7
def B5 : Ra := ⟨27, ⟨[(0, Dz), (1, Qa), (5, Qa)], []⟩, 0, ⟨[(1, Qa)], []⟩, ⟨[(4, Qa)], []⟩, Nw⟩
def Gas : WL := [(5, B5)]
theorem Gah : Cb (WG true U7 [] [] []) Gas (lp f21 0) := Ic 5 (ls := B5) rfl
theorem Qap : WO Zae := Te Kaq func21 (La Gah Oa)
abbrev s_5 : Na := .pu (.p Bb Mg) Mg [true] (fun x => Yw x.1 x.2.1)
abbrev F_5 : WF := (5, s_5) :: Zae
theorem E_5 : WO F_5 := Gd Qap func5
abbrev Xam : Na := .pu Ms Ms [true] (fun x => Jr x.1)
abbrev TZ : WF := (101, Xam) :: F_5
theorem Taj : WO TZ := Gd E_5 func101
abbrev Cav : Na := .pu (.p Qv .u) (.p Qv .u) [true] (fun x => Fv x.1)
abbrev Z7 : WF := (58, Cav) :: TZ
def A6 : Ra := ⟨23, ⟨[(0, (.data Qv)), (3, (.own 200001 Nb true)), (4, Qa)], []⟩, 0, ⟨[(3, (.own 200001 Nb true))], []⟩, ⟨[], []⟩, Vx⟩
def Tas : WL := [(3, A6)]
theorem Eai : Cb (WG true TZ [] [] []) Tas (lp f58 0) := Ic 3 (ls := A6) rfl
theorem Xaq : WO Z7 := Te Taj func58 (La Eai Oa)
abbrev Cau : Na := .pu (.p (.sl Qv) .u) (.p (.sl Qv) .u) [true] (fun x => Ky x.1)
abbrev Caf : WF := (28, Cau) :: Z7
def G5 : Ra := ⟨23, ⟨[(0, Dz), (3, (.own 200001 Qv true)), (4, Qa)], []⟩, 0, ⟨[(3, (.own 200001 Qv true))], []⟩, ⟨[], []⟩, Ow⟩
def Jas : WL := [(3, G5)]
theorem Lah : Cb (WG true Z7 [] [] []) Jas (lp f28 0) := Ic 3 (ls := G5) rfl
theorem Xap : WO Caf := Te Xaq func28 (La Lah Oa)
abbrev s_7 : Na := .pu FG FG [true] (fun x => Zl x.1)
abbrev F_7 : WF := (7, s_7) :: Caf
theorem E_7 : WO F_7 := Gd Xap func7
abbrev s_8 : Na := .pu (.p Ec .u) (.p Ec .u) [true] (fun x => Kr x.1)
abbrev F_8 : WF := (8, s_8) :: F_7
theorem E_8 : WO F_8 := Gd E_7 func8
abbrev Vau : Na := .pu Ec Me [true] (fun x => Zb x.1 x.2.1 x.2.2.1)
abbrev Naf : WF := (51, Vau) :: F_8
theorem Qaq : WO Naf := Gd E_8 func51
abbrev Wav : Na := .pu Ms Me [true] (fun x => Bi x.1)
abbrev Y0 : WF := (87, Wav) :: Naf
theorem Rar : WO Y0 := Gd Qaq func87
abbrev Qau : Na := .pu FG Me [true] (fun x => Xj x.1)
abbrev V7 : WF := (46, Qau) :: Y0
def S5 : Ra := ⟨74, ⟨[(1, Sl), (3, Qa), (4, Qa)], [(1, Bb, Ez)]⟩, 2, ⟨[(1, Sl), (3, Qa)], [(1, Bb, Ez)]⟩, ⟨[(2, Oh)], []⟩, Lk⟩
def R5 : Ra := ⟨74, ⟨[(1, Sl), (3, Qa)], [(1, Bb, Ez)]⟩, 0, ⟨[(1, Sl)], [(1, Bb, Ez)]⟩, ⟨[(2, Oh)], []⟩, Kk⟩
def Jag : WL := [(7, S5), (2, R5)]
theorem Wah : Cb (WG true Y0 [] [] []) Jag (lp f46 1) := Ic 7 (ls := S5) rfl
theorem Vah : Cb (WG true Y0 [] [] []) Jag (lp f46 0) := Ic 2 (ls := R5) rfl
theorem Laq : WO V7 := Te Rar func46 (La Wah (La Vah Oa))
abbrev Kan : Na := .pu (.p .s (.p Ay .u)) (.p (.sl .s) .u) [true] (fun x => Pz x.1 x.2.1)
abbrev Taa : WF := (115, Kan) :: V7
def AY : Ra := ⟨36, ⟨[(0, (.data .s)), (1, (.data Ay)), (5, (.own 200001 .s true)), (6, Qa), (7, Qa)], []⟩, 0, ⟨[(5, (.own 200001 .s true))], []⟩, ⟨[], []⟩, Ip⟩
def Aam : WL := [(4, AY)]
theorem Gad : Cb (WG true V7 [] [] []) Aam (lp f115 0) := Ic 4 (ls := AY) rfl
theorem Gak : WO Taa := Te Laq func115 (La Gad Oa)
abbrev Aao : Na := .pu .u (.p (.sl .s) .u) [true] (fun x => Vy)
abbrev Dab : WF := (132, Aao) :: Taa
theorem Wak : WO Dab := Gd Gak func132
abbrev Wam : Na := .pu Mg (.p .s .u) [true] (fun x => Wj x.1)
abbrev Paa : WF := (100, Wam) :: Dab
theorem Saj : WO Paa := Gd Wak func100
abbrev Aav : Na := .pu Af (.p .s .u) [true] (fun x => Jh x.1 x.2.1)
abbrev V0 : WF := (56, Aav) :: Paa
theorem Vaq : WO V0 := Gd Saj func56
abbrev Xav : Na := .pu (.p Ay .u) Af [true, true] (fun x => WB x.1)
abbrev Aag : WF := (88, Xav) :: V0
def K6 : Ra := ⟨23, ⟨[(0, (.data Ay)), (4, Qa), (5, Qa)], []⟩, 2, ⟨[(0, (.data Ay)), (4, Qa)], []⟩, ⟨[(2, Qa), (3, Qa)], []⟩, Re⟩
def J6 : Ra := ⟨23, ⟨[(0, (.data Ay)), (4, Qa)], []⟩, 0, ⟨[], []⟩, ⟨[(2, Qa), (3, Qa)], []⟩, Cw⟩
def Nag : WL := [(5, K6), (2, J6)]
theorem Oai : Cb (WG true V0 [] [] []) Nag (lp f88 1) := Ic 5 (ls := K6) rfl
theorem Nai : Cb (WG true V0 [] [] []) Nag (lp f88 0) := Ic 2 (ls := J6) rfl
theorem Sar : WO Aag := Te Vaq func88 (La Oai (La Nai Oa))
abbrev Pan : Na := .pu Ms Me [true] (fun x => Ui x.1)
abbrev Xaa : WF := (121, Pan) :: Aag
theorem Lak : WO Xaa := Gd Sar func121
abbrev Oan : Na := .pu Ms Ms [true] (fun x => Sy x.1)
abbrev C0 : WF := (120, Oan) :: Xaa
theorem Kak : WO C0 := Gd Lak func120
abbrev Yav : Na := .pu GM Mg [true] (fun x => Wr x.1 x.2.1 x.2.2.1)
abbrev Bag : WF := (89, Yav) :: C0
def L6 : Ra := ⟨50, ⟨[(1, Qa), (2, Qa), (3, Hn), (7, Qa)], [(3, Bb, Ez)]⟩, 0, ⟨[], []⟩, ⟨[(6, Qa)], []⟩, Gj⟩
def Bat : WL := [(2, L6)]
theorem Pai : Cb (WG true C0 [] [] []) Bat (lp f89 0) := Ic 2 (ls := L6) rfl
theorem Tar : WO Bag := Te Kak func89 (La Pai Oa)
abbrev Rau : Na := .pu (.p Bb (.p Ay Mg)) (.p Cz .u) [true] (fun x => Uy x.1 x.2.1 x.2.2.1)
abbrev W7 : WF := (47, Rau) :: Bag
theorem Maq : WO W7 := Gd Tar func47
abbrev Wat : Na := .pu (.p Bb (.p .s .u)) (.p Cz Me) [true, true] (fun x => Kv x.1 x.2.1)
abbrev N7 : WF := (22, Wat) :: W7
def C5 : Ra := ⟨43, ⟨[(1, (.data .s)), (2, Hi), (6, EQ), (7, Qa)], [(2, Bb, Ez)]⟩, 0, ⟨[(6, EQ)], []⟩, ⟨[(4, EQ), (5, Oh)], []⟩, Ep⟩
def Has : WL := [(5, C5)]
theorem Hah : Cb (WG true W7 [] [] []) Has (lp f22 0) := Ic 5 (ls := C5) rfl
theorem Rap : WO N7 := Te Maq func22 (La Hah Oa)
abbrev Zav : Na := .pu EG Me [true] (fun x => Pn x.1)
abbrev I8 : WF := (90, Zav) :: N7
def M6 : Ra := ⟨57, ⟨[(0, Wt), (3, Qa), (4, Qa)], []⟩, 0, ⟨[], []⟩, ⟨[(2, Oh)], []⟩, Nu⟩
def Cat : WL := [(3, M6)]
theorem Qai : Cb (WG true N7 [] [] []) Cat (lp f90 0) := Ic 3 (ls := M6) rfl
theorem Uar : WO I8 := Te Rap func90 (La Qai Oa)
abbrev Qan : Na := .pu (.p (.sl Rj) (.p Ec .u)) Mg [true] (fun x => Pk x.1 x.2.1)
abbrev Yaa : WF := (122, Qan) :: I8
def BY : Ra := ⟨33, ⟨[(0, Wt), (3, Hn), (5, Qa)], [(3, Ec, (.data Ec))]⟩, 0, ⟨[], []⟩, ⟨[(4, Qa)], []⟩, Tu⟩
def Bam : WL := [(2, BY)]
theorem Had : Cb (WG true I8 [] [] []) Bam (lp f122 0) := Ic 2 (ls := BY) rfl
theorem Mak : WO Yaa := Te Uar func122 (La Had Oa)
abbrev Ran : Na := .pu (.p Ec .u) Ms [true] (fun x => Bm x.1)
abbrev Zaa : WF := (123, Ran) :: Yaa
theorem Nak : WO Zaa := Gd Mak func123
abbrev San : Na := .pu (.p (.sl Rj) Mg) EG [true] (fun x => Ve x.1 x.2.1)
abbrev D0 : WF := (124, San) :: Zaa
theorem Oak : WO D0 := Gd Nak func124
abbrev Aaw : Na := .pu (.p Tl .u) Me [true] (fun x => Ou x.1)
abbrev Z0 : WF := (91, Aaw) :: D0
def N6 : Ra := ⟨62, ⟨[(0, (.data Tl)), (3, (.own 200001 Rj true)), (4, Qa)], []⟩, 0, ⟨[(0, (.data Tl)), (3, (.own 200001 Rj true))], []⟩, ⟨[(2, Oh)], []⟩, Es⟩
def Dat : WL := [(3, N6)]
theorem Rai : Cb (WG true D0 [] [] []) Dat (lp f91 0) := Ic 3 (ls := N6) rfl
theorem Var : WO Z0 := Te Oak func91 (La Rai Oa)
abbrev Sau : Na := .pu (.p Mb .u) Me [true] (fun x => Ci x.1)
abbrev X7 : WF := (48, Sau) :: Z0
def T5 : Ra := ⟨96, ⟨[(1, Sl), (3, Qa)], [(1, Mb, YA)]⟩, 0, ⟨[(1, Sl)], [(1, Mb, YA)]⟩, ⟨[(2, Oh)], []⟩, Ik⟩
def U5 : Ra := ⟨96, ⟨[(1, Sl), (4, Qa)], [(1, Mb, YA)]⟩, 2, ⟨[(1, Sl)], [(1, Mb, YA)]⟩, ⟨[(2, Oh)], []⟩, Jk⟩
def Kag : WL := [(4, T5), (9, U5)]
theorem Xah : Cb (WG true Z0 [] [] []) Kag (lp f48 0) := Ic 4 (ls := T5) rfl
theorem Yah : Cb (WG true Z0 [] [] []) Kag (lp f48 1) := Ic 9 (ls := U5) rfl
theorem Naq : WO X7 := Te Var func48 (La Yah (La Xah Oa))
abbrev Baw : Na := .pu FG FG [true] (fun x => JA x.1)
abbrev J8 : WF := (92, Baw) :: X7
def O6 : Ra := ⟨28, ⟨[(1, Sl), (2, Hi), (3, Hn), (4, Qa)], [(1, Bb, Ez), (2, Bb, (.pr Qa (.pr Dz .un))), (3, Bb, FU)]⟩, 0, ⟨[(2, Hi), (3, Hn)], [(2, Bb, (.pr Qa (.pr Dz .un))), (3, Bb, FU)]⟩, ⟨[], []⟩, Su⟩
def Eat : WL := [(3, O6)]
theorem Sai : Cb (WG true X7 [] [] []) Eat (lp f92 0) := Ic 3 (ls := O6) rfl
theorem War : WO J8 := Te Naq func92 (La Sai Oa)
abbrev Tau : Na := .pu (.p Mb .u) (.p Mb .u) [true] (fun x => Dj x.1)
abbrev Laf : WF := (49, Tau) :: J8
def V5 : Ra := ⟨37, ⟨[(1, Sl), (2, Hi), (3, Hn), (4, Qa)], [(1, Mb, YA), (2, Mb, c4_), (3, Mb, Uag)]⟩, 0, ⟨[(1, Sl), (2, Hi), (3, Hn)], [(1, Mb, YA), (2, Mb, c4_), (3, Mb, Uag)]⟩, ⟨[], []⟩, Uu⟩
def Pas : WL := [(5, V5)]
theorem Zah : Cb (WG true J8 [] [] []) Pas (lp f49 0) := Ic 5 (ls := V5) rfl
theorem Oaq : WO Laf := Te War func49 (La Zah Oa)
abbrev Xat : Na := .pu (.p Bb (.p (.sl Tl) .u)) (.p Mb Me) [true, true] (fun x => Mv x.1 x.2.1)
abbrev Aaf : WF := (23, Xat) :: Laf
theorem Sap : WO Aaf := Gd Oaq func23
abbrev Caw : Na := .pu (.p Ec .u) Me [true] (fun x => Nr x.1)
abbrev Cag : WF := (93, Caw) :: Aaf
theorem Xar : WO Cag := Gd Sap func93
abbrev Eaw : Na := .pu Mg Mg [true] (fun x => TE x.1)
abbrev L8 : WF := (95, Eaw) :: Cag
theorem Zar : WO L8 := Gd Xar func95
abbrev Xau : Na := .pu (.p Mb .u) Mg [true] (fun x => Qu x.1)
abbrev Paf : WF := (53, Xau) :: L8
def X5 : Ra := ⟨22, ⟨[(1, Sl), (3, Qa), (4, Qa)], [(1, Mb, YA)]⟩, 0, ⟨[(3, Qa)], []⟩, ⟨[], []⟩, Is⟩
def Ras : WL := [(3, X5)]
theorem Bai : Cb (WG true L8 [] [] []) Ras (lp f53 0) := Ic 3 (ls := X5) rfl
theorem Saq : WO Paf := Te Zar func53 (La Bai Oa)
abbrev Daw : Na := .pu (.p Kl .u) Me [true] (fun x => Mu x.1)
abbrev K8 : WF := (94, Daw) :: Paf
theorem Yar : WO K8 := Gd Saq func94
abbrev Wau : Na := .pu (.p Cz Ec) Me [true] (fun x => Ym x.1 x.2.1 x.2.2.1 x.2.2.2.1)
abbrev Oaf : WF := (52, Wau) :: K8
def W5 : Ra := ⟨73, ⟨[(0, GC), (1, Qa), (2, Qa), (3, Qa), (9, Qa)], []⟩, 0, ⟨[(0, GC)], []⟩, ⟨[(8, Oh)], []⟩, Rn⟩
def Qas : WL := [(2, W5)]
theorem Aai : Cb (WG true K8 [] [] []) Qas (lp f52 0) := Ic 2 (ls := W5) rfl
theorem Raq : WO Oaf := Te Yar func52 (La Aai Oa)
abbrev Uau : Na := .pu (.p Uc .u) Me [true] (fun x => Fp x.1)
abbrev Maf : WF := (50, Uau) :: Oaf
theorem Paq : WO Maf := Gd Raq func50
abbrev Yat : Na := .pu (.p Mb (.p Ec .u)) (.p Uc Me) [true, true] (fun x => Ht x.1 x.2.1)
abbrev O7 : WF := (24, Yat) :: Maf
theorem Tap : WO O7 := Gd Paq func24
abbrev Uan : Na := .pu (.p int EG) Mg [true] (fun x => Pr x.1 x.2.1)
abbrev G0 : WF := (126, Uan) :: O7
def CY : Ra := ⟨38, ⟨[(1, Wt), (5, Qa), (6, Qa)], []⟩, 0, ⟨[(5, Qa)], []⟩, ⟨[], []⟩, Mk⟩
def Cam : WL := [(5, CY)]
theorem Iad : Cb (WG true O7 [] [] []) Cam (lp f126 0) := Ic 5 (ls := CY) rfl
theorem Qak : WO G0 := Te Tap func126 (La Iad Oa)
abbrev Kao : Na := .pu GM Mg [true] (fun x => Qy x.1 x.2.1 x.2.2.1)
abbrev Kab : WF := (148, Kao) :: G0
def MY : Ra := ⟨45, ⟨[(1, Qa), (2, Qa), (3, Hn), (7, Qa)], [(3, Bb, Ez)]⟩, 0, ⟨[], []⟩, ⟨[(6, Qa)], []⟩, Tg⟩
def Lam : WL := [(4, MY)]
theorem Sad : Cb (WG true G0 [] [] []) Lam (lp f148 0) := Ic 4 (ls := MY) rfl
theorem Gal : WO Kab := Te Qak func148 (La Sad Oa)
abbrev Tan : Na := .pu GM Ms [true] (fun x => Lr x.1 x.2.1 x.2.2.1)
abbrev E0 : WF := (125, Tan) :: Kab
theorem Pak : WO E0 := Gd Gal func125
abbrev Van : Na := .pu (.p Ec (.p int (.p int (.p Cz Mg)))) Af [true, true] (fun x => Dx x.1 x.2.1 x.2.2.1 x.2.2.2.1 x.2.2.2.2.1)
abbrev H0 : WF := (127, Van) :: E0
def DY : Ra := ⟨101, ⟨[(1, Qa), (3, GC), (4, Qa), (5, Dy), (12, Qa), (13, Qa), (14, Qa)], [(5, Ec, (.data Ec))]⟩, 0, ⟨[(4, Qa), (12, Qa)], []⟩, ⟨[(10, Qa), (11, Qa)], []⟩, Nq⟩
def Dam : WL := [(6, DY)]
theorem Jad : Cb (WG true E0 [] [] []) Dam (lp f127 0) := Ic 6 (ls := DY) rfl
theorem Rak : WO H0 := Te Pak func127 (La Jad Oa)
abbrev Xan : Na := .pu (.p Mb Mg) Mg [true] (fun x => Qw x.1 x.2.1)
abbrev Bab : WF := (129, Xan) :: H0
def EY : Ra := ⟨22, ⟨[(1, Qa), (2, Hi), (5, Qa)], [(2, Mb, YA)]⟩, 0, ⟨[], []⟩, ⟨[(4, Qa)], []⟩, Lu⟩
def Eam : WL := [(2, EY)]
theorem Kad : Cb (WG true H0 [] [] []) Eam (lp f129 0) := Ic 2 (ls := EY) rfl
theorem Tak : WO Bab := Te Rak func129 (La Kad Oa)
abbrev Lao : Na := .pu Ms Ms [true] (fun x => HA x.1)
abbrev Lab : WF := (149, Lao) :: Bab
theorem Hal : WO Lab := Gd Tak func149
abbrev Wao : Na := .pu Mg Me [true] (fun x => Gt x.1)
abbrev Rab : WF := (170, Wao) :: Lab
theorem Sal : WO Rab := Gd Hal func170
abbrev Sao : Na := .bx false false Mb Ms Ms [true] (fun x0 x => AH x0 x.1)
abbrev Pab : WF := (162, Sao) :: Rab
theorem Oal : WO Pab := RZ (L := []) (m := []) (v := []) (l := []) Sal func162 Oa
abbrev Mao : Na := .bx false false Mb Ms Ms [true] (fun x0 x => Yj x0 x.1)
abbrev YN : WF := (150, Mao) :: Pab
theorem Ial : WO YN := RZ (L := []) (m := []) (v := []) (l := []) Oal func150 Oa
abbrev Zan : Na := .pu EG Cy [true] (fun x => Dd x.1)
abbrev YJ : WF := (131, Zan) :: YN
def GY : Ra := ⟨70, ⟨[(0, Wt), (2, Hi), (3, Hn), (4, Qa)], [(2, Db, Pv), (3, Db, (.pr Qa (.pr HC .un)))]⟩, 0, ⟨[(0, Wt), (2, Hi), (3, Hn)], [(2, Db, Pv), (3, Db, (.pr Qa (.pr HC .un)))]⟩, ⟨[], []⟩, Sq⟩
def IV : Ra := ⟨70, ⟨[(0, Wt), (2, Hi), (3, Hn), (5, Qa), (6, Qa)], [(2, Db, Pv), (3, Db, (.pr Qa (.pr (.own 200201 int true) .un)))]⟩, 4, ⟨[(0, Wt), (2, Hi), (3, Hn), (5, Qa)], [(2, Db, Pv), (3, Db, (.pr Qa (.pr (.own 200201 int true) .un)))]⟩, ⟨[], []⟩, Oj⟩
def HV : Ra := ⟨70, ⟨[(0, Wt), (2, Hi), (3, Hn), (5, Qa)], [(2, Db, Pv), (3, Db, (.pr Qa (.pr AI .un)))]⟩, 2, ⟨[(2, Hi), (3, Hn)], [(2, Db, Pv), (3, Db, (.pr Qa (.pr AI .un)))]⟩, ⟨[], []⟩, Gp⟩
def B1 : WL := [(5, GY), (13, IV), (10, HV)]
theorem Mad : Cb (WG true YN [] [] []) B1 (lp f131 0) := Ic 5 (ls := GY) rfl
theorem I9 : Cb (WG true YN [] [] []) B1 (lp f131 2) := Ic 13 (ls := IV) rfl
theorem H9 : Cb (WG true YN [] [] []) B1 (lp f131 1) := Ic 10 (ls := HV) rfl
theorem Vak : WO YJ := Te Ial func131 (La I9 (La H9 (La Mad Oa)))
abbrev Tao : Na := .pu (.p (.sl Rj) EG) Cy [true] (fun x => Hg x.1 x.2.1)
abbrev Q0 : WF := (163, Tao) :: YJ
def RY : Ra := ⟨77, ⟨[(1, Wt), (4, (.ptr 4 [])), (5, Dy), (6, Qa)], [(4, Db, Pv), (5, Db, (.pr Qa (.pr HC .un)))]⟩, 0, ⟨[(1, Wt), (4, (.ptr 4 [])), (5, Dy)], [(4, Db, Pv), (5, Db, (.pr Qa (.pr HC .un)))]⟩, ⟨[], []⟩, Wq⟩
def JV : Ra := ⟨77, ⟨[(1, Wt), (4, (.ptr 4 [])), (5, Dy), (7, (.own 200201 int true)), (8, Qa), (9, Oh), (10, Qa)], [(4, Db, Pv), (5, Db, (.pr Qa (.pr (.own 200202 int true) .un)))]⟩, 4, ⟨[(1, Wt), (4, (.ptr 4 [])), (5, Dy), (7, (.own 200201 int true)), (8, Qa), (9, Oh)], [(4, Db, Pv), (5, Db, (.pr Qa (.pr (.own 200202 int true) .un)))]⟩, ⟨[], []⟩, Pj⟩
def KV : Ra := ⟨77, ⟨[(1, Wt), (4, (.ptr 4 [])), (5, Dy), (7, (.own 200301 int true)), (8, Qa), (9, Oh), (11, Qa)], [(4, Db, Pv), (5, Db, (.pr Qa (.pr (.own 200302 int true) .un)))]⟩, 6, ⟨[(1, Wt), (4, (.ptr 4 [])), (5, Dy), (7, (.own 200301 int true)), (8, Qa), (9, Oh)], [(4, Db, Pv), (5, Db, (.pr Qa (.pr (.own 200302 int true) .un)))]⟩, ⟨[], []⟩, Qj⟩
def SY : Ra := ⟨77, ⟨[(1, Wt), (4, (.ptr 4 [])), (5, Dy), (7, AI), (8, Qa)], [(4, Db, Pv), (5, Db, (.pr Qa (.pr (.own 200102 int true) .un)))]⟩, 2, ⟨[(4, (.ptr 4 [])), (5, Dy), (7, AI)], [(4, Db, Pv), (5, Db, (.pr Qa (.pr (.own 200102 int true) .un)))]⟩, ⟨[], []⟩, Xq⟩
def CT : WL := [(3, RY), (12, JV), (16, KV), (8, SY)]
theorem Xad : Cb (WG true YJ [] [] []) CT (lp f163 0) := Ic 3 (ls := RY) rfl
theorem J9 : Cb (WG true YJ [] [] []) CT (lp f163 2) := Ic 12 (ls := JV) rfl
theorem K9 : Cb (WG true YJ [] [] []) CT (lp f163 3) := Ic 16 (ls := KV) rfl
theorem Yad : Cb (WG true YJ [] [] []) CT (lp f163 1) := Ic 8 (ls := SY) rfl
theorem Pal : WO Q0 := Te Vak func163 (La K9 (La J9 (La Yad (La Xad Oa))))
abbrev Nao : Na := .pu (.p (.sl Rj) (.p Tl .u)) Gz [true] (fun x => Wh x.1 x.2.1)
abbrev M0 : WF := (151, Nao) :: Q0
def NY : Ra := ⟨60, ⟨[(0, Wt), (1, (.data Tl)), (5, NE), (6, (.own 200002 Rj true)), (7, Qa)], []⟩, 0, ⟨[(5, NE)], []⟩, ⟨[], []⟩, Il⟩
def Mam : WL := [(6, NY)]
theorem Tad : Cb (WG true Q0 [] [] []) Mam (lp f151 0) := Ic 6 (ls := NY) rfl
theorem Jal : WO M0 := Te Pal func151 (La Tad Oa)
abbrev Oao : Na := .pu (.p Db Cy) Me [true] (fun x => Jt x.1 x.2.1)
abbrev Mab : WF := (152, Oao) :: M0
def OY : Ra := ⟨38, ⟨[(2, Hi), (3, Hn), (5, Qa)], [(2, Db, Vt), (3, Db, Vt)]⟩, 0, ⟨[], []⟩, ⟨[(4, Oh)], []⟩, Qn⟩
def Nam : WL := [(4, OY)]
theorem Uad : Cb (WG true M0 [] [] []) Nam (lp f152 0) := Ic 4 (ls := OY) rfl
theorem Kal : WO Mab := Te Jal func152 (La Uad Oa)
abbrev Bav : Na := .pu Cy Cy [true] (fun x => Rw x.1)
abbrev Y7 : WF := (57, Bav) :: Mab
theorem Waq : WO Y7 := Gd Kal func57
abbrev Yan : Na := .pu (.p Db Gz) Gz [true] (fun x => Kf x.1 x.2.1)
abbrev Cab : WF := (130, Yan) :: Y7
def FY : Ra := ⟨34, ⟨[(1, (.data XA)), (2, Hi), (5, NE), (6, Qa)], [(2, Db, Vt)]⟩, 0, ⟨[(5, NE)], []⟩, ⟨[], []⟩, Mp⟩
def Fam : WL := [(3, FY)]
theorem Lad : Cb (WG true Y7 [] [] []) Fam (lp f130 0) := Ic 3 (ls := FY) rfl
theorem Uak : WO Cab := Te Waq func130 (La Lad Oa)
abbrev Wan : Na := .pu (.p Mb (.p int Me)) (.p Mb (.p XA Me)) [true, true, true] (fun x => Cj x.1 x.2.1 x.2.2.1)
abbrev Aab : WF := (128, Wan) :: Cab
theorem Sak : WO Aab := Gd Uak func128
abbrev Faw : Na := .bx false false Uc (.p Kl Mg) (.p XA (.p int Me)) [true, true, true] (fun x0 x => Lp x0 x.1 x.2.1)
abbrev Dag : WF := (96, Faw) :: Aab
theorem Aas : WO Dag := RZ (L := []) (m := []) (v := []) (l := []) Sak func96 Oa
abbrev Gaw : Na := .pu (.p Mb Mg) (.p Mb (.p XA Me)) [true, true, true] (fun x => Pu x.1 x.2.1)
abbrev A1 : WF := (97, Gaw) :: Dag
theorem Bas : WO A1 := Gd Aas func97
abbrev Yau : Na := .bx false false Uc .u (.p (.sl Ag) .u) [true] (fun x0 x => Xr x0)
abbrev Qaf : WF := (54, Yau) :: A1
def UY : Ra := ⟨109, ⟨[(0, (.ptr 500000 [])), (3, (.own 200101 Ag true)), (5, Qa), (6, (.mov 200102 Db)), (13, Qa)], [(500000, Uc, (.pr (.pr (.pr Qa (.pr (.own 200103 Qv true) .un)) (.pr (.own 200104 Tl true) (.pr Qa (.pr (.own 200105 Rj true) (.data (.p int Me)))))) (.pr (.data Ec) (.pr (.own 200106 Kl true) (.data Nb)))))]⟩, 2, ⟨[(0, (.ptr 500000 [])), (3, (.own 200101 Ag true)), (5, Qa)], [(500000, Uc, (.pr (.pr (.pr Qa (.pr (.own 200102 Qv true) .un)) (.pr (.own 200103 Tl true) (.pr Qa (.pr (.own 200104 Rj true) (.data (.p int Me)))))) (.pr (.data Ec) (.pr (.own 200105 Kl true) (.data Nb)))))]⟩, ⟨[], []⟩, Ug⟩
def Y5 : Ra := ⟨109, ⟨[(0, (.ptr 500000 [])), (3, FM)], [(500000, Uc, Z3)]⟩, 0, ⟨[(0, (.ptr 500000 [])), (3, FM)], [(500000, Uc, Z3)]⟩, ⟨[(0, (.ptr 500000 [])), (2, FM)], [(500000, Uc, Z3)]⟩, Dh⟩
def Lag : WL := [(18, UY), (2, Y5)]
theorem Aae : Cb (WG false A1 [] [] [90]) Lag (lp f54 1) := Ic 18 (ls := UY) rfl
theorem Cai : Cb (WG false A1 [] [] [90]) Lag (lp f54 0) := Ic 2 (ls := Y5) rfl
theorem Taq : WO Qaf := RZ Bas func54 (La Aae (La Cai Oa))
abbrev Zat : Na := .pu (.p Uc (.p Cz Mg)) (.p Uc (.p (.sl Ag) Me)) [true, true, true] (fun x => It x.1 x.2.1 x.2.2.1)
abbrev P7 : WF := (25, Zat) :: Qaf
theorem Uap : WO P7 := Gd Taq func25
abbrev Bau : Na := .pu (.p (.sl Ag) .u) Gz [true] (fun x => Nv x.1)
abbrev Q7 : WF := (27, Bau) :: P7
def F5 : Ra := ⟨22, ⟨[(0, (.data (.sl Ag))), (3, NE), (4, Qa)], []⟩, 0, ⟨[(3, NE)], []⟩, ⟨[], []⟩, Hp⟩
def Ias : WL := [(3, F5)]
theorem Kah : Cb (WG true P7 [] [] []) Ias (lp f27 0) := Ic 3 (ls := F5) rfl
theorem Wap : WO Q7 := Te Uap func27 (La Kah Oa)
abbrev Haw : Na := .pu Cy Me [true] (fun x => Mr x.1)
abbrev M8 : WF := (98, Haw) :: Q7
def P6 : Ra := ⟨39, ⟨[(1, Sl), (3, Qa)], [(1, Db, Vt)]⟩, 0, ⟨[(1, Sl)], [(1, Db, Vt)]⟩, ⟨[(2, Oh)], []⟩, Qq⟩
def Fat : WL := [(2, P6)]
theorem Tai : Cb (WG true Q7 [] [] []) Fat (lp f98 0) := Ic 2 (ls := P6) rfl
theorem Cas : WO M8 := Te Wap func98 (La Tai Oa)
abbrev Iaw : Na := .pu (.p Zr Mg) Me [true] (fun x => IA x.1 x.2.1)
abbrev N8 : WF := (99, Iaw) :: M8
def Q6 : Ra := ⟨18, ⟨[(0, (.data Zr)), (1, Qa), (5, Qa)], []⟩, 0, ⟨[], []⟩, ⟨[(4, Oh)], []⟩, Ru⟩
def Gat : WL := [(2, Q6)]
theorem Uai : Cb (WG true M8 [] [] []) Gat (lp f99 0) := Ic 2 (ls := Q6) rfl
theorem Das : WO N8 := Te Cas func99 (La Uai Oa)
abbrev Zau : Na := .pu (.p Db Cy) (.p Zr .u) [true] (fun x => Ry x.1 x.2.1)
abbrev U0 : WF := (55, Zau) :: N8
def Z5 : Ra := ⟨41, ⟨[(2, Hi), (3, Hn), (5, HC), (6, Qa)], [(2, Db, Vt), (3, Db, Vt)]⟩, 0, ⟨[(5, HC)], []⟩, ⟨[], []⟩, Hs⟩
def Sas : WL := [(3, Z5)]
theorem Dai : Cb (WG true N8 [] [] []) Sas (lp f55 0) := Ic 3 (ls := Z5) rfl
theorem Uaq : WO U0 := Te Das func55 (La Dai Oa)
abbrev Aau : Na := .pu (.p Db Gz) (.p .s .u) [true] (fun x => Ov x.1 x.2.1)
abbrev Baf : WF := (26, Aau) :: U0
def E5 : Ra := ⟨44, ⟨[(1, (.data XA)), (2, Hi), (5, (.data .s)), (6, Qa), (7, AI), (8, Qa)], [(2, Db, Vt)]⟩, 2, ⟨[(1, (.data XA)), (2, Hi), (5, (.data .s)), (6, Qa)], [(2, Db, Vt)]⟩, ⟨[], []⟩, Kp⟩
def D5 : Ra := ⟨44, ⟨[(1, (.data XA)), (2, Hi), (5, (.data .s)), (6, Qa)], [(2, Db, Vt)]⟩, 0, ⟨[(5, (.data .s))], []⟩, ⟨[], []⟩, Jp⟩
def Gag : WL := [(7, E5), (3, D5)]
theorem Jah : Cb (WG true U0 [] [] []) Gag (lp f26 1) := Ic 7 (ls := E5) rfl
theorem Iah : Cb (WG true U0 [] [] []) Gag (lp f26 0) := Ic 3 (ls := D5) rfl
theorem Vap : WO Baf := Te Uaq func26 (La Jah (La Iah Oa))
abbrev s_6 : Na := .pu (.p Bb (.p Ec (.p .s .u))) (.p .s Me) [true, true] (fun x => Qr x.1 x.2.1 x.2.2.1)
abbrev F_6 : WF := (6, s_6) :: Baf
theorem E_6 : WO F_6 := Gd Vap func6
abbrev Uav : Na := .pu Mg Me [true] (fun x => Nk x.1)
abbrev Yaf : WF := (85, Uav) :: F_6
theorem Par : WO Yaf := Gd E_6 func85
abbrev Lan : Na := .pu Mg Me [true] (fun x => Mn x.1)
abbrev Uaa : WF := (117, Lan) :: Yaf
theorem Hak : WO Uaa := Gd Par func117
abbrev Man : Na := .pu Mg Me [true] (fun x => Vo x.1)
abbrev Vaa : WF := (118, Man) :: Uaa
theorem Iak : WO Vaa := Gd Hak func118
abbrev Rav : Na := .pu Ms Me [true] (fun x => Zh x.1)
abbrev X0 : WF := (82, Rav) :: Vaa
theorem Mar : WO X0 := Gd Iak func82
abbrev Jau : Na := .pu FG Me [true] (fun x => Wl x.1)
abbrev Iaf : WF := (39, Jau) :: X0
def O5 : Ra := ⟨73, ⟨[(1, Sl), (3, Qa), (28, Dz), (29, Qa), (30, Qa), (40, (.data Qv)), (41, Qa), (42, Qa)], [(1, Bb, Ez)]⟩, 2, ⟨[(1, Sl), (28, Dz), (29, Qa), (30, Qa)], [(1, Bb, Ez)]⟩, ⟨[(2, Oh)], []⟩, Fk⟩
def N5 : Ra := ⟨73, ⟨[(1, Sl), (28, Dz), (29, Qa), (30, Qa)], [(1, Bb, Ez)]⟩, 0, ⟨[], []⟩, ⟨[(2, Oh)], []⟩, Ek⟩
def Iag : WL := [(9, O5), (4, N5)]
theorem Sah : Cb (WG true X0 [] [] []) Iag (lp f39 1) := Ic 9 (ls := O5) rfl
theorem Rah : Cb (WG true X0 [] [] []) Iag (lp f39 0) := Ic 4 (ls := N5) rfl
theorem Eaq : WO Iaf := Te Mar func39 (La Sah (La Rah Oa))
abbrev Nan : Na := .pu (.p .s (.p .s .u)) (.p (.sl .s) .u) [true] (fun x => strings_Split x.1 x.2.1)
abbrev Waa : WF := (119, Nan) :: Iaf
theorem Jak : WO Waa := wc Eaq (BX Tryz.lays_strings_Split (by kernel_rfl) Eas)
abbrev Vav : Na := .pu Mg (.p .s .u) [true] (fun x => Gc x.1)
abbrev Zaf : WF := (86, Vav) :: Waa
theorem Qar : WO Zaf := Gd Jak func86
abbrev Mau : Na := .pu Af (.p .s .u) [true] (fun x => Ih x.1 x.2.1)
abbrev T0 : WF := (42, Mau) :: Zaf
theorem Haq : WO T0 := Gd Qar func42
abbrev Tat : Na := .pu (.p Ay .u) Af [true, true] (fun x => SB x.1)
abbrev Yae : WF := (18, Tat) :: T0
def A5 : Ra := ⟨27, ⟨[(0, (.data Ay)), (5, Qa), (6, Qa), (7, AI), (8, Qa), (9, Qa)], []⟩, 2, ⟨[(0, (.data Ay)), (7, AI), (8, Qa), (9, Qa)], []⟩, ⟨[(2, Qa), (3, Qa)], []⟩, Qe⟩
def Z4 : Ra := ⟨27, ⟨[(0, (.data Ay)), (7, HC), (8, Qa), (9, Qa)], []⟩, 0, ⟨[], []⟩, ⟨[(2, Qa), (3, Qa)], []⟩, Wv⟩
def Fag : WL := [(5, A5), (2, Z4)]
theorem Fah : Cb (WG true T0 [] [] []) Fag (lp f18 1) := Ic 5 (ls := A5) rfl
theorem Eah : Cb (WG true T0 [] [] []) Fag (lp f18 0) := Ic 2 (ls := Z4) rfl
theorem Oap : WO Yae := Te Haq func18 (La Fah (La Eah Oa))
abbrev Oau : Na := .pu Ms Me [true] (fun x => Qk x.1)
abbrev Kaf : WF := (44, Oau) :: Yae
theorem Jaq : WO Kaf := Gd Oap func44
abbrev Uat : Na := .pu Ms Ms [true] (fun x => Jy x.1)
abbrev M7 : WF := (20, Uat) :: Kaf
theorem Pap : WO M7 := Gd Jaq func20
abbrev Nau : Na := .pu GM Mg [true] (fun x => Sr x.1 x.2.1 x.2.2.1)
abbrev Jaf : WF := (43, Nau) :: M7
def Q5 : Ra := ⟨40, ⟨[(1, Qa), (2, Qa), (12, (.data Qv)), (13, Qa), (14, Qa)], []⟩, 0, ⟨[], []⟩, ⟨[(6, Qa)], []⟩, Mm⟩
def Oas : WL := [(2, Q5)]
theorem Uah : Cb (WG true M7 [] [] []) Oas (lp f43 0) := Ic 2 (ls := Q5) rfl
theorem Iaq : WO Jaf := Te Pap func43 (La Uah Oa)
abbrev Kau : Na := .pu (.p Bb (.p Ay Mg)) (.p Cz Me) [true, true] (fun x => Dv x.1 x.2.1 x.2.2.1)
abbrev S7 : WF := (40, Kau) :: Jaf
theorem Faq : WO S7 := Gd Iaq func40
abbrev Sat : Na := .pu (.p Bb (.p .s .u)) (.p Cz Me) [true, true] (fun x => Zu x.1 x.2.1)
abbrev L7 : WF := (14, Sat) :: S7
def Y4 : Ra := ⟨42, ⟨[(1, (.data .s)), (2, Hi), (6, EQ), (7, Qa)], [(2, Bb, Ez)]⟩, 0, ⟨[(6, EQ)], []⟩, ⟨[(4, EQ), (5, Oh)], []⟩, Po⟩
def Fas : WL := [(5, Y4)]
theorem Dah : Cb (WG true S7 [] [] []) Fas (lp f14 0) := Ic 5 (ls := Y4) rfl
theorem Nap : WO L7 := Te Faq func14 (La Dah Oa)
abbrev Dav : Na := .pu FG FG [true] (fun x => Km x.1)
abbrev A8 : WF := (59, Dav) :: L7
def B6 : Ra := ⟨25, ⟨[(2, Hi), (3, Hn), (10, Dz), (11, Qa), (12, Qa)], [(2, Bb, (.pr Qa (.pr Dz .un))), (3, Bb, FU)]⟩, 0, ⟨[(2, Hi), (3, Hn)], [(2, Bb, (.pr Qa (.pr Dz .un))), (3, Bb, FU)]⟩, ⟨[], []⟩, Kn⟩
def Uas : WL := [(3, B6)]
theorem Fai : Cb (WG true L7 [] [] []) Uas (lp f59 0) := Ic 3 (ls := B6) rfl
theorem Yaq : WO A8 := Te Nap func59 (La Fai Oa)
abbrev Eav : Na := .pu (.p (.sl Tl) .u) (.p (.sl Tl) .u) [true] (fun x => Lm x.1)
abbrev Raf : WF := (60, Eav) :: A8
def C6 : Ra := ⟨19, ⟨[(3, (.own 200001 Tl true)), (6, (.data (.sl Tl))), (7, Qa), (8, Qa)], []⟩, 0, ⟨[(3, (.own 200001 Tl true))], []⟩, ⟨[], []⟩, Ln⟩
def Vas : WL := [(3, C6)]
theorem Gai : Cb (WG true A8 [] [] []) Vas (lp f60 0) := Ic 3 (ls := C6) rfl
theorem Zaq : WO Raf := Te Yaq func60 (La Gai Oa)
abbrev Tav : Na := .pu Af Mg [true] (fun x => Gq x.1 x.2.1)
abbrev H8 : WF := (84, Tav) :: Raf
theorem Oar : WO H8 := Gd Zaq func84
abbrev Yam : Na := .pu EG Me [true] (fun x => Aj x.1)
abbrev UZ : WF := (102, Yam) :: H8
def UX : Ra := ⟨46, ⟨[(3, Qa), (6, Wt), (7, Qa), (8, Qa)], []⟩, 0, ⟨[], []⟩, ⟨[(2, Oh)], []⟩, Au⟩
def Ual : WL := [(3, UX)]
theorem Aad : Cb (WG true H8 [] [] []) Ual (lp f102 0) := Ic 3 (ls := UX) rfl
theorem Uaj : WO UZ := Te Oar func102 (La Aad Oa)
abbrev Bao : Na := .pu (.p (.sl Af) (.p Af .u)) Mg [true] (fun x => Kw x.1 x.2.1)
abbrev J0 : WF := (133, Bao) :: UZ
def HY : Ra := ⟨19, ⟨[(3, Hn), (7, (.data (.sl Af))), (8, Qa), (9, Qa)], [(3, Af, (.data Af))]⟩, 0, ⟨[], []⟩, ⟨[(4, Qa)], []⟩, Hu⟩
def Gam : WL := [(2, HY)]
theorem Nad : Cb (WG true UZ [] [] []) Gam (lp f133 0) := Ic 2 (ls := HY) rfl
theorem Xak : WO J0 := Te Uaj func133 (La Nad Oa)
abbrev Zam : Na := .pu (.p Tl .u) Me [true] (fun x => Bu x.1)
abbrev BT : WF := (103, Zam) :: J0
def VX : Ra := ⟨62, ⟨[(3, (.own 200001 Af true)), (11, (.data Tl)), (12, Qa), (13, Qa)], []⟩, 0, ⟨[(3, (.own 200001 Af true))], []⟩, ⟨[(2, Oh)], []⟩, Bs⟩
def Val : WL := [(5, VX)]
theorem Bad : Cb (WG true J0 [] [] []) Val (lp f103 0) := Ic 5 (ls := VX) rfl
theorem Vaj : WO BT := Te Xak func103 (La Bad Oa)
abbrev Fav : Na := .pu (.p Mb .u) Me [true] (fun x => Sj x.1)
abbrev Saf : WF := (61, Fav) :: BT
def D6 : Ra := ⟨92, ⟨[(1, Sl), (35, (.data (.sl Tl))), (36, Qa), (37, Qa)], [(1, Mb, YA)]⟩, 0, ⟨[(1, Sl)], [(1, Mb, YA)]⟩, ⟨[(2, Oh)], []⟩, Dk⟩
def VY : Ra := ⟨92, ⟨[(1, Sl), (5, Qa), (50, Wt), (51, Qa), (52, Qa)], [(1, Mb, YA)]⟩, 2, ⟨[(1, Sl), (5, Qa)], [(1, Mb, YA)]⟩, ⟨[(2, Oh)], []⟩, Lj⟩
def Mag : WL := [(4, D6), (11, VY)]
theorem Hai : Cb (WG true BT [] [] []) Mag (lp f61 0) := Ic 4 (ls := D6) rfl
theorem Bae : Cb (WG true BT [] [] []) Mag (lp f61 1) := Ic 11 (ls := VY) rfl
theorem Aar : WO Saf := Te Vaj func61 (La Bae (La Hai Oa))
abbrev Dau : Na := .pu (.p Bb (.p (.sl Tl) .u)) (.p Mb Me) [true, true] (fun x => Rk x.1 x.2.1)
abbrev Daf : WF := (29, Dau) :: Saf
theorem Yap : WO Daf := Gd Aar func29
abbrev Gav : Na := .pu (.p Mb .u) (.p Mb .u) [true] (fun x => Qh x.1)
abbrev Taf : WF := (62, Gav) :: Daf
theorem Bar : WO Taf := Gd Yap func62
abbrev Aan : Na := .pu (.p Ec .u) Me [true] (fun x => Er x.1)
abbrev VZ : WF := (104, Aan) :: Taf
theorem Waj : WO VZ := Gd Bar func104
abbrev Lav : Na := .pu EG Mg [true] (fun x => Yl x.1)
abbrev Xaf : WF := (67, Lav) :: VZ
def F6 : Ra := ⟨19, ⟨[(3, Qa), (6, Wt), (7, Qa), (8, Qa)], []⟩, 0, ⟨[(3, Qa)], []⟩, ⟨[], []⟩, Iq⟩
def Xas : WL := [(3, F6)]
theorem Jai : Cb (WG true VZ [] [] []) Xas (lp f67 0) := Ic 3 (ls := F6) rfl
theorem Gar : WO Xaf := Te Waj func67 (La Jai Oa)
abbrev Sav : Na := .pu (.p Kl .u) Me [true] (fun x => Zt x.1)
abbrev G8 : WF := (83, Sav) :: Xaf
theorem Nar : WO G8 := Gd Gar func83
abbrev Lau : Na := .pu (.p Cz Mg) (.p int Me) [true, true] (fun x => DA x.1 x.2.1)
abbrev T7 : WF := (41, Lau) :: G8
def P5 : Ra := ⟨53, ⟨[(0, GC), (1, Qa), (11, GC), (12, Qa), (13, Qa)], []⟩, 0, ⟨[(1, Qa)], []⟩, ⟨[(4, Qa), (5, Oh)], []⟩, Eu⟩
def Nas : WL := [(4, P5)]
theorem Tah : Cb (WG true G8 [] [] []) Nas (lp f41 0) := Ic 4 (ls := P5) rfl
theorem Gaq : WO T7 := Te Nar func41 (La Tah Oa)
abbrev Kav : Na := .pu (.p Cz Af) Me [true] (fun x => Tk x.1 x.2.1 x.2.2.1)
abbrev Waf : WF := (66, Kav) :: T7
def E6 : Ra := ⟨29, ⟨[(0, GC), (1, Qa), (2, Qa), (11, GC), (12, Qa), (13, Qa)], []⟩, 0, ⟨[(0, GC), (1, Qa)], []⟩, ⟨[(6, Oh)], []⟩, Wo⟩
def Was : WL := [(2, E6)]
theorem Iai : Cb (WG true T7 [] [] []) Was (lp f66 0) := Ic 2 (ls := E6) rfl
theorem Far : WO Waf := Te Gaq func66 (La Iai Oa)
abbrev Iav : Na := .pu (.p Cz Mg) Me [true] (fun x => Sk x.1 x.2.1)
abbrev Vaf : WF := (64, Iav) :: Waf
theorem Dar : WO Vaf := Gd Far func64
abbrev Hav : Na := .pu (.p Uc .u) Me [true] (fun x => Qo x.1)
abbrev Uaf : WF := (63, Hav) :: Vaf
theorem Car : WO Uaf := Gd Dar func63
abbrev Eau : Na := .pu (.p Mb (.p Ec .u)) (.p Uc Me) [true, true] (fun x => Us x.1 x.2.1)
abbrev Eaf : WF := (30, Eau) :: Uaf
theorem Zap : WO Eaf := Gd Car func30
abbrev Jav : Na := .pu (.p Uc .u) (.p Uc .u) [true] (fun x => Bl x.1)
abbrev B8 : WF := (65, Jav) :: Eaf
theorem Ear : WO B8 := Gd Zap func65
abbrev Cao : Na := .pu (.p Mb Mg) Mg [true] (fun x => AA x.1 x.2.1)
abbrev Eab : WF := (134, Cao) :: B8
def IY : Ra := ⟨21, ⟨[(1, Qa), (8, Wt), (9, Qa), (10, Qa)], []⟩, 0, ⟨[], []⟩, ⟨[(4, Qa)], []⟩, Yt⟩
def Ham : WL := [(2, IY)]
theorem Oad : Cb (WG true B8 [] [] []) Ham (lp f134 0) := Ic 2 (ls := IY) rfl
theorem Yak : WO Eab := Te Ear func134 (La Oad Oa)
abbrev Ian : Na := .pu (.p Zr .u) (.p Zr .u) [true] (fun x => Xl x.1)
abbrev Saa : WF := (112, Ian) :: Eab
theorem Eak : WO Saa := Gd Yak func112
abbrev Vao : Na := .io Zr .u .u [] (fun x0 _ => sort_Ints x0)
abbrev S0 : WF := (165, Vao) :: Saa
end
end KF
namespace Go.Proofs
open Go.Shelf
def Tryz.lays_sort_Ints_ren : Go.Shelf.Ren := ⟨fun | 191 => 165 | 189 => 171 | 125 => 178 | 257 => 177 | 128 => 190 | 129 => 191 | 294 => 181 | 295 => 182 | 296 => 183 | 297 => 184 | 298 => 185 | 299 => 186 | 216 => 187 | 300 => 188 | 301 => 189 | 328 => 192 | 329 => 193 | 330 => 194 | 331 => 195 | 332 => 196 | 215 => 197 | 343 => 198 | n => n, fun | 28 => 71 | 0 => 0 | 3 => 3 | 46 => 178 | 51 => 200 | 53 => 213 | 4 => 4 | 183 => 205 | 182 => 204 | 131 => 85 | 5 => 5 | 9 => 9 | 218 => 214 | 222 => 218 | 228 => 220 | 229 => 49 | n => n, fun | n => n⟩
theorem Tryz.lays_sort_Ints : Go.Proofs.Lays.n191 Tryz.prog Tryz.lays_sort_Ints_ren := {
 mixed := by kernel_rfl
 f125 := Tryz.func178.trans (congrArg some (by kernel_rfl))
 f128 := Tryz.func190.trans (congrArg some (by kernel_rfl))
 f129 := Tryz.func191.trans (congrArg some (by kernel_rfl))
 f189 := Tryz.func171.trans (congrArg some (by kernel_rfl))
 f191 := Tryz.func165.trans (congrArg some (by kernel_rfl))
 f215 := Tryz.func197.trans (congrArg some (by kernel_rfl))
 f216 := Tryz.func187.trans (congrArg some (by kernel_rfl))
 f257 := Tryz.func177.trans (congrArg some (by kernel_rfl))
 f294 := Tryz.func181.trans (congrArg some (by kernel_rfl))
 f295 := Tryz.func182.trans (congrArg some (by kernel_rfl))
 f296 := Tryz.func183.trans (congrArg some (by kernel_rfl))
 f297 := Tryz.func184.trans (congrArg some (by kernel_rfl))
 f298 := Tryz.func185.trans (congrArg some (by kernel_rfl))
 f299 := Tryz.func186.trans (congrArg some (by kernel_rfl))
 f300 := Tryz.func188.trans (congrArg some (by kernel_rfl))
 f301 := Tryz.func189.trans (congrArg some (by kernel_rfl))
 f328 := Tryz.func192.trans (congrArg some (by kernel_rfl))
 f329 := Tryz.func193.trans (congrArg some (by kernel_rfl))
 f330 := Tryz.func194.trans (congrArg some (by kernel_rfl))
 f331 := Tryz.func195.trans (congrArg some (by kernel_rfl))
 f332 := Tryz.func196.trans (congrArg some (by kernel_rfl))
 f343 := Tryz.func198.trans (congrArg some (by kernel_rfl))
 t0 := Tryz.underlying0
 a0 := Tryz.isAgg0
 z0 := Tryz.sizeOf0
 v0 := Tryz.zeroValue0
 t3 := Tryz.underlying3
 a3 := Tryz.isAgg3
 z3 := Tryz.sizeOf3
 v3 := Tryz.zeroValue3
 t4 := Tryz.underlying4
 a4 := Tryz.isAgg4
 z4 := Tryz.sizeOf4
 v4 := Tryz.zeroValue4
 t5 := Tryz.underlying5
 a5 := Tryz.isAgg5
 z5 := Tryz.sizeOf5
 v5 := Tryz.zeroValue5
 t9 := Tryz.underlying9
 a9 := Tryz.isAgg9
 z9 := Tryz.sizeOf9
 v9 := Tryz.zeroValue9
 t28 := Tryz.underlying71
 a28 := Tryz.isAgg71
 z28 := Tryz.sizeOf71
 v28 := Tryz.zeroValue71
 t46 := Tryz.underlying178
 a46 := Tryz.isAgg178
 z46 := Tryz.sizeOf178
 v46 := Tryz.zeroValue178
 t51 := Tryz.underlying200
 a51 := Tryz.isAgg200
 z51 := Tryz.sizeOf200
 v51 := Tryz.zeroValue200
 t53 := Tryz.underlying213
 a53 := Tryz.isAgg213
 z53 := Tryz.sizeOf213
 v53 := Tryz.zeroValue213
 t131 := Tryz.underlying85
 a131 := Tryz.isAgg85
 z131 := Tryz.sizeOf85
 v131 := Tryz.zeroValue85
 t182 := Tryz.underlying204
 a182 := Tryz.isAgg204
 z182 := Tryz.sizeOf204
 v182 := Tryz.zeroValue204
 t183 := Tryz.underlying205
 a183 := Tryz.isAgg205
 z183 := Tryz.sizeOf205
 v183 := Tryz.zeroValue205
 t218 := Tryz.underlying214
 a218 := Tryz.isAgg214
 z218 := Tryz.sizeOf214
 v218 := Tryz.zeroValue214
 t222 := Tryz.underlying218
 a222 := Tryz.isAgg218
 z222 := Tryz.sizeOf218
 v222 := Tryz.zeroValue218
 t228 := Tryz.underlying220
 a228 := Tryz.isAgg220
 z228 := Tryz.sizeOf220
 v228 := Tryz.zeroValue220
 t229 := Tryz.underlying49
 a229 := Tryz.isAgg49
 z229 := Tryz.sizeOf49
 v229 := Tryz.zeroValue49 }
end Go.Proofs
namespace KF
open Go Go.Proofs Go.Proofs.Tryz
noncomputable section
theorem Ral : WO S0 := wc Eak (C3 Tryz.lays_sort_Ints (by kernel_rfl))
abbrev Han : Na := .pu (.p Zr Mg) Me [true] (fun x => Jw x.1 x.2.1)
abbrev A0 : WF := (111, Han) :: S0
def ZX : Ra := ⟨17, ⟨[(1, Qa), (7, (.data Zr)), (8, Qa), (9, Qa)], []⟩, 0, ⟨[], []⟩, ⟨[(4, Oh)], []⟩, Fu⟩
def Zal : WL := [(2, ZX)]
theorem Fad : Cb (WG true S0 [] [] []) Zal (lp f111 0) := Ic 2 (ls := ZX) rfl
theorem Dak : WO A0 := Te Ral func111 (La Fad Oa)
abbrev Pao : Na := .pu (.p Zr .u) (.p Zr .u) [true] (fun x => Uo x.1)
abbrev N0 : WF := (154, Pao) :: A0
def PY : Ra := ⟨31, ⟨[(4, HC), (11, (.own 200002 int true)), (12, Qa), (13, Qa)], []⟩, 0, ⟨[(4, HC)], []⟩, ⟨[], []⟩, Ds⟩
def Oam : WL := [(5, PY)]
theorem Vad : Cb (WG true A0 [] [] []) Oam (lp f154 0) := Ic 5 (ls := PY) rfl
theorem Lal : WO N0 := Te Dak func154 (La Vad Oa)
abbrev Eao : Na := .pu EG Cy [true] (fun x => Xc x.1)
abbrev K0 : WF := (136, Eao) :: N0
def JY : Ra := ⟨45, ⟨[(2, Hi), (3, Hn), (4, HC), (11, Wt), (12, Qa), (13, Qa)], [(2, Db, Pv), (3, Db, Pv)]⟩, 0, ⟨[(2, Hi), (3, Hn), (4, HC)], [(2, Db, Pv), (3, Db, Pv)]⟩, ⟨[], []⟩, Dq⟩
def Iam : WL := [(6, JY)]
theorem Pad : Cb (WG true N0 [] [] []) Iam (lp f136 0) := Ic 6 (ls := JY) rfl
theorem Aal : WO K0 := Te Lal func136 (La Pad Oa)
abbrev Uao : Na := .pu (.p Zr (.p Zr .u)) Me [true] (fun x => Vw x.1 x.2.1)
abbrev Qab : WF := (164, Uao) :: K0
def TY : Ra := ⟨26, ⟨[(0, (.data Zr)), (1, (.data Zr)), (12, Qa), (13, Qa)], []⟩, 0, ⟨[], []⟩, ⟨[(4, Oh)], []⟩, Jq⟩
def Qam : WL := [(4, TY)]
theorem Zad : Cb (WG true K0 [] [] []) Qam (lp f164 0) := Ic 4 (ls := TY) rfl
theorem Qal : WO Qab := Te Aal func164 (La Zad Oa)
abbrev Lac : Na := .pu (.p Db Cy) Me [true] (fun x => Gm x.1 x.2.1)
abbrev Nab : WF := (153, Lac) :: Qab
theorem Oaa : WO Nab := Gd Qal func153
abbrev Dao : Na := .co (.p Db Gz) Gz [true] (fun x => Nd x.1 x.2.1)
abbrev Fab : WF := (135, Dao) :: Nab
def GTo : List (Nat × Ty) := [(3, int), (73, OE), (74, (.sl OE))]
theorem Eag : ((GTo.all fun x => Od Tryz.prog x.2 x.1) && (([] : List (Nat × Ty × Nat)).all fun x => DM Tryz.prog x.1 x.2.1 x.2.2)) = true := by kernel_rfl
@[reducible] def R8 (c : T Ld → T Ld → Option Bool) : Na := .pu (.p OE (.p (.sl OE) .u)) (.p (.sl OE) .u) [true] (fun x => Y1 c x.1 x.2.1)
def E4 (c : T Ld → T Ld → Option Bool) : Le := ⟨GTo, [(153, YQ c)], [], true, [], [], []⟩
theorem Q8 (I : Cg) (c : T Ld → T Ld → Option Bool) (h : Mh Tryz.prog I 153 (YQ c)) : Ij Tryz.prog I (E4 c) := Ij.cons h (NR Eag)
def IR (c : T Ld → T Ld → Option Bool) : Ra := ⟨25, ⟨[(2, Hi), (5, (.own 200001 OE true)), (8, (.data (.sl OE))), (9, Qa), (10, Qa)], [(2, OE, (.data OE))]⟩, 0, ⟨[(5, (.own 200001 OE true))], []⟩, ⟨[], []⟩, Rr c⟩
def G4 (c : T Ld → T Ld → Option Bool) : List (Nat × Ra) := [(3, IR c)]
theorem Z1 (c : T Ld → T Ld → Option Bool) : Cb (E4 c) (G4 c) (lp Tryz.f135 0) := TR (r := 3) (ls := IR c) (R := fun x => Hz c x.1.1 x.1.2.1 x.1.2.2.1 x.1.2.2.2.1 x.1.2.2.2.2.1 x.2.1) (by kernel_rfl) (by kernel_rfl) rfl (fun x => by kernel_rfl)
theorem S8 (I : Cg) (c : T Ld → T Ld → Option Bool) (h : Mh Tryz.prog I 153 (YQ c)) : Mh Tryz.prog I 135 (R8 c) := LJ (L := G4 c) (k := 1) (Q8 I c h) QW Tryz.func135 (by kernel_rfl) (La (Z1 c) Oa) (fun x => by kernel_rfl)
theorem Zak : WO Fab := wc Oaa (B7 (f2 := 153) (SR := fun x => Gm x.1 x.2.1) (same := Li) Faa (Oaj (s := Lac) Oaa (by kernel_rfl)) (fun I c h => ⟨_, S8 I c h, Tac c⟩))
abbrev Ban : Na := .pu (.p Mb Mg) (.p Mb Gz) [true, true] (fun x => Iu x.1 x.2.1)
abbrev WZ : WF := (105, Ban) :: Fab
theorem Xaj : WO WZ := Gd Zak func105
abbrev Can : Na := .pu (.p int EG) Mg [true] (fun x => Gr x.1 x.2.1)
abbrev XZ : WF := (106, Can) :: WZ
def WX : Ra := ⟨39, ⟨[(5, Qa), (21, Wt), (22, Qa), (23, Qa)], []⟩, 0, ⟨[(5, Qa)], []⟩, ⟨[], []⟩, Ph⟩
def Wal : WL := [(7, WX)]
theorem Cad : Cb (WG true WZ [] [] []) Wal (lp f106 0) := Ic 7 (ls := WX) rfl
theorem Yaj : WO XZ := Te Xaj func106 (La Cad Oa)
abbrev Gao : Na := .pu GM Mg [true] (fun x => Gu x.1 x.2.1 x.2.2.1)
abbrev Hab : WF := (138, Gao) :: XZ
def KY : Ra := ⟨33, ⟨[(1, Qa), (2, Qa), (3, Hn), (7, Qa)], [(3, Bb, Ez)]⟩, 0, ⟨[], []⟩, ⟨[(6, Qa)], []⟩, Sg⟩
def Jam : WL := [(2, KY)]
theorem Qad : Cb (WG true XZ [] [] []) Jam (lp f138 0) := Ic 2 (ls := KY) rfl
theorem Cal : WO Hab := Te Yaj func138 (La Qad Oa)
abbrev Fao : Na := .pu GM Mg [true] (fun x => PC x.1 x.2.1 x.2.2.1)
abbrev Gab : WF := (137, Fao) :: Hab
theorem Bal : WO Gab := Gd Cal func137
abbrev Dan : Na := .pu GM Ms [true] (fun x => Uw x.1 x.2.1 x.2.2.1)
abbrev YZ : WF := (107, Dan) :: Gab
theorem Zaj : WO YZ := Gd Bal func107
abbrev Ean : Na := .pu (.p Ec (.p int (.p int (.p Cz Mg)))) Af [true, true] (fun x => Cr x.1 x.2.1 x.2.2.1 x.2.2.2.1 x.2.2.2.2.1)
abbrev Qaa : WF := (108, Ean) :: YZ
def XX : Ra := ⟨102, ⟨[(1, Qa), (2, Qa), (4, Qa), (5, Dy), (12, Qa), (26, GC), (27, Qa), (28, Qa)], [(5, Ec, (.data Ec))]⟩, 0, ⟨[(2, Qa), (4, Qa), (5, Dy)], [(5, Ec, (.data Ec))]⟩, ⟨[(10, Qa), (11, Qa)], []⟩, Zp⟩
def Xal : WL := [(5, XX)]
theorem Dad : Cb (WG true YZ [] [] []) Xal (lp f108 0) := Ic 5 (ls := XX) rfl
theorem Aak : WO Qaa := Te Zaj func108 (La Dad Oa)
abbrev Hao : Na := .pu Ms Ms [true] (fun x => BA x.1)
abbrev Iab : WF := (139, Hao) :: Qaa
theorem Dal : WO Iab := Gd Aak func139
abbrev Qao : Na := .pu Mg Me [true] (fun x => Ts x.1)
abbrev Oab : WF := (155, Qao) :: Iab
theorem Mal : WO Oab := Gd Dal func155
abbrev Iao : Na := .bx false false Mb Ms Ms [true] (fun x0 x => Nn x0 x.1)
abbrev L0 : WF := (140, Iao) :: Oab
theorem Eal : WO L0 := RZ (L := []) (m := []) (v := []) (l := []) Mal func140 Oa
abbrev Rao : Na := .pu (.p Db (.p (.sl Af) .u)) Cy [true] (fun x => Ce x.1 x.2.1)
abbrev P0 : WF := (156, Rao) :: L0
def QY : Ra := ⟨37, ⟨[(4, (.ptr 4 [])), (5, Dy), (6, HC), (15, (.data (.sl Af))), (16, Qa), (17, Qa)], [(4, Db, Pv), (5, Db, Pv)]⟩, 0, ⟨[(4, (.ptr 4 [])), (5, Dy), (6, HC)], [(4, Db, Pv), (5, Db, Pv)]⟩, ⟨[], []⟩, Xo⟩
def Pam : WL := [(4, QY)]
theorem Wad : Cb (WG true L0 [] [] []) Pam (lp f156 0) := Ic 4 (ls := QY) rfl
theorem Nal : WO P0 := Te Eal func156 (La Wad Oa)
abbrev Jao : Na := .pu (.p (.sl Rj) (.p Tl .u)) Gz [true] (fun x => Vh x.1 x.2.1)
abbrev Jab : WF := (141, Jao) :: P0
def LY : Ra := ⟨74, ⟨[(5, Dy), (6, NE), (7, (.own 200002 Af true)), (22, (.data Tl)), (23, Qa), (24, Qa)], [(5, Db, (.pr Qa (.pr (.own 200003 int true) .un)))]⟩, 0, ⟨[(6, NE)], []⟩, ⟨[], []⟩, Al⟩
def Kam : WL := [(7, LY)]
theorem Rad : Cb (WG true P0 [] [] []) Kam (lp f141 0) := Ic 7 (ls := LY) rfl
theorem Fal : WO Jab := Te Nal func141 (La Rad Oa)
abbrev Fan : Na := .pu (.p Mb (.p int Me)) (.p Mb Gz) [true, true] (fun x => Lg x.1 x.2.1 x.2.2.1)
abbrev Raa : WF := (109, Fan) :: Jab
theorem Bak : WO Raa := Gd Fal func109
abbrev Mav : Na := .bx false false Uc .u (.p XA Me) [true, true] (fun x0 x => Kg x0)
abbrev C8 : WF := (68, Mav) :: Raa
theorem Har : WO C8 := RZ (L := []) (m := []) (v := []) (l := []) Bak func68 Oa
abbrev Nav : Na := .co (.p (.sl Ag) (.p int Gz)) (.p (.sl Ag) .u) [true] (fun x => OA x.1 x.2.1 x.2.2.1)
abbrev D8 : WF := (69, Nav) :: C8
def G6 : Ra := ⟨23, ⟨[(0, FM), (1, Qa), (9, (.mov 200002 Db)), (10, Qa), (11, Qa)], []⟩, 0, ⟨[(0, FM)], []⟩, ⟨[], []⟩, Mx⟩
def Yas : WL := [(2, G6)]
theorem Kai : Cb (WG false C8 [] [] [14]) Yas (lp f69 0) := Ic 2 (ls := G6) rfl
theorem Iar : WO D8 := wco Har func69 (La Kai Oa)
abbrev Fau : Na := .pu (.p Uc (.p Cz Mg)) (.p Uc (.p (.sl Ag) Me)) [true, true, true] (fun x => Vs x.1 x.2.1 x.2.2.1)
abbrev Faf : WF := (31, Fau) :: D8
def H5 : Ra := ⟨86, ⟨[(6, (.ptr 6 [])), (9, (.ptr 9 [])), (10, FM)], [(6, Uc, (.pr c4_ (.pr (.data Ec) (.pr GC (.data Nb))))), (9, Uc, Z3)]⟩, 0, ⟨[(6, (.ptr 6 [])), (9, (.ptr 9 [])), (10, FM)], [(6, Uc, (.pr c4_ (.pr (.data Ec) (.pr GC (.data Nb))))), (9, Uc, Z3)]⟩, ⟨[], []⟩, Ye⟩
def Kas : WL := [(9, H5)]
theorem Mah : Cb (WG true D8 [] [] []) Kas (lp f31 0) := Ic 9 (ls := H5) rfl
theorem Aaq : WO Faf := Te Iar func31 (La Mah Oa)
abbrev Pav : Na := .pu Cy Cy [true] (fun x => Ws x.1)
abbrev E8 : WF := (71, Pav) :: Faf
theorem Kar : WO E8 := Gd Aaq func71
abbrev Hau : Na := .pu (.p (.sl Ag) .u) Gz [true] (fun x => Bv x.1)
abbrev R7 : WF := (33, Hau) :: E8
def K5 : Ra := ⟨20, ⟨[(3, NE), (6, (.data (.sl Ag))), (7, Qa), (8, Qa)], []⟩, 0, ⟨[(3, NE)], []⟩, ⟨[], []⟩, Ro⟩
def Las : WL := [(3, K5)]
theorem Pah : Cb (WG true E8 [] [] []) Las (lp f33 0) := Ic 3 (ls := K5) rfl
theorem Caq : WO R7 := Te Kar func33 (La Pah Oa)
abbrev Gan : Na := .pu Cy Me [true] (fun x => Dr x.1)
abbrev ZZ : WF := (110, Gan) :: R7
def YX : Ra := ⟨39, ⟨[(1, Sl), (14, (.data Zr)), (15, Qa), (16, Qa)], [(1, Db, Vt)]⟩, 0, ⟨[], []⟩, ⟨[(2, Oh)], []⟩, Bq⟩
def Yal : WL := [(4, YX)]
theorem Ead : Cb (WG true R7 [] [] []) Yal (lp f110 0) := Ic 4 (ls := YX) rfl
theorem Cak : WO ZZ := Te Caq func110 (La Ead Oa)
abbrev Oav : Na := .pu (.p Db Cy) (.p Zr .u) [true] (fun x => Iy x.1 x.2.1)
abbrev W0 : WF := (70, Oav) :: ZZ
def H6 : Ra := ⟨34, ⟨[(2, Hi), (5, HC), (17, (.data Zr)), (18, Qa), (19, Qa)], [(2, Db, Vt)]⟩, 0, ⟨[(5, HC)], []⟩, ⟨[], []⟩, Cs⟩
def Zas : WL := [(5, H6)]
theorem Lai : Cb (WG true ZZ [] [] []) Zas (lp f70 0) := Ic 5 (ls := H6) rfl
theorem Jar : WO W0 := Te Cak func70 (La Lai Oa)
abbrev Gau : Na := .pu (.p Db Gz) (.p .s .u) [true] (fun x => Cv x.1 x.2.1)
abbrev Gaf : WF := (32, Gau) :: W0
def J5 : Ra := ⟨34, ⟨[(2, Hi), (5, (.data .s)), (7, (.ptr 7 [])), (10, (.data XA)), (11, Qa), (12, Qa), (18, AI), (19, Qa), (20, Qa)], [(2, Db, Vt), (7, Db, Vt)]⟩, 2, ⟨[(2, Hi), (5, (.data .s)), (7, (.ptr 7 [])), (10, (.data XA)), (11, Qa), (12, Qa)], [(2, Db, Vt), (7, Db, Vt)]⟩, ⟨[], []⟩, To⟩
def I5 : Ra := ⟨34, ⟨[(2, Hi), (5, (.data .s)), (10, (.data XA)), (11, Qa), (12, Qa)], [(2, Db, Vt)]⟩, 0, ⟨[(5, (.data .s))], []⟩, ⟨[], []⟩, So⟩
def Hag : WL := [(6, J5), (3, I5)]
theorem Oah : Cb (WG true W0 [] [] []) Hag (lp f32 1) := Ic 6 (ls := J5) rfl
theorem Nah : Cb (WG true W0 [] [] []) Hag (lp f32 0) := Ic 3 (ls := I5) rfl
theorem Baq : WO Gaf := Te Jar func32 (La Oah (La Nah Oa))
abbrev s_9 : Na := .pu (.p Bb (.p Ec (.p .s .u))) (.p .s Me) [true, true] (fun x => Hr x.1 x.2.1 x.2.2.1)
abbrev F_9 : WF := (9, s_9) :: Gaf
theorem E_9 : WO F_9 := Gd Baq func9
abbrev Jan : Na := .pu (.p Nb Ms) Me [true] (fun x => Ir x.1 x.2.1)
abbrev B0 : WF := (113, Jan) :: F_9
theorem Fak : WO B0 := Gd E_9 func113
abbrev Qav : Na := .pu (.p Qv (.p Qv .u)) Me [true] (fun x => Yo x.1 x.2.1)
abbrev F8 : WF := (72, Qav) :: B0
def I6 : Ra := ⟨27, ⟨[(0, (.data Qv)), (1, (.data Qv)), (5, Qa)], []⟩, 0, ⟨[], []⟩, ⟨[(4, Oh)], []⟩, Ux⟩
def Aat : WL := [(4, I6)]
theorem Mai : Cb (WG true B0 [] [] []) Aat (lp f72 0) := Ic 4 (ls := I6) rfl
theorem Lar : WO F8 := Te Fak func72 (La Mai Oa)
abbrev Iau : Na := .pu (.p (.sl Qv) (.p (.sl Qv) .u)) Me [true] (fun x => Bt x.1 x.2.1)
abbrev Haf : WF := (34, Iau) :: F8
def L5 : Ra := ⟨27, ⟨[(0, Dz), (1, Dz), (5, Qa)], []⟩, 0, ⟨[], []⟩, ⟨[(4, Oh)], []⟩, Mw⟩
def Mas : WL := [(4, L5)]
theorem Qah : Cb (WG true F8 [] [] []) Mas (lp f34 0) := Ic 4 (ls := L5) rfl
theorem Daq : WO Haf := Te Lar func34 (La Qah Oa)
abbrev Rat : Na := .pu (.p Bb FG) Me [true] (fun x => Xw x.1 x.2.1)
abbrev Xae : WF := (10, Rat) :: Haf
theorem Map : WO Xae := Gd Daq func10
abbrev s_3 : Na := .pu (.p Bb (.p Ec (.p .s .u))) Me [true] (fun x => Gk x.1 x.2.1 x.2.2.1)
abbrev F_3 : WF := (3, s_3) :: Xae
theorem E_3 : WO F_3 := Gd Map func3
theorem TC : Mh Tryz.prog II 3 s_3 := Oaj E_3 (by kernel_rfl)
end
end KF
