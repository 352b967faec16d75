/- An evaluator of Go functions on plain data, its soundness, and plain laws on what the functions compute, part 5 (conditions: as each lemma tells). -/
import Derived.Test.YtjpnmcdibgckiaaGreatDoorD
import Derived.Test.YtjpnmcdibgckiaaGreatDoorRows
set_option linter.unusedSimpArgs false
set_option linter.unusedVariables false
namespace Go.Proofs
open Go.Shelf
def Tryz.lays_strings_Split_ren : Go.Shelf.Ren := ⟨fun | 146 => 119 | 221 => 147 | 268 => 159 | 138 => 160 | 143 => 161 | 195 => 166 | 197 => 167 | 218 => 168 | 219 => 169 | 260 => 172 | 217 => 173 | 225 => 174 | 224 => 175 | 267 => 176 | 266 => 179 | 314 => 180 | n => n, fun | 9 => 9 | 31 => 120 | 3 => 3 | 4 => 4 | 0 => 0 | 105 => 191 | 21 => 21 | 5 => 5 | 46 => 178 | 119 => 196 | 139 => 199 | 138 => 198 | 146 => 201 | 51 => 200 | n => n, fun | 1 => 0 | 3 => 1 | 4 => 2 | n => n⟩
theorem Tryz.lays_strings_Split : Go.Proofs.LaysM.n146 Tryz.prog Tryz.lays_strings_Split_ren := {
 mixed := by kernel_rfl
 f138 := Tryz.func160.trans (congrArg some (by kernel_rfl))
 f143 := Tryz.func161.trans (congrArg some (by kernel_rfl))
 f146 := Tryz.func119.trans (congrArg some (by kernel_rfl))
 f195 := Tryz.func166.trans (congrArg some (by kernel_rfl))
 f197 := Tryz.func167.trans (congrArg some (by kernel_rfl))
 f217 := Tryz.func173.trans (congrArg some (by kernel_rfl))
 f218 := Tryz.func168.trans (congrArg some (by kernel_rfl))
 f219 := Tryz.func169.trans (congrArg some (by kernel_rfl))
 f221 := Tryz.func147.trans (congrArg some (by kernel_rfl))
 f224 := Tryz.func175.trans (congrArg some (by kernel_rfl))
 f225 := Tryz.func174.trans (congrArg some (by kernel_rfl))
 f260 := Tryz.func172.trans (congrArg some (by kernel_rfl))
 f266 := Tryz.func179.trans (congrArg some (by kernel_rfl))
 f267 := Tryz.func176.trans (congrArg some (by kernel_rfl))
 f268 := Tryz.func159.trans (congrArg some (by kernel_rfl))
 f314 := Tryz.func180.trans (congrArg some (by kernel_rfl))
 t0 := Tryz.underlying0
 a0 := Tryz.isAgg0
 z0 := Tryz.sizeOf0
 v0 := Tryz.zeroValue0
 t3 := Tryz.underlying3
 a3 := Tryz.isAgg3
 z3 := Tryz.sizeOf3
 v3 := Tryz.zeroValue3
 t4 := Tryz.underlying4
 a4 := Tryz.isAgg4
 z4 := Tryz.sizeOf4
 v4 := Tryz.zeroValue4
 t5 := Tryz.underlying5
 a5 := Tryz.isAgg5
 z5 := Tryz.sizeOf5
 v5 := Tryz.zeroValue5
 t9 := Tryz.underlying9
 a9 := Tryz.isAgg9
 z9 := Tryz.sizeOf9
 v9 := Tryz.zeroValue9
 t21 := Tryz.underlying21
 a21 := Tryz.isAgg21
 z21 := Tryz.sizeOf21
 v21 := Tryz.zeroValue21
 t31 := Tryz.underlying120
 a31 := Tryz.isAgg120
 z31 := Tryz.sizeOf120
 v31 := Tryz.zeroValue120
 t46 := Tryz.underlying178
 a46 := Tryz.isAgg178
 z46 := Tryz.sizeOf178
 v46 := Tryz.zeroValue178
 t51 := Tryz.underlying200
 a51 := Tryz.isAgg200
 z51 := Tryz.sizeOf200
 v51 := Tryz.zeroValue200
 t105 := Tryz.underlying191
 a105 := Tryz.isAgg191
 z105 := Tryz.sizeOf191
 v105 := Tryz.zeroValue191
 t119 := Tryz.underlying196
 a119 := Tryz.isAgg196
 z119 := Tryz.sizeOf196
 t138 := Tryz.underlying198
 a138 := Tryz.isAgg198
 z138 := Tryz.sizeOf198
 v138 := Tryz.zeroValue198
 t139 := Tryz.underlying199
 a139 := Tryz.isAgg199
 z139 := Tryz.sizeOf199
 v139 := Tryz.zeroValue199
 t146 := Tryz.underlying201
 a146 := Tryz.isAgg201
 z146 := Tryz.sizeOf201
 v146 := Tryz.zeroValue201
 g1 := by kernel_rfl
 g3 := by kernel_rfl
 g4 := by kernel_rfl
 i0 := by kernel_rfl
 i3 := by kernel_rfl
 i4 := by kernel_rfl
 i5 := by kernel_rfl
 i9 := by kernel_rfl
 i21 := by kernel_rfl
 i31 := by kernel_rfl
 i46 := by kernel_rfl
 i51 := by kernel_rfl
 i105 := by kernel_rfl
 i138 := by kernel_rfl
 i139 := by kernel_rfl
 i146 := by kernel_rfl
 m1 := by kernel_rfl
 s1_3 := fun w h => Go.Proofs.cell_of_shapedOpen_int (zero := #[.int .i64 0]) (t := 3) h (of_decide_eq_true (by kernel_rfl)) (by kernel_rfl) rfl (by kernel_rfl) (by kernel_rfl) Tryz.underlying3
 m3 := by kernel_rfl
 m4 := by kernel_rfl }
end Go.Proofs
namespace KF
open Go Go.Proofs Go.Proofs.Tryz
def GT : List (Nat × Ty) := [(3, int), (4, .b), (5, Aj), (9, .s), (30, (.sl (.sl Xb))), (32, Pa), (34, Tc), (38, (.sl Aj)), (43, (.sl Co)), (53, Xb), (55, (.sl Xb)), (57, (.sl (.sl Tc))), (58, (.sl Ck)), (60, Sc), (64, We), (67, (.sl Wh)), (71, (.sl int)), (73, Tb), (74, (.sl Tb)), (99, Co), (105, Wh), (119, Ag), (120, (.sl .s)), (135, (.sl Tc)), (137, Ck), (162, Tc), (171, (.sl Be)), (173, Be)]
def GA : List (Nat × Ty × Nat) := []
theorem Zah : ((GT.all fun x => Od Tryz.prog x.2 x.1) && (GA.all fun x => ZI Tryz.prog x.1 x.2.1 x.2.2)) = true := by kernel_rfl
theorem TN : Tryz.prog.follows .mixedOrders = true := by kernel_rfl
noncomputable abbrev II : Cg := N5 (Tryz.lays_strings_Split_ren.g 1)
noncomputable section
abbrev WP : Program := Tryz.prog
abbrev WF := List (Nat × Ta)
abbrev WL := List (Nat × Wa)
abbrev WG (z : Bool) (fs : WF) (m : List (Nat × Nat)) (v l : List Nat) : Ie := ⟨GT, fs, m, z, GA, v, l⟩
def WO (fs : WF) : Prop := ∀ z m v l, Hi WP II (WG z fs m v l)
theorem Car : WO [] := fun _ _ _ _ => EO Zah
theorem wc {f : Nat} {s : Ta} {fs : WF} (e : WO fs) (h : Ah WP II f s) : WO ((f, s) :: fs) := fun z m v l => Hi.cons h (e z m v l)
theorem Gag {f : Nat} {s : Ta} {fs : WF} (e : WO fs) (h : Gb fs f = some s) : Ah WP II f s := (e true [] [] []).fn f s h
theorem Ud {z : Bool} {fs : WF} {m : List (Nat × Nat)} {v l : List Nat} {L : WL} {fn : Func} {i : Nat} (r : Nat) {ls : Wa} {R : ls.inT.X → Option (ls.inT.X ⊕ (ls.outT.X ⊕ ls.retT.X))}
 (h3 : ls.F = Nb R) (h1 : Si (lp fn i) = some r := by kernel_rfl) (h2 : (Gb L r) = some ls := by kernel_rfl) (h4 : ∀ x, EB (WG z fs m v l) L ls (lp fn i) x = R x := by intro _; kernel_rfl) : Mb (WG z fs m v l) L (lp fn i) := UO h1 h2 h3 h4
theorem Pe {f : Nat} {fn : Func} {pt rt : Ty} {fr : List Bool} {F : T pt → Option (T rt)} {fs : WF} (e : WO fs) (hf : WP.funcs[f]? = some fn)
 (hb : (fn.body.isSome && !(fn.name == "runtime.NumGoroutine") && Nat.ble pt.npar fn.ntmps && Nat.beq (Kd (fn.body.getD .skip)).length 0) = true := by kernel_rfl)
 (hF : ∀ x, L0 (WG true fs [] [] []) [] fn pt rt fr x = F x := by intro _; kernel_rfl) : WO ((f, .pu pt rt fr F) :: fs) := wc e (EG (e _ _ _ _) TN hf hb Ra hF)
theorem Dh {k : Nat} {L : WL} {m : List (Nat × Nat)} {v l : List Nat} {f : Nat} {fn : Func} {pt rt : Ty} {fr : List Bool} {F : T pt → Option (T rt)} {fs : WF} (e : WO fs) (hf : WP.funcs[f]? = some fn) (hL : ∀ i, i < k → Mb (WG true fs m v l) L (lp fn i))
 (hb : (fn.body.isSome && !(fn.name == "runtime.NumGoroutine") && Nat.ble pt.npar fn.ntmps && Nat.beq (Kd (fn.body.getD .skip)).length k) = true := by kernel_rfl)
 (hF : ∀ x, L0 (WG true fs m v l) L fn pt rt fr x = F x := by intro _; kernel_rfl) : WO ((f, .pu pt rt fr F) :: fs) := wc e (EG (e _ _ _ _) TN hf hb hL hF)
theorem wco {k : Nat} {L : WL} {m : List (Nat × Nat)} {v l : List Nat} {f : Nat} {fn : Func} {pt rt : Ty} {fr : List Bool} {F : T pt → Option (T rt)} {fs : WF} (e : WO fs) (hf : WP.funcs[f]? = some fn) (hL : ∀ i, i < k → Mb (WG false fs m v l) L (lp fn i))
 (hb : (fn.body.isSome && !(fn.name == "runtime.NumGoroutine") && Nat.ble pt.npar fn.ntmps && Nat.beq (Kd (fn.body.getD .skip)).length k) = true := by kernel_rfl)
 (hF : ∀ x, HQ (WG false fs m v l) L fn pt rt fr x = F x := by intro _; kernel_rfl) : WO ((f, .co pt rt fr F) :: fs) := wc e (E3 (e _ _ _ _) rfl TN hf hb hL hF)
theorem NG {k : Nat} {L : WL} {m : List (Nat × Nat)} {v l : List Nat} {f : Nat} {fn : Func} {vw cv : Bool} {τ pt rt : Ty} {fr : List Bool} {F : T τ → T pt → Option (T τ × T rt)} {fs : WF} (e : WO fs) (hf : WP.funcs[f]? = some fn) (hL : ∀ i, i < k → Mb (WG false fs m v l) L (lp fn i))
 (hb : (fn.body.isSome && !(fn.name == "runtime.NumGoroutine") && Nat.ble (pt.npar + 1) fn.ntmps && Nat.beq (Kd (fn.body.getD .skip)).length k) = true := by kernel_rfl)
 (hF : ∀ x0 x, GQ (WG false fs m v l) L fn vw cv τ pt rt fr x0 x = F x0 x := by intro _ _; kernel_rfl) : WO ((f, .bx vw cv τ pt rt fr F) :: fs) := wc e (C3 (e _ _ _ _) rfl TN hf hb hL hF)
theorem wnw {k : Nat} {L : WL} {m : List (Nat × Nat)} {v l : List Nat} {f : Nat} {fn : Func} {pt τ : Ty} {F : T pt → Option (T τ)} {fs : WF} (e : WO fs) (hf : WP.funcs[f]? = some fn) (hL : ∀ i, i < k → Mb (WG true fs m v l) L (lp fn i))
 (hb : (fn.body.isSome && !(fn.name == "runtime.NumGoroutine") && Nat.ble pt.npar fn.ntmps && Nat.beq (Kd (fn.body.getD .skip)).length k) = true := by kernel_rfl)
 (hF : ∀ x, IQ (WG true fs m v l) L fn pt τ x = F x := by intro _; kernel_rfl) : WO ((f, .nw pt τ F) :: fs) := wc e (G3 (e _ _ _ _) TN hf hb hL hF)
theorem Nan : ∀ w, II.p w → ∃ m, w.cell? ⟨Tryz.lays_strings_Split_ren.g 1, 0, none⟩ = some (.int .i64 m) := fun _ h => h
abbrev Cb : TD := .data int
abbrev Yg : Ty := .p .b .u
abbrev Ki : Ty := .p int .u
abbrev Ep : Ty := .p .s .u
abbrev Fp : TD := .data .s
abbrev Pz : Ty := .p Xb .u
abbrev Qz : TD := .data Pa
abbrev Sk : TD := .data .b
abbrev BD : TD := .own 200001 int true
abbrev LB : Ty := .p int (.p .o .u)
abbrev Yp : TD := .ptr 2 []
abbrev Cr : Ty := .sl Co
abbrev VE : Ty := .p (.sl Tb) .u
abbrev Wx : Ty := .sl Xb
abbrev VN : TD := .pr Cb (.pr (.data (.sl Wx)) .un)
abbrev c5_ : TD := .pr (.pr (.pr Cb (.pr (.own 200002 Wx true) .un)) (.pr (.own 200003 (.sl Tc) true) (.pr Cb (.pr (.own 200004 Ck true) (.data (.p int Yg)))))) (.pr (.data Tc) (.pr (.own 200005 Co true) (.data Xb)))
abbrev Tad : TD := .pr (.pr VN (.pr (.data (.sl (.sl Tc))) (.pr Cb (.pr (.data (.sl Ck)) (.data (.p int Yg)))))) (.pr (.data Tc) (.pr (.data Cr) (.data Xb)))
abbrev Xx : TD := .ptr 1 []
abbrev Ss : Ty := .sl int
abbrev WN : TD := .pr Cb (.pr (.data Ss) .un)
abbrev Sao : Ta := .pu (.p (.sl Aj) .u) Yg [true] (fun x => Jw x.1)
abbrev Q3 : WF := (11, Sao) :: ([] : WF)
theorem Gal : WO Q3 := Pe Car func11
abbrev Iaq : Ta := .nw (.p (.sl Aj) .u) Ag (fun x => Dz x.1)
abbrev Vac : WF := (73, Iaq) :: Q3
def A2 : Wa := ⟨32, ⟨[(0, (.data (.sl Aj))), (3, Cb), (4, Cb)], []⟩, 0, ⟨[(0, (.data (.sl Aj))), (3, Cb)], []⟩, ⟨[], []⟩, Dt⟩
def Cao : WL := [(3, A2)]
theorem Daf : Mb (WG true Q3 [] [] []) Cao (lp f73 0) := Ud 3 (ls := A2) rfl
theorem Wam : WO Vac := wnw Gal func73 (Va Daf Ra)
abbrev Hap : Ta := .nw (.p (.sl Aj) Ki) Ag (fun x => Pt x.1 x.2.1)
abbrev Hac : WF := (35, Hap) :: Vac
theorem Val : WO Hac := wnw (L := []) (m := []) (v := []) (l := []) Wam func35 Ra
abbrev Qaj : Ta := .bx true false Ag .u Ki [true] (fun x0 x => Jk x0)
abbrev O7 : WF := (114, Qaj) :: Hac
theorem Vag : WO O7 := NG (L := []) (m := []) (v := []) (l := []) Val func114 Ra
abbrev Jaq : Ta := .bx true false Ag Ki Ki [true] (fun x0 x => Zg x0 x.1)
abbrev Wac : WF := (74, Jaq) :: O7
theorem Xam : WO Wac := NG (L := []) (m := []) (v := []) (l := []) Vag func74 Ra
abbrev Kaq : Ta := .bx true true Ag (.p (.sl .s) .u) Ep [true] (fun x0 x => Ot x0 x.1)
abbrev G4 : WF := (75, Kaq) :: Wac
theorem Yam : WO G4 := NG (L := []) (m := []) (v := []) (l := []) Xam func75 Ra
abbrev Maq : Ta := .pu (.p (.sl .s) Ep) Ep [true] (fun x => Mp x.1 x.2.1)
abbrev I4 : WF := (77, Maq) :: G4
def C2 : Wa := ⟨27, ⟨[(0, (.data (.sl .s))), (1, Fp), (5, (.own 200001 Aj true)), (6, Cb)], []⟩, 0, ⟨[(5, (.own 200001 Aj true))], []⟩, ⟨[], []⟩, Ak⟩
def Eao : WL := [(3, C2)]
theorem Faf : Mb (WG true G4 [] [] []) Eao (lp f77 0) := Ud 3 (ls := C2) rfl
theorem Aan : WO I4 := Dh Yam func77 (Va Faf Ra)
abbrev Raj : Ta := .pu (.p .s (.p Aj .u)) (.p (.sl .s) .u) [true] (fun x => Ug x.1 x.2.1)
abbrev P7 : WF := (115, Raj) :: I4
def IU : Wa := ⟨36, ⟨[(0, Fp), (1, (.data Aj)), (5, (.own 200001 .s true)), (6, Cb), (7, Cb)], []⟩, 0, ⟨[(5, (.own 200001 .s true))], []⟩, ⟨[], []⟩, Eg⟩
def Gai : WL := [(4, IU)]
theorem Gaa : Mb (WG true I4 [] [] []) Gai (lp f115 0) := Ud 4 (ls := IU) rfl
theorem Wag : WO P7 := Dh Aan func115 (Va Gaa Ra)
abbrev Tap : Ta := .pu Tc Yg [true] (fun x => Jg x.1 x.2.1 x.2.2.1)
abbrev Nac : WF := (51, Tap) :: P7
theorem Ham : WO Nac := Pe Wag func51
abbrev Yaj : Ta := .pu .u (.p (.sl .s) .u) [true] (fun x => Yv)
abbrev U7 : WF := (132, Yaj) :: Nac
theorem Dah : WO U7 := Pe Ham func132
abbrev Eaj : Ta := .pu Ki Ep [true] (fun x => Gf x.1)
abbrev AW : WF := (100, Eaj) :: U7
theorem Jag : WO AW := Pe Dah func100
abbrev Iak : Ta := .pu Ep Ki [true] (fun x => Xm x.1)
abbrev MW : WF := (142, Iak) :: AW
def OU : Wa := ⟨13, ⟨[(0, Fp), (3, Cb)], []⟩, 0, ⟨[], []⟩, ⟨[(2, Cb)], []⟩, Dj⟩
def Mai : WL := [(2, OU)]
theorem Maa : Mb (WG true AW [] [] []) Mai (lp f142 0) := Ud 2 (ls := OU) rfl
theorem Nah : WO MW := Dh Jag func142 (Va Maa Ra)
abbrev Qak : Ta := .pu Ki Ep [true] (fun x => Hd x.1)
abbrev QW : WF := (157, Qak) :: MW
def UU : Wa := ⟨31, ⟨[(0, Cb), (3, Fp), (4, Cb)], []⟩, 0, ⟨[(0, Cb), (3, Fp)], []⟩, ⟨[], []⟩, Dg⟩
def Rai : WL := [(5, UU)]
theorem Raa : Mb (WG true MW [] [] []) Rai (lp f157 0) := Ud 5 (ls := UU) rfl
theorem Vah : WO QW := Dh Nah func157 (Va Raa Ra)
abbrev Kak : Ta := .pu Ep (.p int Yg) [true, true] (fun x => Np x.1)
abbrev NW : WF := (144, Kak) :: QW
def PU : Wa := ⟨62, ⟨[(0, Fp), (4, Fp), (5, Cb), (6, Cb)], []⟩, 0, ⟨[(0, Fp), (4, Fp), (5, Cb)], []⟩, ⟨[(2, Cb), (3, Sk)], []⟩, Te⟩
def Nai : WL := [(8, PU)]
theorem Naa : Mb (WG true QW [] [] []) Nai (lp f144 0) := Ud 8 (ls := PU) rfl
theorem Pah : WO NW := Dh Vah func144 (Va Naa Ra)
abbrev Rak : Ta := .pu Ki Ep [true] (fun x => Vh x.1)
abbrev RW : WF := (158, Rak) :: NW
def VU : Wa := ⟨25, ⟨[(0, Cb), (3, Fp), (4, Cb)], []⟩, 0, ⟨[(3, Fp)], []⟩, ⟨[], []⟩, Ym⟩
def Sai : WL := [(3, VU)]
theorem Saa : Mb (WG true NW [] [] []) Sai (lp f158 0) := Ud 3 (ls := VU) rfl
theorem Wah : WO RW := Dh Pah func158 (Va Saa Ra)
abbrev Lak : Ta := .pu Ep Ki [true] (fun x => Ok x.1)
abbrev C8 : WF := (145, Lak) :: RW
def QU : Wa := ⟨13, ⟨[(0, Fp), (3, Cb)], []⟩, 0, ⟨[], []⟩, ⟨[(2, Cb)], []⟩, Jh⟩
def Oai : WL := [(2, QU)]
theorem Oaa : Mb (WG true RW [] [] []) Oai (lp f145 0) := Ud 2 (ls := QU) rfl
theorem Qah : WO C8 := Dh Wah func145 (Va Oaa Ra)
abbrev Jak : Ta := .pu (.p int (.p .s Ep)) Pz [true] (fun x => Hx x.1 x.2.1 x.2.2.1)
abbrev B8 : WF := (143, Jak) :: C8
theorem Oah : WO B8 := Pe Qah func143
abbrev Waq : Ta := .pu Pz Yg [true] (fun x => Qj x.1)
abbrev Cad : WF := (87, Waq) :: B8
theorem Kan : WO Cad := Pe Oah func87
abbrev Mak : Ta := .pu Pz Ep [true] (fun x => Rd x.1)
abbrev D8 : WF := (146, Mak) :: Cad
theorem Rah : WO D8 := Pe Kan func146
abbrev Saj : Ta := .pu Ep (.p Xb Yg) [true, true] (fun x => Zo x.1)
abbrev YP : WF := (116, Saj) :: D8
theorem Xag : WO YP := Pe Rah func116
abbrev Rap : Ta := .pu (.p Pa .u) Yg [true] (fun x => Ei x.1)
abbrev Y3 : WF := (46, Rap) :: YP
def P1 : Wa := ⟨74, ⟨[(1, Xx), (3, Cb), (4, Cb)], [(1, Pa, Qz)]⟩, 2, ⟨[(1, Xx), (3, Cb)], [(1, Pa, Qz)]⟩, ⟨[(2, Sk)], []⟩, Zj⟩
def O1 : Wa := ⟨74, ⟨[(1, Xx), (3, Cb)], [(1, Pa, Qz)]⟩, 0, ⟨[(1, Xx)], [(1, Pa, Qz)]⟩, ⟨[(2, Sk)], []⟩, Yj⟩
def Kad : WL := [(7, P1), (2, O1)]
theorem Uae : Mb (WG true YP [] [] []) Kad (lp f46 1) := Ud 7 (ls := P1) rfl
theorem Tae : Mb (WG true YP [] [] []) Kad (lp f46 0) := Ud 2 (ls := O1) rfl
theorem Fam : WO Y3 := Dh Xag func46 (Va Uae (Va Tae Ra))
abbrev Laq : Ta := .pu Ep (.p Pa Yg) [false, true] (fun x => Ap x.1)
abbrev H4 : WF := (76, Laq) :: Y3
def B2 : Wa := ⟨57, ⟨[(2, Yp), (4, (.ptr 4 [])), (5, (.own 200001 Xb true)), (6, (.own 200002 .s true)), (7, Cb)], [(2, Pa, VN), (4, Pa, (.pr Cb (.pr (.own 200003 Wx false) .un)))]⟩, 0, ⟨[(2, Yp), (4, (.ptr 4 []))], [(2, Pa, VN), (4, Pa, (.pr Cb (.pr (.own 200001 Wx false) .un)))]⟩, ⟨[(2, Yp), (3, Sk)], [(2, Pa, VN)]⟩, Ml⟩
def Dao : WL := [(5, B2)]
theorem Eaf : Mb (WG true Y3 [(8004, 1000200001), (17999, 1000200001)] [] []) Dao (lp f76 0) := Ud 5 (ls := B2) rfl
theorem Zam : WO H4 := Dh Fam func76 (Va Eaf Ra)
abbrev Iap : Ta := .bx true false Ag .u (.p Pa .u) [false] (fun x0 x => Gx x0)
abbrev V3 : WF := (36, Iap) :: H4
def I1 : Wa := ⟨28, ⟨[(0, (.ptr 500000 [])), (2, Yp), (3, (.own 200001 .s true)), (4, Cb)], [(500000, Ag, (.data Ag)), (2, Pa, VN)]⟩, 0, ⟨[(0, (.ptr 500000 [])), (2, Yp), (3, (.own 200001 .s true))], [(500000, Ag, (.data Ag)), (2, Pa, VN)]⟩, ⟨[], []⟩, Xr⟩
def San : WL := [(3, I1)]
theorem Nae : Mb (WG false H4 [] [] []) San (lp f36 0) := Ud 3 (ls := I1) rfl
theorem Wal : WO V3 := NG Zam func36 (Va Nae Ra)
abbrev Naq : Ta := .bx true false Ag Ki Ep [true] (fun x0 x => Vv x0 x.1)
abbrev Xac : WF := (78, Naq) :: V3
def D2 : Wa := ⟨21, ⟨[(0, (.ptr 500000 [])), (5, Fp), (6, Cb)], [(500000, Ag, (.data Ag))]⟩, 0, ⟨[(0, (.ptr 500000 [])), (5, Fp)], [(500000, Ag, (.data Ag))]⟩, ⟨[], []⟩, Fq⟩
def Fao : WL := [(3, D2)]
theorem Gaf : Mb (WG false V3 [] [] []) Fao (lp f78 0) := Ud 3 (ls := D2) rfl
theorem Ban : WO Xac := NG Wal func78 (Va Gaf Ra)
abbrev Uap : Ta := .pu Be Ep [true] (fun x => Yi x.1 x.2.1)
abbrev UW : WF := (56, Uap) :: Xac
theorem Iam : WO UW := Pe Ban func56
abbrev Xaq : Ta := .pu (.p Aj .u) Be [true, true] (fun x => Bz x.1)
abbrev Dad : WF := (88, Xaq) :: UW
def I2 : Wa := ⟨23, ⟨[(0, (.data Aj)), (4, Cb), (5, Cb)], []⟩, 2, ⟨[(0, (.data Aj)), (4, Cb)], []⟩, ⟨[(2, Cb), (3, Cb)], []⟩, Me⟩
def H2 : Wa := ⟨23, ⟨[(0, (.data Aj)), (4, Cb)], []⟩, 0, ⟨[], []⟩, ⟨[(2, Cb), (3, Cb)], []⟩, Bt⟩
def Mad : WL := [(5, I2), (2, H2)]
theorem Jaf : Mb (WG true UW [] [] []) Mad (lp f88 1) := Ud 5 (ls := I2) rfl
theorem Iaf : Mb (WG true UW [] [] []) Mad (lp f88 0) := Ud 2 (ls := H2) rfl
theorem Lan : WO Dad := Dh Iam func88 (Va Jaf (Va Iaf Ra))
abbrev Xaj : Ta := .pu Pz Yg [true] (fun x => Ns x.1)
abbrev T7 : WF := (121, Xaj) :: Dad
theorem Cah : WO T7 := Pe Lan func121
abbrev Waj : Ta := .pu Pz Pz [true] (fun x => Cz x.1)
abbrev IW : WF := (120, Waj) :: T7
theorem Bah : WO IW := Pe Cah func120
abbrev Yaq : Ta := .pu (.p Pa Be) Ki [true] (fun x => Xp x.1 x.2.1 x.2.2.1)
abbrev Ead : WF := (89, Yaq) :: IW
def J2 : Wa := ⟨50, ⟨[(1, Cb), (2, Cb), (3, (.ptr 3 [])), (7, Cb)], [(3, Pa, Qz)]⟩, 0, ⟨[], []⟩, ⟨[(6, Cb)], []⟩, Ej⟩
def Hao : WL := [(2, J2)]
theorem Kaf : Mb (WG true IW [] [] []) Hao (lp f89 0) := Ud 2 (ls := J2) rfl
theorem Man : WO Ead := Dh Bah func89 (Va Kaf Ra)
abbrev Sap : Ta := .pu (.p Pa (.p Aj Ki)) (.p Cr .u) [true] (fun x => Bo x.1 x.2.1 x.2.2.1)
abbrev Z3 : WF := (47, Sap) :: Ead
theorem Gam : WO Z3 := Pe Man func47
abbrev Oaq : Ta := .pu (.p Pa Ep) Yg [true] (fun x => Uv x.1 x.2.1)
abbrev Yac : WF := (79, Oaq) :: Z3
def E2 : Wa := ⟨21, ⟨[(1, Fp), (2, Yp), (5, Cb)], [(2, Pa, Qz)]⟩, 0, ⟨[(2, Yp)], [(2, Pa, Qz)]⟩, ⟨[(4, Sk)], []⟩, Hl⟩
def Gao : WL := [(2, E2)]
theorem Haf : Mb (WG true Z3 [] [] []) Gao (lp f79 0) := Ud 2 (ls := E2) rfl
theorem Can : WO Yac := Dh Gam func79 (Va Haf Ra)
abbrev Paq : Ta := .bx true false Ag Ki Yg [true] (fun x0 x => Dx x0 x.1)
abbrev J4 : WF := (80, Paq) :: Yac
theorem Dan : WO J4 := NG (L := []) (m := []) (v := []) (l := []) Can func80 Ra
abbrev Jap : Ta := .bx true false Ag (.p Pa .u) Ep [true] (fun x0 x => Xv x0 x.1)
abbrev Iac : WF := (37, Jap) :: J4
def J1 : Wa := ⟨35, ⟨[(0, (.ptr 500000 [])), (3, (.ptr 3 [])), (5, Fp), (6, Fp), (7, Cb)], [(500000, Ag, (.data Ag)), (3, Pa, Qz)]⟩, 0, ⟨[(0, (.ptr 500000 [])), (6, Fp)], [(500000, Ag, (.data Ag))]⟩, ⟨[], []⟩, Gq⟩
def Tan : WL := [(4, J1)]
theorem Oae : Mb (WG false J4 [] [] []) Tan (lp f37 0) := Ud 4 (ls := J1) rfl
theorem Xal : WO Iac := NG Dan func37 (Va Oae Ra)
abbrev Tao : Ta := .pu (.p (.sl Aj) .u) (.p Pa Ep) [false, true] (fun x => Vq x.1)
abbrev Xab : WF := (12, Tao) :: Iac
theorem Hal : WO Xab := Pe Xal func12
abbrev Qaq : Ta := .bx true true Ag (.p Ss .u) Ki [true] (fun x0 x => Ps x0 x.1)
abbrev Zac : WF := (81, Qaq) :: Xab
theorem Ean : WO Zac := NG (L := []) (m := []) (v := []) (l := []) Hal func81 Ra
abbrev Kap : Ta := .bx true false Ag .u (.p Tc .u) [true] (fun x0 x => Pw x0)
abbrev Jac : WF := (38, Kap) :: Zac
theorem Yal : WO Jac := NG (L := []) (m := []) (v := []) (l := []) Ean func38 Ra
abbrev Uao : Ta := .pu (.p (.sl Aj) .u) (.p Tc .u) [true] (fun x => Uq x.1)
abbrev Yab : WF := (13, Uao) :: Jac
theorem Ial : WO Yab := Pe Yal func13
abbrev Uaq : Ta := .pu Ki Yg [true] (fun x => Fk x.1)
abbrev Aad : WF := (85, Uaq) :: Yab
theorem Ian : WO Aad := Pe Ial func85
abbrev Taj : Ta := .pu Ki Yg [true] (fun x => Rm x.1)
abbrev Q7 : WF := (117, Taj) :: Aad
theorem Yag : WO Q7 := Pe Ian func117
abbrev Uaj : Ta := .pu Ki Yg [true] (fun x => Wn x.1)
abbrev R7 : WF := (118, Uaj) :: Q7
theorem Zag : WO R7 := Pe Yag func118
abbrev Raq : Ta := .pu Pz Yg [true] (fun x => Ai x.1)
abbrev WW : WF := (82, Raq) :: R7
theorem Fan : WO WW := Pe Zag func82
abbrev Lap : Ta := .pu (.p Pa .u) Yg [true] (fun x => Bi x.1)
abbrev Kac : WF := (39, Lap) :: WW
def L1 : Wa := ⟨73, ⟨[(1, Xx), (3, Cb), (28, (.data (.sl Wx))), (29, Cb), (30, Cb), (40, (.data Wx)), (41, Cb), (42, Cb)], [(1, Pa, Qz)]⟩, 2, ⟨[(1, Xx), (28, (.data (.sl Wx))), (29, Cb), (30, Cb)], [(1, Pa, Qz)]⟩, ⟨[(2, Sk)], []⟩, Wj⟩
def K1 : Wa := ⟨73, ⟨[(1, Xx), (28, (.data (.sl Wx))), (29, Cb), (30, Cb)], [(1, Pa, Qz)]⟩, 0, ⟨[], []⟩, ⟨[(2, Sk)], []⟩, Vj⟩
def Jad : WL := [(9, L1), (4, K1)]
theorem Qae : Mb (WG true WW [] [] []) Jad (lp f39 1) := Ud 9 (ls := L1) rfl
theorem Pae : Mb (WG true WW [] [] []) Jad (lp f39 0) := Ud 4 (ls := K1) rfl
theorem Zal : WO Kac := Dh Fan func39 (Va Qae (Va Pae Ra))
abbrev Vaj : Ta := .pu (.p .s Ep) (.p (.sl .s) .u) [true] (fun x => strings_Split x.1 x.2.1)
abbrev S7 : WF := (119, Vaj) :: Kac
theorem Aah : WO S7 := wc Zal (IT Tryz.lays_strings_Split (by kernel_rfl) Nan)
abbrev Vaq : Ta := .pu Ki Ep [true] (fun x => Ec x.1)
abbrev Bad : WF := (86, Vaq) :: S7
theorem Jan : WO Bad := Pe Aah func86
abbrev Oap : Ta := .pu Be Ep [true] (fun x => Lh x.1 x.2.1)
abbrev TW : WF := (42, Oap) :: Bad
theorem Cam : WO TW := Pe Jan func42
abbrev Zao : Ta := .pu (.p Aj .u) Be [true, true] (fun x => Lv x.1)
abbrev Cac : WF := (18, Zao) :: TW
def B1 : Wa := ⟨27, ⟨[(0, (.data Aj)), (5, Cb), (6, Cb), (7, (.own 200101 int true)), (8, Cb), (9, Cb)], []⟩, 2, ⟨[(0, (.data Aj)), (7, (.own 200101 int true)), (8, Cb), (9, Cb)], []⟩, ⟨[(2, Cb), (3, Cb)], []⟩, Le⟩
def A1 : Wa := ⟨27, ⟨[(0, (.data Aj)), (7, BD), (8, Cb), (9, Cb)], []⟩, 0, ⟨[], []⟩, ⟨[(2, Cb), (3, Cb)], []⟩, Ws⟩
def Had : WL := [(5, B1), (2, A1)]
theorem Iae : Mb (WG true TW [] [] []) Had (lp f18 1) := Ud 5 (ls := B1) rfl
theorem Hae : Mb (WG true TW [] [] []) Had (lp f18 0) := Ud 2 (ls := A1) rfl
theorem Nal : WO Cac := Dh Cam func18 (Va Iae (Va Hae Ra))
abbrev Qap : Ta := .pu Pz Yg [true] (fun x => Kk x.1)
abbrev Mac : WF := (44, Qap) :: Cac
theorem Eam : WO Mac := Pe Nal func44
abbrev Bap : Ta := .pu Pz Pz [true] (fun x => Ro x.1)
abbrev T3 : WF := (20, Bap) :: Mac
theorem Pal : WO T3 := Pe Eam func20
abbrev Pap : Ta := .pu (.p Pa Be) Ki [true] (fun x => Sm x.1 x.2.1 x.2.2.1)
abbrev Lac : WF := (43, Pap) :: T3
def N1 : Wa := ⟨40, ⟨[(1, Cb), (2, Cb), (12, (.data Wx)), (13, Cb), (14, Cb)], []⟩, 0, ⟨[], []⟩, ⟨[(6, Cb)], []⟩, Dm⟩
def Van : WL := [(2, N1)]
theorem Sae : Mb (WG true T3 [] [] []) Van (lp f43 0) := Ud 2 (ls := N1) rfl
theorem Dam : WO Lac := Dh Pal func43 (Va Sae Ra)
abbrev Map : Ta := .pu (.p Pa (.p Aj Ki)) (.p Cr Yg) [true, true] (fun x => Vn x.1 x.2.1 x.2.2.1)
abbrev W3 : WF := (40, Map) :: Lac
theorem Aam : WO W3 := Pe Dam func40
abbrev Vao : Ta := .pu (.p Pa Ep) (.p Cr Yg) [true, true] (fun x => On x.1 x.2.1)
abbrev R3 : WF := (14, Vao) :: W3
def Y0 : Wa := ⟨42, ⟨[(1, Fp), (2, Yp), (6, (.own 200001 Co true)), (7, Cb)], [(2, Pa, Qz)]⟩, 0, ⟨[(6, (.own 200001 Co true))], []⟩, ⟨[(4, (.own 200001 Co true)), (5, Sk)], []⟩, Pn⟩
def Oan : WL := [(5, Y0)]
theorem Fae : Mb (WG true W3 [] [] []) Oan (lp f14 0) := Ud 5 (ls := Y0) rfl
theorem Jal : WO R3 := Dh Aam func14 (Va Fae Ra)
abbrev Vap : Ta := .pu (.p Pa .u) (.p Pa .u) [true] (fun x => Bm x.1)
abbrev A4 : WF := (59, Vap) :: R3
def T1 : Wa := ⟨25, ⟨[(2, Yp), (3, (.ptr 3 [])), (10, (.data (.sl Wx))), (11, Cb), (12, Cb)], [(2, Pa, VN), (3, Pa, (.pr Cb (.pr (.own 200001 Wx true) .un)))]⟩, 0, ⟨[(2, Yp), (3, (.ptr 3 []))], [(2, Pa, VN), (3, Pa, (.pr Cb (.pr (.own 200001 Wx true) .un)))]⟩, ⟨[], []⟩, Pm⟩
def Wan : WL := [(3, T1)]
theorem Wae : Mb (WG true R3 [] [] []) Wan (lp f59 0) := Ud 3 (ls := T1) rfl
theorem Jam : WO A4 := Dh Jal func59 (Va Wae Ra)
abbrev Wap : Ta := .pu (.p (.sl (.sl Tc)) .u) (.p (.sl (.sl Tc)) .u) [true] (fun x => Cm x.1)
abbrev Oac : WF := (60, Wap) :: A4
def U1 : Wa := ⟨19, ⟨[(3, (.own 200001 (.sl Tc) true)), (6, (.data (.sl (.sl Tc)))), (7, Cb), (8, Cb)], []⟩, 0, ⟨[(3, (.own 200001 (.sl Tc) true))], []⟩, ⟨[], []⟩, Qm⟩
def Xan : WL := [(3, U1)]
theorem Xae : Mb (WG true A4 [] [] []) Xan (lp f60 0) := Ud 3 (ls := U1) rfl
theorem Kam : WO Oac := Dh Jam func60 (Va Xae Ra)
abbrev Taq : Ta := .pu Be Ki [true] (fun x => So x.1 x.2.1)
abbrev L4 : WF := (84, Taq) :: Oac
theorem Han : WO L4 := Pe Kam func84
abbrev Faj : Ta := .pu (.p (.sl Ck) .u) Yg [true] (fun x => Ti x.1)
abbrev BW : WF := (102, Faj) :: L4
def CU : Wa := ⟨46, ⟨[(3, Cb), (6, (.data (.sl Ck))), (7, Cb), (8, Cb)], []⟩, 0, ⟨[], []⟩, ⟨[(2, Sk)], []⟩, Jr⟩
def Aai : WL := [(3, CU)]
theorem Aaa : Mb (WG true L4 [] [] []) Aai (lp f102 0) := Ud 3 (ls := CU) rfl
theorem Kag : WO BW := Dh Han func102 (Va Aaa Ra)
abbrev Zaj : Ta := .pu (.p (.sl Be) (.p Be .u)) Ki [true] (fun x => Lt x.1 x.2.1)
abbrev JW : WF := (133, Zaj) :: BW
def JU : Wa := ⟨19, ⟨[(3, (.ptr 3 [])), (7, (.data (.sl Be))), (8, Cb), (9, Cb)], [(3, Be, (.data Be))]⟩, 0, ⟨[], []⟩, ⟨[(4, Cb)], []⟩, Rr⟩
def Hai : WL := [(2, JU)]
theorem Haa : Mb (WG true BW [] [] []) Hai (lp f133 0) := Ud 2 (ls := JU) rfl
theorem Eah : WO JW := Dh Kag func133 (Va Haa Ra)
abbrev Gaj : Ta := .pu (.p (.sl Tc) .u) Yg [true] (fun x => Kr x.1)
abbrev XP : WF := (103, Gaj) :: JW
def DU : Wa := ⟨62, ⟨[(3, (.own 200001 Be true)), (11, (.data (.sl Tc))), (12, Cb), (13, Cb)], []⟩, 0, ⟨[(3, (.own 200001 Be true))], []⟩, ⟨[(2, Sk)], []⟩, Bq⟩
def Bai : WL := [(5, DU)]
theorem Baa : Mb (WG true JW [] [] []) Bai (lp f103 0) := Ud 5 (ls := DU) rfl
theorem Lag : WO XP := Dh Eah func103 (Va Baa Ra)
abbrev Xap : Ta := .pu (.p Sc .u) Yg [true] (fun x => Lj x.1)
abbrev Pac : WF := (61, Xap) :: XP
def V1 : Wa := ⟨92, ⟨[(1, Xx), (35, (.data (.sl (.sl Tc)))), (36, Cb), (37, Cb)], [(1, Sc, (.data Sc))]⟩, 0, ⟨[(1, Xx)], [(1, Sc, (.data Sc))]⟩, ⟨[(2, Sk)], []⟩, Uj⟩
def XU : Wa := ⟨92, ⟨[(1, Xx), (5, Cb), (50, (.data (.sl Ck))), (51, Cb), (52, Cb)], [(1, Sc, (.data Sc))]⟩, 2, ⟨[(1, Xx), (5, Cb)], [(1, Sc, (.data Sc))]⟩, ⟨[(2, Sk)], []⟩, Hj⟩
def Lad : WL := [(4, V1), (11, XU)]
theorem Yae : Mb (WG true XP [] [] []) Lad (lp f61 0) := Ud 4 (ls := V1) rfl
theorem Uaa : Mb (WG true XP [] [] []) Lad (lp f61 1) := Ud 11 (ls := XU) rfl
theorem Lam : WO Pac := Dh Lag func61 (Va Uaa (Va Yae Ra))
abbrev Cap : Ta := .pu (.p Pa (.p (.sl (.sl Tc)) .u)) (.p Sc Yg) [true, true] (fun x => Lk x.1 x.2.1)
abbrev Dac : WF := (29, Cap) :: Pac
theorem Qal : WO Dac := Pe Lam func29
abbrev Yap : Ta := .pu (.p Sc .u) (.p Sc .u) [true] (fun x => Sh x.1)
abbrev Qac : WF := (62, Yap) :: Dac
theorem Mam : WO Qac := Pe Qal func62
abbrev Haj : Ta := .pu (.p Tc .u) Yg [true] (fun x => Jp x.1)
abbrev CW : WF := (104, Haj) :: Qac
theorem Mag : WO CW := Pe Mam func104
abbrev Daq : Ta := .pu (.p (.sl Ck) .u) Ki [true] (fun x => Pl x.1)
abbrev Uac : WF := (67, Daq) :: CW
def X1 : Wa := ⟨19, ⟨[(3, Cb), (6, (.data (.sl Ck))), (7, Cb), (8, Cb)], []⟩, 0, ⟨[(3, Cb)], []⟩, ⟨[], []⟩, Uo⟩
def Zan : WL := [(3, X1)]
theorem Aaf : Mb (WG true CW [] [] []) Zan (lp f67 0) := Ud 3 (ls := X1) rfl
theorem Ram : WO Uac := Dh Mag func67 (Va Aaf Ra)
abbrev Saq : Ta := .pu (.p Co .u) Yg [true] (fun x => Ir x.1)
abbrev K4 : WF := (83, Saq) :: Uac
theorem Gan : WO K4 := Pe Ram func83
abbrev Nap : Ta := .pu (.p Cr Ki) (.p int Yg) [true, true] (fun x => Vp x.1 x.2.1)
abbrev X3 : WF := (41, Nap) :: K4
def M1 : Wa := ⟨53, ⟨[(0, (.data Cr)), (1, Cb), (11, (.data Cr)), (12, Cb), (13, Cb)], []⟩, 0, ⟨[(1, Cb)], []⟩, ⟨[(4, Cb), (5, Sk)], []⟩, Nr⟩
def Uan : WL := [(4, M1)]
theorem Rae : Mb (WG true K4 [] [] []) Uan (lp f41 0) := Ud 4 (ls := M1) rfl
theorem Bam : WO X3 := Dh Gan func41 (Va Rae Ra)
abbrev Caq : Ta := .pu (.p Cr Be) Yg [true] (fun x => Nk x.1 x.2.1 x.2.2.1)
abbrev Tac : WF := (66, Caq) :: X3
def W1 : Wa := ⟨29, ⟨[(0, (.data Cr)), (1, Cb), (2, Cb), (11, (.data Cr)), (12, Cb), (13, Cb)], []⟩, 0, ⟨[(0, (.data Cr)), (1, Cb)], []⟩, ⟨[(6, Sk)], []⟩, Xn⟩
def Yan : WL := [(2, W1)]
theorem Zae : Mb (WG true X3 [] [] []) Yan (lp f66 0) := Ud 2 (ls := W1) rfl
theorem Qam : WO Tac := Dh Bam func66 (Va Zae Ra)
abbrev Aaq : Ta := .pu (.p Cr Ki) Yg [true] (fun x => Mk x.1 x.2.1)
abbrev Sac : WF := (64, Aaq) :: Tac
theorem Oam : WO Sac := Pe Qam func64
abbrev Zap : Ta := .pu (.p We .u) Yg [true] (fun x => Qn x.1)
abbrev Rac : WF := (63, Zap) :: Sac
theorem Nam : WO Rac := Pe Oam func63
abbrev Dap : Ta := .pu (.p Sc (.p Tc .u)) (.p We Yg) [true, true] (fun x => Kq x.1 x.2.1)
abbrev Eac : WF := (30, Dap) :: Rac
theorem Ral : WO Eac := Pe Nam func30
abbrev Baq : Ta := .pu (.p We .u) (.p We .u) [true] (fun x => Wk x.1)
abbrev B4 : WF := (65, Baq) :: Eac
theorem Pam : WO B4 := Pe Ral func65
abbrev Aak : Ta := .pu (.p Sc Ki) Ki [true] (fun x => Zw x.1 x.2.1)
abbrev V7 : WF := (134, Aak) :: B4
def KU : Wa := ⟨21, ⟨[(1, Cb), (8, (.data (.sl Ck))), (9, Cb), (10, Cb)], []⟩, 0, ⟨[], []⟩, ⟨[(4, Cb)], []⟩, Hr⟩
def Iai : WL := [(2, KU)]
theorem Iaa : Mb (WG true B4 [] [] []) Iai (lp f134 0) := Ud 2 (ls := KU) rfl
theorem Fah : WO V7 := Dh Pam func134 (Va Iaa Ra)
abbrev Paj : Ta := .pu (.p Ss .u) (.p Ss .u) [true] (fun x => Ol x.1)
abbrev N7 : WF := (112, Paj) :: V7
theorem Uag : WO N7 := Pe Fah func112
abbrev Tak : Ta := .io Ss .u .u [] (fun x0 _ => sort_Ints x0)
abbrev SW : WF := (165, Tak) :: N7
end
end KF
namespace Go.Proofs
open Go.Shelf
def Tryz.lays_sort_Ints_ren : Go.Shelf.Ren := ⟨fun | 191 => 165 | 189 => 171 | 125 => 178 | 257 => 177 | 128 => 190 | 129 => 191 | 294 => 181 | 295 => 182 | 296 => 183 | 297 => 184 | 298 => 185 | 299 => 186 | 216 => 187 | 300 => 188 | 301 => 189 | 328 => 192 | 329 => 193 | 330 => 194 | 331 => 195 | 332 => 196 | 215 => 197 | 343 => 198 | n => n, fun | 28 => 71 | 0 => 0 | 3 => 3 | 46 => 178 | 51 => 200 | 53 => 213 | 4 => 4 | 183 => 205 | 182 => 204 | 131 => 85 | 5 => 5 | 9 => 9 | 218 => 214 | 222 => 218 | 228 => 220 | 229 => 49 | n => n, fun | n => n⟩
theorem Tryz.lays_sort_Ints : Go.Proofs.Lays.n191 Tryz.prog Tryz.lays_sort_Ints_ren := {
 mixed := by kernel_rfl
 f125 := Tryz.func178.trans (congrArg some (by kernel_rfl))
 f128 := Tryz.func190.trans (congrArg some (by kernel_rfl))
 f129 := Tryz.func191.trans (congrArg some (by kernel_rfl))
 f189 := Tryz.func171.trans (congrArg some (by kernel_rfl))
 f191 := Tryz.func165.trans (congrArg some (by kernel_rfl))
 f215 := Tryz.func197.trans (congrArg some (by kernel_rfl))
 f216 := Tryz.func187.trans (congrArg some (by kernel_rfl))
 f257 := Tryz.func177.trans (congrArg some (by kernel_rfl))
 f294 := Tryz.func181.trans (congrArg some (by kernel_rfl))
 f295 := Tryz.func182.trans (congrArg some (by kernel_rfl))
 f296 := Tryz.func183.trans (congrArg some (by kernel_rfl))
 f297 := Tryz.func184.trans (congrArg some (by kernel_rfl))
 f298 := Tryz.func185.trans (congrArg some (by kernel_rfl))
 f299 := Tryz.func186.trans (congrArg some (by kernel_rfl))
 f300 := Tryz.func188.trans (congrArg some (by kernel_rfl))
 f301 := Tryz.func189.trans (congrArg some (by kernel_rfl))
 f328 := Tryz.func192.trans (congrArg some (by kernel_rfl))
 f329 := Tryz.func193.trans (congrArg some (by kernel_rfl))
 f330 := Tryz.func194.trans (congrArg some (by kernel_rfl))
 f331 := Tryz.func195.trans (congrArg some (by kernel_rfl))
 f332 := Tryz.func196.trans (congrArg some (by kernel_rfl))
 f343 := Tryz.func198.trans (congrArg some (by kernel_rfl))
 t0 := Tryz.underlying0
 a0 := Tryz.isAgg0
 z0 := Tryz.sizeOf0
 v0 := Tryz.zeroValue0
 t3 := Tryz.underlying3
 a3 := Tryz.isAgg3
 z3 := Tryz.sizeOf3
 v3 := Tryz.zeroValue3
 t4 := Tryz.underlying4
 a4 := Tryz.isAgg4
 z4 := Tryz.sizeOf4
 v4 := Tryz.zeroValue4
 t5 := Tryz.underlying5
 a5 := Tryz.isAgg5
 z5 := Tryz.sizeOf5
 v5 := Tryz.zeroValue5
 t9 := Tryz.underlying9
 a9 := Tryz.isAgg9
 z9 := Tryz.sizeOf9
 v9 := Tryz.zeroValue9
 t28 := Tryz.underlying71
 a28 := Tryz.isAgg71
 z28 := Tryz.sizeOf71
 v28 := Tryz.zeroValue71
 t46 := Tryz.underlying178
 a46 := Tryz.isAgg178
 z46 := Tryz.sizeOf178
 v46 := Tryz.zeroValue178
 t51 := Tryz.underlying200
 a51 := Tryz.isAgg200
 z51 := Tryz.sizeOf200
 v51 := Tryz.zeroValue200
 t53 := Tryz.underlying213
 a53 := Tryz.isAgg213
 z53 := Tryz.sizeOf213
 v53 := Tryz.zeroValue213
 t131 := Tryz.underlying85
 a131 := Tryz.isAgg85
 z131 := Tryz.sizeOf85
 v131 := Tryz.zeroValue85
 t182 := Tryz.underlying204
 a182 := Tryz.isAgg204
 z182 := Tryz.sizeOf204
 v182 := Tryz.zeroValue204
 t183 := Tryz.underlying205
 a183 := Tryz.isAgg205
 z183 := Tryz.sizeOf205
 v183 := Tryz.zeroValue205
 t218 := Tryz.underlying214
 a218 := Tryz.isAgg214
 z218 := Tryz.sizeOf214
 v218 := Tryz.zeroValue214
 t222 := Tryz.underlying218
 a222 := Tryz.isAgg218
 z222 := Tryz.sizeOf218
 v222 := Tryz.zeroValue218
 t228 := Tryz.underlying220
 a228 := Tryz.isAgg220
 z228 := Tryz.sizeOf220
 v228 := Tryz.zeroValue220
 t229 := Tryz.underlying49
 a229 := Tryz.isAgg49
 z229 := Tryz.sizeOf49
 v229 := Tryz.zeroValue49 }
end Go.Proofs
namespace KF
open Go Go.Proofs Go.Proofs.Tryz
noncomputable section
theorem Yah : WO SW := wc Uag (YY Tryz.lays_sort_Ints (by kernel_rfl))
abbrev Oaj : Ta := .pu (.p Ss Ki) Yg [true] (fun x => Kt x.1 x.2.1)
abbrev HW : WF := (111, Oaj) :: SW
def HU : Wa := ⟨17, ⟨[(1, Cb), (7, (.data Ss)), (8, Cb), (9, Cb)], []⟩, 0, ⟨[], []⟩, ⟨[(4, Sk)], []⟩, Pr⟩
def Fai : WL := [(2, HU)]
theorem Faa : Mb (WG true SW [] [] []) Fai (lp f111 0) := Ud 2 (ls := HU) rfl
theorem Tag : WO HW := Dh Yah func111 (Va Faa Ra)
abbrev Nak : Ta := .pu (.p Ss .u) (.p Ss .u) [true] (fun x => Un x.1)
abbrev OW : WF := (154, Nak) :: HW
def SU : Wa := ⟨31, ⟨[(4, BD), (11, (.own 200002 int true)), (12, Cb), (13, Cb)], []⟩, 0, ⟨[(4, BD)], []⟩, ⟨[], []⟩, Dq⟩
def Pai : WL := [(5, SU)]
theorem Paa : Mb (WG true HW [] [] []) Pai (lp f154 0) := Ud 5 (ls := SU) rfl
theorem Sah : WO OW := Dh Tag func154 (Va Paa Ra)
abbrev Cak : Ta := .pu (.p (.sl Ck) .u) (.p Tb .u) [true] (fun x => Pc x.1)
abbrev KW : WF := (136, Cak) :: OW
def LU : Wa := ⟨45, ⟨[(2, Yp), (3, (.ptr 3 [])), (4, BD), (11, (.data (.sl Ck))), (12, Cb), (13, Cb)], [(2, Tb, WN), (3, Tb, WN)]⟩, 0, ⟨[(2, Yp), (3, (.ptr 3 [])), (4, BD)], [(2, Tb, WN), (3, Tb, WN)]⟩, ⟨[], []⟩, Po⟩
def Jai : WL := [(6, LU)]
theorem Jaa : Mb (WG true OW [] [] []) Jai (lp f136 0) := Ud 6 (ls := LU) rfl
theorem Hah : WO KW := Dh Sah func136 (Va Jaa Ra)
abbrev Sak : Ta := .pu (.p Ss (.p Ss .u)) Yg [true] (fun x => Zt x.1 x.2.1)
abbrev G8 : WF := (164, Sak) :: KW
def WU : Wa := ⟨26, ⟨[(0, (.data Ss)), (1, (.data Ss)), (12, Cb), (13, Cb)], []⟩, 0, ⟨[], []⟩, ⟨[(4, Sk)], []⟩, Vo⟩
def Tai : WL := [(4, WU)]
theorem Taa : Mb (WG true KW [] [] []) Tai (lp f164 0) := Ud 4 (ls := WU) rfl
theorem Xah : WO G8 := Dh Hah func164 (Va Taa Ra)
abbrev F9 : Ta := .pu (.p Tb (.p Tb .u)) Yg [true] (fun x => Xl x.1 x.2.1)
abbrev E8 : WF := (153, F9) :: G8
theorem K7 : WO E8 := Pe Xah func153
abbrev Bak : Ta := .co (.p Tb VE) VE [true] (fun x => Md x.1 x.2.1)
abbrev W7 : WF := (135, Bak) :: E8
def GTo : List (Nat × Ty) := [(3, int), (73, LB), (74, (.sl LB))]
theorem Gad : ((GTo.all fun x => Od Tryz.prog x.2 x.1) && (([] : List (Nat × Ty × Nat)).all fun x => ZI Tryz.prog x.1 x.2.1 x.2.2)) = true := by kernel_rfl
@[reducible] def V4 (c : T Jd → T Jd → Option Bool) : Ta := .pu (.p LB (.p (.sl LB) .u)) (.p (.sl LB) .u) [true] (fun x => NX c x.1 x.2.1)
def A0 (c : T Jd → T Jd → Option Bool) : Ie := ⟨GTo, [(153, NN c)], [], true, [], [], []⟩
theorem U4 (I : Cg) (c : T Jd → T Jd → Option Bool) (h : Ah Tryz.prog I 153 (NN c)) : Hi Tryz.prog I (A0 c) := Hi.cons h (EO Gad)
def XN (c : T Jd → T Jd → Option Bool) : Wa := ⟨25, ⟨[(2, Yp), (5, (.own 200001 LB true)), (8, (.data (.sl LB))), (9, Cb), (10, Cb)], [(2, LB, (.data LB))]⟩, 0, ⟨[(5, (.own 200001 LB true))], []⟩, ⟨[], []⟩, Tp c⟩
def B0 (c : T Jd → T Jd → Option Bool) : List (Nat × Wa) := [(3, XN c)]
theorem OX (c : T Jd → T Jd → Option Bool) : Mb (A0 c) (B0 c) (lp Tryz.f135 0) := UO (r := 3) (ls := XN c) (R := fun x => Cw c x.1.1 x.1.2.1 x.1.2.2.1 x.1.2.2.2.1 x.1.2.2.2.2.1 x.2.1) (by kernel_rfl) (by kernel_rfl) rfl (fun x => by kernel_rfl)
theorem W4 (I : Cg) (c : T Jd → T Jd → Option Bool) (h : Ah Tryz.prog I 153 (NN c)) : Ah Tryz.prog I 135 (V4 c) := EG (L := B0 c) (k := 1) (U4 I c h) TN Tryz.func135 (by kernel_rfl) (Va (OX c) Ra) (fun x => by kernel_rfl)
theorem Gah : WO W7 := wc K7 (D3 (f2 := 153) (SR := fun x => Xl x.1 x.2.1) (same := Ji) X6 (Gag (s := F9) K7 (by kernel_rfl)) (fun I c h => ⟨_, W4 I c h, S9 c⟩))
abbrev Iaj : Ta := .pu (.p Sc Ki) (.p Sc VE) [true, true] (fun x => Sr x.1 x.2.1)
abbrev DW : WF := (105, Iaj) :: W7
theorem Nag : WO DW := Pe Gah func105
abbrev Jaj : Ta := .pu (.p int (.p (.sl Ck) .u)) Ki [true] (fun x => Kp x.1 x.2.1)
abbrev EW : WF := (106, Jaj) :: DW
def EU : Wa := ⟨39, ⟨[(5, Cb), (21, (.data (.sl Ck))), (22, Cb), (23, Cb)], []⟩, 0, ⟨[(5, Cb)], []⟩, ⟨[], []⟩, Rh⟩
def Cai : WL := [(7, EU)]
theorem Caa : Mb (WG true DW [] [] []) Cai (lp f106 0) := Ud 7 (ls := EU) rfl
theorem Oag : WO EW := Dh Nag func106 (Va Caa Ra)
abbrev Eak : Ta := .pu (.p Pa Be) Ki [true] (fun x => Qr x.1 x.2.1 x.2.2.1)
abbrev Y7 : WF := (138, Eak) :: EW
def MU : Wa := ⟨33, ⟨[(1, Cb), (2, Cb), (3, (.ptr 3 [])), (7, Cb)], [(3, Pa, Qz)]⟩, 0, ⟨[], []⟩, ⟨[(6, Cb)], []⟩, Xg⟩
def Kai : WL := [(2, MU)]
theorem Kaa : Mb (WG true EW [] [] []) Kai (lp f138 0) := Ud 2 (ls := MU) rfl
theorem Jah : WO Y7 := Dh Oag func138 (Va Kaa Ra)
abbrev Dak : Ta := .pu (.p Pa Be) Ki [true] (fun x => Xz x.1 x.2.1 x.2.2.1)
abbrev X7 : WF := (137, Dak) :: Y7
theorem Iah : WO X7 := Pe Jah func137
abbrev Kaj : Ta := .pu (.p Pa Be) Pz [true] (fun x => Wt x.1 x.2.1 x.2.2.1)
abbrev FW : WF := (107, Kaj) :: X7
theorem Pag : WO FW := Pe Iah func107
abbrev Laj : Ta := .pu (.p Tc (.p int (.p int (.p Cr Ki)))) Be [true, true] (fun x => Hp x.1 x.2.1 x.2.2.1 x.2.2.2.1 x.2.2.2.2.1)
abbrev L7 : WF := (108, Laj) :: FW
def FU : Wa := ⟨102, ⟨[(1, Cb), (2, Cb), (4, Cb), (5, (.ptr 5 [])), (12, Cb), (26, (.data Cr)), (27, Cb), (28, Cb)], [(5, Tc, (.data Tc))]⟩, 0, ⟨[(2, Cb), (4, Cb), (5, (.ptr 5 []))], [(5, Tc, (.data Tc))]⟩, ⟨[(10, Cb), (11, Cb)], []⟩, Lo⟩
def Dai : WL := [(5, FU)]
theorem Daa : Mb (WG true FW [] [] []) Dai (lp f108 0) := Ud 5 (ls := FU) rfl
theorem Qag : WO L7 := Dh Pag func108 (Va Daa Ra)
abbrev Fak : Ta := .pu Pz Pz [true] (fun x => Ax x.1)
abbrev Z7 : WF := (139, Fak) :: L7
theorem Kah : WO Z7 := Pe Qag func139
abbrev Oak : Ta := .pu Ki Yg [true] (fun x => Jq x.1)
abbrev F8 : WF := (155, Oak) :: Z7
theorem Tah : WO F8 := Pe Kah func155
abbrev Gak : Ta := .bx false false Sc Pz Pz [true] (fun x0 x => Tm x0 x.1)
abbrev LW : WF := (140, Gak) :: F8
theorem Lah : WO LW := NG (L := []) (m := []) (v := []) (l := []) Tah func140 Ra
abbrev Pak : Ta := .pu (.p Tb (.p (.sl Be) .u)) (.p Tb .u) [true] (fun x => Ge x.1 x.2.1)
abbrev PW : WF := (156, Pak) :: LW
def TU : Wa := ⟨37, ⟨[(4, (.ptr 4 [])), (5, (.ptr 5 [])), (6, BD), (15, (.data (.sl Be))), (16, Cb), (17, Cb)], [(4, Tb, WN), (5, Tb, WN)]⟩, 0, ⟨[(4, (.ptr 4 [])), (5, (.ptr 5 [])), (6, BD)], [(4, Tb, WN), (5, Tb, WN)]⟩, ⟨[], []⟩, Yn⟩
def Qai : WL := [(4, TU)]
theorem Qaa : Mb (WG true LW [] [] []) Qai (lp f156 0) := Ud 4 (ls := TU) rfl
theorem Uah : WO PW := Dh Lah func156 (Va Qaa Ra)
abbrev Hak : Ta := .pu (.p (.sl Ck) (.p (.sl Tc) .u)) VE [true] (fun x => Yh x.1 x.2.1)
abbrev A8 : WF := (141, Hak) :: PW
def NU : Wa := ⟨74, ⟨[(5, (.ptr 5 [])), (6, (.own 200001 Tb true)), (7, (.own 200002 Be true)), (22, (.data (.sl Tc))), (23, Cb), (24, Cb)], [(5, Tb, (.pr Cb (.pr (.own 200003 int true) .un)))]⟩, 0, ⟨[(6, (.own 200001 Tb true))], []⟩, ⟨[], []⟩, Vk⟩
def Lai : WL := [(7, NU)]
theorem Laa : Mb (WG true PW [] [] []) Lai (lp f141 0) := Ud 7 (ls := NU) rfl
theorem Mah : WO A8 := Dh Uah func141 (Va Laa Ra)
abbrev Maj : Ta := .pu (.p Sc (.p int Yg)) (.p Sc VE) [true, true] (fun x => Tg x.1 x.2.1 x.2.2.1)
abbrev M7 : WF := (109, Maj) :: A8
theorem Rag : WO M7 := Pe Mah func109
abbrev Eaq : Ta := .bx false false We .u (.p (.sl Tb) Yg) [true, true] (fun x0 x => Sg x0)
abbrev C4 : WF := (68, Eaq) :: M7
theorem Sam : WO C4 := NG (L := []) (m := []) (v := []) (l := []) Rag func68 Ra
abbrev Faq : Ta := .co (.p (.sl Wh) (.p int VE)) (.p (.sl Wh) .u) [true] (fun x => Nx x.1 x.2.1 x.2.2.1)
abbrev D4 : WF := (69, Faq) :: C4
def Y1 : Wa := ⟨23, ⟨[(0, (.own 200001 Wh true)), (1, Cb), (9, (.mov 200002 Tb)), (10, Cb), (11, Cb)], []⟩, 0, ⟨[(0, (.own 200001 Wh true))], []⟩, ⟨[], []⟩, Mu⟩
def Aao : WL := [(2, Y1)]
theorem Baf : Mb (WG false C4 [] [] [14]) Aao (lp f69 0) := Ud 2 (ls := Y1) rfl
theorem Tam : WO D4 := wco Sam func69 (Va Baf Ra)
abbrev Eap : Ta := .pu (.p We (.p Cr Ki)) (.p We (.p (.sl Wh) Yg)) [true, true, true] (fun x => Lq x.1 x.2.1 x.2.2.1)
abbrev Fac : WF := (31, Eap) :: D4
def C1 : Wa := ⟨86, ⟨[(6, (.ptr 6 [])), (9, (.ptr 9 [])), (10, (.own 200001 Wh true))], [(6, We, Tad), (9, We, c5_)]⟩, 0, ⟨[(6, (.ptr 6 [])), (9, (.ptr 9 [])), (10, (.own 200001 Wh true))], [(6, We, Tad), (9, We, c5_)]⟩, ⟨[], []⟩, Ve⟩
def Qan : WL := [(9, C1)]
theorem Jae : Mb (WG true D4 [] [] []) Qan (lp f31 0) := Ud 9 (ls := C1) rfl
theorem Sal : WO Fac := Dh Tam func31 (Va Jae Ra)
abbrev Haq : Ta := .pu (.p Tb .u) (.p Tb .u) [true] (fun x => Mq x.1)
abbrev E4 : WF := (71, Haq) :: Fac
theorem Vam : WO E4 := Pe Sal func71
abbrev Gap : Ta := .pu (.p (.sl Wh) .u) VE [true] (fun x => Es x.1)
abbrev U3 : WF := (33, Gap) :: E4
def H1 : Wa := ⟨20, ⟨[(3, (.own 200001 Tb true)), (6, (.data (.sl Wh))), (7, Cb), (8, Cb)], []⟩, 0, ⟨[(3, (.own 200001 Tb true))], []⟩, ⟨[], []⟩, Rn⟩
def Ran : WL := [(3, H1)]
theorem Mae : Mb (WG true E4 [] [] []) Ran (lp f33 0) := Ud 3 (ls := H1) rfl
theorem Ual : WO U3 := Dh Vam func33 (Va Mae Ra)
abbrev Naj : Ta := .pu (.p Tb .u) Yg [true] (fun x => Ip x.1)
abbrev GW : WF := (110, Naj) :: U3
def GU : Wa := ⟨39, ⟨[(1, Xx), (14, (.data Ss)), (15, Cb), (16, Cb)], [(1, Tb, (.data Tb))]⟩, 0, ⟨[], []⟩, ⟨[(2, Sk)], []⟩, No⟩
def Eai : WL := [(4, GU)]
theorem Eaa : Mb (WG true U3 [] [] []) Eai (lp f110 0) := Ud 4 (ls := GU) rfl
theorem Sag : WO GW := Dh Ual func110 (Va Eaa Ra)
abbrev Gaq : Ta := .pu (.p Tb (.p Tb .u)) (.p Ss .u) [true] (fun x => Mv x.1 x.2.1)
abbrev VW : WF := (70, Gaq) :: GW
def Z1 : Wa := ⟨34, ⟨[(2, Yp), (5, BD), (17, (.data Ss)), (18, Cb), (19, Cb)], [(2, Tb, (.data Tb))]⟩, 0, ⟨[(5, BD)], []⟩, ⟨[], []⟩, Cq⟩
def Bao : WL := [(5, Z1)]
theorem Caf : Mb (WG true GW [] [] []) Bao (lp f70 0) := Ud 5 (ls := Z1) rfl
theorem Uam : WO VW := Dh Sag func70 (Va Caf Ra)
abbrev Fap : Ta := .pu (.p Tb VE) Ep [true] (fun x => Hs x.1 x.2.1)
abbrev Gac : WF := (32, Fap) :: VW
def E1 : Wa := ⟨34, ⟨[(2, Yp), (5, Fp), (7, (.ptr 7 [])), (10, (.data (.sl Tb))), (11, Cb), (12, Cb), (18, (.own 200101 int true)), (19, Cb), (20, Cb)], [(2, Tb, (.data Tb)), (7, Tb, (.data Tb))]⟩, 2, ⟨[(2, Yp), (5, Fp), (7, (.ptr 7 [])), (10, (.data (.sl Tb))), (11, Cb), (12, Cb)], [(2, Tb, (.data Tb)), (7, Tb, (.data Tb))]⟩, ⟨[], []⟩, Tn⟩
def D1 : Wa := ⟨34, ⟨[(2, Yp), (5, Fp), (10, (.data (.sl Tb))), (11, Cb), (12, Cb)], [(2, Tb, (.data Tb))]⟩, 0, ⟨[(5, Fp)], []⟩, ⟨[], []⟩, Sn⟩
def Iad : WL := [(6, E1), (3, D1)]
theorem Lae : Mb (WG true VW [] [] []) Iad (lp f32 1) := Ud 6 (ls := E1) rfl
theorem Kae : Mb (WG true VW [] [] []) Iad (lp f32 0) := Ud 3 (ls := D1) rfl
theorem Tal : WO Gac := Dh Uam func32 (Va Lae (Va Kae Ra))
abbrev s_9 : Ta := .pu (.p Pa (.p Tc Ep)) (.p .s Yg) [true, true] (fun x => Yt x.1 x.2.1 x.2.2.1)
abbrev F_9 : WF := (9, s_9) :: Gac
theorem E_9 : WO F_9 := Pe Tal func9
abbrev Wao : Ta := .pu (.p Pa Ep) Yg [true] (fun x => Kv x.1 x.2.1)
abbrev Zab : WF := (15, Wao) :: F_9
def Z0 : Wa := ⟨27, ⟨[(1, Fp), (2, Yp), (5, Cb)], [(2, Pa, Qz)]⟩, 0, ⟨[], []⟩, ⟨[(4, Sk)], []⟩, Aq⟩
def Pan : WL := [(4, Z0)]
theorem Gae : Mb (WG true F_9 [] [] []) Pan (lp f15 0) := Ud 4 (ls := Z0) rfl
theorem Kal : WO Zab := Dh E_9 func15 (Va Gae Ra)
abbrev Xao : Ta := .pu (.p Cr .u) Yg [true] (fun x => Xt x.1)
abbrev Aac : WF := (16, Xao) :: Zab
theorem Lal : WO Aac := Pe Kal func16
abbrev Yao : Ta := .pu (.p Cr .u) Ki [true] (fun x => Cs x.1)
abbrev Bac : WF := (17, Yao) :: Aac
theorem Mal : WO Bac := Pe Lal func17
abbrev Aap : Ta := .pu (.p Pa Be) Ki [true] (fun x => Jt x.1 x.2.1 x.2.2.1)
abbrev S3 : WF := (19, Aap) :: Bac
theorem Oal : WO S3 := Pe Mal func19
abbrev s_4 : Ta := .pu (.p (.sl Aj) .u) Yg [true] (fun x => Tr x.1)
abbrev F_4 : WF := (4, s_4) :: S3
def Q1 : Wa := ⟨103, ⟨[(3, (.ptr 3 [])), (4, Fp), (7, Sk), (10, Sk), (11, Cb)], [(3, Pa, Qz)]⟩, 0, ⟨[(7, Sk), (10, Sk)], []⟩, ⟨[(2, Sk)], []⟩, Th⟩
def L_4 : WL := [(11, Q1)]
theorem Vae : Mb (WG true S3 [] [] []) L_4 (lp f4 0) := Ud 11 (ls := Q1) rfl
theorem E_4 : WO F_4 := Dh Oal func4 (Va Vae Ra)
theorem XJ : Ah Tryz.prog II 4 s_4 := Gag E_4 (by kernel_rfl)
end
end KF
