/- An evaluator of Go functions on plain data, its soundness, and plain laws on what the functions compute, part 4 (conditions: as each lemma tells). -/
import Derived.Test.YtenekdhofnoalaaDoorC
import Derived.Test.YtenekdhofnoalaaDoorRows
set_option linter.unusedSimpArgs false
set_option linter.unusedVariables false
namespace Go.Proofs
open Go.Shelf
def Tryd.lays_strconv_Itoa_ren : Go.Shelf.Ren := ⟨fun | 171 => 56 | 243 => 74 | 246 => 84 | 283 => 88 | 284 => 89 | 285 => 90 | 286 => 91 | 129 => 98 | 317 => 97 | 318 => 99 | 319 => 100 | 320 => 101 | 337 => 106 | 338 => 107 | n => n, fun | 3 => 3 | 9 => 9 | 2 => 2 | 4 => 4 | 171 => 114 | 0 => 0 | 53 => 115 | 37 => 85 | 5 => 5 | 173 => 118 | 212 => 127 | 51 => 128 | 20 => 20 | 213 => 129 | 46 => 130 | 232 => 137 | 233 => 138 | n => n, fun | 17 => 0 | 18 => 2 | 19 => 3 | n => n⟩
theorem Tryd.lays_strconv_Itoa : Go.Proofs.LaysM.n171 Tryd.prog Tryd.lays_strconv_Itoa_ren := {
 mixed := by kernel_rfl
 f129 := Tryd.func98.trans (congrArg some (by kernel_rfl))
 f171 := Tryd.func56.trans (congrArg some (by kernel_rfl))
 f243 := Tryd.func74.trans (congrArg some (by kernel_rfl))
 f246 := Tryd.func84.trans (congrArg some (by kernel_rfl))
 f283 := Tryd.func88.trans (congrArg some (by kernel_rfl))
 f284 := Tryd.func89.trans (congrArg some (by kernel_rfl))
 f285 := Tryd.func90.trans (congrArg some (by kernel_rfl))
 f286 := Tryd.func91.trans (congrArg some (by kernel_rfl))
 f317 := Tryd.func97.trans (congrArg some (by kernel_rfl))
 f318 := Tryd.func99.trans (congrArg some (by kernel_rfl))
 f319 := Tryd.func100.trans (congrArg some (by kernel_rfl))
 f320 := Tryd.func101.trans (congrArg some (by kernel_rfl))
 f337 := Tryd.func106.trans (congrArg some (by kernel_rfl))
 f338 := Tryd.func107.trans (congrArg some (by kernel_rfl))
 t0 := Tryd.underlying0
 a0 := Tryd.isAgg0
 z0 := Tryd.sizeOf0
 v0 := Tryd.zeroValue0
 t2 := Tryd.underlying2
 a2 := Tryd.isAgg2
 z2 := Tryd.sizeOf2
 v2 := Tryd.zeroValue2
 t3 := Tryd.underlying3
 a3 := Tryd.isAgg3
 z3 := Tryd.sizeOf3
 v3 := Tryd.zeroValue3
 t4 := Tryd.underlying4
 a4 := Tryd.isAgg4
 z4 := Tryd.sizeOf4
 v4 := Tryd.zeroValue4
 t5 := Tryd.underlying5
 a5 := Tryd.isAgg5
 z5 := Tryd.sizeOf5
 v5 := Tryd.zeroValue5
 t9 := Tryd.underlying9
 a9 := Tryd.isAgg9
 z9 := Tryd.sizeOf9
 v9 := Tryd.zeroValue9
 t20 := Tryd.underlying20
 a20 := Tryd.isAgg20
 z20 := Tryd.sizeOf20
 v20 := Tryd.zeroValue20
 t37 := Tryd.underlying85
 a37 := Tryd.isAgg85
 z37 := Tryd.sizeOf85
 v37 := Tryd.zeroValue85
 t46 := Tryd.underlying130
 a46 := Tryd.isAgg130
 z46 := Tryd.sizeOf130
 v46 := Tryd.zeroValue130
 t51 := Tryd.underlying128
 a51 := Tryd.isAgg128
 z51 := Tryd.sizeOf128
 v51 := Tryd.zeroValue128
 t53 := Tryd.underlying115
 a53 := Tryd.isAgg115
 z53 := Tryd.sizeOf115
 v53 := Tryd.zeroValue115
 t171 := Tryd.underlying114
 a171 := Tryd.isAgg114
 z171 := Tryd.sizeOf114
 v171 := Tryd.zeroValue114
 t173 := Tryd.underlying118
 a173 := Tryd.isAgg118
 z173 := Tryd.sizeOf118
 v173 := Tryd.zeroValue118
 t212 := Tryd.underlying127
 a212 := Tryd.isAgg127
 z212 := Tryd.sizeOf127
 v212 := Tryd.zeroValue127
 t213 := Tryd.underlying129
 a213 := Tryd.isAgg129
 z213 := Tryd.sizeOf129
 t232 := Tryd.underlying137
 a232 := Tryd.isAgg137
 z232 := Tryd.sizeOf137
 v232 := Tryd.zeroValue137
 t233 := Tryd.underlying138
 a233 := Tryd.isAgg138
 z233 := Tryd.sizeOf138
 v233 := Tryd.zeroValue138
 g17 := by kernel_rfl
 g18 := by kernel_rfl
 g19 := by kernel_rfl
 i0 := by kernel_rfl
 i2 := by kernel_rfl
 i3 := by kernel_rfl
 i4 := by kernel_rfl
 i5 := by kernel_rfl
 i9 := by kernel_rfl
 i20 := by kernel_rfl
 i37 := by kernel_rfl
 i46 := by kernel_rfl
 i51 := by kernel_rfl
 i53 := by kernel_rfl
 i171 := by kernel_rfl
 i173 := by kernel_rfl
 i212 := by kernel_rfl
 i232 := by kernel_rfl
 i233 := by kernel_rfl
 m17 := by kernel_rfl
 m18 := by kernel_rfl
 m19 := by kernel_rfl }
def Tryd.lays_strings_Split_ren : Go.Shelf.Ren := ⟨fun | 146 => 75 | 221 => 85 | 268 => 92 | 138 => 93 | 143 => 94 | 195 => 102 | 197 => 103 | 218 => 104 | 219 => 105 | 260 => 108 | 217 => 109 | 225 => 110 | 224 => 111 | 267 => 112 | 266 => 113 | 314 => 114 | n => n, fun | 9 => 9 | 31 => 62 | 3 => 3 | 4 => 4 | 0 => 0 | 105 => 133 | 21 => 21 | 5 => 5 | 46 => 130 | 119 => 139 | 139 => 142 | 138 => 141 | 146 => 143 | 51 => 128 | n => n, fun | 1 => 1 | 3 => 4 | 4 => 5 | n => n⟩
theorem Tryd.lays_strings_Split : Go.Proofs.LaysM.n146 Tryd.prog Tryd.lays_strings_Split_ren := {
 mixed := by kernel_rfl
 f138 := Tryd.func93.trans (congrArg some (by kernel_rfl))
 f143 := Tryd.func94.trans (congrArg some (by kernel_rfl))
 f146 := Tryd.func75.trans (congrArg some (by kernel_rfl))
 f195 := Tryd.func102.trans (congrArg some (by kernel_rfl))
 f197 := Tryd.func103.trans (congrArg some (by kernel_rfl))
 f217 := Tryd.func109.trans (congrArg some (by kernel_rfl))
 f218 := Tryd.func104.trans (congrArg some (by kernel_rfl))
 f219 := Tryd.func105.trans (congrArg some (by kernel_rfl))
 f221 := Tryd.func85.trans (congrArg some (by kernel_rfl))
 f224 := Tryd.func111.trans (congrArg some (by kernel_rfl))
 f225 := Tryd.func110.trans (congrArg some (by kernel_rfl))
 f260 := Tryd.func108.trans (congrArg some (by kernel_rfl))
 f266 := Tryd.func113.trans (congrArg some (by kernel_rfl))
 f267 := Tryd.func112.trans (congrArg some (by kernel_rfl))
 f268 := Tryd.func92.trans (congrArg some (by kernel_rfl))
 f314 := Tryd.func114.trans (congrArg some (by kernel_rfl))
 t0 := Tryd.underlying0
 a0 := Tryd.isAgg0
 z0 := Tryd.sizeOf0
 v0 := Tryd.zeroValue0
 t3 := Tryd.underlying3
 a3 := Tryd.isAgg3
 z3 := Tryd.sizeOf3
 v3 := Tryd.zeroValue3
 t4 := Tryd.underlying4
 a4 := Tryd.isAgg4
 z4 := Tryd.sizeOf4
 v4 := Tryd.zeroValue4
 t5 := Tryd.underlying5
 a5 := Tryd.isAgg5
 z5 := Tryd.sizeOf5
 v5 := Tryd.zeroValue5
 t9 := Tryd.underlying9
 a9 := Tryd.isAgg9
 z9 := Tryd.sizeOf9
 v9 := Tryd.zeroValue9
 t21 := Tryd.underlying21
 a21 := Tryd.isAgg21
 z21 := Tryd.sizeOf21
 v21 := Tryd.zeroValue21
 t31 := Tryd.underlying62
 a31 := Tryd.isAgg62
 z31 := Tryd.sizeOf62
 v31 := Tryd.zeroValue62
 t46 := Tryd.underlying130
 a46 := Tryd.isAgg130
 z46 := Tryd.sizeOf130
 v46 := Tryd.zeroValue130
 t51 := Tryd.underlying128
 a51 := Tryd.isAgg128
 z51 := Tryd.sizeOf128
 v51 := Tryd.zeroValue128
 t105 := Tryd.underlying133
 a105 := Tryd.isAgg133
 z105 := Tryd.sizeOf133
 v105 := Tryd.zeroValue133
 t119 := Tryd.underlying139
 a119 := Tryd.isAgg139
 z119 := Tryd.sizeOf139
 t138 := Tryd.underlying141
 a138 := Tryd.isAgg141
 z138 := Tryd.sizeOf141
 v138 := Tryd.zeroValue141
 t139 := Tryd.underlying142
 a139 := Tryd.isAgg142
 z139 := Tryd.sizeOf142
 v139 := Tryd.zeroValue142
 t146 := Tryd.underlying143
 a146 := Tryd.isAgg143
 z146 := Tryd.sizeOf143
 v146 := Tryd.zeroValue143
 g1 := by kernel_rfl
 g3 := by kernel_rfl
 g4 := by kernel_rfl
 i0 := by kernel_rfl
 i3 := by kernel_rfl
 i4 := by kernel_rfl
 i5 := by kernel_rfl
 i9 := by kernel_rfl
 i21 := by kernel_rfl
 i31 := by kernel_rfl
 i46 := by kernel_rfl
 i51 := by kernel_rfl
 i105 := by kernel_rfl
 i138 := by kernel_rfl
 i139 := by kernel_rfl
 i146 := by kernel_rfl
 m1 := by kernel_rfl
 s1_3 := fun w h => Go.Proofs.cell_of_shapedOpen_int (zero := #[.int .i64 0]) (t := 3) h (of_decide_eq_true (by kernel_rfl)) (by kernel_rfl) rfl (by kernel_rfl) (by kernel_rfl) Tryd.underlying3
 m3 := by kernel_rfl
 m4 := by kernel_rfl }
def Tryd.lays_strings_Join_ren : Go.Shelf.Ren := ⟨fun | 156 => 60 | 165 => 77 | 166 => 78 | 169 => 79 | 240 => 86 | 241 => 87 | 276 => 95 | 277 => 96 | n => n, fun | 31 => 62 | 9 => 9 | 3 => 3 | 4 => 4 | 0 => 0 | 20 => 20 | 72 => 102 | 76 => 106 | 70 => 100 | 37 => 85 | 75 => 105 | 127 => 113 | 164 => 122 | 5 => 5 | 80 => 108 | n => n, fun | n => n⟩
theorem Tryd.lays_strings_Join : Go.Proofs.Lays.n156 Tryd.prog Tryd.lays_strings_Join_ren := {
 mixed := by kernel_rfl
 f156 := Tryd.func60.trans (congrArg some (by kernel_rfl))
 f165 := Tryd.func77.trans (congrArg some (by kernel_rfl))
 f166 := Tryd.func78.trans (congrArg some (by kernel_rfl))
 f169 := Tryd.func79.trans (congrArg some (by kernel_rfl))
 f240 := Tryd.func86.trans (congrArg some (by kernel_rfl))
 f241 := Tryd.func87.trans (congrArg some (by kernel_rfl))
 f276 := Tryd.func95.trans (congrArg some (by kernel_rfl))
 f277 := Tryd.func96.trans (congrArg some (by kernel_rfl))
 t0 := Tryd.underlying0
 a0 := Tryd.isAgg0
 z0 := Tryd.sizeOf0
 v0 := Tryd.zeroValue0
 t3 := Tryd.underlying3
 a3 := Tryd.isAgg3
 z3 := Tryd.sizeOf3
 v3 := Tryd.zeroValue3
 t4 := Tryd.underlying4
 a4 := Tryd.isAgg4
 z4 := Tryd.sizeOf4
 v4 := Tryd.zeroValue4
 t9 := Tryd.underlying9
 a9 := Tryd.isAgg9
 z9 := Tryd.sizeOf9
 v9 := Tryd.zeroValue9
 t20 := Tryd.underlying20
 a20 := Tryd.isAgg20
 z20 := Tryd.sizeOf20
 v20 := Tryd.zeroValue20
 t31 := Tryd.underlying62
 a31 := Tryd.isAgg62
 z31 := Tryd.sizeOf62
 v31 := Tryd.zeroValue62
 t37 := Tryd.underlying85
 a37 := Tryd.isAgg85
 z37 := Tryd.sizeOf85
 v37 := Tryd.zeroValue85
 t70 := Tryd.underlying100
 a70 := Tryd.isAgg100
 z70 := Tryd.sizeOf100
 v70 := Tryd.zeroValue100
 t72 := Tryd.underlying102
 a72 := Tryd.isAgg102
 z72 := Tryd.sizeOf102
 v72 := Tryd.zeroValue102
 t75 := Tryd.underlying105
 a75 := Tryd.isAgg105
 z75 := Tryd.sizeOf105
 v75 := Tryd.zeroValue105
 t76 := Tryd.underlying106
 a76 := Tryd.isAgg106
 z76 := Tryd.sizeOf106
 v76 := Tryd.zeroValue106
 t127 := Tryd.underlying113
 a127 := Tryd.isAgg113
 z127 := Tryd.sizeOf113
 v127 := Tryd.zeroValue113
 t164 := Tryd.underlying122
 a164 := Tryd.isAgg122
 z164 := Tryd.sizeOf122
 v164 := Tryd.zeroValue122 }
theorem Tryd.extra_strings_Join : Builder.Extra Tryd.prog Tryd.lays_strings_Join_ren := {
 sizeBuilder := by kernel_rfl
 liesBuilder := by kernel_rfl
 t5 := by kernel_rfl
 a5 := by intro _; kernel_rfl
 z5 := by intro _; kernel_rfl
 v5 := by intro _; kernel_rfl
 infoByte := by kernel_rfl
 cellsByte := by kernel_rfl
 sizeByte := by kernel_rfl
 neB5 := by decide }
end Go.Proofs
namespace KF
open Go Go.Proofs Go.Proofs.Tryd
def GT : List (Nat × Ty) := [(3, int), (4, .b), (5, As), (9, .s), (39, (.sl Vb)), (42, (.sl Vb)), (57, (.sl int)), (59, Xa), (61, Vb), (62, (.sl .s)), (64, Xa), (66, Vb), (85, (.sl As))]
def GA : List (Nat × Ty × Nat) := []
theorem CG : ((GT.all fun x => Nb Tryd.prog x.2 x.1) && (GA.all fun x => Zr Tryd.prog x.1 x.2.1 x.2.2)) = true := by kernel_rfl
theorem BG : Tryd.prog.follows .mixedOrders = true := by kernel_rfl
noncomputable abbrev II : Fg := QB Tryd.prog (Tryd.lays_strings_Split_ren.g 1) (Tryd.lays_strconv_Itoa_ren.g 17) "internal/strconv.uint64pow10" .u64 Lib.pow10Tab Tryd.lays_strconv_Itoa.m17
noncomputable section
abbrev WP : Program := Tryd.prog
abbrev WF := List (Nat × Ob)
abbrev WL := List (Nat × Lb)
abbrev WG (z : Bool) (fs : WF) (m : List (Nat × Nat)) (v l : List Nat) : Dc := ⟨GT, fs, m, z, GA, v, l⟩
def WO (fs : WF) : Prop := ∀ z m v l, Ng WP II (WG z fs m v l)
theorem YJ : WO [] := fun _ _ _ _ => Uy CG
theorem wc {f : Nat} {s : Ob} {fs : WF} (e : WO fs) (h : Ri WP II f s) : WO ((f, s) :: fs) := fun z m v l => Ng.cons h (e z m v l)
theorem XJ {f : Nat} {s : Ob} {fs : WF} (e : WO fs) (h : La fs f = some s) : Ri WP II f s := (e true [] [] []).fn f s h
theorem Nh {z : Bool} {fs : WF} {m : List (Nat × Nat)} {v l : List Nat} {L : WL} {fn : Func} {i : Nat} (r : Nat) {ls : Lb} {R : ls.inT.X → Option (ls.inT.X ⊕ (ls.outT.X ⊕ ls.retT.X))}
 (h3 : ls.F = Zb R) (h1 : Sd (lp fn i) = some r := by kernel_rfl) (h2 : (La L r) = some ls := by kernel_rfl) (h4 : ∀ x, Wl (WG z fs m v l) L ls (lp fn i) x = R x := by intro _; kernel_rfl) : Qc (WG z fs m v l) L (lp fn i) := Zz h1 h2 h3 h4
theorem Oh {f : Nat} {fn : Func} {pt rt : Ty} {fr : List Bool} {F : T pt → Option (T rt)} {fs : WF} (e : WO fs) (hf : WP.funcs[f]? = some fn)
 (hb : (fn.body.isSome && !(fn.name == "runtime.NumGoroutine") && Nat.ble pt.npar fn.ntmps && Nat.beq (Lc (fn.body.getD .skip)).length 0) = true := by kernel_rfl)
 (hF : ∀ x, Xy (WG true fs [] [] []) [] fn pt rt fr x = F x := by intro _; kernel_rfl) : WO ((f, .pu pt rt fr F) :: fs) := wc e (Gt (e _ _ _ _) BG hf hb Ec hF)
theorem Sk {k : Nat} {L : WL} {m : List (Nat × Nat)} {v l : List Nat} {f : Nat} {fn : Func} {pt rt : Ty} {fr : List Bool} {F : T pt → Option (T rt)} {fs : WF} (e : WO fs) (hf : WP.funcs[f]? = some fn) (hL : ∀ i, i < k → Qc (WG true fs m v l) L (lp fn i))
 (hb : (fn.body.isSome && !(fn.name == "runtime.NumGoroutine") && Nat.ble pt.npar fn.ntmps && Nat.beq (Lc (fn.body.getD .skip)).length k) = true := by kernel_rfl)
 (hF : ∀ x, Xy (WG true fs m v l) L fn pt rt fr x = F x := by intro _; kernel_rfl) : WO ((f, .pu pt rt fr F) :: fs) := wc e (Gt (e _ _ _ _) BG hf hb hL hF)
theorem TH : ∀ w, II.p w → ∃ m, w.cell? ⟨Tryd.lays_strings_Split_ren.g 1, 0, none⟩ = some (.int .i64 m) := fun _ h => h.1
theorem UH : ∀ w, II.p w → Lib.TabIs Tryd.prog w "internal/strconv.uint64pow10" .u64 Lib.pow10Tab := fun _ h => h.2
abbrev Gf : TD := .data int
abbrev Un : TD := .own 200001 .s true
abbrev Ck : Ty := .p int .u
abbrev Ej : Ty := .p .s .u
abbrev Ll : Ty := .sl Vb
abbrev PJ : Ob := .pu (.p (.sl int) Ck) Ck [true] (fun x => Yj x.1 x.2.1)
abbrev GE : WF := (71, PJ) :: ([] : WF)
theorem MH : WO GE := Oh YJ func71
abbrev DJ : Ob := .pu (.p Xa Ck) Ck [true] (fun x => Ei x.1 x.2.1)
abbrev YD : WF := (51, DJ) :: GE
theorem AH : WO YD := Oh MH func51
abbrev TI : Ob := .pu (.p Vb Ck) Ck [true] (fun x => Uh x.1 x.2.1)
abbrev UA : WF := (31, TI) :: YD
theorem PG : WO UA := Oh AH func31
abbrev OI : Ob := .pu (.p Ll Ck) Ck [true] (fun x => Wi x.1 x.2.1)
abbrev RA : WF := (17, OI) :: UA
def Hz : Lb := ⟨27, ⟨[(0, (.data Ll)), (1, Gf), (5, Gf)], []⟩, 0, ⟨[(1, Gf)], []⟩, ⟨[(4, Gf)], []⟩, Hj⟩
def WH : WL := [(5, Hz)]
theorem YE : Qc (WG true UA [] [] []) WH (lp f17 0) := Nh 5 (ls := Hz) rfl
theorem KG : WO RA := Sk PG func17 (Ic YE Ec)
abbrev RJ : Ob := .pu (.p (.sl int) .u) (.p (.sl int) .u) [true] (fun x => Zj x.1)
abbrev IE : WF := (73, RJ) :: RA
def Uz : Lb := ⟨22, ⟨[(0, (.data (.sl int))), (3, (.own 200001 int true)), (4, Gf)], []⟩, 0, ⟨[(3, (.own 200001 int true))], []⟩, ⟨[], []⟩, Zg⟩
def KI : WL := [(3, Uz)]
theorem MF : Qc (WG true RA [] [] []) KI (lp f73 0) := Nh 3 (ls := Uz) rfl
theorem OH : WO IE := Sk KG func73 (Ic MF Ec)
abbrev HJ : Ob := .pu (.p Xa .u) (.p Xa .u) [true] (fun x => Fi x.1)
abbrev ZD : WF := (55, HJ) :: IE
theorem EH : WO ZD := Oh OH func55
abbrev XI : Ob := .pu (.p Vb .u) (.p Vb .u) [true] (fun x => Vh x.1)
abbrev XA : WF := (35, XI) :: ZD
theorem TG : WO XA := Oh EH func35
abbrev QI : Ob := .pu (.p Ll .u) (.p Ll .u) [true] (fun x => Ah x.1)
abbrev SA : WF := (19, QI) :: XA
def Jz : Lb := ⟨23, ⟨[(0, (.data Ll)), (3, (.own 200001 Vb true)), (4, Gf)], []⟩, 0, ⟨[(3, (.own 200001 Vb true))], []⟩, ⟨[], []⟩, Ij⟩
def YH : WL := [(3, Jz)]
theorem AF : Qc (WG true XA [] [] []) YH (lp f19 0) := Nh 3 (ls := Jz) rfl
theorem MG : WO SA := Sk TG func19 (Ic AF Ec)
abbrev UI : Ob := .pu Ck Ej [true] (fun x => Kh x.1)
abbrev WD : WF := (32, UI) :: SA
def Mz : Lb := ⟨31, ⟨[(0, Gf), (3, (.data .s)), (4, Gf)], []⟩, 0, ⟨[(0, Gf), (3, (.data .s))], []⟩, ⟨[], []⟩, Rc⟩
def BI : WL := [(5, Mz)]
theorem DF : Qc (WG true SA [] [] []) BI (lp f32 0) := Nh 5 (ls := Mz) rfl
theorem QG : WO WD := Sk MG func32 (Ic DF Ec)
abbrev CJ : Ob := .pu FG (.p .b .u) [true] (fun x => Dh x.1 x.2.1 x.2.2.1)
abbrev BB : WF := (44, CJ) :: WD
theorem ZG : WO BB := Oh QG func44
abbrev EJ : Ob := .pu (.p Xa .u) (.p .b .u) [true] (fun x => Ji x.1)
abbrev CB : WF := (52, EJ) :: BB
def Qz : Lb := ⟨39, ⟨[(1, (.ptr 1 [])), (3, Gf)], [(1, Xa, (.data Xa))]⟩, 0, ⟨[(1, (.ptr 1 []))], [(1, Xa, (.data Xa))]⟩, ⟨[(2, (.data .b))], []⟩, Dg⟩
def FI : WL := [(2, Qz)]
theorem HF : Qc (WG true BB [] [] []) FI (lp f52 0) := Nh 2 (ls := Qz) rfl
theorem BH : WO CB := Sk ZG func52 (Ic HF Ec)
abbrev VJ : Ob := .pu (.p .s (.p As .u)) (.p (.sl .s) .u) [true] (fun x => Pj x.1 x.2.1)
abbrev LE : WF := (83, VJ) :: CB
def Wz : Lb := ⟨36, ⟨[(0, (.data .s)), (1, (.data As)), (5, Un), (6, Gf), (7, Gf)], []⟩, 0, ⟨[(5, Un)], []⟩, ⟨[], []⟩, Sf⟩
def MI : WL := [(4, Wz)]
theorem OF : Qc (WG true CB [] [] []) MI (lp f83 0) := Nh 4 (ls := Wz) rfl
theorem SH : WO LE := Sk BH func83 (Ic OF Ec)
abbrev QJ : Ob := .pu .u (.p (.sl .s) .u) [true] (fun x => Bj)
abbrev HE : WF := (72, QJ) :: LE
theorem NH : WO HE := Oh SH func72
abbrev FJ : Ob := .pu Ck Ej [true] (fun x => Ii x.1)
abbrev DB : WF := (53, FJ) :: HE
theorem CH : WO DB := Oh NH func53
abbrev GJ : Ob := .pu Ck Ej [true] (fun x => Sg x.1)
abbrev EB : WF := (54, GJ) :: DB
def Rz : Lb := ⟨25, ⟨[(0, Gf), (3, (.data .s)), (4, Gf)], []⟩, 0, ⟨[(3, (.data .s))], []⟩, ⟨[], []⟩, Cf⟩
def GI : WL := [(3, Rz)]
theorem IF : Qc (WG true DB [] [] []) GI (lp f54 0) := Nh 3 (ls := Rz) rfl
theorem DH : WO EB := Sk CH func54 (Ic IF Ec)
abbrev WI : Ob := .pu (.p (.sl .s) Ej) Ej [true] (fun x => Se x.1 x.2.1)
abbrev WA : WF := (34, WI) :: EB
def Oz : Lb := ⟨27, ⟨[(0, (.data (.sl .s))), (1, (.data .s)), (5, (.own 200001 As true)), (6, Gf)], []⟩, 0, ⟨[(5, (.own 200001 As true))], []⟩, ⟨[], []⟩, He⟩
def DI : WL := [(3, Oz)]
theorem FF : Qc (WG true EB [] [] []) DI (lp f34 0) := Nh 3 (ls := Oz) rfl
theorem SG : WO WA := Sk DH func34 (Ic FF Ec)
abbrev VI : Ob := .pu (.p Xa .u) Ej [true] (fun x => Lf x.1)
abbrev VA : WF := (33, VI) :: WA
def Nz : Lb := ⟨32, ⟨[(1, (.ptr 1 [])), (3, Un), (4, Gf)], [(1, Xa, (.data Xa))]⟩, 0, ⟨[(1, (.ptr 1 [])), (3, Un)], [(1, Xa, (.data Xa))]⟩, ⟨[], []⟩, Me⟩
def CI : WL := [(5, Nz)]
theorem EF : Qc (WG true WA [] [] []) CI (lp f33 0) := Nh 5 (ls := Nz) rfl
theorem RG : WO VA := Sk SG func33 (Ic EF Ec)
abbrev PI : Ob := .pu (.p Ll .u) Ej [true] (fun x => We x.1)
abbrev UD : WF := (18, PI) :: VA
def Iz : Lb := ⟨34, ⟨[(0, (.data Ll)), (3, Un), (4, Gf)], []⟩, 0, ⟨[(3, Un)], []⟩, ⟨[], []⟩, Df⟩
def XH : WL := [(3, Iz)]
theorem ZE : Qc (WG true VA [] [] []) XH (lp f18 0) := Nh 3 (ls := Iz) rfl
theorem LG : WO UD := Sk RG func18 (Ic ZE Ec)
abbrev IJ : Ob := .pu Ck Ej [true] (fun x => strconv_Itoa x.1)
abbrev AE : WF := (56, IJ) :: UD
theorem FH : WO AE := wc LG (Mx Tryd.lays_strconv_Itoa (by kernel_rfl) UH)
abbrev YI : Ob := .pu Ck Ej [true] (fun x => Hh x.1)
abbrev XD : WF := (36, YI) :: AE
theorem UG : WO XD := Oh FH func36
abbrev OJ : Ob := .pu Ck (.p .b .u) [true] (fun x => Wj x.1)
abbrev FB : WF := (65, OJ) :: XD
theorem LH : WO FB := Oh UG func65
abbrev JJ : Ob := .pu (.p Xa .u) (.p .b .u) [true] (fun x => Ci x.1)
abbrev BE : WF := (57, JJ) :: FB
def Sz : Lb := ⟨39, ⟨[(1, (.ptr 1 [])), (14, (.data (.sl int))), (15, Gf), (16, Gf)], [(1, Xa, (.data Xa))]⟩, 0, ⟨[], []⟩, ⟨[(2, (.data .b))], []⟩, Zf⟩
def HI : WL := [(4, Sz)]
theorem JF : Qc (WG true FB [] [] []) HI (lp f57 0) := Nh 4 (ls := Sz) rfl
theorem GH : WO BE := Sk LH func57 (Ic JF Ec)
abbrev SJ : Ob := .pu (.p .s Ej) (.p (.sl .s) .u) [true] (fun x => strings_Split x.1 x.2.1)
abbrev JE : WF := (75, SJ) :: BE
theorem PH : WO JE := wc GH (Uv Tryd.lays_strings_Split (by kernel_rfl) TH)
abbrev KJ : Ob := .pu Ck Ej [true] (fun x => Bi x.1)
abbrev CE : WF := (58, KJ) :: JE
theorem HH : WO CE := Oh PH func58
abbrev TJ : Ob := .pu KA Ck [true] (fun x => Su x.1 x.2.1)
abbrev GB : WF := (76, TJ) :: CE
theorem QH : WO GB := Oh HH func76
abbrev LJ : Ob := .pu Ck Ej [true] (fun x => Og x.1)
abbrev DE : WF := (59, LJ) :: GB
def Tz : Lb := ⟨28, ⟨[(0, Gf), (3, (.data .s)), (12, Un), (13, Gf), (14, Gf)], []⟩, 0, ⟨[(3, (.data .s))], []⟩, ⟨[], []⟩, Af⟩
def JI : WL := [(5, Tz)]
theorem LF : Qc (WG true GB [] [] []) JI (lp f59 0) := Nh 5 (ls := Tz) rfl
theorem IH : WO DE := Sk QH func59 (Ic LF Ec)
abbrev MJ : Ob := .pu (.p (.sl .s) Ej) Ej [true] (fun x => strings_Join x.1 x.2.1)
abbrev EE : WF := (60, MJ) :: DE
theorem JH : WO EE := wc IH (Nx Tryd.lays_strings_Join (by kernel_rfl) Tryd.extra_strings_Join)
abbrev AJ : Ob := .pu (.p (.sl .s) Ej) Ej [true] (fun x => Ig x.1 x.2.1)
abbrev ZA : WF := (38, AJ) :: EE
theorem XG : WO ZA := Oh JH func38
abbrev ZI : Ob := .pu (.p Xa .u) Ej [true] (fun x => Jf x.1)
abbrev YA : WF := (37, ZI) :: ZA
def Pz : Lb := ⟨29, ⟨[(1, (.ptr 1 [])), (3, Un), (10, (.data (.sl int))), (11, Gf), (12, Gf)], [(1, Xa, (.data Xa))]⟩, 0, ⟨[(1, (.ptr 1 [])), (3, Un)], [(1, Xa, (.data Xa))]⟩, ⟨[], []⟩, Le⟩
def EI : WL := [(5, Pz)]
theorem GF : Qc (WG true ZA [] [] []) EI (lp f37 0) := Nh 5 (ls := Pz) rfl
theorem VG : WO YA := Sk XG func37 (Ic GF Ec)
abbrev RI : Ob := .pu (.p Ll .u) Ej [true] (fun x => Te x.1)
abbrev TA : WF := (20, RI) :: YA
def Kz : Lb := ⟨29, ⟨[(3, Un), (9, (.data Ll)), (10, Gf), (11, Gf)], []⟩, 0, ⟨[(3, Un)], []⟩, ⟨[], []⟩, Bf⟩
def ZH : WL := [(5, Kz)]
theorem BF : Qc (WG true YA [] [] []) ZH (lp f20 0) := Nh 5 (ls := Kz) rfl
theorem NG : WO TA := Sk VG func20 (Ic BF Ec)
abbrev UJ : Ob := .pu (.p (.sl int) (.p (.sl int) .u)) (.p .b .u) [true] (fun x => Xj x.1 x.2.1)
abbrev KE : WF := (80, UJ) :: TA
def Vz : Lb := ⟨26, ⟨[(0, (.data (.sl int))), (1, (.data (.sl int))), (5, Gf)], []⟩, 0, ⟨[], []⟩, ⟨[(4, (.data .b))], []⟩, Yg⟩
def LI : WL := [(4, Vz)]
theorem NF : Qc (WG true TA [] [] []) LI (lp f80 0) := Nh 4 (ls := Vz) rfl
theorem RH : WO KE := Sk NG func80 (Ic NF Ec)
abbrev NJ : Ob := .pu (.p Xa (.p Xa .u)) (.p .b .u) [true] (fun x => Di x.1 x.2.1)
abbrev FE : WF := (61, NJ) :: KE
theorem KH : WO FE := Oh RH func61
abbrev BJ : Ob := .pu (.p Vb (.p Vb .u)) (.p .b .u) [true] (fun x => Th x.1 x.2.1)
abbrev AB : WF := (39, BJ) :: FE
theorem YG : WO AB := Oh KH func39
abbrev SI : Ob := .pu (.p Ll (.p Ll .u)) (.p .b .u) [true] (fun x => Vi x.1 x.2.1)
abbrev VD : WF := (21, SI) :: AB
def Lz : Lb := ⟨27, ⟨[(0, (.data Ll)), (1, (.data Ll)), (5, Gf)], []⟩, 0, ⟨[], []⟩, ⟨[(4, (.data .b))], []⟩, Gj⟩
def AI : WL := [(4, Lz)]
theorem CF : Qc (WG true AB [] [] []) AI (lp f21 0) := Nh 4 (ls := Lz) rfl
theorem OG : WO VD := Sk YG func21 (Ic CF Ec)
abbrev IG : Ob := .pu (.p Ll .u) (.p .b .u) [true] (fun x => Td x.1)
abbrev AK : WF := (5, IG) :: VD
theorem ZJ : WO AK := Oh OG func5
theorem Ok : Ri Tryd.prog II 5 IG := XJ ZJ (by kernel_rfl)
end
end KF
