/- An evaluator of Go functions on plain data, its soundness, and plain laws on what the functions compute, part 6 (conditions: as each lemma tells). -/
import Derived.Test.YteooipbgmfmhfaaGreatDoorE
import Derived.Test.YteooipbgmfmhfaaGreatDoorRows
set_option linter.unusedSimpArgs false
set_option linter.unusedVariables false
namespace Go.Proofs
open Go.Shelf
def Tryz.lays_strings_Split_ren : Go.Shelf.Ren := ⟨fun | 146 => 150 | 221 => 237 | 268 => 281 | 138 => 282 | 143 => 155 | 195 => 309 | 197 => 310 | 218 => 311 | 219 => 241 | 260 => 331 | 217 => 286 | 225 => 287 | 224 => 288 | 267 => 289 | 266 => 312 | 314 => 313 | n => n, fun | 9 => 9 | 31 => 120 | 3 => 3 | 4 => 4 | 0 => 0 | 105 => 325 | 21 => 21 | 5 => 5 | 46 => 242 | 119 => 359 | 139 => 362 | 138 => 361 | 146 => 328 | 51 => 327 | n => n, fun | 1 => 0 | 3 => 4 | 4 => 5 | n => n⟩
theorem Tryz.lays_strings_Split : Go.Proofs.LaysM.n146 Tryz.prog Tryz.lays_strings_Split_ren := {
 mixed := by kernel_rfl
 f138 := Tryz.func282.trans (congrArg some (by kernel_rfl))
 f143 := Tryz.func155.trans (congrArg some (by kernel_rfl))
 f146 := Tryz.func150.trans (congrArg some (by kernel_rfl))
 f195 := Tryz.func309.trans (congrArg some (by kernel_rfl))
 f197 := Tryz.func310.trans (congrArg some (by kernel_rfl))
 f217 := Tryz.func286.trans (congrArg some (by kernel_rfl))
 f218 := Tryz.func311.trans (congrArg some (by kernel_rfl))
 f219 := Tryz.func241.trans (congrArg some (by kernel_rfl))
 f221 := Tryz.func237.trans (congrArg some (by kernel_rfl))
 f224 := Tryz.func288.trans (congrArg some (by kernel_rfl))
 f225 := Tryz.func287.trans (congrArg some (by kernel_rfl))
 f260 := Tryz.func331.trans (congrArg some (by kernel_rfl))
 f266 := Tryz.func312.trans (congrArg some (by kernel_rfl))
 f267 := Tryz.func289.trans (congrArg some (by kernel_rfl))
 f268 := Tryz.func281.trans (congrArg some (by kernel_rfl))
 f314 := Tryz.func313.trans (congrArg some (by kernel_rfl))
 t0 := Tryz.underlying0
 a0 := Tryz.isAgg0
 z0 := Tryz.sizeOf0
 v0 := Tryz.zeroValue0
 t3 := Tryz.underlying3
 a3 := Tryz.isAgg3
 z3 := Tryz.sizeOf3
 v3 := Tryz.zeroValue3
 t4 := Tryz.underlying4
 a4 := Tryz.isAgg4
 z4 := Tryz.sizeOf4
 v4 := Tryz.zeroValue4
 t5 := Tryz.underlying5
 a5 := Tryz.isAgg5
 z5 := Tryz.sizeOf5
 v5 := Tryz.zeroValue5
 t9 := Tryz.underlying9
 a9 := Tryz.isAgg9
 z9 := Tryz.sizeOf9
 v9 := Tryz.zeroValue9
 t21 := Tryz.underlying21
 a21 := Tryz.isAgg21
 z21 := Tryz.sizeOf21
 v21 := Tryz.zeroValue21
 t31 := Tryz.underlying120
 a31 := Tryz.isAgg120
 z31 := Tryz.sizeOf120
 v31 := Tryz.zeroValue120
 t46 := Tryz.underlying242
 a46 := Tryz.isAgg242
 z46 := Tryz.sizeOf242
 v46 := Tryz.zeroValue242
 t51 := Tryz.underlying327
 a51 := Tryz.isAgg327
 z51 := Tryz.sizeOf327
 v51 := Tryz.zeroValue327
 t105 := Tryz.underlying325
 a105 := Tryz.isAgg325
 z105 := Tryz.sizeOf325
 v105 := Tryz.zeroValue325
 t119 := Tryz.underlying359
 a119 := Tryz.isAgg359
 z119 := Tryz.sizeOf359
 t138 := Tryz.underlying361
 a138 := Tryz.isAgg361
 z138 := Tryz.sizeOf361
 v138 := Tryz.zeroValue361
 t139 := Tryz.underlying362
 a139 := Tryz.isAgg362
 z139 := Tryz.sizeOf362
 v139 := Tryz.zeroValue362
 t146 := Tryz.underlying328
 a146 := Tryz.isAgg328
 z146 := Tryz.sizeOf328
 v146 := Tryz.zeroValue328
 g1 := by kernel_rfl
 g3 := by kernel_rfl
 g4 := by kernel_rfl
 i0 := by kernel_rfl
 i3 := by kernel_rfl
 i4 := by kernel_rfl
 i5 := by kernel_rfl
 i9 := by kernel_rfl
 i21 := by kernel_rfl
 i31 := by kernel_rfl
 i46 := by kernel_rfl
 i51 := by kernel_rfl
 i105 := by kernel_rfl
 i138 := by kernel_rfl
 i139 := by kernel_rfl
 i146 := by kernel_rfl
 m1 := by kernel_rfl
 s1_3 := fun w h => Go.Proofs.cell_of_shapedOpen_int (zero := #[.int .i64 0]) (t := 3) h (of_decide_eq_true (by kernel_rfl)) (by kernel_rfl) rfl (by kernel_rfl) (by kernel_rfl) Tryz.underlying3
 m3 := by kernel_rfl
 m4 := by kernel_rfl }
def Tryz.lays_strings_Join_ren : Go.Shelf.Ren := ⟨fun | 156 => 165 | 165 => 247 | 166 => 248 | 169 => 249 | 240 => 295 | 241 => 296 | 276 => 325 | 277 => 326 | n => n, fun | 31 => 120 | 9 => 9 | 3 => 3 | 4 => 4 | 0 => 0 | 20 => 20 | 72 => 287 | 76 => 283 | 70 => 285 | 37 => 22 | 75 => 282 | 127 => 316 | 164 => 344 | 5 => 5 | 80 => 289 | n => n, fun | n => n⟩
theorem Tryz.lays_strings_Join : Go.Proofs.Lays.n156 Tryz.prog Tryz.lays_strings_Join_ren := {
 mixed := by kernel_rfl
 f156 := Tryz.func165.trans (congrArg some (by kernel_rfl))
 f165 := Tryz.func247.trans (congrArg some (by kernel_rfl))
 f166 := Tryz.func248.trans (congrArg some (by kernel_rfl))
 f169 := Tryz.func249.trans (congrArg some (by kernel_rfl))
 f240 := Tryz.func295.trans (congrArg some (by kernel_rfl))
 f241 := Tryz.func296.trans (congrArg some (by kernel_rfl))
 f276 := Tryz.func325.trans (congrArg some (by kernel_rfl))
 f277 := Tryz.func326.trans (congrArg some (by kernel_rfl))
 t0 := Tryz.underlying0
 a0 := Tryz.isAgg0
 z0 := Tryz.sizeOf0
 v0 := Tryz.zeroValue0
 t3 := Tryz.underlying3
 a3 := Tryz.isAgg3
 z3 := Tryz.sizeOf3
 v3 := Tryz.zeroValue3
 t4 := Tryz.underlying4
 a4 := Tryz.isAgg4
 z4 := Tryz.sizeOf4
 v4 := Tryz.zeroValue4
 t9 := Tryz.underlying9
 a9 := Tryz.isAgg9
 z9 := Tryz.sizeOf9
 v9 := Tryz.zeroValue9
 t20 := Tryz.underlying20
 a20 := Tryz.isAgg20
 z20 := Tryz.sizeOf20
 v20 := Tryz.zeroValue20
 t31 := Tryz.underlying120
 a31 := Tryz.isAgg120
 z31 := Tryz.sizeOf120
 v31 := Tryz.zeroValue120
 t37 := Tryz.underlying22
 a37 := Tryz.isAgg22
 z37 := Tryz.sizeOf22
 v37 := Tryz.zeroValue22
 t70 := Tryz.underlying285
 a70 := Tryz.isAgg285
 z70 := Tryz.sizeOf285
 v70 := Tryz.zeroValue285
 t72 := Tryz.underlying287
 a72 := Tryz.isAgg287
 z72 := Tryz.sizeOf287
 v72 := Tryz.zeroValue287
 t75 := Tryz.underlying282
 a75 := Tryz.isAgg282
 z75 := Tryz.sizeOf282
 v75 := Tryz.zeroValue282
 t76 := Tryz.underlying283
 a76 := Tryz.isAgg283
 z76 := Tryz.sizeOf283
 v76 := Tryz.zeroValue283
 t127 := Tryz.underlying316
 a127 := Tryz.isAgg316
 z127 := Tryz.sizeOf316
 v127 := Tryz.zeroValue316
 t164 := Tryz.underlying344
 a164 := Tryz.isAgg344
 z164 := Tryz.sizeOf344
 v164 := Tryz.zeroValue344 }
theorem Tryz.extra_strings_Join : Builder.Extra Tryz.prog Tryz.lays_strings_Join_ren := {
 sizeBuilder := by kernel_rfl
 liesBuilder := by kernel_rfl
 t5 := by kernel_rfl
 a5 := by intro _; kernel_rfl
 z5 := by intro _; kernel_rfl
 v5 := by intro _; kernel_rfl
 infoByte := by kernel_rfl
 cellsByte := by kernel_rfl
 sizeByte := by kernel_rfl
 neB5 := by decide }
end Go.Proofs
namespace KF
open Go Go.Proofs Go.Proofs.Tryz
def GT : List (Nat × Ty) := [(3, int), (4, .b), (5, PB), (9, .s), (22, (.sl PB)), (24, (.sl (.sl Cd))), (26, La), (29, (.sl int)), (33, (.sl Rb)), (64, (.sl (.sl Sg))), (65, (.sl Ao)), (67, Hb), (85, (.mp Ad (.sl Pv))), (87, (.p La (.p (.mp Ad (.sl Pv)) .u))), (89, Ad), (91, Ce), (92, (.mp Ce (.sl int))), (93, (.sl Ce)), (94, (.sl Pv)), (97, Pv), (104, Rb), (108, (.sl Cd)), (111, Cd), (116, Ox), (117, (.sl Ox)), (120, (.sl .s)), (132, (.sl Sg)), (158, Ag), (201, Sg), (238, Ao), (277, (.sl Qg)), (279, Qg)]
def GA : List (Nat × Ty × Nat) := []
theorem Nap : ((GT.all fun x => Kc Tryz.prog x.2 x.1) && (GA.all fun x => TM Tryz.prog x.1 x.2.1 x.2.2)) = true := by kernel_rfl
theorem ZR : Tryz.prog.follows .mixedOrders = true := by kernel_rfl
noncomputable abbrev II : Ei := Lac (Tryz.lays_strings_Split_ren.g 1)
noncomputable section
noncomputable abbrev WP : Program := Tryz.prog
abbrev WF := List (Nat × Ya)
abbrev WL := List (Nat × Ua)
abbrev WG (z : Bool) (fs : WF) (m : List (Nat × Nat)) (v l : List Nat) : Qd := ⟨GT, fs, m, z, GA, v, l⟩
def WO (fs : WF) : Prop := ∀ z m v l, Ui WP II (WG z fs m v l)
theorem Aax : WO [] := fun _ _ _ _ => NS Nap
theorem wc {f : Nat} {s : Ya} {fs : WF} (e : WO fs) (h : Qh WP II f s) : WO ((f, s) :: fs) := fun z m v l => Ui.cons h (e z m v l)
theorem Yam {f : Nat} {s : Ya} {fs : WF} (e : WO fs) (h : Eb fs f = some s) : Qh WP II f s := (e true [] [] []).fn f s h
theorem Tc {z : Bool} {fs : WF} {m : List (Nat × Nat)} {v l : List Nat} {L : WL} {fn : Func} {i : Nat} (r : Nat) {ls : Ua} {R : ls.inT.X → Option (ls.inT.X ⊕ (ls.outT.X ⊕ ls.retT.X))}
 (h3 : ls.F = Ib R) (h1 : Ck (lp fn i) = some r := by kernel_rfl) (h2 : (Eb L r) = some ls := by kernel_rfl) (h4 : ∀ x, QE (WG z fs m v l) L ls (lp fn i) x = R x := by intro _; kernel_rfl) : Bb (WG z fs m v l) L (lp fn i) := AT h1 h2 h3 h4
theorem Lg {f : Nat} {fn : Func} {pt rt : Ty} {fr : List Bool} {F : T pt → Option (T rt)} {fs : WF} (e : WO fs) (hf : WP.funcs[f]? = some fn)
 (hb : (fn.body.isSome && !(fn.name == "runtime.NumGoroutine") && Nat.ble pt.npar fn.ntmps && Nat.beq (Yd (fn.body.getD .skip)).length 0) = true := by kernel_rfl)
 (hF : ∀ x, O8 (WG true fs [] [] []) [] fn pt rt fr x = F x := by intro _; kernel_rfl) : WO ((f, .pu pt rt fr F) :: fs) := wc e (IK (e _ _ _ _) ZR hf hb Ta hF)
theorem Bh {k : Nat} {L : WL} {m : List (Nat × Nat)} {v l : List Nat} {f : Nat} {fn : Func} {pt rt : Ty} {fr : List Bool} {F : T pt → Option (T rt)} {fs : WF} (e : WO fs) (hf : WP.funcs[f]? = some fn) (hL : ∀ i, i < k → Bb (WG true fs m v l) L (lp fn i))
 (hb : (fn.body.isSome && !(fn.name == "runtime.NumGoroutine") && Nat.ble pt.npar fn.ntmps && Nat.beq (Yd (fn.body.getD .skip)).length k) = true := by kernel_rfl)
 (hF : ∀ x, O8 (WG true fs m v l) L fn pt rt fr x = F x := by intro _; kernel_rfl) : WO ((f, .pu pt rt fr F) :: fs) := wc e (IK (e _ _ _ _) ZR hf hb hL hF)
theorem NG {z : Bool} {k : Nat} {L : WL} {m : List (Nat × Nat)} {v l : List Nat} {f : Nat} {fn : Func} {vw cv : Bool} {τ pt rt : Ty} {fr : List Bool} {F : T τ → T pt → Option (T τ × T rt)} {fs : WF} (e : WO fs) (hf : WP.funcs[f]? = some fn) (hL : ∀ i, i < k → Bb (WG z fs m v l) L (lp fn i))
 (hb : (fn.body.isSome && !(fn.name == "runtime.NumGoroutine") && Nat.ble (pt.npar + 1) fn.ntmps && Nat.beq (Yd (fn.body.getD .skip)).length k) = true := by kernel_rfl)
 (hF : ∀ x0 x, MV (WG z fs m v l) L fn vw cv τ pt rt fr x0 x = F x0 x := by intro _ _; kernel_rfl) (hz : (!z || ((vw && !cv) && Dq m)) = true := by kernel_rfl) : WO ((f, .bx vw cv τ pt rt fr F) :: fs) := wc e (Vaa (e _ _ _ _) hz ZR hf hb hL hF)
theorem wtp {z : Bool} {k : Nat} {L : WL} {m : List (Nat × Nat)} {v l : List Nat} {f : Nat} {fn : Func} {τ κ ε pt rt : Ty} {F : T τ → List (T κ × T ε) → T pt → Option (T τ × (List (T κ × T ε) × T rt))} {fs : WF} (e : WO fs) (hf : WP.funcs[f]? = some fn) (hL : ∀ i, i < k → Bb (WG z fs m v l) L (lp fn i))
 (hb : (fn.body.isSome && !(fn.name == "runtime.NumGoroutine") && Nat.ble (pt.npar + 1) fn.ntmps && Nat.beq (Yd (fn.body.getD .skip)).length k) = true := by kernel_rfl)
 (hF : ∀ x0 xs x, OV (WG z fs m v l) L fn τ κ ε pt rt x0 xs x = F x0 xs x := by intro _ _ _; kernel_rfl) (hz : (!z || UW m) = true := by kernel_rfl) : WO ((f, .tp τ κ ε pt rt F) :: fs) := wc e (Yaa (e _ _ _ _) hz ZR hf hb hL hF)
theorem wnw {k : Nat} {L : WL} {m : List (Nat × Nat)} {v l : List Nat} {f : Nat} {fn : Func} {pt τ : Ty} {F : T pt → Option (T τ)} {fs : WF} (e : WO fs) (hf : WP.funcs[f]? = some fn) (hL : ∀ i, i < k → Bb (WG true fs m v l) L (lp fn i))
 (hb : (fn.body.isSome && !(fn.name == "runtime.NumGoroutine") && Nat.ble pt.npar fn.ntmps && Nat.beq (Yd (fn.body.getD .skip)).length k) = true := by kernel_rfl)
 (hF : ∀ x, NV (WG true fs m v l) L fn pt τ x = F x := by intro _; kernel_rfl) : WO ((f, .nw pt τ F) :: fs) := wc e (Xaa (e _ _ _ _) ZR hf hb hL hF)
theorem Cav : ∀ w, II.p w → ∃ m, w.cell? ⟨Tryz.lays_strings_Split_ren.g 1, 0, none⟩ = some (.int .i64 m) := fun _ h => h
abbrev Qa : TD := .data int
abbrev Ug : TD := .data La
abbrev Fg : Ty := .p .b .u
abbrev Yt : Ty := .sl Cd
abbrev WD : TD := .pr Qa (.pr (.own 200001 Yt true) .un)
abbrev Fh : Ty := .p int .u
abbrev Gh : TD := .ptr 1 []
abbrev Hh : TD := .ptr 2 []
abbrev Oh : TD := .ptr 3 []
abbrev QB : TD := .own 200001 Rb true
abbrev En : Ty := .p Cd .u
abbrev Gy : TD := .own 200001 int true
abbrev Fo : Ty := .p La .u
abbrev Ho : Ty := .sl Rb
abbrev Vj : Ty := .sl Sg
abbrev Np : Ty := .sl Pv
abbrev XD : Ty := .p La (.p (.mp Ad Np) .u)
abbrev Ti : TD := .data .b
abbrev Wk : TD := .ptr 4 []
abbrev Fi : Ty := .sl int
abbrev Rv : TD := .pr Qa (.pr (.data Fi) .un)
abbrev YE : Ty := .p int (.p .o .u)
abbrev Mz : TD := .data Hb
abbrev Gal : TD := .pr (.pr Qa (.pr (.own 200005 Yt true) .un)) (.pr (.own 200006 Vj true) (.pr Qa (.pr (.own 200007 Ao true) (.data (.p int Fg)))))
abbrev A6 : TD := .pr Ug (.pr (.mpo 500001 Ad Np) .un)
abbrev ZE : TD := .ptr 500000 []
abbrev PW : TD := .pr Qa (.pr (.own 200002 Yt true) .un)
abbrev E0 : TD := .pr PW (.pr (.own 200003 Vj true) (.pr Qa (.pr (.own 200004 Ao true) (.data (.p int Fg)))))
abbrev AF : TD := .data (.sl Yt)
abbrev VB : TD := .pr Qa (.pr AF .un)
abbrev Uv : Ty := .sl Ao
abbrev Sv : TD := .data Uv
abbrev Z5 : TD := .pr (.data (.sl Vj)) (.pr Qa (.pr Sv (.data (.p int Fg))))
abbrev BF : Ty := .p Rb .u
abbrev Hy : TD := .ptr 5 []
abbrev UQ : TD := .own 200101 int true
abbrev QW : TD := .own 200101 Cd true
abbrev RW : Ty := .p Hb (.p Ho Fg)
abbrev ZI : Ty := .p Hb .u
abbrev s_8 : Ya := .pu (.p (.sl PB) .u) Fg [true] (fun x => Uz x.1)
abbrev F_8 : WF := (8, s_8) :: ([] : WF)
theorem E_8 : WO F_8 := Lg Aax func8
abbrev Zav : Ya := .nw (.p (.sl PB) .u) Ag (fun x => Yy x.1)
abbrev Eak : WF := (35, Zav) :: F_8
def I9 : Ua := ⟨32, ⟨[(0, (.data (.sl PB))), (3, Qa), (4, Qa)], []⟩, 0, ⟨[(0, (.data (.sl PB))), (3, Qa)], []⟩, ⟨[], []⟩, Dw⟩
def Eav : WL := [(3, I9)]
theorem Qal : Bb (WG true F_8 [] [] []) Eav (lp f35 0) := Tc 3 (ls := I9) rfl
theorem Cau : WO Eak := wnw E_8 func35 (Na Qal Ta)
abbrev Far : Ya := .bx true false Ag .u Fh [true] (fun x0 x => Em x0)
abbrev Oae : WF := (108, Far) :: Eak
theorem Han : WO Oae := NG (L := []) (m := []) (v := []) (l := []) (z := false) Cau func108 Ta
abbrev Haw : Ya := .bx true false Ag Fh Fh [true] (fun x0 x => Za x0 x.1)
abbrev Jak : WF := (43, Haw) :: Oae
theorem Kau : WO Jak := NG (L := []) (m := []) (v := []) (l := []) (z := false) Han func43 Ta
abbrev Zar : Ya := .bx true false Ag Fh Fg [true] (fun x0 x => Zr x0 x.1)
abbrev Xae : WF := (182, Zar) :: Jak
theorem Bao : WO Xae := NG (L := []) (m := []) (v := []) (l := []) (z := false) Kau func182 Ta
abbrev Vaw : Ya := .bx true false Ag Fh En [true] (fun x0 x => As x0 x.1)
abbrev F5 : WF := (96, Vaw) :: Xae
theorem Yau : WO F5 := NG (L := []) (m := []) (v := []) (l := []) (z := false) Bao func96 Ta
abbrev War : Ya := .bx true false Ag Fh Fo [true] (fun x0 x => Pw x0 x.1)
abbrev Wae : WF := (179, War) :: F5
def P1 : Ua := ⟨48, ⟨[(0, ZE), (1, Qa), (4, Wk), (5, Qa), (6, (.ptr 6 [])), (7, Qa), (8, QW), (9, Qa)], [(500000, Ag, (.data Ag)), (4, La, (.pr Qa (.pr (.own 200102 Yt true) .un))), (6, La, (.pr Qa (.pr (.own 200103 Yt true) .un)))]⟩, 2, ⟨[(0, ZE), (1, Qa), (4, Wk), (5, Qa), (6, (.ptr 6 [])), (7, Qa), (8, QW)], [(500000, Ag, (.data Ag)), (4, La, (.pr Qa (.pr (.own 200102 Yt true) .un))), (6, La, (.pr Qa (.pr (.own 200103 Yt true) .un)))]⟩, ⟨[], []⟩, Bv⟩
def O1 : Ua := ⟨48, ⟨[(0, ZE), (1, Qa), (4, Wk), (5, Qa), (6, (.ptr 6 [])), (7, Qa)], [(500000, Ag, (.data Ag)), (4, La, WD), (6, La, PW)]⟩, 0, ⟨[(0, ZE), (4, Wk), (6, (.ptr 6 []))], [(500000, Ag, (.data Ag)), (4, La, WD), (6, La, PW)]⟩, ⟨[], []⟩, Av⟩
def Xaf : WL := [(8, P1), (4, O1)]
theorem Vah : Bb (WG false F5 [] [] []) Xaf (lp f179 1) := Tc 8 (ls := P1) rfl
theorem Uah : Bb (WG false F5 [] [] []) Xaf (lp f179 0) := Tc 4 (ls := O1) rfl
theorem Yan : WO Wae := NG Yau func179 (Na Vah (Na Uah Ta))
abbrev Xar : Ya := .bx true true Ag (.p Fi .u) Fh [true] (fun x0 x => Mi x0 x.1)
abbrev O4 : WF := (180, Xar) :: Wae
theorem Zan : WO O4 := NG (L := []) (m := []) (v := []) (l := []) (z := false) Yan func180 Ta
abbrev Saw : Ya := .bx true false Ag Fh Fo [true] (fun x0 x => Yu x0 x.1)
abbrev Qab : WF := (93, Saw) :: O4
def Y9 : Ua := ⟨49, ⟨[(0, ZE), (1, Qa), (4, Wk), (5, Hy), (6, Qa)], [(500000, Ag, (.data Ag)), (4, La, VB), (5, La, WD)]⟩, 0, ⟨[(0, ZE), (4, Wk), (5, Hy)], [(500000, Ag, (.data Ag)), (4, La, VB), (5, La, WD)]⟩, ⟨[], []⟩, Ss⟩
def Mav : WL := [(3, Y9)]
theorem Gam : Bb (WG false O4 [(4999, 200001), (8998, 200001)] [] []) Mav (lp f93 0) := Tc 3 (ls := Y9) rfl
theorem Vau : WO Qab := NG Zan func93 (Na Gam Ta)
abbrev Taw : Ya := .pu Fo Fo [true] (fun x => Bs x.1)
abbrev Oak : WF := (94, Taw) :: Qab
def Z9 : Ua := ⟨28, ⟨[(1, Gh), (2, Hh), (3, Oh), (4, Qa)], [(1, La, Ug), (2, La, VB), (3, La, WD)]⟩, 0, ⟨[(2, Hh), (3, Oh)], [(2, La, VB), (3, La, WD)]⟩, ⟨[], []⟩, Zu⟩
def Nav : WL := [(3, Z9)]
theorem Ham : Bb (WG true Qab [] [] []) Nav (lp f94 0) := Tc 3 (ls := Z9) rfl
theorem Wau : WO Oak := Bh Vau func94 (Na Ham Ta)
abbrev Ear : Ya := .pu Sg Fg [true] (fun x => Of x.1 x.2.1 x.2.2.1)
abbrev Nae : WF := (107, Ear) :: Oak
theorem Gan : WO Nae := Lg Wau func107
abbrev Dar : Ya := .pu En Fg [true] (fun x => Hj x.1)
abbrev VU : WF := (106, Dar) :: Nae
theorem Fan : WO VU := Lg Gan func106
abbrev Gaw : Ya := .pu Fo Fg [true] (fun x => Ij x.1)
abbrev Iak : WF := (42, Gaw) :: VU
def Q9 : Ua := ⟨74, ⟨[(1, Gh), (3, Qa), (4, Qa)], [(1, La, Ug)]⟩, 2, ⟨[(1, Gh), (3, Qa)], [(1, La, Ug)]⟩, ⟨[(2, Ti)], []⟩, Wl⟩
def P9 : Ua := ⟨74, ⟨[(1, Gh), (3, Qa)], [(1, La, Ug)]⟩, 0, ⟨[(1, Gh)], [(1, La, Ug)]⟩, ⟨[(2, Ti)], []⟩, Vl⟩
def Xak : WL := [(7, Q9), (2, P9)]
theorem Yal : Bb (WG true VU [] [] []) Xak (lp f42 1) := Tc 7 (ls := Q9) rfl
theorem Xal : Bb (WG true VU [] [] []) Xak (lp f42 0) := Tc 2 (ls := P9) rfl
theorem Jau : WO Iak := Bh Fan func42 (Na Yal (Na Xal Ta))
abbrev Bas : Ya := .pu En Fg [true] (fun x => Km x.1)
abbrev Zae : WF := (184, Bas) :: Iak
theorem Dao : WO Zae := Lg Jau func184
abbrev Sas : Ya := .pu En En [true] (fun x => Ow x.1)
abbrev CO : WF := (203, Sas) :: Zae
theorem Uao : WO CO := Lg Dao func203
abbrev Yar : Ya := .pu Fo Fh [true] (fun x => Mt x.1)
abbrev XU : WF := (181, Yar) :: CO
def BY : Ua := ⟨66, ⟨[(1, Gh), (3, Qa), (4, Qa), (5, Qa), (6, Qa)], [(1, La, Ug)]⟩, 4, ⟨[(1, Gh), (3, Qa), (4, Qa), (5, Qa)], [(1, La, Ug)]⟩, ⟨[], []⟩, Oj⟩
def R1 : Ua := ⟨66, ⟨[(1, Gh), (3, Qa), (4, Qa), (5, Qa)], [(1, La, Ug)]⟩, 2, ⟨[(1, Gh), (3, Qa), (4, Qa)], [(1, La, Ug)]⟩, ⟨[], []⟩, Jk⟩
def Q1 : Ua := ⟨66, ⟨[(1, Gh), (3, Qa), (4, Qa)], [(1, La, Ug)]⟩, 0, ⟨[(3, Qa)], []⟩, ⟨[], []⟩, Uo⟩
def I5 : WL := [(11, BY), (8, R1), (5, Q1)]
theorem Rac : Bb (WG true CO [] [] []) I5 (lp f181 2) := Tc 11 (ls := BY) rfl
theorem Xah : Bb (WG true CO [] [] []) I5 (lp f181 1) := Tc 8 (ls := R1) rfl
theorem Wah : Bb (WG true CO [] [] []) I5 (lp f181 0) := Tc 5 (ls := Q1) rfl
theorem Aao : WO XU := Bh Uao func181 (Na Rac (Na Xah (Na Wah Ta)))
abbrev Uaw : Ya := .pu Fo Fo [true] (fun x => Er x.1)
abbrev Pak : WF := (95, Uaw) :: XU
def Baa : Ua := ⟨44, ⟨[(1, Gh), (2, Hh), (3, Oh), (4, Qa), (5, Qa), (6, Qa)], [(1, La, Ug), (2, La, VB), (3, La, (.pr Qa (.pr (.own 200101 Yt true) .un)))]⟩, 2, ⟨[(1, Gh), (2, Hh), (3, Oh), (4, Qa), (5, Qa)], [(1, La, Ug), (2, La, VB), (3, La, (.pr Qa (.pr (.own 200101 Yt true) .un)))]⟩, ⟨[], []⟩, Nh⟩
def Aaa : Ua := ⟨44, ⟨[(1, Gh), (2, Hh), (3, Oh), (4, Qa), (5, Qa)], [(1, La, Ug), (2, La, VB), (3, La, WD)]⟩, 0, ⟨[(2, Hh), (3, Oh)], [(2, La, VB), (3, La, WD)]⟩, ⟨[], []⟩, Pj⟩
def Yak : WL := [(7, Baa), (4, Aaa)]
theorem Jam : Bb (WG true XU [(8999, 200101)] [] []) Yak (lp f95 1) := Tc 7 (ls := Baa) rfl
theorem Iam : Bb (WG true XU [(8999, 200101)] [] []) Yak (lp f95 0) := Tc 4 (ls := Aaa) rfl
theorem Xau : WO Pak := Bh Aao func95 (Na Jam (Na Iam Ta))
abbrev Aas : Ya := .bx true false Ag .u En [true] (fun x0 x => HC x0)
abbrev Yae : WF := (183, Aas) :: Pak
theorem Cao : WO Yae := NG (L := []) (m := []) (v := []) (l := []) (z := false) Xau func183 Ta
abbrev Waw : Ya := .bx true false Ag .u Fo [false] (fun x0 x => IC x0)
abbrev Qak : WF := (97, Waw) :: Yae
theorem Zau : WO Qak := NG (L := []) (m := [(16999, 100576), (999999999, 0), (16999, 1000100576), (9000, 2000100576), (13000, 2000100576), (16999, 1000000066), (16999, 1000000073)]) (v := [73]) (l := []) (z := true) Cao func97 Ta
abbrev Xaw : Ya := .pu En En [true] (fun x => Vy x.1)
abbrev Rak : WF := (98, Xaw) :: Qak
theorem Aav : WO Rak := Lg Zau func98
abbrev Yav : Ya := .bx true false Ag .u (.p La Fo) [true, false] (fun x0 x => PA x0)
abbrev Dak : WF := (34, Yav) :: Rak
theorem Bau : WO Dak := NG (L := []) (m := [(16997, 100960007), (17999, 100960), (999999999, 0), (17999, 1000101344), (8998, 100960), (17999, 1000100960), (17999, 1000103136), (16998, 100960)]) (v := []) (l := []) (z := true) Aav func34 Ta
abbrev s_9 : Ya := .pu (.p (.sl PB) .u) (.p La Fo) [true, false] (fun x => Uk x.1)
abbrev F_9 : WF := (9, s_9) :: Dak
theorem E_9 : WO F_9 := Lg Bau func9
abbrev Cas : Ya := .pu Fh Fg [true] (fun x => Mo x.1)
abbrev Aaf : WF := (185, Cas) :: F_9
theorem Eao : WO Aaf := Lg E_9 func185
abbrev Das : Ya := .pu Fh Fg [true] (fun x => No x.1)
abbrev Baf : WF := (186, Das) :: Aaf
theorem Fao : WO Baf := Lg Eao func186
abbrev Eas : Ya := .pu Fh Fg [true] (fun x => Sp x.1)
abbrev Caf : WF := (187, Eas) :: Baf
theorem Gao : WO Caf := Lg Fao func187
abbrev Yaw : Ya := .pu En Fg [true] (fun x => Gj x.1)
abbrev G5 : WF := (99, Yaw) :: Caf
theorem Bav : WO G5 := Lg Gao func99
abbrev Aaw : Ya := .pu Fo Fg [true] (fun x => Ch x.1)
abbrev Jab : WF := (36, Aaw) :: G5
def K9 : Ua := ⟨73, ⟨[(1, Gh), (3, Qa), (28, AF), (29, Qa), (30, Qa), (40, (.data Yt)), (41, Qa), (42, Qa)], [(1, La, Ug)]⟩, 2, ⟨[(1, Gh), (28, AF), (29, Qa), (30, Qa)], [(1, La, Ug)]⟩, ⟨[(2, Ti)], []⟩, Ol⟩
def J9 : Ua := ⟨73, ⟨[(1, Gh), (28, AF), (29, Qa), (30, Qa)], [(1, La, Ug)]⟩, 0, ⟨[], []⟩, ⟨[(2, Ti)], []⟩, Nl⟩
def Vak : WL := [(9, K9), (4, J9)]
theorem Sal : Bb (WG true G5 [] [] []) Vak (lp f36 1) := Tc 9 (ls := K9) rfl
theorem Ral : Bb (WG true G5 [] [] []) Vak (lp f36 0) := Tc 4 (ls := J9) rfl
theorem Dau : WO Jab := Bh Bav func36 (Na Sal (Na Ral Ta))
abbrev Jaw : Ya := .pu Fo Fo [true] (fun x => Rk x.1)
abbrev Lab : WF := (45, Jaw) :: Jab
def R9 : Ua := ⟨25, ⟨[(2, Hh), (3, Oh), (10, AF), (11, Qa), (12, Qa)], [(2, La, VB), (3, La, WD)]⟩, 0, ⟨[(2, Hh), (3, Oh)], [(2, La, VB), (3, La, WD)]⟩, ⟨[], []⟩, Ko⟩
def Hav : WL := [(3, R9)]
theorem Zal : Bb (WG true Jab [] [] []) Hav (lp f45 0) := Tc 3 (ls := R9) rfl
theorem Mau : WO Lab := Bh Dau func45 (Na Zal Ta)
abbrev Qaw : Ya := .pu (.p (.sl Vj) .u) (.p (.sl Vj) .u) [true] (fun x => Rn x.1)
abbrev Nak : WF := (80, Qaw) :: Lab
def X9 : Ua := ⟨19, ⟨[(3, (.own 200001 Vj true)), (6, (.data (.sl Vj))), (7, Qa), (8, Qa)], []⟩, 0, ⟨[(3, (.own 200001 Vj true))], []⟩, ⟨[], []⟩, Lo⟩
def Lav : WL := [(3, X9)]
theorem Fam : Bb (WG true Lab [] [] []) Lav (lp f80 0) := Tc 3 (ls := X9) rfl
theorem Tau : WO Nak := Bh Mau func80 (Na Fam Ta)
abbrev Bar : Ya := .pu ZI ZI [true] (fun x => Qk x.1)
abbrev Mae : WF := (104, Bar) :: Nak
theorem Dan : WO Mae := Lg Tau func104
abbrev Law : Ya := .pu Qg Fh [true] (fun x => Pm x.1 x.2.1)
abbrev Mab : WF := (47, Law) :: Mae
theorem Oau : WO Mab := Lg Dan func47
abbrev Oas : Ya := .pu (.p Uv .u) Fg [true] (fun x => Ek x.1)
abbrev S4 : WF := (197, Oas) :: Mab
def W1 : Ua := ⟨46, ⟨[(3, Qa), (6, Sv), (7, Qa), (8, Qa)], []⟩, 0, ⟨[], []⟩, ⟨[(2, Ti)], []⟩, Du⟩
def Caq : WL := [(3, W1)]
theorem Cai : Bb (WG true Mab [] [] []) Caq (lp f197 0) := Tc 3 (ls := W1) rfl
theorem Qao : WO S4 := Bh Oau func197 (Na Cai Ta)
abbrev Uar : Ya := .pu (.p int (.p Uv .u)) Fh [true] (fun x => Zk x.1 x.2.1)
abbrev M4 : WF := (166, Uar) :: S4
def M1 : Ua := ⟨39, ⟨[(5, Qa), (21, Sv), (22, Qa), (23, Qa)], []⟩, 0, ⟨[(5, Qa)], []⟩, ⟨[], []⟩, Ih⟩
def Wap : WL := [(7, M1)]
theorem Sah : Bb (WG true S4 [] [] []) Wap (lp f166 0) := Tc 7 (ls := M1) rfl
theorem Wan : WO M4 := Bh Qao func166 (Na Sah Ta)
abbrev Fas : Ya := .pu (.p La Qg) Fh [true] (fun x => Ju x.1 x.2.1 x.2.2.1)
abbrev Daf : WF := (188, Fas) :: M4
def S1 : Ua := ⟨33, ⟨[(1, Qa), (2, Qa), (3, Oh), (7, Qa)], [(3, La, Ug)]⟩, 0, ⟨[], []⟩, ⟨[(6, Qa)], []⟩, Vh⟩
def Yap : WL := [(2, S1)]
theorem Yah : Bb (WG true M4 [] [] []) Yap (lp f188 0) := Tc 2 (ls := S1) rfl
theorem Hao : WO Daf := Bh Wan func188 (Na Yah Ta)
abbrev Bat : Ya := .pu En Fg [true] (fun x => Rp x.1)
abbrev Naf : WF := (262, Bat) :: Daf
theorem Dap : WO Naf := Lg Hao func262
abbrev Gas : Ya := .pu En En [true] (fun x => HM x.1)
abbrev Eaf : WF := (189, Gas) :: Naf
theorem Iao : WO Eaf := Lg Dap func189
abbrev Has : Ya := .pu En En [true] (fun x => EC x.1)
abbrev Faf : WF := (190, Has) :: Eaf
theorem Jao : WO Faf := Lg Iao func190
abbrev Cat : Ya := .pu Fh Fg [true] (fun x => Bt x.1)
abbrev Oaf : WF := (263, Cat) :: Faf
theorem Eap : WO Oaf := Lg Jao func263
abbrev Ias : Ya := .bx false false Hb En En [true] (fun x0 x => Wr x0 x.1)
abbrev P4 : WF := (191, Ias) :: Oaf
theorem Kao : WO P4 := NG (L := []) (m := []) (v := []) (l := []) (z := false) Eap func191 Ta
abbrev Zas : Ya := .pu (.p (.sl Qg) (.p Qg .u)) Fh [true] (fun x => Kw x.1 x.2.1)
abbrev X4 : WF := (242, Zas) :: P4
def E2 : Ua := ⟨19, ⟨[(3, Oh), (7, (.data (.sl Qg))), (8, Qa), (9, Qa)], [(3, Qg, (.data Qg))]⟩, 0, ⟨[], []⟩, ⟨[(4, Qa)], []⟩, Ku⟩
def Iaq : WL := [(2, E2)]
theorem Jai : Bb (WG true P4 [] [] []) Iaq (lp f242 0) := Tc 2 (ls := E2) rfl
theorem Bap : WO X4 := Bh Kao func242 (Na Jai Ta)
abbrev Sar : Ya := .pu (.p Vj .u) Fg [true] (fun x => Eu x.1)
abbrev Uae : WF := (156, Sar) :: X4
def L1 : Ua := ⟨62, ⟨[(3, (.own 200001 Qg true)), (11, (.data Vj)), (12, Qa), (13, Qa)], []⟩, 0, ⟨[(3, (.own 200001 Qg true))], []⟩, ⟨[(2, Ti)], []⟩, Ms⟩
def Vap : WL := [(5, L1)]
theorem Rah : Bb (WG true X4 [] [] []) Vap (lp f156 0) := Tc 5 (ls := L1) rfl
theorem Uan : WO Uae := Bh Bap func156 (Na Rah Ta)
abbrev Caw : Ya := .pu (.p Fi .u) (.p Fi .u) [true] (fun x => Ai x.1)
abbrev Fak : WF := (38, Caw) :: Uae
theorem Fau : WO Fak := Lg Uan func38
abbrev Hat : Ya := .io Fi .u .u [] (fun x0 _ => sort_Ints x0)
abbrev B5 : WF := (297, Hat) :: Fak
end
end KF
namespace Go.Proofs
open Go.Shelf
def Tryz.lays_sort_Ints_ren : Go.Shelf.Ren := ⟨fun | 191 => 297 | 189 => 327 | 125 => 342 | 257 => 341 | 128 => 356 | 129 => 337 | 294 => 347 | 295 => 348 | 296 => 349 | 297 => 350 | 298 => 351 | 299 => 352 | 216 => 353 | 300 => 354 | 301 => 355 | 328 => 357 | 329 => 358 | 330 => 359 | 331 => 360 | 332 => 361 | 215 => 362 | 343 => 363 | n => n, fun | 28 => 29 | 0 => 0 | 3 => 3 | 46 => 242 | 51 => 327 | 53 => 339 | 4 => 4 | 183 => 370 | 182 => 369 | 131 => 135 | 5 => 5 | 9 => 9 | 218 => 378 | 222 => 382 | 228 => 384 | 229 => 336 | n => n, fun | n => n⟩
theorem Tryz.lays_sort_Ints : Go.Proofs.Lays.n191 Tryz.prog Tryz.lays_sort_Ints_ren := {
 mixed := by kernel_rfl
 f125 := Tryz.func342.trans (congrArg some (by kernel_rfl))
 f128 := Tryz.func356.trans (congrArg some (by kernel_rfl))
 f129 := Tryz.func337.trans (congrArg some (by kernel_rfl))
 f189 := Tryz.func327.trans (congrArg some (by kernel_rfl))
 f191 := Tryz.func297.trans (congrArg some (by kernel_rfl))
 f215 := Tryz.func362.trans (congrArg some (by kernel_rfl))
 f216 := Tryz.func353.trans (congrArg some (by kernel_rfl))
 f257 := Tryz.func341.trans (congrArg some (by kernel_rfl))
 f294 := Tryz.func347.trans (congrArg some (by kernel_rfl))
 f295 := Tryz.func348.trans (congrArg some (by kernel_rfl))
 f296 := Tryz.func349.trans (congrArg some (by kernel_rfl))
 f297 := Tryz.func350.trans (congrArg some (by kernel_rfl))
 f298 := Tryz.func351.trans (congrArg some (by kernel_rfl))
 f299 := Tryz.func352.trans (congrArg some (by kernel_rfl))
 f300 := Tryz.func354.trans (congrArg some (by kernel_rfl))
 f301 := Tryz.func355.trans (congrArg some (by kernel_rfl))
 f328 := Tryz.func357.trans (congrArg some (by kernel_rfl))
 f329 := Tryz.func358.trans (congrArg some (by kernel_rfl))
 f330 := Tryz.func359.trans (congrArg some (by kernel_rfl))
 f331 := Tryz.func360.trans (congrArg some (by kernel_rfl))
 f332 := Tryz.func361.trans (congrArg some (by kernel_rfl))
 f343 := Tryz.func363.trans (congrArg some (by kernel_rfl))
 t0 := Tryz.underlying0
 a0 := Tryz.isAgg0
 z0 := Tryz.sizeOf0
 v0 := Tryz.zeroValue0
 t3 := Tryz.underlying3
 a3 := Tryz.isAgg3
 z3 := Tryz.sizeOf3
 v3 := Tryz.zeroValue3
 t4 := Tryz.underlying4
 a4 := Tryz.isAgg4
 z4 := Tryz.sizeOf4
 v4 := Tryz.zeroValue4
 t5 := Tryz.underlying5
 a5 := Tryz.isAgg5
 z5 := Tryz.sizeOf5
 v5 := Tryz.zeroValue5
 t9 := Tryz.underlying9
 a9 := Tryz.isAgg9
 z9 := Tryz.sizeOf9
 v9 := Tryz.zeroValue9
 t28 := Tryz.underlying29
 a28 := Tryz.isAgg29
 z28 := Tryz.sizeOf29
 v28 := Tryz.zeroValue29
 t46 := Tryz.underlying242
 a46 := Tryz.isAgg242
 z46 := Tryz.sizeOf242
 v46 := Tryz.zeroValue242
 t51 := Tryz.underlying327
 a51 := Tryz.isAgg327
 z51 := Tryz.sizeOf327
 v51 := Tryz.zeroValue327
 t53 := Tryz.underlying339
 a53 := Tryz.isAgg339
 z53 := Tryz.sizeOf339
 v53 := Tryz.zeroValue339
 t131 := Tryz.underlying135
 a131 := Tryz.isAgg135
 z131 := Tryz.sizeOf135
 v131 := Tryz.zeroValue135
 t182 := Tryz.underlying369
 a182 := Tryz.isAgg369
 z182 := Tryz.sizeOf369
 v182 := Tryz.zeroValue369
 t183 := Tryz.underlying370
 a183 := Tryz.isAgg370
 z183 := Tryz.sizeOf370
 v183 := Tryz.zeroValue370
 t218 := Tryz.underlying378
 a218 := Tryz.isAgg378
 z218 := Tryz.sizeOf378
 v218 := Tryz.zeroValue378
 t222 := Tryz.underlying382
 a222 := Tryz.isAgg382
 z222 := Tryz.sizeOf382
 v222 := Tryz.zeroValue382
 t228 := Tryz.underlying384
 a228 := Tryz.isAgg384
 z228 := Tryz.sizeOf384
 v228 := Tryz.zeroValue384
 t229 := Tryz.underlying336
 a229 := Tryz.isAgg336
 z229 := Tryz.sizeOf336
 v229 := Tryz.zeroValue336 }
end Go.Proofs
namespace KF
open Go Go.Proofs Go.Proofs.Tryz
noncomputable section
theorem Jap : WO B5 := wc Fau (G7 Tryz.lays_sort_Ints (by kernel_rfl))
abbrev Iat : Ya := .pu (.p Fi Fh) Fg [true] (fun x => MA x.1 x.2.1)
abbrev C5 : WF := (298, Iat) :: B5
def M2 : Ua := ⟨17, ⟨[(1, Qa), (7, (.data Fi)), (8, Qa), (9, Qa)], []⟩, 0, ⟨[], []⟩, ⟨[(4, Ti)], []⟩, Iu⟩
def Maq : WL := [(2, M2)]
theorem Pai : Bb (WG true B5 [] [] []) Maq (lp f298 0) := Tc 2 (ls := M2) rfl
theorem Kap : WO C5 := Bh Jap func298 (Na Pai Ta)
abbrev Aat : Ya := .pu (.p Fi .u) (.p Fi .u) [true] (fun x => Gu x.1)
abbrev Y4 : WF := (250, Aat) :: C5
def H2 : Ua := ⟨31, ⟨[(4, Gy), (11, (.own 200002 int true)), (12, Qa), (13, Qa)], []⟩, 0, ⟨[(4, Gy)], []⟩, ⟨[], []⟩, Ps⟩
def Jaq : WL := [(5, H2)]
theorem Kai : Bb (WG true C5 [] [] []) Jaq (lp f250 0) := Tc 5 (ls := H2) rfl
theorem Cap : WO Y4 := Bh Kap func250 (Na Kai Ta)
abbrev Var : Ya := .pu (.p Uv .u) BF [true] (fun x => Xb x.1)
abbrev N4 : WF := (167, Var) :: Y4
def N1 : Ua := ⟨45, ⟨[(2, Hh), (3, Oh), (4, Gy), (11, Sv), (12, Qa), (13, Qa)], [(2, Rb, Rv), (3, Rb, Rv)]⟩, 0, ⟨[(2, Hh), (3, Oh), (4, Gy)], [(2, Rb, Rv), (3, Rb, Rv)]⟩, ⟨[], []⟩, Sq⟩
def Xap : WL := [(6, N1)]
theorem Tah : Bb (WG true Y4 [] [] []) Xap (lp f167 0) := Tc 6 (ls := N1) rfl
theorem Xan : WO N4 := Bh Cap func167 (Na Tah Ta)
abbrev Dat : Ya := .pu (.p Rb (.p (.sl Qg) .u)) BF [true] (fun x => Im x.1 x.2.1)
abbrev Z4 : WF := (264, Dat) :: N4
def I2 : Ua := ⟨37, ⟨[(4, Wk), (5, Hy), (6, Gy), (15, (.data (.sl Qg))), (16, Qa), (17, Qa)], [(4, Rb, Rv), (5, Rb, Rv)]⟩, 0, ⟨[(4, Wk), (5, Hy), (6, Gy)], [(4, Rb, Rv), (5, Rb, Rv)]⟩, ⟨[], []⟩, Rx⟩
def Kaq : WL := [(4, I2)]
theorem Lai : Bb (WG true N4 [] [] []) Kaq (lp f264 0) := Tc 4 (ls := I2) rfl
theorem Fap : WO Z4 := Bh Xan func264 (Na Lai Ta)
abbrev Jas : Ya := .pu (.p Uv (.p Vj .u)) (.p Ho .u) [true] (fun x => Xv x.1 x.2.1)
abbrev Q4 : WF := (192, Jas) :: Z4
def T1 : Ua := ⟨74, ⟨[(5, Hy), (6, QB), (7, (.own 200002 Qg true)), (22, (.data Vj)), (23, Qa), (24, Qa)], [(5, Rb, (.pr Qa (.pr (.own 200003 int true) .un)))]⟩, 0, ⟨[(6, QB)], []⟩, ⟨[], []⟩, Fu⟩
def Zap : WL := [(7, T1)]
theorem Zah : Bb (WG true Z4 [] [] []) Zap (lp f192 0) := Tc 7 (ls := T1) rfl
theorem Lao : WO Q4 := Bh Fap func192 (Na Zah Ta)
abbrev Jat : Ya := .pu (.p Fi (.p Fi .u)) Fg [true] (fun x => Yw x.1 x.2.1)
abbrev Saf : WF := (304, Jat) :: Q4
def N2 : Ua := ⟨26, ⟨[(0, (.data Fi)), (1, (.data Fi)), (12, Qa), (13, Qa)], []⟩, 0, ⟨[], []⟩, ⟨[(4, Ti)], []⟩, Wq⟩
def Naq : WL := [(4, N2)]
theorem Qai : Bb (WG true Q4 [] [] []) Naq (lp f304 0) := Tc 4 (ls := N2) rfl
theorem Lap : WO Saf := Bh Lao func304 (Na Qai Ta)
abbrev Pag : Ya := .pu (.p Rb BF) Fg [true] (fun x => Pn x.1 x.2.1)
abbrev Paf : WF := (265, Pag) :: Saf
theorem Kae : WO Paf := Lg Lap func265
abbrev Kas : Ya := .co (.p Rb (.p Ho .u)) (.p Ho .u) [true] (fun x => Uc x.1 x.2.1)
abbrev Gaf : WF := (193, Kas) :: Paf
def GTo : List (Nat × Ty) := [(3, int), (33, (.sl YE)), (104, YE)]
theorem Sak : ((GTo.all fun x => Kc Tryz.prog x.2 x.1) && (([] : List (Nat × Ty × Nat)).all fun x => TM Tryz.prog x.1 x.2.1 x.2.2)) = true := by kernel_rfl
@[reducible] def Zab (c : T Ud → T Ud → Option Bool) : Ya := .pu (.p YE (.p (.sl YE) .u)) (.p (.sl YE) .u) [true] (fun x => C6 c x.1 x.2.1)
def E8 (c : T Ud → T Ud → Option Bool) : Qd := ⟨GTo, [(265, OR c)], [], true, [], [], []⟩
theorem Yab (I : Ei) (c : T Ud → T Ud → Option Bool) (h : Qh Tryz.prog I 265 (OR c)) : Ui Tryz.prog I (E8 c) := Ui.cons h (NS Sak)
def FS (c : T Ud → T Ud → Option Bool) : Ua := ⟨25, ⟨[(2, Hh), (5, (.own 200001 YE true)), (8, (.data (.sl YE))), (9, Qa), (10, Qa)], [(2, YE, (.data YE))]⟩, 0, ⟨[(5, (.own 200001 YE true))], []⟩, ⟨[], []⟩, Vr c⟩
def F8 (c : T Ud → T Ud → Option Bool) : List (Nat × Ua) := [(3, FS c)]
theorem D6 (c : T Ud → T Ud → Option Bool) : Bb (E8 c) (F8 c) (lp Tryz.f193 0) := AT (r := 3) (ls := FS c) (R := fun x => Oz c x.1.1 x.1.2.1 x.1.2.2.1 x.1.2.2.2.1 x.1.2.2.2.2.1 x.2.1) (by kernel_rfl) (by kernel_rfl) rfl (fun x => by kernel_rfl)
theorem Aac (I : Ei) (c : T Ud → T Ud → Option Bool) (h : Qh Tryz.prog I 265 (OR c)) : Qh Tryz.prog I 193 (Zab c) := IK (L := F8 c) (k := 1) (Yab I c h) ZR Tryz.func193 (by kernel_rfl) (Na (D6 c) Ta) (fun x => by kernel_rfl)
theorem Mao : WO Gaf := wc Kae (Waa (f2 := 265) (SR := fun x => Pn x.1 x.2.1) (same := Eg) Sad (Yam (s := Pag) Kae (by kernel_rfl)) (fun I c h => ⟨_, Aac I c h, Uag c⟩))
abbrev Xaq : Ya := .pu (.p Hb (.p int Fg)) (.p Hb (.p Ho .u)) [true, true] (fun x => Ny x.1 x.2.1 x.2.2.1)
abbrev C4 : WF := (100, Xaq) :: Gaf
theorem Zam : WO C4 := Lg Mao func100
abbrev Las : Ya := .pu (.p Hb Fh) Fh [true] (fun x => Jw x.1 x.2.1)
abbrev Haf : WF := (194, Las) :: C4
def U1 : Ua := ⟨21, ⟨[(1, Qa), (8, Sv), (9, Qa), (10, Qa)], []⟩, 0, ⟨[], []⟩, ⟨[(4, Qa)], []⟩, Cu⟩
def Aaq : WL := [(2, U1)]
theorem Aai : Bb (WG true C4 [] [] []) Aaq (lp f194 0) := Tc 2 (ls := U1) rfl
theorem Nao : WO Haf := Bh Zam func194 (Na Aai Ta)
abbrev Yaq : Ya := .pu (.p Hb Fh) (.p Hb (.p Ho .u)) [true, true] (fun x => Lu x.1 x.2.1)
abbrev D4 : WF := (101, Yaq) :: Haf
theorem Aan : WO D4 := Lg Nao func101
abbrev Qar : Ya := .pu BF Fg [true] (fun x => Ww x.1)
abbrev Sae : WF := (146, Qar) :: D4
def K1 : Ua := ⟨39, ⟨[(1, Gh), (14, (.data Fi)), (15, Qa), (16, Qa)], [(1, Rb, (.data Rb))]⟩, 0, ⟨[], []⟩, ⟨[(2, Ti)], []⟩, Rq⟩
def Uap : WL := [(4, K1)]
theorem Qah : Bb (WG true D4 [] [] []) Uap (lp f146 0) := Tc 4 (ls := K1) rfl
theorem San : WO Sae := Bh Aan func146 (Na Qah Ta)
abbrev Rar : Ya := .pu (.p .s (.p .s .u)) (.p (.sl .s) .u) [true] (fun x => strings_Split x.1 x.2.1)
abbrev Tae : WF := (150, Rar) :: Sae
theorem Tan : WO Tae := wc San (VZ Tryz.lays_strings_Split (by kernel_rfl) Cav)
abbrev Mas : Ya := .pu Fh (.p .s .u) [true] (fun x => Vw x.1)
abbrev R4 : WF := (195, Mas) :: Tae
theorem Oao : WO R4 := Lg Tan func195
abbrev Nas : Ya := .pu Fh (.p .s .u) [true] (fun x => Ys x.1)
abbrev Iaf : WF := (196, Nas) :: R4
def V1 : Ua := ⟨28, ⟨[(0, Qa), (3, (.data .s)), (12, (.own 200001 .s true)), (13, Qa), (14, Qa)], []⟩, 0, ⟨[(3, (.data .s))], []⟩, ⟨[], []⟩, Io⟩
def Baq : WL := [(5, V1)]
theorem Bai : Bb (WG true R4 [] [] []) Baq (lp f196 0) := Tc 5 (ls := V1) rfl
theorem Pao : WO Iaf := Bh Oao func196 (Na Bai Ta)
abbrev Tar : Ya := .pu (.p (.sl .s) (.p .s .u)) (.p .s .u) [true] (fun x => strings_Join x.1 x.2.1)
abbrev Vae : WF := (165, Tar) :: Iaf
theorem Van : WO Vae := wc Pao (M6 Tryz.lays_strings_Join (by kernel_rfl) Tryz.extra_strings_Join)
abbrev Raw : Ya := .pu (.p (.sl .s) (.p .s .u)) (.p .s .u) [true] (fun x => Xw x.1 x.2.1)
abbrev Pab : WF := (85, Raw) :: Vae
theorem Uau : WO Pab := Lg Van func85
abbrev Zaq : Ya := .pu BF (.p .s .u) [true] (fun x => Bp x.1)
abbrev UU : WF := (102, Zaq) :: Pab
def W0 : Ua := ⟨29, ⟨[(1, Gh), (3, (.own 200001 .s true)), (10, (.data Fi)), (11, Qa), (12, Qa)], [(1, Rb, (.data Rb))]⟩, 0, ⟨[(1, Gh), (3, (.own 200001 .s true))], [(1, Rb, (.data Rb))]⟩, ⟨[], []⟩, Nm⟩
def Pap : WL := [(5, W0)]
theorem Fah : Bb (WG true Pab [] [] []) Pap (lp f102 0) := Tc 5 (ls := W0) rfl
theorem Ban : WO UU := Bh Uau func102 (Na Fah Ta)
abbrev Baw : Ya := .tp La Ad Np (.p Ad .u) Np (fun x0 xs x => Qm x0 xs x.1)
abbrev YV : WF := (37, Baw) :: UU
def Q2 : Ua := ⟨93, ⟨[(0, ZE), (3, Oh), (7, (.ptr 7 [])), (8, (.own 200101 Pv true)), (12, (.ptr 12 [])), (14, (.data .s)), (43, Qa), (44, Qa), (61, (.own 200102 Rb true)), (62, Qa), (63, Qa)], [(500000, XD, A6), (3, Ad, (.data Ad)), (7, Hb, (.pr Ug (.pr (.own 200103 Vj true) (.pr Qa (.pr (.own 200104 Ao true) (.data (.p int Fg))))))), (12, Hb, (.pr (.pr Qa (.pr (.own 200105 Yt true) .un)) (.pr (.own 200106 Vj true) (.pr Qa (.pr (.own 200107 Ao true) (.data (.p int Fg)))))))]⟩, 2, ⟨[(0, ZE), (3, Oh), (7, (.ptr 7 [])), (8, (.own 200101 Pv true)), (12, (.ptr 12 [])), (14, (.data .s)), (43, Qa), (44, Qa)], [(500000, XD, A6), (3, Ad, (.data Ad)), (7, Hb, (.pr Ug (.pr (.own 200102 Vj true) (.pr Qa (.pr (.own 200103 Ao true) (.data (.p int Fg))))))), (12, Hb, (.pr (.pr Qa (.pr (.own 200104 Yt true) .un)) (.pr (.own 200105 Vj true) (.pr Qa (.pr (.own 200106 Ao true) (.data (.p int Fg)))))))]⟩, ⟨[], []⟩, Yi⟩
def L9 : Ua := ⟨93, ⟨[(0, ZE), (3, Oh), (7, (.ptr 7 [])), (8, (.own 200001 Pv true)), (43, Qa), (44, Qa)], [(500000, XD, A6), (3, Ad, (.data Ad)), (7, Hb, (.pr Ug (.pr (.own 200002 Vj true) (.pr Qa (.pr (.own 200003 Ao true) (.data (.p int Fg)))))))]⟩, 0, ⟨[(0, ZE), (3, Oh), (8, (.own 200001 Pv true))], [(500000, XD, A6), (3, Ad, (.data Ad))]⟩, ⟨[], []⟩, Gn⟩
def Wak : WL := [(13, Q2), (7, L9)]
theorem Rai : Bb (WG true UU [(16999, 200102), (16999, 200101), (999999998, 0), (19000, 1000200001)] [] []) Wak (lp f37 1) := Tc 13 (ls := Q2) rfl
theorem Tal : Bb (WG true UU [(16999, 200102), (16999, 200101), (999999998, 0), (19000, 1000200001)] [] []) Wak (lp f37 0) := Tc 7 (ls := L9) rfl
theorem Eau : WO YV := wtp Ban func37 (Na Rai (Na Tal Ta))
abbrev Qav : Ya := .pu (.p La Fo) (.p Fi Fg) [true, true] (fun x => Gl x.1 x.2.1)
abbrev Aak : WF := (10, Qav) :: YV
def Y0 : Ua := ⟨125, ⟨[(2, Hh), (6, (.ptr 6 [])), (7, (.ptr 7 [])), (8, (.mpo 200101 Ce Fi)), (9, (.own 200102 Ce true)), (10, (.ptr 10 [])), (11, (.data Np)), (12, (.data Np)), (64, Qa), (65, Qa)], [(2, La, Ug), (6, XD, (.pr Ug (.pr (.mpo 200103 Ad Np) .un))), (7, XD, (.pr Ug (.pr (.mpo 200104 Ad Np) .un))), (10, Ce, (.data Ce))]⟩, 2, ⟨[(2, Hh), (6, (.ptr 6 [])), (7, (.ptr 7 [])), (8, (.mpo 200101 Ce Fi)), (9, (.own 200102 Ce true)), (10, (.ptr 10 [])), (11, (.data Np)), (12, (.data Np))], [(2, La, Ug), (6, XD, (.pr Ug (.pr (.mpo 200103 Ad Np) .un))), (7, XD, (.pr Ug (.pr (.mpo 200104 Ad Np) .un))), (10, Ce, (.data Ce))]⟩, ⟨[(4, UQ), (5, Ti)], []⟩, Qi⟩
def Z0 : Ua := ⟨125, ⟨[(2, Hh), (6, (.ptr 6 [])), (7, (.ptr 7 [])), (8, (.mpo 200201 Ce Fi)), (9, (.own 200202 Ce true)), (10, (.ptr 10 [])), (11, (.data Np)), (12, (.data Np)), (88, Qa), (89, Qa)], [(2, La, Ug), (6, XD, (.pr Ug (.pr (.mpo 200203 Ad Np) .un))), (7, XD, (.pr Ug (.pr (.mpo 200204 Ad Np) .un))), (10, Ce, (.data Ce))]⟩, 4, ⟨[(2, Hh), (6, (.ptr 6 [])), (7, (.ptr 7 [])), (8, (.mpo 200201 Ce Fi)), (9, (.own 200202 Ce true))], [(2, La, Ug), (6, XD, (.pr Ug (.pr (.mpo 200203 Ad Np) .un))), (7, XD, (.pr Ug (.pr (.mpo 200204 Ad Np) .un)))]⟩, ⟨[], []⟩, Ri⟩
def D9 : Ua := ⟨125, ⟨[(2, Hh), (6, (.ptr 6 [])), (7, (.ptr 7 [])), (8, (.mpo 200001 Ce Fi)), (9, (.own 200002 Ce true))], [(2, La, Ug), (6, XD, (.pr Ug (.pr (.mpo 200003 Ad Np) (.data .u)))), (7, XD, (.pr Ug (.pr (.mpo 200004 Ad Np) (.data .u))))]⟩, 0, ⟨[], []⟩, ⟨[(4, Gy), (5, Ti)], []⟩, Sf⟩
def Sab : WL := [(11, Y0), (17, Z0), (6, D9)]
theorem Hah : Bb (WG true YV [] [56] []) Sab (lp f10 1) := Tc 11 (ls := Y0) rfl
theorem Iah : Bb (WG true YV [] [56] []) Sab (lp f10 2) := Tc 17 (ls := Z0) rfl
theorem Lal : Bb (WG true YV [] [56] []) Sab (lp f10 0) := Tc 6 (ls := D9) rfl
theorem Tat : WO Aak := Bh Eau func10 (Na Iah (Na Hah (Na Lal Ta)))
abbrev Rav : Ya := .pu (.p La Fo) Fg [true] (fun x => Je x.1 x.2.1)
abbrev G4 : WF := (11, Rav) :: Aak
theorem Uat : WO G4 := Lg Tat func11
abbrev Aar : Ya := .pu ZI Fg [true] (fun x => Yk x.1)
abbrev Lae : WF := (103, Aar) :: G4
def X0 : Ua := ⟨92, ⟨[(1, Gh), (35, (.data (.sl Vj))), (36, Qa), (37, Qa)], [(1, Hb, Mz)]⟩, 0, ⟨[(1, Gh)], [(1, Hb, Mz)]⟩, ⟨[(2, Ti)], []⟩, Ml⟩
def YX : Ua := ⟨92, ⟨[(1, Gh), (5, Qa), (50, Sv), (51, Qa), (52, Qa)], [(1, Hb, Mz)]⟩, 2, ⟨[(1, Gh), (5, Qa)], [(1, Hb, Mz)]⟩, ⟨[(2, Ti)], []⟩, Pk⟩
def Vaf : WL := [(4, X0), (11, YX)]
theorem Gah : Bb (WG true G4 [] [] []) Vaf (lp f103 0) := Tc 4 (ls := X0) rfl
theorem Oac : Bb (WG true G4 [] [] []) Vaf (lp f103 1) := Tc 11 (ls := YX) rfl
theorem Can : WO Lae := Bh Uat func103 (Na Oac (Na Gah Ta))
abbrev Daw : Ya := .pu (.p La (.p (.sl Vj) .u)) (.p Hb Fg) [true, true] (fun x => Kv x.1 x.2.1)
abbrev Gak : WF := (39, Daw) :: Lae
theorem Gau : WO Gak := Lg Can func39
abbrev Car : Ya := .pu (.p Hb (.p int Fg)) RW [true, true, true] (fun x => Ly x.1 x.2.1 x.2.2.1)
abbrev E4 : WF := (105, Car) :: Gak
theorem Ean : WO E4 := Lg Gau func105
abbrev Eaw : Ya := .pu (.p Hb (.p Fi .u)) RW [true, true, true] (fun x => My x.1 x.2.1)
abbrev Hak : WF := (40, Eaw) :: E4
def N9 : Ua := ⟨52, ⟨[(4, Wk), (7, (.ptr 7 [])), (8, QB), (20, (.data Fi)), (21, Qa), (22, Qa)], [(4, Hb, E0), (7, Hb, Gal)]⟩, 0, ⟨[(4, Wk), (7, (.ptr 7 [])), (8, QB)], [(4, Hb, E0), (7, Hb, Gal)]⟩, ⟨[(4, Wk), (5, QB), (6, Ti)], [(4, Hb, E0)]⟩, Ns⟩
def Fav : WL := [(6, N9)]
theorem Val : Bb (WG true E4 [] [] []) Fav (lp f40 0) := Tc 6 (ls := N9) rfl
theorem Hau : WO Hak := Bh Ean func40 (Na Val Ta)
abbrev Sav : Ya := .pu (.p La (.p Fi .u)) (.p Ho Fg) [true, true] (fun x => Ac x.1 x.2.1)
abbrev Gab : WF := (12, Sav) :: Hak
theorem Vat : WO Gab := Lg Hau func12
abbrev Faw : Ya := .pu (.p Fi (.p Fi .u)) Fg [true] (fun x => Pr x.1 x.2.1)
abbrev Kab : WF := (41, Faw) :: Gab
def O9 : Ua := ⟨26, ⟨[(0, (.data Fi)), (1, (.data Fi)), (5, Qa)], []⟩, 0, ⟨[], []⟩, ⟨[(4, Ti)], []⟩, Yq⟩
def Gav : WL := [(4, O9)]
theorem Wal : Bb (WG true Gab [] [] []) Gav (lp f41 0) := Tc 4 (ls := O9) rfl
theorem Iau : WO Kab := Bh Vat func41 (Na Wal Ta)
abbrev Tav : Ya := .pu (.p Ho (.p Ho .u)) Fg [true] (fun x => Xc x.1 x.2.1)
abbrev Hab : WF := (13, Tav) :: Kab
def E9 : Ua := ⟨42, ⟨[(0, (.data Ho)), (1, (.data Ho)), (5, Qa)], []⟩, 0, ⟨[], []⟩, ⟨[(4, Ti)], []⟩, Hn⟩
def Dav : WL := [(4, E9)]
theorem Mal : Bb (WG true Kab [] [] []) Dav (lp f13 0) := Tc 4 (ls := E9) rfl
theorem Wat : WO Hab := Bh Iau func13 (Na Mal Ta)
abbrev Pas : Ya := .pu (.p Uv .u) Fg [true] (fun x => To x.1)
abbrev T4 : WF := (200, Pas) :: Hab
def X1 : Ua := ⟨57, ⟨[(0, Sv), (3, Qa), (4, Qa)], []⟩, 0, ⟨[], []⟩, ⟨[(2, Ti)], []⟩, Vu⟩
def Daq : WL := [(3, X1)]
theorem Dai : Bb (WG true Hab [] [] []) Daq (lp f200 0) := Tc 3 (ls := X1) rfl
theorem Rao : WO T4 := Bh Wat func200 (Na Dai Ta)
abbrev Xas : Ya := .pu (.p Uv (.p Sg .u)) Fh [true] (fun x => Cs x.1 x.2.1)
abbrev Laf : WF := (222, Xas) :: T4
def D2 : Ua := ⟨33, ⟨[(0, Sv), (3, Oh), (5, Qa)], [(3, Sg, (.data Sg))]⟩, 0, ⟨[], []⟩, ⟨[(4, Qa)], []⟩, Cv⟩
def Haq : WL := [(2, D2)]
theorem Iai : Bb (WG true T4 [] [] []) Haq (lp f222 0) := Tc 2 (ls := D2) rfl
theorem Zao : WO Laf := Bh Rao func222 (Na Iai Ta)
abbrev Yas : Ya := .pu (.p Sg .u) En [true] (fun x => Sr x.1)
abbrev Maf : WF := (223, Yas) :: Laf
theorem Aap : WO Maf := Lg Zao func223
abbrev Was : Ya := .pu (.p Uv Fh) (.p Uv .u) [true] (fun x => Ng x.1 x.2.1)
abbrev W4 : WF := (207, Was) :: Maf
theorem Yao : WO W4 := Lg Aap func207
abbrev Par : Ya := .pu (.p Vj .u) Fg [true] (fun x => Wu x.1)
abbrev WU : WF := (136, Par) :: W4
def J1 : Ua := ⟨62, ⟨[(0, (.data Vj)), (3, (.own 200001 Ao true)), (4, Qa)], []⟩, 0, ⟨[(0, (.data Vj)), (3, (.own 200001 Ao true))], []⟩, ⟨[(2, Ti)], []⟩, Qs⟩
def Tap : WL := [(3, J1)]
theorem Pah : Bb (WG true W4 [] [] []) Tap (lp f136 0) := Tc 3 (ls := J1) rfl
theorem Ran : WO WU := Bh Yao func136 (Na Pah Ta)
abbrev Gar : Ya := .pu ZI Fg [true] (fun x => Bi x.1)
abbrev H4 : WF := (112, Gar) :: WU
def B1 : Ua := ⟨96, ⟨[(1, Gh), (3, Qa)], [(1, Hb, Mz)]⟩, 0, ⟨[(1, Gh)], [(1, Hb, Mz)]⟩, ⟨[(2, Ti)], []⟩, Tl⟩
def C1 : Ua := ⟨96, ⟨[(1, Gh), (4, Qa)], [(1, Hb, Mz)]⟩, 2, ⟨[(1, Gh)], [(1, Hb, Mz)]⟩, ⟨[(2, Ti)], []⟩, Ul⟩
def Waf : WL := [(4, B1), (9, C1)]
theorem Jah : Bb (WG true WU [] [] []) Waf (lp f112 0) := Tc 4 (ls := B1) rfl
theorem Kah : Bb (WG true WU [] [] []) Waf (lp f112 1) := Tc 9 (ls := C1) rfl
theorem Ian : WO H4 := Bh Ran func112 (Na Kah (Na Jah Ta))
abbrev Har : Ya := .pu ZI ZI [true] (fun x => Fm x.1)
abbrev Pae : WF := (113, Har) :: H4
def D1 : Ua := ⟨37, ⟨[(1, Gh), (2, Hh), (3, Oh), (4, Qa)], [(1, Hb, Mz), (2, Hb, (.pr VB Z5)), (3, Hb, (.pr WD (.pr (.own 200002 Vj true) (.data (.p int (.p Uv (.p int Fg)))))))]⟩, 0, ⟨[(1, Gh), (2, Hh), (3, Oh)], [(1, Hb, Mz), (2, Hb, (.pr VB Z5)), (3, Hb, (.pr WD (.pr (.own 200002 Vj true) (.data (.p int (.p Uv (.p int Fg)))))))]⟩, ⟨[], []⟩, Dv⟩
def Qap : WL := [(5, D1)]
theorem Lah : Bb (WG true H4 [] [] []) Qap (lp f113 0) := Tc 5 (ls := D1) rfl
theorem Jan : WO Pae := Bh Ian func113 (Na Lah Ta)
abbrev Maw : Ya := .pu (.p La (.p (.sl Vj) .u)) (.p Hb Fg) [true, true] (fun x => Wp x.1 x.2.1)
abbrev Nab : WF := (51, Maw) :: Pae
theorem Pau : WO Nab := Lg Jan func51
abbrev Qas : Ya := .pu (.p Hb Fh) Fh [true] (fun x => Nw x.1 x.2.1)
abbrev U4 : WF := (201, Qas) :: Nab
def Y1 : Ua := ⟨22, ⟨[(1, Qa), (2, Hh), (5, Qa)], [(2, Hb, Mz)]⟩, 0, ⟨[], []⟩, ⟨[(4, Qa)], []⟩, Uu⟩
def Eaq : WL := [(2, Y1)]
theorem Eai : Bb (WG true Nab [] [] []) Eaq (lp f201 0) := Tc 2 (ls := Y1) rfl
theorem Sao : WO U4 := Bh Pau func201 (Na Eai Ta)
abbrev Nar : Ya := .pu (.p int (.p Uv .u)) Fh [true] (fun x => Rr x.1 x.2.1)
abbrev L4 : WF := (128, Nar) :: U4
def H1 : Ua := ⟨38, ⟨[(1, Sv), (5, Qa), (6, Qa)], []⟩, 0, ⟨[(5, Qa)], []⟩, ⟨[], []⟩, Xl⟩
def Sap : WL := [(5, H1)]
theorem Nah : Bb (WG true U4 [] [] []) Sap (lp f128 0) := Tc 5 (ls := H1) rfl
theorem Pan : WO L4 := Bh Sao func128 (Na Nah Ta)
abbrev Eat : Ya := .pu (.p La Qg) Fh [true] (fun x => Uy x.1 x.2.1 x.2.2.1)
abbrev Qaf : WF := (266, Eat) :: L4
def J2 : Ua := ⟨45, ⟨[(1, Qa), (2, Qa), (3, Oh), (7, Qa)], [(3, La, Ug)]⟩, 0, ⟨[], []⟩, ⟨[(6, Qa)], []⟩, Wh⟩
def Laq : WL := [(4, J2)]
theorem Mai : Bb (WG true L4 [] [] []) Laq (lp f266 0) := Tc 4 (ls := J2) rfl
theorem Gap : WO Qaf := Bh Pan func266 (Na Mai Ta)
abbrev Ras : Ya := .pu (.p La Qg) En [true] (fun x => Qr x.1 x.2.1 x.2.2.1)
abbrev Jaf : WF := (202, Ras) :: Qaf
theorem Tao : WO Jaf := Lg Gap func202
abbrev Kat : Ya := .pu Fh Fg [true] (fun x => Lt x.1)
abbrev Taf : WF := (305, Kat) :: Jaf
theorem Map : WO Taf := Lg Tao func305
abbrev Fat : Ya := .bx false false Hb En En [true] (fun x0 x => WH x0 x.1)
abbrev Raf : WF := (267, Fat) :: Taf
theorem Hap : WO Raf := NG (L := []) (m := []) (v := []) (l := []) (z := false) Map func267 Ta
abbrev Tas : Ya := .bx false false Hb En En [true] (fun x0 x => Ln x0 x.1)
abbrev DO : WF := (204, Tas) :: Raf
theorem Vao : WO DO := NG (L := []) (m := []) (v := []) (l := []) (z := false) Hap func204 Ta
abbrev Oar : Ya := .pu (.p Uv .u) BF [true] (fun x => Yb x.1)
abbrev WK : WF := (130, Oar) :: DO
def I1 : Ua := ⟨70, ⟨[(0, Sv), (2, Hh), (3, Oh), (4, Qa)], [(2, Rb, Rv), (3, Rb, (.pr Qa (.pr Gy .un)))]⟩, 0, ⟨[(0, Sv), (2, Hh), (3, Oh)], [(2, Rb, Rv), (3, Rb, (.pr Qa (.pr Gy .un)))]⟩, ⟨[], []⟩, Gr⟩
def AY : Ua := ⟨70, ⟨[(0, Sv), (2, Hh), (3, Oh), (5, Qa), (6, Qa)], [(2, Rb, Rv), (3, Rb, (.pr Qa (.pr (.own 200201 int true) .un)))]⟩, 4, ⟨[(0, Sv), (2, Hh), (3, Oh), (5, Qa)], [(2, Rb, Rv), (3, Rb, (.pr Qa (.pr (.own 200201 int true) .un)))]⟩, ⟨[], []⟩, Vk⟩
def ZX : Ua := ⟨70, ⟨[(0, Sv), (2, Hh), (3, Oh), (5, Qa)], [(2, Rb, Rv), (3, Rb, (.pr Qa (.pr UQ .un)))]⟩, 2, ⟨[(2, Hh), (3, Oh)], [(2, Rb, Rv), (3, Rb, (.pr Qa (.pr UQ .un)))]⟩, ⟨[], []⟩, Yp⟩
def H5 : WL := [(5, I1), (13, AY), (10, ZX)]
theorem Oah : Bb (WG true DO [] [] []) H5 (lp f130 0) := Tc 5 (ls := I1) rfl
theorem Qac : Bb (WG true DO [] [] []) H5 (lp f130 2) := Tc 13 (ls := AY) rfl
theorem Pac : Bb (WG true DO [] [] []) H5 (lp f130 1) := Tc 10 (ls := ZX) rfl
theorem Qan : WO WK := Bh Vao func130 (Na Qac (Na Pac (Na Oah Ta)))
abbrev Gat : Ya := .pu (.p Uv (.p Uv .u)) BF [true] (fun x => Ax x.1 x.2.1)
abbrev A5 : WF := (268, Gat) :: WK
def K2 : Ua := ⟨77, ⟨[(1, Sv), (4, Wk), (5, Hy), (6, Qa)], [(4, Rb, Rv), (5, Rb, (.pr Qa (.pr Gy .un)))]⟩, 0, ⟨[(1, Sv), (4, Wk), (5, Hy)], [(4, Rb, Rv), (5, Rb, (.pr Qa (.pr Gy .un)))]⟩, ⟨[], []⟩, Bz⟩
def CY : Ua := ⟨77, ⟨[(1, Sv), (4, Wk), (5, Hy), (7, (.own 200201 int true)), (8, Qa), (9, Ti), (10, Qa)], [(4, Rb, Rv), (5, Rb, (.pr Qa (.pr (.own 200202 int true) .un)))]⟩, 4, ⟨[(1, Sv), (4, Wk), (5, Hy), (7, (.own 200201 int true)), (8, Qa), (9, Ti)], [(4, Rb, Rv), (5, Rb, (.pr Qa (.pr (.own 200202 int true) .un)))]⟩, ⟨[], []⟩, Vx⟩
def DY : Ua := ⟨77, ⟨[(1, Sv), (4, Wk), (5, Hy), (7, (.own 200301 int true)), (8, Qa), (9, Ti), (11, Qa)], [(4, Rb, Rv), (5, Rb, (.pr Qa (.pr (.own 200302 int true) .un)))]⟩, 6, ⟨[(1, Sv), (4, Wk), (5, Hy), (7, (.own 200301 int true)), (8, Qa), (9, Ti)], [(4, Rb, Rv), (5, Rb, (.pr Qa (.pr (.own 200302 int true) .un)))]⟩, ⟨[], []⟩, Wx⟩
def L2 : Ua := ⟨77, ⟨[(1, Sv), (4, Wk), (5, Hy), (7, UQ), (8, Qa)], [(4, Rb, Rv), (5, Rb, (.pr Qa (.pr (.own 200102 int true) .un)))]⟩, 2, ⟨[(4, Wk), (5, Hy), (7, UQ)], [(4, Rb, Rv), (5, Rb, (.pr Qa (.pr (.own 200102 int true) .un)))]⟩, ⟨[], []⟩, Cz⟩
def YU : WL := [(3, K2), (12, CY), (16, DY), (8, L2)]
theorem Nai : Bb (WG true WK [] [] []) YU (lp f268 0) := Tc 3 (ls := K2) rfl
theorem Sac : Bb (WG true WK [] [] []) YU (lp f268 2) := Tc 12 (ls := CY) rfl
theorem Tac : Bb (WG true WK [] [] []) YU (lp f268 3) := Tc 16 (ls := DY) rfl
theorem Oai : Bb (WG true WK [] [] []) YU (lp f268 1) := Tc 8 (ls := L2) rfl
theorem Iap : WO A5 := Bh Qan func268 (Na Tac (Na Sac (Na Oai (Na Nai Ta))))
abbrev Uas : Ya := .pu (.p Uv (.p Vj .u)) (.p Ho .u) [true] (fun x => Cw x.1 x.2.1)
abbrev V4 : WF := (205, Uas) :: A5
def Z1 : Ua := ⟨60, ⟨[(0, Sv), (1, (.data Vj)), (5, QB), (6, (.own 200002 Ao true)), (7, Qa)], []⟩, 0, ⟨[(5, QB)], []⟩, ⟨[], []⟩, Xu⟩
def Faq : WL := [(6, Z1)]
theorem Fai : Bb (WG true A5 [] [] []) Faq (lp f205 0) := Tc 6 (ls := Z1) rfl
theorem Wao : WO V4 := Bh Iap func205 (Na Fai Ta)
abbrev Kar : Ya := .pu (.p Rb BF) Fg [true] (fun x => Yn x.1 x.2.1)
abbrev Rae : WF := (116, Kar) :: V4
def E1 : Ua := ⟨38, ⟨[(2, Hh), (3, Oh), (5, Qa)], [(2, Rb, (.data Rb)), (3, Rb, (.data Rb))]⟩, 0, ⟨[], []⟩, ⟨[(4, Ti)], []⟩, Vo⟩
def Rap : WL := [(4, E1)]
theorem Mah : Bb (WG true V4 [] [] []) Rap (lp f116 0) := Tc 4 (ls := E1) rfl
theorem Man : WO Rae := Bh Wao func116 (Na Mah Ta)
abbrev Mar : Ya := .pu BF BF [true] (fun x => RA x.1)
abbrev K4 : WF := (125, Mar) :: Rae
theorem Oan : WO K4 := Lg Man func125
abbrev Vas : Ya := .pu (.p Rb (.p Ho .u)) (.p Ho .u) [true] (fun x => Ie x.1 x.2.1)
abbrev Kaf : WF := (206, Vas) :: K4
def B2 : Ua := ⟨34, ⟨[(1, (.data Ho)), (2, Hh), (5, QB), (6, Qa)], [(2, Rb, (.data Rb))]⟩, 0, ⟨[(5, QB)], []⟩, ⟨[], []⟩, Aq⟩
def Gaq : WL := [(3, B2)]
theorem Gai : Bb (WG true K4 [] [] []) Gaq (lp f206 0) := Tc 3 (ls := B2) rfl
theorem Xao : WO Kaf := Bh Oan func206 (Na Gai Ta)
abbrev Iar : Ya := .pu (.p Hb (.p int Fg)) RW [true, true, true] (fun x => Dr x.1 x.2.1 x.2.2.1)
abbrev Qae : WF := (114, Iar) :: Kaf
theorem Kan : WO Qae := Lg Xao func114
abbrev Jar : Ya := .pu (.p Hb Fh) RW [true, true, true] (fun x => Xp x.1 x.2.1)
abbrev I4 : WF := (115, Jar) :: Qae
theorem Lan : WO I4 := Lg Kan func115
abbrev Naw : Ya := .pu (.p Hb (.p Fi .u)) RW [true, true, true] (fun x => Zp x.1 x.2.1)
abbrev Oab : WF := (52, Naw) :: I4
def U9 : Ua := ⟨66, ⟨[(1, (.data Fi)), (4, Wk), (7, QB), (8, (.ptr 8 [])), (9, Qa)], [(4, Hb, E0), (8, Hb, (.pr (.pr Qa (.pr AF (.data .u))) Z5))]⟩, 0, ⟨[(4, Wk), (7, QB), (8, (.ptr 8 []))], [(4, Hb, E0), (8, Hb, (.pr (.pr Qa (.pr AF (.data .u))) Z5))]⟩, ⟨[(4, Wk), (5, QB), (6, Ti)], [(4, Hb, E0)]⟩, Rs⟩
def Iav : WL := [(4, U9)]
theorem Cam : Bb (WG true I4 [(5999, 1000102560), (5999, 1000102561), (5999, 1000102562)] [] []) Iav (lp f52 0) := Tc 4 (ls := U9) rfl
theorem Qau : WO Oab := Bh Lan func52 (Na Cam Ta)
abbrev Oaw : Ya := .pu (.p Ho (.p Ho .u)) Fg [true] (fun x => Nt x.1 x.2.1)
abbrev Lak : WF := (53, Oaw) :: Oab
def V9 : Ua := ⟨33, ⟨[(0, (.data Ho)), (1, (.data Ho)), (5, Qa)], []⟩, 0, ⟨[(0, (.data Ho)), (1, (.data Ho))], []⟩, ⟨[(4, Ti)], []⟩, Wo⟩
def Jav : WL := [(2, V9)]
theorem Dam : Bb (WG true Oab [] [] []) Jav (lp f53 0) := Tc 2 (ls := V9) rfl
theorem Rau : WO Lak := Bh Qau func53 (Na Dam Ta)
abbrev Lar : Ya := .pu (.p Hb ZI) Fg [true] (fun x => Wy x.1 x.2.1)
abbrev J4 : WF := (117, Lar) :: Lak
theorem Nan : WO J4 := Lg Rau func117
abbrev Paw : Ya := .pu (.p (.sl Ox) (.p Hb ZI)) Fg [true] (fun x => Xy x.1 x.2.1 x.2.2.1)
abbrev E5 : WF := (54, Paw) :: J4
def W9 : Ua := ⟨30, ⟨[(0, (.data (.sl Ox))), (4, Wk), (5, Hy), (7, Qa)], [(4, Hb, Mz), (5, Hb, Mz)]⟩, 0, ⟨[], []⟩, ⟨[(6, Ti)], []⟩, Ts⟩
def Kav : WL := [(2, W9)]
theorem Eam : Bb (WG true J4 [] [] []) Kav (lp f54 0) := Tc 2 (ls := W9) rfl
theorem Sau : WO E5 := Bh Nan func54 (Na Eam Ta)
abbrev Xav : Ya := .pu (.p La Fo) (.p Fi Fg) [true, true] (fun x => Ip x.1 x.2.1)
abbrev Cak : WF := (20, Xav) :: E5
def C2 : Ua := ⟨119, ⟨[(2, Hh), (10, (.own 200101 Ox true)), (11, Qa), (12, Qa)], [(2, La, Ug)]⟩, 2, ⟨[(2, Hh), (10, (.own 200101 Ox true)), (11, Qa)], [(2, La, Ug)]⟩, ⟨[(4, UQ), (5, Ti)], []⟩, Hf⟩
def H9 : Ua := ⟨119, ⟨[(2, Hh), (10, (.own 200001 Ox true)), (11, Qa)], [(2, La, Ug)]⟩, 0, ⟨[], []⟩, ⟨[(4, Gy), (5, Ti)], []⟩, Uf⟩
def Uak : WL := [(10, C2), (7, H9)]
theorem Hai : Bb (WG true E5 [(17000, 200101), (14000, 200101), (13000, 200101)] [] []) Uak (lp f20 1) := Tc 10 (ls := C2) rfl
theorem Pal : Bb (WG true E5 [(17000, 200101), (14000, 200101), (13000, 200101)] [] []) Uak (lp f20 0) := Tc 7 (ls := H9) rfl
theorem Aau : WO Cak := Bh Sau func20 (Na Hai (Na Pal Ta))
abbrev Uav : Ya := .pu (.p La Fo) Fg [true] (fun x => Dl x.1 x.2.1)
abbrev Bak : WF := (14, Uav) :: Cak
theorem Xat : WO Bak := Lg Aau func14
abbrev Iaw : Ya := .nw (.p (.sl PB) Fh) Ag (fun x => QA x.1 x.2.1)
abbrev Kak : WF := (44, Iaw) :: Bak
theorem Lau : WO Kak := wnw (L := []) (m := []) (v := []) (l := []) Xat func44 Ta
abbrev Vav : Ya := .pu Ag Fh [true] (fun x => Sh x.1 x.2.1 x.2.2.1)
abbrev XV : WF := (15, Vav) :: Kak
theorem Yat : WO XV := Lg Lau func15
abbrev Kaw : Ya := .pu Fo Fh [true] (fun x => Ct x.1)
abbrev D5 : WF := (46, Kaw) :: XV
def R2 : Ua := ⟨50, ⟨[(1, Gh), (3, Qa), (4, Qa), (13, Qa), (14, Qa), (17, AF), (18, Qa), (19, Qa), (24, (.data Yt)), (25, Qa), (26, Qa)], [(1, La, Ug)]⟩, 4, ⟨[(1, Gh), (3, Qa), (13, Qa), (14, Qa), (17, AF), (18, Qa), (19, Qa)], [(1, La, Ug)]⟩, ⟨[], []⟩, Mj⟩
def T9 : Ua := ⟨50, ⟨[(1, Gh), (3, Qa), (13, Qa), (14, Qa), (17, AF), (18, Qa), (19, Qa)], [(1, La, Ug)]⟩, 2, ⟨[(1, Gh), (3, Qa), (13, Qa), (14, Qa)], [(1, La, Ug)]⟩, ⟨[], []⟩, Fk⟩
def S9 : Ua := ⟨50, ⟨[(1, Gh), (3, Qa), (13, Qa), (14, Qa)], [(1, La, Ug)]⟩, 0, ⟨[(3, Qa)], []⟩, ⟨[], []⟩, Jo⟩
def Tab : WL := [(10, R2), (7, T9), (5, S9)]
theorem Sai : Bb (WG true XV [] [] []) Tab (lp f46 2) := Tc 10 (ls := R2) rfl
theorem Bam : Bb (WG true XV [] [] []) Tab (lp f46 1) := Tc 7 (ls := T9) rfl
theorem Aam : Bb (WG true XV [] [] []) Tab (lp f46 0) := Tc 5 (ls := S9) rfl
theorem Nau : WO D5 := Bh Yat func46 (Na Sai (Na Bam (Na Aam Ta)))
abbrev Wav : Ya := .pu Fo Fo [true] (fun x => Cf x.1)
abbrev Iab : WF := (16, Wav) :: D5
def G9 : Ua := ⟨40, ⟨[(2, Hh), (3, Oh), (4, Qa), (5, Qa), (6, QW), (17, (.hol 200102 Yt [] Yt QW)), (18, Qa), (19, Qa), (25, Qa), (26, Qa)], [(2, La, VB), (3, La, (.pr Qa (.pr (.hol 200102 Yt [] Yt QW) .un)))]⟩, 2, ⟨[(2, Hh), (3, Oh), (4, Qa), (17, (.hol 200101 Yt [] Yt (.own 200102 Cd true))), (18, Qa), (19, Qa)], [(2, La, VB), (3, La, (.pr Qa (.pr (.hol 200101 Yt [] Yt (.own 200102 Cd true)) .un)))]⟩, ⟨[], []⟩, Bg⟩
def F9 : Ua := ⟨40, ⟨[(2, Hh), (3, Oh), (4, Qa), (17, (.own 200001 Yt true)), (18, Qa), (19, Qa)], [(2, La, VB), (3, La, WD)]⟩, 0, ⟨[(2, Hh), (3, Oh)], [(2, La, VB), (3, La, WD)]⟩, ⟨[], []⟩, Nj⟩
def Tak : WL := [(9, G9), (6, F9)]
theorem Oal : Bb (WG true D5 [(14999, 200101)] [] []) Tak (lp f16 1) := Tc 9 (ls := G9) rfl
theorem Nal : Bb (WG true D5 [(14999, 200101)] [] []) Tak (lp f16 0) := Tc 6 (ls := F9) rfl
theorem Zat : WO Iab := Bh Nau func16 (Na Oal (Na Nal Ta))
abbrev s_3 : Ya := .pu (.p (.sl PB) .u) Fg [true] (fun x => Nu x.1)
abbrev F_3 : WF := (3, s_3) :: Iab
def M9 : Ua := ⟨158, ⟨[(0, (.data (.sl PB))), (3, Oh), (4, Wk), (16, Gy), (17, Qa)], [(3, La, PW), (4, La, Ug)]⟩, 0, ⟨[(3, Oh), (4, Wk), (16, Gy)], [(3, La, PW), (4, La, Ug)]⟩, ⟨[], []⟩, Af⟩
def L_3 : WL := [(18, M9)]
theorem Ual : Bb (WG true Iab [] [] []) L_3 (lp f3 0) := Tc 18 (ls := M9) rfl
theorem E_3 : WO F_3 := Bh Zat func3 (Na Ual Ta)
theorem JN : Qh Tryz.prog II 3 s_3 := Yam E_3 (by kernel_rfl)
end
end KF
