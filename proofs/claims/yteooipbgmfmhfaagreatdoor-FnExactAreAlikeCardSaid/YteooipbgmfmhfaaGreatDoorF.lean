/- An evaluator of Go functions on plain data, its soundness, and plain laws on what the functions compute, part 6 (conditions: as each lemma tells). -/
import Derived.Test.YteooipbgmfmhfaaGreatDoorE
import Derived.Test.YteooipbgmfmhfaaGreatDoorRows
set_option linter.unusedSimpArgs false
set_option linter.unusedVariables false
namespace Go.Proofs
open Go.Shelf
def Tryz.lays_strings_Split_ren : Go.Shelf.Ren := ⟨fun | 146 => 150 | 221 => 237 | 268 => 281 | 138 => 282 | 143 => 155 | 195 => 309 | 197 => 310 | 218 => 311 | 219 => 241 | 260 => 331 | 217 => 286 | 225 => 287 | 224 => 288 | 267 => 289 | 266 => 312 | 314 => 313 | n => n, fun | 9 => 9 | 31 => 120 | 3 => 3 | 4 => 4 | 0 => 0 | 105 => 325 | 21 => 21 | 5 => 5 | 46 => 242 | 119 => 359 | 139 => 362 | 138 => 361 | 146 => 328 | 51 => 327 | n => n, fun | 1 => 0 | 3 => 4 | 4 => 5 | n => n⟩
theorem Tryz.lays_strings_Split : Go.Proofs.LaysM.n146 Tryz.prog Tryz.lays_strings_Split_ren := {
 mixed := by kernel_rfl
 f138 := Tryz.func282.trans (congrArg some (by kernel_rfl))
 f143 := Tryz.func155.trans (congrArg some (by kernel_rfl))
 f146 := Tryz.func150.trans (congrArg some (by kernel_rfl))
 f195 := Tryz.func309.trans (congrArg some (by kernel_rfl))
 f197 := Tryz.func310.trans (congrArg some (by kernel_rfl))
 f217 := Tryz.func286.trans (congrArg some (by kernel_rfl))
 f218 := Tryz.func311.trans (congrArg some (by kernel_rfl))
 f219 := Tryz.func241.trans (congrArg some (by kernel_rfl))
 f221 := Tryz.func237.trans (congrArg some (by kernel_rfl))
 f224 := Tryz.func288.trans (congrArg some (by kernel_rfl))
 f225 := Tryz.func287.trans (congrArg some (by kernel_rfl))
 f260 := Tryz.func331.trans (congrArg some (by kernel_rfl))
 f266 := Tryz.func312.trans (congrArg some (by kernel_rfl))
 f267 := Tryz.func289.trans (congrArg some (by kernel_rfl))
 f268 := Tryz.func281.trans (congrArg some (by kernel_rfl))
 f314 := Tryz.func313.trans (congrArg some (by kernel_rfl))
 t0 := Tryz.underlying0
 a0 := Tryz.isAgg0
 z0 := Tryz.sizeOf0
 v0 := Tryz.zeroValue0
 t3 := Tryz.underlying3
 a3 := Tryz.isAgg3
 z3 := Tryz.sizeOf3
 v3 := Tryz.zeroValue3
 t4 := Tryz.underlying4
 a4 := Tryz.isAgg4
 z4 := Tryz.sizeOf4
 v4 := Tryz.zeroValue4
 t5 := Tryz.underlying5
 a5 := Tryz.isAgg5
 z5 := Tryz.sizeOf5
 v5 := Tryz.zeroValue5
 t9 := Tryz.underlying9
 a9 := Tryz.isAgg9
 z9 := Tryz.sizeOf9
 v9 := Tryz.zeroValue9
 t21 := Tryz.underlying21
 a21 := Tryz.isAgg21
 z21 := Tryz.sizeOf21
 v21 := Tryz.zeroValue21
 t31 := Tryz.underlying120
 a31 := Tryz.isAgg120
 z31 := Tryz.sizeOf120
 v31 := Tryz.zeroValue120
 t46 := Tryz.underlying242
 a46 := Tryz.isAgg242
 z46 := Tryz.sizeOf242
 v46 := Tryz.zeroValue242
 t51 := Tryz.underlying327
 a51 := Tryz.isAgg327
 z51 := Tryz.sizeOf327
 v51 := Tryz.zeroValue327
 t105 := Tryz.underlying325
 a105 := Tryz.isAgg325
 z105 := Tryz.sizeOf325
 v105 := Tryz.zeroValue325
 t119 := Tryz.underlying359
 a119 := Tryz.isAgg359
 z119 := Tryz.sizeOf359
 t138 := Tryz.underlying361
 a138 := Tryz.isAgg361
 z138 := Tryz.sizeOf361
 v138 := Tryz.zeroValue361
 t139 := Tryz.underlying362
 a139 := Tryz.isAgg362
 z139 := Tryz.sizeOf362
 v139 := Tryz.zeroValue362
 t146 := Tryz.underlying328
 a146 := Tryz.isAgg328
 z146 := Tryz.sizeOf328
 v146 := Tryz.zeroValue328
 g1 := by kernel_rfl
 g3 := by kernel_rfl
 g4 := by kernel_rfl
 i0 := by kernel_rfl
 i3 := by kernel_rfl
 i4 := by kernel_rfl
 i5 := by kernel_rfl
 i9 := by kernel_rfl
 i21 := by kernel_rfl
 i31 := by kernel_rfl
 i46 := by kernel_rfl
 i51 := by kernel_rfl
 i105 := by kernel_rfl
 i138 := by kernel_rfl
 i139 := by kernel_rfl
 i146 := by kernel_rfl
 m1 := by kernel_rfl
 s1_3 := fun w h => Go.Proofs.cell_of_shapedOpen_int (zero := #[.int .i64 0]) (t := 3) h (of_decide_eq_true (by kernel_rfl)) (by kernel_rfl) rfl (by kernel_rfl) (by kernel_rfl) Tryz.underlying3
 m3 := by kernel_rfl
 m4 := by kernel_rfl }
def Tryz.lays_strings_Join_ren : Go.Shelf.Ren := ⟨fun | 156 => 165 | 165 => 247 | 166 => 248 | 169 => 249 | 240 => 295 | 241 => 296 | 276 => 325 | 277 => 326 | n => n, fun | 31 => 120 | 9 => 9 | 3 => 3 | 4 => 4 | 0 => 0 | 20 => 20 | 72 => 287 | 76 => 283 | 70 => 285 | 37 => 22 | 75 => 282 | 127 => 316 | 164 => 344 | 5 => 5 | 80 => 289 | n => n, fun | n => n⟩
theorem Tryz.lays_strings_Join : Go.Proofs.Lays.n156 Tryz.prog Tryz.lays_strings_Join_ren := {
 mixed := by kernel_rfl
 f156 := Tryz.func165.trans (congrArg some (by kernel_rfl))
 f165 := Tryz.func247.trans (congrArg some (by kernel_rfl))
 f166 := Tryz.func248.trans (congrArg some (by kernel_rfl))
 f169 := Tryz.func249.trans (congrArg some (by kernel_rfl))
 f240 := Tryz.func295.trans (congrArg some (by kernel_rfl))
 f241 := Tryz.func296.trans (congrArg some (by kernel_rfl))
 f276 := Tryz.func325.trans (congrArg some (by kernel_rfl))
 f277 := Tryz.func326.trans (congrArg some (by kernel_rfl))
 t0 := Tryz.underlying0
 a0 := Tryz.isAgg0
 z0 := Tryz.sizeOf0
 v0 := Tryz.zeroValue0
 t3 := Tryz.underlying3
 a3 := Tryz.isAgg3
 z3 := Tryz.sizeOf3
 v3 := Tryz.zeroValue3
 t4 := Tryz.underlying4
 a4 := Tryz.isAgg4
 z4 := Tryz.sizeOf4
 v4 := Tryz.zeroValue4
 t9 := Tryz.underlying9
 a9 := Tryz.isAgg9
 z9 := Tryz.sizeOf9
 v9 := Tryz.zeroValue9
 t20 := Tryz.underlying20
 a20 := Tryz.isAgg20
 z20 := Tryz.sizeOf20
 v20 := Tryz.zeroValue20
 t31 := Tryz.underlying120
 a31 := Tryz.isAgg120
 z31 := Tryz.sizeOf120
 v31 := Tryz.zeroValue120
 t37 := Tryz.underlying22
 a37 := Tryz.isAgg22
 z37 := Tryz.sizeOf22
 v37 := Tryz.zeroValue22
 t70 := Tryz.underlying285
 a70 := Tryz.isAgg285
 z70 := Tryz.sizeOf285
 v70 := Tryz.zeroValue285
 t72 := Tryz.underlying287
 a72 := Tryz.isAgg287
 z72 := Tryz.sizeOf287
 v72 := Tryz.zeroValue287
 t75 := Tryz.underlying282
 a75 := Tryz.isAgg282
 z75 := Tryz.sizeOf282
 v75 := Tryz.zeroValue282
 t76 := Tryz.underlying283
 a76 := Tryz.isAgg283
 z76 := Tryz.sizeOf283
 v76 := Tryz.zeroValue283
 t127 := Tryz.underlying316
 a127 := Tryz.isAgg316
 z127 := Tryz.sizeOf316
 v127 := Tryz.zeroValue316
 t164 := Tryz.underlying344
 a164 := Tryz.isAgg344
 z164 := Tryz.sizeOf344
 v164 := Tryz.zeroValue344 }
theorem Tryz.extra_strings_Join : Builder.Extra Tryz.prog Tryz.lays_strings_Join_ren := {
 sizeBuilder := by kernel_rfl
 liesBuilder := by kernel_rfl
 t5 := by kernel_rfl
 a5 := by intro _; kernel_rfl
 z5 := by intro _; kernel_rfl
 v5 := by intro _; kernel_rfl
 infoByte := by kernel_rfl
 cellsByte := by kernel_rfl
 sizeByte := by kernel_rfl
 neB5 := by decide }
end Go.Proofs
namespace KF
open Go Go.Proofs Go.Proofs.Tryz
def GT : List (Nat × Ty) := [(3, int), (4, .b), (9, .s), (24, (.sl (.sl Sb))), (26, Oa), (29, (.sl int)), (33, (.sl Lb)), (39, (.sl (.sl Sb))), (41, Oa), (64, (.sl (.sl Dh))), (65, (.sl Rl)), (67, Gb), (85, (.mp Pc (.sl Br))), (87, (.p Oa (.p (.mp Pc (.sl Br)) .u))), (89, Pc), (91, Nd), (92, (.mp Nd (.sl int))), (93, (.sl Nd)), (94, (.sl Br)), (97, Br), (104, Lb), (108, (.sl Sb)), (111, Sb), (116, At), (117, (.sl At)), (120, (.sl .s)), (132, (.sl Dh)), (172, (.sl Sb)), (201, Dh), (238, Rl), (244, Sb), (277, (.sl Eh)), (279, Eh)]
def GA : List (Nat × Ty × Nat) := []
theorem Lad : ((GT.all fun x => Bc Tryz.prog x.2 x.1) && (GA.all fun x => LG Tryz.prog x.1 x.2.1 x.2.2)) = true := by kernel_rfl
theorem QQ : Tryz.prog.follows .mixedOrders = true := by kernel_rfl
noncomputable abbrev II : Bg := O1 (Tryz.lays_strings_Split_ren.g 1)
noncomputable section
noncomputable abbrev WP : Program := Tryz.prog
abbrev WF := List (Nat × Xa)
abbrev WL := List (Nat × Ta)
abbrev WG (z : Bool) (fs : WF) (m : List (Nat × Nat)) (v l : List Nat) : Gd := ⟨GT, fs, m, z, GA, v, l⟩
def WO (fs : WF) : Prop := ∀ z m v l, Oh WP II (WG z fs m v l)
theorem Raj : WO [] := fun _ _ _ _ => GL Lad
theorem wc {f : Nat} {s : Xa} {fs : WF} (e : WO fs) (h : Gg WP II f s) : WO ((f, s) :: fs) := fun z m v l => Oh.cons h (e z m v l)
theorem Zaa {f : Nat} {s : Xa} {fs : WF} (e : WO fs) (h : Ua fs f = some s) : Gg WP II f s := (e true [] [] []).fn f s h
theorem Kd {z : Bool} {fs : WF} {m : List (Nat × Nat)} {v l : List Nat} {L : WL} {fn : Func} {i : Nat} (r : Nat) {ls : Ta} {R : ls.inT.X → Option (ls.inT.X ⊕ (ls.outT.X ⊕ ls.retT.X))}
 (h3 : ls.F = Kb R) (h1 : Rh (lp fn i) = some r := by kernel_rfl) (h2 : (Ua L r) = some ls := by kernel_rfl) (h4 : ∀ x, Sy (WG z fs m v l) L ls (lp fn i) x = R x := by intro _; kernel_rfl) : Ib (WG z fs m v l) L (lp fn i) := ML h1 h2 h3 h4
theorem Se {f : Nat} {fn : Func} {pt rt : Ty} {fr : List Bool} {F : T pt → Option (T rt)} {fs : WF} (e : WO fs) (hf : WP.funcs[f]? = some fn)
 (hb : (fn.body.isSome && !(fn.name == "runtime.NumGoroutine") && Nat.ble pt.npar fn.ntmps && Nat.beq (Od (fn.body.getD .skip)).length 0) = true := by kernel_rfl)
 (hF : ∀ x, KY (WG true fs [] [] []) [] fn pt rt fr x = F x := by intro _; kernel_rfl) : WO ((f, .pu pt rt fr F) :: fs) := wc e (BE (e _ _ _ _) QQ hf hb Za hF)
theorem Vf {k : Nat} {L : WL} {m : List (Nat × Nat)} {v l : List Nat} {f : Nat} {fn : Func} {pt rt : Ty} {fr : List Bool} {F : T pt → Option (T rt)} {fs : WF} (e : WO fs) (hf : WP.funcs[f]? = some fn) (hL : ∀ i, i < k → Ib (WG true fs m v l) L (lp fn i))
 (hb : (fn.body.isSome && !(fn.name == "runtime.NumGoroutine") && Nat.ble pt.npar fn.ntmps && Nat.beq (Od (fn.body.getD .skip)).length k) = true := by kernel_rfl)
 (hF : ∀ x, KY (WG true fs m v l) L fn pt rt fr x = F x := by intro _; kernel_rfl) : WO ((f, .pu pt rt fr F) :: fs) := wc e (BE (e _ _ _ _) QQ hf hb hL hF)
theorem wbx {z : Bool} {k : Nat} {L : WL} {m : List (Nat × Nat)} {v l : List Nat} {f : Nat} {fn : Func} {vw cv : Bool} {τ pt rt : Ty} {fr : List Bool} {F : T τ → T pt → Option (T τ × T rt)} {fs : WF} (e : WO fs) (hf : WP.funcs[f]? = some fn) (hL : ∀ i, i < k → Ib (WG z fs m v l) L (lp fn i))
 (hb : (fn.body.isSome && !(fn.name == "runtime.NumGoroutine") && Nat.ble (pt.npar + 1) fn.ntmps && Nat.beq (Od (fn.body.getD .skip)).length k) = true := by kernel_rfl)
 (hF : ∀ x0 x, QN (WG z fs m v l) L fn vw cv τ pt rt fr x0 x = F x0 x := by intro _ _; kernel_rfl) (hz : (!z || ((vw && !cv) && Im m)) = true := by kernel_rfl) : WO ((f, .bx vw cv τ pt rt fr F) :: fs) := wc e (A0 (e _ _ _ _) hz QQ hf hb hL hF)
theorem wtp {z : Bool} {k : Nat} {L : WL} {m : List (Nat × Nat)} {v l : List Nat} {f : Nat} {fn : Func} {τ κ ε pt rt : Ty} {F : T τ → List (T κ × T ε) → T pt → Option (T τ × (List (T κ × T ε) × T rt))} {fs : WF} (e : WO fs) (hf : WP.funcs[f]? = some fn) (hL : ∀ i, i < k → Ib (WG z fs m v l) L (lp fn i))
 (hb : (fn.body.isSome && !(fn.name == "runtime.NumGoroutine") && Nat.ble (pt.npar + 1) fn.ntmps && Nat.beq (Od (fn.body.getD .skip)).length k) = true := by kernel_rfl)
 (hF : ∀ x0 xs x, RN (WG z fs m v l) L fn τ κ ε pt rt x0 xs x = F x0 xs x := by intro _ _ _; kernel_rfl) (hz : (!z || LO m) = true := by kernel_rfl) : WO ((f, .tp τ κ ε pt rt F) :: fs) := wc e (C0 (e _ _ _ _) hz QQ hf hb hL hF)
theorem Fai : ∀ w, II.p w → ∃ m, w.cell? ⟨Tryz.lays_strings_Split_ren.g 1, 0, none⟩ = some (.int .i64 m) := fun _ h => h
abbrev Cb : TD := .data int
abbrev Rr : Ty := .sl Sb
abbrev Bj : TD := .data Oa
abbrev Df : Ty := .p .b .u
abbrev Vp : Ty := .p Sb .u
abbrev Gl : Ty := .p int .u
abbrev Hx : TD := .data (.sl Rr)
abbrev Tl : Ty := .sl Br
abbrev Ay : Ty := .p Oa (.p (.mp Pc Tl) .u)
abbrev Iw : TD := .own 200001 int true
abbrev Zh : TD := .ptr 2 []
abbrev XJ : TD := .pr Cb (.pr (.own 200001 Rr true) .un)
abbrev TA : TD := .own 200001 Lb true
abbrev Jh : TD := .data .b
abbrev Mj : TD := .ptr 3 []
abbrev Jo : Ty := .sl Lb
abbrev Pi : Ty := .sl Dh
abbrev H9 : TD := .pr (.pr Cb (.pr (.own 200002 Rr true) .un)) (.pr (.own 200003 Pi true) (.pr Cb (.pr (.own 200004 Rl true) (.data (.p int Df)))))
abbrev Tt : Ty := .p Oa .u
abbrev Az : Ty := .p int (.p .o .u)
abbrev Up : TD := .ptr 1 []
abbrev Nj : Ty := .sl int
abbrev Cr : TD := .pr Cb (.pr (.data Nj) .un)
abbrev AW : TD := .pr Bj (.pr (.mpo 500001 Pc Tl) .un)
abbrev Er : Ty := .sl Rl
abbrev Sr : TD := .data Er
abbrev ZV : TD := .pr (.data (.sl Pi)) (.pr Cb (.pr Sr (.data (.p int Df))))
abbrev Bz : Ty := .p Lb .u
abbrev YJ : TD := .pr Cb (.pr Hx .un)
abbrev Ut : TD := .ptr 4 []
abbrev UA : TD := .data Gb
abbrev ZJ : TD := .own 200101 int true
abbrev Jw : TD := .ptr 5 []
abbrev Vae : Xa := .pu (.p Rr Gl) Gl [true] (fun x => Zl x.1 x.2.1)
abbrev FU : WF := (109, Vae) :: ([] : WF)
theorem Gab : WO FU := Se Raj func109
abbrev Eaj : Xa := .pu (.p (.sl Rr) Gl) Gl [true] (fun x => Bp x.1 x.2.1)
abbrev R8 : WF := (48, Eaj) :: FU
def FZ : Ta := ⟨27, ⟨[(0, Hx), (1, Cb), (5, Cb)], []⟩, 0, ⟨[(1, Cb)], []⟩, ⟨[(4, Cb)], []⟩, Wr⟩
def Hai : WL := [(5, FZ)]
theorem W9 : Ib (WG true FU [] [] []) Hai (lp f48 0) := Kd 5 (ls := FZ) rfl
theorem Tah : WO R8 := Vf Gab func48 (Ra W9 Za)
abbrev Uai : Xa := .pu (.p Oa Gl) Gl [true] (fun x => Sn x.1 x.2.1)
abbrev L8 : WF := (17, Uai) :: R8
theorem Jah : WO L8 := Se Tah func17
abbrev Cag : Xa := .pu Vp Vp [true] (fun x => Tn x.1)
abbrev VU : WF := (198, Cag) :: L8
theorem Nac : WO VU := Se Jah func198
abbrev Wae : Xa := .pu (.p Rr .u) (.p Rr .u) [true] (fun x => Xq x.1)
abbrev GU : WF := (110, Wae) :: VU
def VR : Ta := ⟨23, ⟨[(0, (.data Rr)), (3, (.own 200001 Sb true)), (4, Cb)], []⟩, 0, ⟨[(3, (.own 200001 Sb true))], []⟩, ⟨[], []⟩, It⟩
def Nad : WL := [(3, VR)]
theorem Z5 : Ib (WG true VU [] [] []) Nad (lp f110 0) := Kd 3 (ls := VR) rfl
theorem Hab : WO GU := Vf Nac func110 (Ra Z5 Za)
abbrev Faj : Xa := .pu (.p (.sl Rr) .u) (.p (.sl Rr) .u) [true] (fun x => Bu x.1)
abbrev S8 : WF := (49, Faj) :: GU
def GZ : Ta := ⟨23, ⟨[(0, Hx), (3, (.own 200001 Rr true)), (4, Cb)], []⟩, 0, ⟨[(3, (.own 200001 Rr true))], []⟩, ⟨[], []⟩, Xr⟩
def Iai : WL := [(3, GZ)]
theorem X9 : Ib (WG true GU [] [] []) Iai (lp f49 0) := Kd 3 (ls := GZ) rfl
theorem Uah : WO S8 := Vf Hab func49 (Ra X9 Za)
abbrev Vai : Xa := .pu Tt Tt [true] (fun x => Xf x.1)
abbrev M8 : WF := (18, Vai) :: S8
theorem Kah : WO M8 := Se Uah func18
abbrev Uae : Xa := .pu Dh Df [true] (fun x => He x.1 x.2.1 x.2.2.1)
abbrev K3 : WF := (107, Uae) :: M8
theorem Fab : WO K3 := Se Kah func107
abbrev Tae : Xa := .pu Vp Df [true] (fun x => Yg x.1)
abbrev BN : WF := (106, Tae) :: K3
theorem Eab : WO BN := Se Fab func106
abbrev Baj : Xa := .pu Tt Df [true] (fun x => Ji x.1)
abbrev Q8 : WF := (42, Baj) :: BN
def DZ : Ta := ⟨74, ⟨[(1, Up), (3, Cb), (4, Cb)], [(1, Oa, Bj)]⟩, 2, ⟨[(1, Up), (3, Cb)], [(1, Oa, Bj)]⟩, ⟨[(2, Jh)], []⟩, Yi⟩
def CZ : Ta := ⟨74, ⟨[(1, Up), (3, Cb)], [(1, Oa, Bj)]⟩, 0, ⟨[(1, Up)], [(1, Oa, Bj)]⟩, ⟨[(2, Jh)], []⟩, Xi⟩
def B9 : WL := [(7, DZ), (2, CZ)]
theorem U9 : Ib (WG true BN [] [] []) B9 (lp f42 1) := Kd 7 (ls := DZ) rfl
theorem T9 : Ib (WG true BN [] [] []) B9 (lp f42 0) := Kd 2 (ls := CZ) rfl
theorem Qah : WO Q8 := Vf Eab func42 (Ra U9 (Ra T9 Za))
abbrev Oaf : Xa := .pu Vp Df [true] (fun x => Kj x.1)
abbrev PU : WF := (184, Oaf) :: Q8
theorem Zab : WO PU := Se Qah func184
abbrev Eag : Xa := .pu (.p Er .u) Df [true] (fun x => Bl x.1)
abbrev XU : WF := (200, Eag) :: PU
def OS : Ta := ⟨57, ⟨[(0, Sr), (3, Cb), (4, Cb)], []⟩, 0, ⟨[], []⟩, ⟨[(2, Jh)], []⟩, Mq⟩
def Cae : WL := [(3, OS)]
theorem R6 : Ib (WG true PU [] [] []) Cae (lp f200 0) := Kd 3 (ls := OS) rfl
theorem Pac : WO XU := Vf Zab func200 (Ra R6 Za)
abbrev Mag : Xa := .pu (.p Er (.p Dh .u)) Gl [true] (fun x => Eo x.1 x.2.1)
abbrev G4 : WF := (222, Mag) :: XU
def TS : Ta := ⟨33, ⟨[(0, Sr), (3, Mj), (5, Cb)], [(3, Dh, (.data Dh))]⟩, 0, ⟨[], []⟩, ⟨[(4, Cb)], []⟩, Qq⟩
def Gae : WL := [(2, TS)]
theorem W6 : Ib (WG true XU [] [] []) Gae (lp f222 0) := Kd 2 (ls := TS) rfl
theorem Xac : WO G4 := Vf Pac func222 (Ra W6 Za)
abbrev Nag : Xa := .pu (.p Dh .u) Vp [true] (fun x => Yn x.1)
abbrev H4 : WF := (223, Nag) :: G4
theorem Yac : WO H4 := Se Xac func223
abbrev Lag : Xa := .pu (.p Er Gl) (.p Er .u) [true] (fun x => Ze x.1 x.2.1)
abbrev AV : WF := (207, Lag) :: H4
theorem Wac : WO AV := Se Yac func207
abbrev Haf : Xa := .pu (.p Pi .u) Df [true] (fun x => Nq x.1)
abbrev CN : WF := (136, Haf) :: AV
def ES : Ta := ⟨62, ⟨[(0, (.data Pi)), (3, (.own 200001 Rl true)), (4, Cb)], []⟩, 0, ⟨[(0, (.data Pi)), (3, (.own 200001 Rl true))], []⟩, ⟨[(2, Jh)], []⟩, No⟩
def Sad : WL := [(3, ES)]
theorem H6 : Ib (WG true AV [] [] []) Sad (lp f136 0) := Kd 3 (ls := ES) rfl
theorem Sab : WO CN := Vf Wac func136 (Ra H6 Za)
abbrev Yae : Xa := .pu (.p Gb .u) Df [true] (fun x => Yf x.1)
abbrev IU : WF := (112, Yae) :: CN
def XR : Ta := ⟨96, ⟨[(1, Up), (3, Cb)], [(1, Gb, UA)]⟩, 0, ⟨[(1, Up)], [(1, Gb, UA)]⟩, ⟨[(2, Jh)], []⟩, Vi⟩
def YR : Ta := ⟨96, ⟨[(1, Up), (4, Cb)], [(1, Gb, UA)]⟩, 2, ⟨[(1, Up)], [(1, Gb, UA)]⟩, ⟨[(2, Jh)], []⟩, Wi⟩
def Q4 : WL := [(4, XR), (9, YR)]
theorem B6 : Ib (WG true CN [] [] []) Q4 (lp f112 0) := Kd 4 (ls := XR) rfl
theorem C6 : Ib (WG true CN [] [] []) Q4 (lp f112 1) := Kd 9 (ls := YR) rfl
theorem Jab : WO IU := Vf Sab func112 (Ra C6 (Ra B6 Za))
abbrev Naj : Xa := .pu Tt Tt [true] (fun x => Nv x.1)
abbrev T0 : WF := (94, Naj) :: IU
def MZ : Ta := ⟨28, ⟨[(1, Up), (2, Zh), (3, Mj), (4, Cb)], [(1, Oa, Bj), (2, Oa, YJ), (3, Oa, XJ)]⟩, 0, ⟨[(2, Zh), (3, Mj)], [(2, Oa, YJ), (3, Oa, XJ)]⟩, ⟨[], []⟩, Pq⟩
def Oai : WL := [(3, MZ)]
theorem Daa : Ib (WG true IU [] [] []) Oai (lp f94 0) := Kd 3 (ls := MZ) rfl
theorem Cai : WO T0 := Vf Jab func94 (Ra Daa Za)
abbrev Zae : Xa := .pu (.p Gb .u) (.p Gb .u) [true] (fun x => Fj x.1)
abbrev L3 : WF := (113, Zae) :: T0
def ZR : Ta := ⟨37, ⟨[(1, Up), (2, Zh), (3, Mj), (4, Cb)], [(1, Gb, UA), (2, Gb, (.pr YJ ZV)), (3, Gb, (.pr XJ (.pr (.own 200002 Pi true) (.data (.p int (.p Er (.p int Df)))))))]⟩, 0, ⟨[(1, Up), (2, Zh), (3, Mj)], [(1, Gb, UA), (2, Gb, (.pr YJ ZV)), (3, Gb, (.pr XJ (.pr (.own 200002 Pi true) (.data (.p int (.p Er (.p int Df)))))))]⟩, ⟨[], []⟩, Rq⟩
def Pad : WL := [(5, ZR)]
theorem D6 : Ib (WG true T0 [] [] []) Pad (lp f113 0) := Kd 5 (ls := ZR) rfl
theorem Kab : WO L3 := Vf Cai func113 (Ra D6 Za)
abbrev Haj : Xa := .pu (.p Oa (.p (.sl Pi) .u)) (.p Gb Df) [true, true] (fun x => Bm x.1 x.2.1)
abbrev Q0 : WF := (51, Haj) :: L3
theorem Wah : WO Q0 := Se Kab func51
abbrev Fag : Xa := .pu (.p Gb Gl) Gl [true] (fun x => As x.1 x.2.1)
abbrev YU : WF := (201, Fag) :: Q0
def PS : Ta := ⟨22, ⟨[(1, Cb), (2, Zh), (5, Cb)], [(2, Gb, UA)]⟩, 0, ⟨[], []⟩, ⟨[(4, Cb)], []⟩, Lq⟩
def Dae : WL := [(2, PS)]
theorem S6 : Ib (WG true Q0 [] [] []) Dae (lp f201 0) := Kd 2 (ls := PS) rfl
theorem Qac : WO YU := Vf Wah func201 (Ra S6 Za)
abbrev Faf : Xa := .pu (.p int (.p Er .u)) Gl [true] (fun x => Xn x.1 x.2.1)
abbrev MU : WF := (128, Faf) :: YU
def CS : Ta := ⟨38, ⟨[(1, Sr), (5, Cb), (6, Cb)], []⟩, 0, ⟨[(5, Cb)], []⟩, ⟨[], []⟩, Zi⟩
def Rad : WL := [(5, CS)]
theorem F6 : Ib (WG true YU [] [] []) Rad (lp f128 0) := Kd 5 (ls := CS) rfl
theorem Qab : WO MU := Vf Qac func128 (Ra F6 Za)
abbrev Tag : Xa := .pu (.p Oa Eh) Gl [true] (fun x => Fu x.1 x.2.1 x.2.2.1)
abbrev L4 : WF := (266, Tag) :: MU
def XS : Ta := ⟨45, ⟨[(1, Cb), (2, Cb), (3, Mj), (7, Cb)], [(3, Oa, Bj)]⟩, 0, ⟨[], []⟩, ⟨[(6, Cb)], []⟩, Sf⟩
def Kae : WL := [(4, XS)]
theorem A7 : Ib (WG true MU [] [] []) Kae (lp f266 0) := Kd 4 (ls := XS) rfl
theorem Ead : WO L4 := Vf Qab func266 (Ra A7 Za)
abbrev Gag : Xa := .pu (.p Oa Eh) Vp [true] (fun x => Vn x.1 x.2.1 x.2.2.1)
abbrev C4 : WF := (202, Gag) :: L4
theorem Rac : WO C4 := Se Ead func202
abbrev Hag : Xa := .pu Vp Vp [true] (fun x => DG x.1)
abbrev D4 : WF := (203, Hag) :: C4
theorem Sac : WO D4 := Se Rac func203
abbrev Oaj : Xa := .pu Vp Vp [true] (fun x => Xw x.1)
abbrev W8 : WF := (98, Oaj) :: D4
theorem Dai : WO W8 := Se Sac func98
abbrev Zag : Xa := .pu Gl Df [true] (fun x => Hp x.1)
abbrev O4 : WF := (305, Zag) :: W8
theorem Kad : WO O4 := Se Dai func305
abbrev Uag : Xa := .bx false false Gb Vp Vp [true] (fun x0 x => SB x0 x.1)
abbrev M4 : WF := (267, Uag) :: O4
theorem Fad : WO M4 := wbx (L := []) (m := []) (v := []) (l := []) (z := false) Kad func267 Za
abbrev Iag : Xa := .bx false false Gb Vp Vp [true] (fun x0 x => Fk x0 x.1)
abbrev UH : WF := (204, Iag) :: M4
theorem Tac : WO UH := wbx (L := []) (m := []) (v := []) (l := []) (z := false) Fad func204 Za
abbrev Gaf : Xa := .pu (.p Er .u) Bz [true] (fun x => Vb x.1)
abbrev NE : WF := (130, Gaf) :: UH
def DS : Ta := ⟨70, ⟨[(0, Sr), (2, Zh), (3, Mj), (4, Cb)], [(2, Lb, Cr), (3, Lb, (.pr Cb (.pr Iw .un)))]⟩, 0, ⟨[(0, Sr), (2, Zh), (3, Mj)], [(2, Lb, Cr), (3, Lb, (.pr Cb (.pr Iw .un)))]⟩, ⟨[], []⟩, En⟩
def NP : Ta := ⟨70, ⟨[(0, Sr), (2, Zh), (3, Mj), (5, Cb), (6, Cb)], [(2, Lb, Cr), (3, Lb, (.pr Cb (.pr (.own 200201 int true) .un)))]⟩, 4, ⟨[(0, Sr), (2, Zh), (3, Mj), (5, Cb)], [(2, Lb, Cr), (3, Lb, (.pr Cb (.pr (.own 200201 int true) .un)))]⟩, ⟨[], []⟩, Gi⟩
def MP : Ta := ⟨70, ⟨[(0, Sr), (2, Zh), (3, Mj), (5, Cb)], [(2, Lb, Cr), (3, Lb, (.pr Cb (.pr ZJ .un)))]⟩, 2, ⟨[(2, Zh), (3, Mj)], [(2, Lb, Cr), (3, Lb, (.pr Cb (.pr ZJ .un)))]⟩, ⟨[], []⟩, Dm⟩
def JV : WL := [(5, DS), (13, NP), (10, MP)]
theorem G6 : Ib (WG true UH [] [] []) JV (lp f130 0) := Kd 5 (ls := DS) rfl
theorem S1 : Ib (WG true UH [] [] []) JV (lp f130 2) := Kd 13 (ls := NP) rfl
theorem R1 : Ib (WG true UH [] [] []) JV (lp f130 1) := Kd 10 (ls := MP) rfl
theorem Rab : WO NE := Vf Tac func130 (Ra S1 (Ra R1 (Ra G6 Za)))
abbrev Vag : Xa := .pu (.p Er (.p Er .u)) Bz [true] (fun x => Ms x.1 x.2.1)
abbrev EV : WF := (268, Vag) :: NE
def YS : Ta := ⟨77, ⟨[(1, Sr), (4, Ut), (5, Jw), (6, Cb)], [(4, Lb, Cr), (5, Lb, (.pr Cb (.pr Iw .un)))]⟩, 0, ⟨[(1, Sr), (4, Ut), (5, Jw)], [(4, Lb, Cr), (5, Lb, (.pr Cb (.pr Iw .un)))]⟩, ⟨[], []⟩, Iu⟩
def OP : Ta := ⟨77, ⟨[(1, Sr), (4, Ut), (5, Jw), (7, (.own 200201 int true)), (8, Cb), (9, Jh), (10, Cb)], [(4, Lb, Cr), (5, Lb, (.pr Cb (.pr (.own 200202 int true) .un)))]⟩, 4, ⟨[(1, Sr), (4, Ut), (5, Jw), (7, (.own 200201 int true)), (8, Cb), (9, Jh)], [(4, Lb, Cr), (5, Lb, (.pr Cb (.pr (.own 200202 int true) .un)))]⟩, ⟨[], []⟩, Kt⟩
def PP : Ta := ⟨77, ⟨[(1, Sr), (4, Ut), (5, Jw), (7, (.own 200301 int true)), (8, Cb), (9, Jh), (11, Cb)], [(4, Lb, Cr), (5, Lb, (.pr Cb (.pr (.own 200302 int true) .un)))]⟩, 6, ⟨[(1, Sr), (4, Ut), (5, Jw), (7, (.own 200301 int true)), (8, Cb), (9, Jh)], [(4, Lb, Cr), (5, Lb, (.pr Cb (.pr (.own 200302 int true) .un)))]⟩, ⟨[], []⟩, Lt⟩
def ZS : Ta := ⟨77, ⟨[(1, Sr), (4, Ut), (5, Jw), (7, ZJ), (8, Cb)], [(4, Lb, Cr), (5, Lb, (.pr Cb (.pr (.own 200102 int true) .un)))]⟩, 2, ⟨[(4, Ut), (5, Jw), (7, ZJ)], [(4, Lb, Cr), (5, Lb, (.pr Cb (.pr (.own 200102 int true) .un)))]⟩, ⟨[], []⟩, Ju⟩
def DN : WL := [(3, YS), (12, OP), (16, PP), (8, ZS)]
theorem B7 : Ib (WG true NE [] [] []) DN (lp f268 0) := Kd 3 (ls := YS) rfl
theorem T1 : Ib (WG true NE [] [] []) DN (lp f268 2) := Kd 12 (ls := OP) rfl
theorem U1 : Ib (WG true NE [] [] []) DN (lp f268 3) := Kd 16 (ls := PP) rfl
theorem C7 : Ib (WG true NE [] [] []) DN (lp f268 1) := Kd 8 (ls := ZS) rfl
theorem Gad : WO EV := Vf Rab func268 (Ra U1 (Ra T1 (Ra C7 (Ra B7 Za))))
abbrev Jag : Xa := .pu (.p Er (.p Pi .u)) (.p Jo .u) [true] (fun x => Nr x.1 x.2.1)
abbrev ZU : WF := (205, Jag) :: EV
def QS : Ta := ⟨60, ⟨[(0, Sr), (1, (.data Pi)), (5, TA), (6, (.own 200002 Rl true)), (7, Cb)], []⟩, 0, ⟨[(5, TA)], []⟩, ⟨[], []⟩, Oq⟩
def Eae : WL := [(6, QS)]
theorem T6 : Ib (WG true EV [] [] []) Eae (lp f205 0) := Kd 6 (ls := QS) rfl
theorem Uac : WO ZU := Vf Gad func205 (Ra T6 Za)
abbrev Caf : Xa := .pu (.p Lb Bz) Df [true] (fun x => Ok x.1 x.2.1)
abbrev O3 : WF := (116, Caf) :: ZU
def BS : Ta := ⟨38, ⟨[(2, Zh), (3, Mj), (5, Cb)], [(2, Lb, (.data Lb)), (3, Lb, (.data Lb))]⟩, 0, ⟨[], []⟩, ⟨[(4, Jh)], []⟩, Cl⟩
def Qad : WL := [(4, BS)]
theorem E6 : Ib (WG true ZU [] [] []) Qad (lp f116 0) := Kd 4 (ls := BS) rfl
theorem Nab : WO O3 := Vf Uac func116 (Ra E6 Za)
abbrev Eaf : Xa := .pu Bz Bz [true] (fun x => Ov x.1)
abbrev LU : WF := (125, Eaf) :: O3
theorem Pab : WO LU := Se Nab func125
abbrev Kag : Xa := .pu (.p Lb (.p Jo .u)) (.p Jo .u) [true] (fun x => Pd x.1 x.2.1)
abbrev E4 : WF := (206, Kag) :: LU
def RS : Ta := ⟨34, ⟨[(1, (.data Jo)), (2, Zh), (5, TA), (6, Cb)], [(2, Lb, (.data Lb))]⟩, 0, ⟨[(5, TA)], []⟩, ⟨[], []⟩, Fm⟩
def Fae : WL := [(3, RS)]
theorem U6 : Ib (WG true LU [] [] []) Fae (lp f206 0) := Kd 3 (ls := RS) rfl
theorem Vac : WO E4 := Vf Pab func206 (Ra U6 Za)
abbrev Aaf : Xa := .pu (.p Gb (.p int Df)) (.p Gb (.p Jo Df)) [true, true, true] (fun x => Dn x.1 x.2.1 x.2.2.1)
abbrev N3 : WF := (114, Aaf) :: E4
theorem Lab : WO N3 := Se Vac func114
abbrev Baf : Xa := .pu (.p Gb Gl) (.p Gb (.p Jo Df)) [true, true, true] (fun x => Cm x.1 x.2.1)
abbrev JU : WF := (115, Baf) :: N3
theorem Mab : WO JU := Se Lab func115
abbrev Iaj : Xa := .pu (.p Gb (.p Nj .u)) (.p Gb (.p Jo Df)) [true, true, true] (fun x => Em x.1 x.2.1)
abbrev R0 : WF := (52, Iaj) :: JU
def IZ : Ta := ⟨66, ⟨[(1, (.data Nj)), (4, Ut), (7, TA), (8, (.ptr 8 [])), (9, Cb)], [(4, Gb, H9), (8, Gb, (.pr (.pr Cb (.pr Hx (.data .u))) ZV))]⟩, 0, ⟨[(4, Ut), (7, TA), (8, (.ptr 8 []))], [(4, Gb, H9), (8, Gb, (.pr (.pr Cb (.pr Hx (.data .u))) ZV))]⟩, ⟨[(4, Ut), (5, TA), (6, Jh)], [(4, Gb, H9)]⟩, Oo⟩
def Kai : WL := [(4, IZ)]
theorem Z9 : Ib (WG true JU [(5999, 1000102560), (5999, 1000102561), (5999, 1000102562)] [] []) Kai (lp f52 0) := Kd 4 (ls := IZ) rfl
theorem Xah : WO R0 := Vf Mab func52 (Ra Z9 Za)
abbrev Jaj : Xa := .pu (.p Jo (.p Jo .u)) Df [true] (fun x => Ip x.1 x.2.1)
abbrev U8 : WF := (53, Jaj) :: R0
def JZ : Ta := ⟨33, ⟨[(0, (.data Jo)), (1, (.data Jo)), (5, Cb)], []⟩, 0, ⟨[(0, (.data Jo)), (1, (.data Jo))], []⟩, ⟨[(4, Jh)], []⟩, Dl⟩
def Lai : WL := [(2, JZ)]
theorem Aaa : Ib (WG true R0 [] [] []) Lai (lp f53 0) := Kd 2 (ls := JZ) rfl
theorem Yah : WO U8 := Vf Xah func53 (Ra Aaa Za)
abbrev Daf : Xa := .pu (.p Gb (.p Gb .u)) Df [true] (fun x => Gu x.1 x.2.1)
abbrev KU : WF := (117, Daf) :: U8
theorem Oab : WO KU := Se Yah func117
abbrev Kaj : Xa := .pu (.p (.sl At) (.p Gb (.p Gb .u))) Df [true] (fun x => Hu x.1 x.2.1 x.2.2.1)
abbrev HV : WF := (54, Kaj) :: KU
def KZ : Ta := ⟨30, ⟨[(0, (.data (.sl At))), (4, Ut), (5, Jw), (7, Cb)], [(4, Gb, UA), (5, Gb, UA)]⟩, 0, ⟨[], []⟩, ⟨[(6, Jh)], []⟩, Po⟩
def Mai : WL := [(2, KZ)]
theorem Baa : Ib (WG true KU [] [] []) Mai (lp f54 0) := Kd 2 (ls := KZ) rfl
theorem Zah : WO HV := Vf Oab func54 (Ra Baa Za)
abbrev Xai : Xa := .pu (.p Oa Tt) (.p Nj Df) [true, true] (fun x => Nl x.1 x.2.1)
abbrev O8 : WF := (20, Xai) :: HV
def SS : Ta := ⟨119, ⟨[(2, Zh), (10, (.own 200101 At true)), (11, Cb), (12, Cb)], [(2, Oa, Bj)]⟩, 2, ⟨[(2, Zh), (10, (.own 200101 At true)), (11, Cb)], [(2, Oa, Bj)]⟩, ⟨[(4, ZJ), (5, Jh)], []⟩, Ee⟩
def YY : Ta := ⟨119, ⟨[(2, Zh), (10, (.own 200001 At true)), (11, Cb)], [(2, Oa, Bj)]⟩, 0, ⟨[], []⟩, ⟨[(4, Iw), (5, Jh)], []⟩, Me⟩
def Y8 : WL := [(10, SS), (7, YY)]
theorem V6 : Ib (WG true HV [(17000, 200101), (14000, 200101), (13000, 200101)] [] []) Y8 (lp f20 1) := Kd 10 (ls := SS) rfl
theorem P9 : Ib (WG true HV [(17000, 200101), (14000, 200101), (13000, 200101)] [] []) Y8 (lp f20 0) := Kd 7 (ls := YY) rfl
theorem Mah : WO O8 := Vf Zah func20 (Ra V6 (Ra P9 Za))
abbrev Tai : Xa := .pu (.p Oa Tt) Df [true] (fun x => Wn x.1 x.2.1)
abbrev K8 : WF := (14, Tai) :: O8
theorem Iah : WO K8 := Se Mah func14
abbrev Paf : Xa := .pu Gl Df [true] (fun x => Vk x.1)
abbrev T3 : WF := (185, Paf) :: K8
theorem Aac : WO T3 := Se Iah func185
abbrev Qaf : Xa := .pu Gl Df [true] (fun x => Wk x.1)
abbrev U3 : WF := (186, Qaf) :: T3
theorem Bac : WO U3 := Se Aac func186
abbrev Raf : Xa := .pu Gl Df [true] (fun x => Wl x.1)
abbrev V3 : WF := (187, Raf) :: U3
theorem Cac : WO V3 := Se Bac func187
abbrev Paj : Xa := .pu Vp Df [true] (fun x => Vg x.1)
abbrev IV : WF := (99, Paj) :: V3
theorem Eai : WO IV := Se Cac func99
abbrev Yai : Xa := .pu Tt Df [true] (fun x => Hi x.1)
abbrev M0 : WF := (36, Yai) :: IV
def AZ : Ta := ⟨73, ⟨[(1, Up), (3, Cb), (28, Hx), (29, Cb), (30, Cb), (40, (.data Rr)), (41, Cb), (42, Cb)], [(1, Oa, Bj)]⟩, 2, ⟨[(1, Up), (28, Hx), (29, Cb), (30, Cb)], [(1, Oa, Bj)]⟩, ⟨[(2, Jh)], []⟩, Ri⟩
def ZY : Ta := ⟨73, ⟨[(1, Up), (28, Hx), (29, Cb), (30, Cb)], [(1, Oa, Bj)]⟩, 0, ⟨[], []⟩, ⟨[(2, Jh)], []⟩, Qi⟩
def Z8 : WL := [(9, AZ), (4, ZY)]
theorem R9 : Ib (WG true IV [] [] []) Z8 (lp f36 1) := Kd 9 (ls := AZ) rfl
theorem Q9 : Ib (WG true IV [] [] []) Z8 (lp f36 0) := Kd 4 (ls := ZY) rfl
theorem Nah : WO M0 := Vf Eai func36 (Ra R9 (Ra Q9 Za))
abbrev Caj : Xa := .pu Tt Tt [true] (fun x => Xo x.1)
abbrev N0 : WF := (45, Caj) :: M0
def EZ : Ta := ⟨25, ⟨[(2, Zh), (3, Mj), (10, Hx), (11, Cb), (12, Cb)], [(2, Oa, YJ), (3, Oa, XJ)]⟩, 0, ⟨[(2, Zh), (3, Mj)], [(2, Oa, YJ), (3, Oa, XJ)]⟩, ⟨[], []⟩, Tk⟩
def Gai : WL := [(3, EZ)]
theorem V9 : Ib (WG true M0 [] [] []) Gai (lp f45 0) := Kd 3 (ls := EZ) rfl
theorem Rah : WO N0 := Vf Nah func45 (Ra V9 Za)
abbrev Laj : Xa := .pu (.p (.sl Pi) .u) (.p (.sl Pi) .u) [true] (fun x => Yo x.1)
abbrev V8 : WF := (80, Laj) :: N0
def LZ : Ta := ⟨19, ⟨[(3, (.own 200001 Pi true)), (6, (.data (.sl Pi))), (7, Cb), (8, Cb)], []⟩, 0, ⟨[(3, (.own 200001 Pi true))], []⟩, ⟨[], []⟩, Uk⟩
def Nai : WL := [(3, LZ)]
theorem Caa : Ib (WG true N0 [] [] []) Nai (lp f80 0) := Kd 3 (ls := LZ) rfl
theorem Aai : WO V8 := Vf Rah func80 (Ra Caa Za)
abbrev Sae : Xa := .pu (.p Gb .u) (.p Gb .u) [true] (fun x => Jk x.1)
abbrev J3 : WF := (104, Sae) :: V8
theorem Dab : WO J3 := Se Aai func104
abbrev Daj : Xa := .pu Eh Gl [true] (fun x => Qu x.1 x.2.1)
abbrev P0 : WF := (47, Daj) :: J3
theorem Sah : WO P0 := Se Dab func47
abbrev Bag : Xa := .pu (.p Er .u) Df [true] (fun x => Dj x.1)
abbrev UU : WF := (197, Bag) :: P0
def NS : Ta := ⟨46, ⟨[(3, Cb), (6, Sr), (7, Cb), (8, Cb)], []⟩, 0, ⟨[], []⟩, ⟨[(2, Jh)], []⟩, Bq⟩
def Bae : WL := [(3, NS)]
theorem Q6 : Ib (WG true P0 [] [] []) Bae (lp f197 0) := Kd 3 (ls := NS) rfl
theorem Mac : WO UU := Vf Sah func197 (Ra Q6 Za)
abbrev Maf : Xa := .pu (.p int (.p Er .u)) Gl [true] (fun x => Pn x.1 x.2.1)
abbrev NU : WF := (166, Maf) :: UU
def HS : Ta := ⟨39, ⟨[(5, Cb), (21, Sr), (22, Cb), (23, Cb)], []⟩, 0, ⟨[(5, Cb)], []⟩, ⟨[], []⟩, Pg⟩
def Vad : WL := [(7, HS)]
theorem K6 : Ib (WG true UU [] [] []) Vad (lp f166 0) := Kd 7 (ls := HS) rfl
theorem Xab : WO NU := Vf Mac func166 (Ra K6 Za)
abbrev Saf : Xa := .pu (.p Oa Eh) Gl [true] (fun x => Gq x.1 x.2.1 x.2.2.1)
abbrev W3 : WF := (188, Saf) :: NU
def JS : Ta := ⟨33, ⟨[(1, Cb), (2, Cb), (3, Mj), (7, Cb)], [(3, Oa, Bj)]⟩, 0, ⟨[], []⟩, ⟨[(6, Cb)], []⟩, Rf⟩
def Xad : WL := [(2, JS)]
theorem M6 : Ib (WG true NU [] [] []) Xad (lp f188 0) := Kd 2 (ls := JS) rfl
theorem Dac : WO W3 := Vf Xab func188 (Ra M6 Za)
abbrev Qag : Xa := .pu Vp Df [true] (fun x => Vl x.1)
abbrev I4 : WF := (262, Qag) :: W3
theorem Bad : WO I4 := Se Dac func262
abbrev Taf : Xa := .pu Vp Vp [true] (fun x => XF x.1)
abbrev X3 : WF := (189, Taf) :: I4
theorem Eac : WO X3 := Se Bad func189
abbrev Uaf : Xa := .pu Vp Vp [true] (fun x => Tw x.1)
abbrev Y3 : WF := (190, Uaf) :: X3
theorem Fac : WO Y3 := Se Eac func190
abbrev Rag : Xa := .pu Gl Df [true] (fun x => Wo x.1)
abbrev J4 : WF := (263, Rag) :: Y3
theorem Cad : WO J4 := Se Fac func263
abbrev Vaf : Xa := .bx false false Gb Vp Vp [true] (fun x0 x => Bo x0 x.1)
abbrev QU : WF := (191, Vaf) :: J4
theorem Gac : WO QU := wbx (L := []) (m := []) (v := []) (l := []) (z := false) Cad func191 Za
abbrev Oag : Xa := .pu (.p (.sl Eh) (.p Eh .u)) Gl [true] (fun x => Dz x.1 x.2.1)
abbrev BV : WF := (242, Oag) :: QU
def US : Ta := ⟨19, ⟨[(3, Mj), (7, (.data (.sl Eh))), (8, Cb), (9, Cb)], [(3, Eh, (.data Eh))]⟩, 0, ⟨[], []⟩, ⟨[(4, Cb)], []⟩, Uv⟩
def Hae : WL := [(2, US)]
theorem X6 : Ib (WG true QU [] [] []) Hae (lp f242 0) := Kd 2 (ls := US) rfl
theorem Zac : WO BV := Vf Gac func242 (Ra X6 Za)
abbrev Kaf : Xa := .pu (.p Pi .u) Df [true] (fun x => BD x.1)
abbrev R3 : WF := (156, Kaf) :: BV
def GS : Ta := ⟨62, ⟨[(3, (.own 200001 Eh true)), (11, (.data Pi)), (12, Cb), (13, Cb)], []⟩, 0, ⟨[(3, (.own 200001 Eh true))], []⟩, ⟨[(2, Jh)], []⟩, Ku⟩
def Uad : WL := [(5, GS)]
theorem J6 : Ib (WG true BV [] [] []) Uad (lp f156 0) := Kd 5 (ls := GS) rfl
theorem Vab : WO R3 := Vf Zac func156 (Ra J6 Za)
abbrev Aaj : Xa := .pu (.p Nj .u) (.p Nj .u) [true] (fun x => Wf x.1)
abbrev P8 : WF := (38, Aaj) :: R3
theorem Pah : WO P8 := Se Vab func38
abbrev Wag : Xa := .io Nj .u .u [] (fun x0 _ => sort_Ints x0)
abbrev FV : WF := (297, Wag) :: P8
end
end KF
namespace Go.Proofs
open Go.Shelf
def Tryz.lays_sort_Ints_ren : Go.Shelf.Ren := ⟨fun | 191 => 297 | 189 => 327 | 125 => 342 | 257 => 341 | 128 => 356 | 129 => 337 | 294 => 347 | 295 => 348 | 296 => 349 | 297 => 350 | 298 => 351 | 299 => 352 | 216 => 353 | 300 => 354 | 301 => 355 | 328 => 357 | 329 => 358 | 330 => 359 | 331 => 360 | 332 => 361 | 215 => 362 | 343 => 363 | n => n, fun | 28 => 29 | 0 => 0 | 3 => 3 | 46 => 242 | 51 => 327 | 53 => 339 | 4 => 4 | 183 => 370 | 182 => 369 | 131 => 135 | 5 => 5 | 9 => 9 | 218 => 378 | 222 => 382 | 228 => 384 | 229 => 336 | n => n, fun | n => n⟩
theorem Tryz.lays_sort_Ints : Go.Proofs.Lays.n191 Tryz.prog Tryz.lays_sort_Ints_ren := {
 mixed := by kernel_rfl
 f125 := Tryz.func342.trans (congrArg some (by kernel_rfl))
 f128 := Tryz.func356.trans (congrArg some (by kernel_rfl))
 f129 := Tryz.func337.trans (congrArg some (by kernel_rfl))
 f189 := Tryz.func327.trans (congrArg some (by kernel_rfl))
 f191 := Tryz.func297.trans (congrArg some (by kernel_rfl))
 f215 := Tryz.func362.trans (congrArg some (by kernel_rfl))
 f216 := Tryz.func353.trans (congrArg some (by kernel_rfl))
 f257 := Tryz.func341.trans (congrArg some (by kernel_rfl))
 f294 := Tryz.func347.trans (congrArg some (by kernel_rfl))
 f295 := Tryz.func348.trans (congrArg some (by kernel_rfl))
 f296 := Tryz.func349.trans (congrArg some (by kernel_rfl))
 f297 := Tryz.func350.trans (congrArg some (by kernel_rfl))
 f298 := Tryz.func351.trans (congrArg some (by kernel_rfl))
 f299 := Tryz.func352.trans (congrArg some (by kernel_rfl))
 f300 := Tryz.func354.trans (congrArg some (by kernel_rfl))
 f301 := Tryz.func355.trans (congrArg some (by kernel_rfl))
 f328 := Tryz.func357.trans (congrArg some (by kernel_rfl))
 f329 := Tryz.func358.trans (congrArg some (by kernel_rfl))
 f330 := Tryz.func359.trans (congrArg some (by kernel_rfl))
 f331 := Tryz.func360.trans (congrArg some (by kernel_rfl))
 f332 := Tryz.func361.trans (congrArg some (by kernel_rfl))
 f343 := Tryz.func363.trans (congrArg some (by kernel_rfl))
 t0 := Tryz.underlying0
 a0 := Tryz.isAgg0
 z0 := Tryz.sizeOf0
 v0 := Tryz.zeroValue0
 t3 := Tryz.underlying3
 a3 := Tryz.isAgg3
 z3 := Tryz.sizeOf3
 v3 := Tryz.zeroValue3
 t4 := Tryz.underlying4
 a4 := Tryz.isAgg4
 z4 := Tryz.sizeOf4
 v4 := Tryz.zeroValue4
 t5 := Tryz.underlying5
 a5 := Tryz.isAgg5
 z5 := Tryz.sizeOf5
 v5 := Tryz.zeroValue5
 t9 := Tryz.underlying9
 a9 := Tryz.isAgg9
 z9 := Tryz.sizeOf9
 v9 := Tryz.zeroValue9
 t28 := Tryz.underlying29
 a28 := Tryz.isAgg29
 z28 := Tryz.sizeOf29
 v28 := Tryz.zeroValue29
 t46 := Tryz.underlying242
 a46 := Tryz.isAgg242
 z46 := Tryz.sizeOf242
 v46 := Tryz.zeroValue242
 t51 := Tryz.underlying327
 a51 := Tryz.isAgg327
 z51 := Tryz.sizeOf327
 v51 := Tryz.zeroValue327
 t53 := Tryz.underlying339
 a53 := Tryz.isAgg339
 z53 := Tryz.sizeOf339
 v53 := Tryz.zeroValue339
 t131 := Tryz.underlying135
 a131 := Tryz.isAgg135
 z131 := Tryz.sizeOf135
 v131 := Tryz.zeroValue135
 t182 := Tryz.underlying369
 a182 := Tryz.isAgg369
 z182 := Tryz.sizeOf369
 v182 := Tryz.zeroValue369
 t183 := Tryz.underlying370
 a183 := Tryz.isAgg370
 z183 := Tryz.sizeOf370
 v183 := Tryz.zeroValue370
 t218 := Tryz.underlying378
 a218 := Tryz.isAgg378
 z218 := Tryz.sizeOf378
 v218 := Tryz.zeroValue378
 t222 := Tryz.underlying382
 a222 := Tryz.isAgg382
 z222 := Tryz.sizeOf382
 v222 := Tryz.zeroValue382
 t228 := Tryz.underlying384
 a228 := Tryz.isAgg384
 z228 := Tryz.sizeOf384
 v228 := Tryz.zeroValue384
 t229 := Tryz.underlying336
 a229 := Tryz.isAgg336
 z229 := Tryz.sizeOf336
 v229 := Tryz.zeroValue336 }
end Go.Proofs
namespace KF
open Go Go.Proofs Go.Proofs.Tryz
noncomputable section
theorem Had : WO FV := wc Pah (DX Tryz.lays_sort_Ints (by kernel_rfl))
abbrev Xag : Xa := .pu (.p Nj Gl) Df [true] (fun x => Kv x.1 x.2.1)
abbrev GV : WF := (298, Xag) :: FV
def AT : Ta := ⟨17, ⟨[(1, Cb), (7, (.data Nj)), (8, Cb), (9, Cb)], []⟩, 0, ⟨[], []⟩, ⟨[(4, Jh)], []⟩, Fq⟩
def Lae : WL := [(2, AT)]
theorem D7 : Ib (WG true FV [] [] []) Lae (lp f298 0) := Kd 2 (ls := AT) rfl
theorem Iad : WO GV := Vf Had func298 (Ra D7 Za)
abbrev Pag : Xa := .pu (.p Nj .u) (.p Nj .u) [true] (fun x => Dq x.1)
abbrev CV : WF := (250, Pag) :: GV
def VS : Ta := ⟨31, ⟨[(4, Iw), (11, (.own 200002 int true)), (12, Cb), (13, Cb)], []⟩, 0, ⟨[(4, Iw)], []⟩, ⟨[], []⟩, Mo⟩
def Iae : WL := [(5, VS)]
theorem Y6 : Ib (WG true GV [] [] []) Iae (lp f250 0) := Kd 5 (ls := VS) rfl
theorem Aad : WO CV := Vf Iad func250 (Ra Y6 Za)
abbrev Naf : Xa := .pu (.p Er .u) Bz [true] (fun x => Ub x.1)
abbrev OU : WF := (167, Naf) :: CV
def IS : Ta := ⟨45, ⟨[(2, Zh), (3, Mj), (4, Iw), (11, Sr), (12, Cb), (13, Cb)], [(2, Lb, Cr), (3, Lb, Cr)]⟩, 0, ⟨[(2, Zh), (3, Mj), (4, Iw)], [(2, Lb, Cr), (3, Lb, Cr)]⟩, ⟨[], []⟩, Tm⟩
def Wad : WL := [(6, IS)]
theorem L6 : Ib (WG true CV [] [] []) Wad (lp f167 0) := Kd 6 (ls := IS) rfl
theorem Yab : WO OU := Vf Aad func167 (Ra L6 Za)
abbrev Sag : Xa := .pu (.p Lb (.p (.sl Eh) .u)) Bz [true] (fun x => Ij x.1 x.2.1)
abbrev DV : WF := (264, Sag) :: OU
def WS : Ta := ⟨37, ⟨[(4, Ut), (5, Jw), (6, Iw), (15, (.data (.sl Eh))), (16, Cb), (17, Cb)], [(4, Lb, Cr), (5, Lb, Cr)]⟩, 0, ⟨[(4, Ut), (5, Jw), (6, Iw)], [(4, Lb, Cr), (5, Lb, Cr)]⟩, ⟨[], []⟩, Dt⟩
def Jae : WL := [(4, WS)]
theorem Z6 : Ib (WG true OU [] [] []) Jae (lp f264 0) := Kd 4 (ls := WS) rfl
theorem Dad : WO DV := Vf Yab func264 (Ra Z6 Za)
abbrev Waf : Xa := .pu (.p Er (.p Pi .u)) (.p Jo .u) [true] (fun x => Kr x.1 x.2.1)
abbrev SU : WF := (192, Waf) :: DV
def KS : Ta := ⟨74, ⟨[(5, Jw), (6, TA), (7, (.own 200002 Eh true)), (22, (.data Pi)), (23, Cb), (24, Cb)], [(5, Lb, (.pr Cb (.pr (.own 200003 int true) .un)))]⟩, 0, ⟨[(6, TA)], []⟩, ⟨[], []⟩, Cq⟩
def Yad : WL := [(7, KS)]
theorem N6 : Ib (WG true DV [] [] []) Yad (lp f192 0) := Kd 7 (ls := KS) rfl
theorem Hac : WO SU := Vf Dad func192 (Ra N6 Za)
abbrev Yag : Xa := .pu (.p Nj (.p Nj .u)) Df [true] (fun x => Is x.1 x.2.1)
abbrev N4 : WF := (304, Yag) :: SU
def BT : Ta := ⟨26, ⟨[(0, (.data Nj)), (1, (.data Nj)), (12, Cb), (13, Cb)], []⟩, 0, ⟨[], []⟩, ⟨[(4, Jh)], []⟩, Wm⟩
def Mae : WL := [(4, BT)]
theorem E7 : Ib (WG true SU [] [] []) Mae (lp f304 0) := Kd 4 (ls := BT) rfl
theorem Jad : WO N4 := Vf Hac func304 (Ra E7 Za)
abbrev H5 : Xa := .pu (.p Lb Bz) Df [true] (fun x => Ik x.1 x.2.1)
abbrev K4 : WF := (265, H5) :: N4
theorem I3 : WO K4 := Se Jad func265
abbrev Xaf : Xa := .co (.p Lb (.p Jo .u)) (.p Jo .u) [true] (fun x => Ic x.1 x.2.1)
abbrev Z3 : WF := (193, Xaf) :: K4
def GTo : List (Nat × Ty) := [(3, int), (33, (.sl Az)), (104, Az)]
theorem X8 : ((GTo.all fun x => Bc Tryz.prog x.2 x.1) && (([] : List (Nat × Ty × Nat)).all fun x => LG Tryz.prog x.1 x.2.1 x.2.2)) = true := by kernel_rfl
@[reducible] def A1 (c : T Ed → T Ed → Option Bool) : Xa := .pu (.p Az (.p (.sl Az) .u)) (.p (.sl Az) .u) [true] (fun x => CW c x.1 x.2.1)
def ZX (c : T Ed → T Ed → Option Bool) : Gd := ⟨GTo, [(265, QK c)], [], true, [], [], []⟩
theorem Z0 (I : Bg) (c : T Ed → T Ed → Option Bool) (h : Gg Tryz.prog I 265 (QK c)) : Oh Tryz.prog I (ZX c) := Oh.cons h (GL X8)
def AL (c : T Ed → T Ed → Option Bool) : Ta := ⟨25, ⟨[(2, Zh), (5, (.own 200001 Az true)), (8, (.data (.sl Az))), (9, Cb), (10, Cb)], [(2, Az, (.data Az))]⟩, 0, ⟨[(5, (.own 200001 Az true))], []⟩, ⟨[], []⟩, Zn c⟩
def AY (c : T Ed → T Ed → Option Bool) : List (Nat × Ta) := [(3, AL c)]
theorem DW (c : T Ed → T Ed → Option Bool) : Ib (ZX c) (AY c) (lp Tryz.f193 0) := ML (r := 3) (ls := AL c) (R := fun x => Ou c x.1.1 x.1.2.1 x.1.2.2.1 x.1.2.2.2.1 x.1.2.2.2.2.1 x.2.1) (by kernel_rfl) (by kernel_rfl) rfl (fun x => by kernel_rfl)
theorem B1 (I : Bg) (c : T Ed → T Ed → Option Bool) (h : Gg Tryz.prog I 265 (QK c)) : Gg Tryz.prog I 193 (A1 c) := BE (L := AY c) (k := 1) (Z0 I c h) QQ Tryz.func193 (by kernel_rfl) (Ra (DW c) Za) (fun x => by kernel_rfl)
theorem Iac : WO Z3 := wc I3 (B0 (f2 := 265) (SR := fun x => Ik x.1 x.2.1) (same := Nf) V2 (Zaa (s := H5) I3 (by kernel_rfl)) (fun I c h => ⟨_, B1 I c h, N5 c⟩))
abbrev Pae : Xa := .pu (.p Gb (.p int Df)) (.p Gb (.p Jo .u)) [true, true] (fun x => Uw x.1 x.2.1 x.2.2.1)
abbrev DU : WF := (100, Pae) :: Z3
theorem Aab : WO DU := Se Iac func100
abbrev Yaf : Xa := .pu (.p Gb Gl) Gl [true] (fun x => Jv x.1 x.2.1)
abbrev A4 : WF := (194, Yaf) :: DU
def LS : Ta := ⟨21, ⟨[(1, Cb), (8, Sr), (9, Cb), (10, Cb)], []⟩, 0, ⟨[], []⟩, ⟨[(4, Cb)], []⟩, Aq⟩
def Zad : WL := [(2, LS)]
theorem O6 : Ib (WG true DU [] [] []) Zad (lp f194 0) := Kd 2 (ls := LS) rfl
theorem Jac : WO A4 := Vf Aab func194 (Ra O6 Za)
abbrev Qae : Xa := .pu (.p Gb Gl) (.p Gb (.p Jo .u)) [true, true] (fun x => Yt x.1 x.2.1)
abbrev EU : WF := (101, Qae) :: A4
theorem Bab : WO EU := Se Jac func101
abbrev Iaf : Xa := .pu Bz Df [true] (fun x => Es x.1)
abbrev P3 : WF := (146, Iaf) :: EU
def FS : Ta := ⟨39, ⟨[(1, Up), (14, (.data Nj)), (15, Cb), (16, Cb)], [(1, Lb, (.data Lb))]⟩, 0, ⟨[], []⟩, ⟨[(2, Jh)], []⟩, Sm⟩
def Tad : WL := [(4, FS)]
theorem I6 : Ib (WG true EU [] [] []) Tad (lp f146 0) := Kd 4 (ls := FS) rfl
theorem Tab : WO P3 := Vf Bab func146 (Ra I6 Za)
abbrev Jaf : Xa := .pu (.p .s (.p .s .u)) (.p (.sl .s) .u) [true] (fun x => strings_Split x.1 x.2.1)
abbrev Q3 : WF := (150, Jaf) :: P3
theorem Uab : WO Q3 := wc Tab (ER Tryz.lays_strings_Split (by kernel_rfl) Fai)
abbrev Zaf : Xa := .pu Gl (.p .s .u) [true] (fun x => Ds x.1)
abbrev TU : WF := (195, Zaf) :: Q3
theorem Kac : WO TU := Se Uab func195
abbrev Aag : Xa := .pu Gl (.p .s .u) [true] (fun x => To x.1)
abbrev B4 : WF := (196, Aag) :: TU
def MS : Ta := ⟨28, ⟨[(0, Cb), (3, (.data .s)), (12, (.own 200001 .s true)), (13, Cb), (14, Cb)], []⟩, 0, ⟨[(3, (.data .s))], []⟩, ⟨[], []⟩, Sk⟩
def Aae : WL := [(5, MS)]
theorem P6 : Ib (WG true TU [] [] []) Aae (lp f196 0) := Kd 5 (ls := MS) rfl
theorem Lac : WO B4 := Vf Kac func196 (Ra P6 Za)
abbrev Laf : Xa := .pu (.p (.sl .s) (.p .s .u)) (.p .s .u) [true] (fun x => strings_Join x.1 x.2.1)
abbrev S3 : WF := (165, Laf) :: B4
theorem Wab : WO S3 := wc Lac (NW Tryz.lays_strings_Join (by kernel_rfl) Tryz.extra_strings_Join)
abbrev Maj : Xa := .pu (.p (.sl .s) (.p .s .u)) (.p .s .u) [true] (fun x => Hs x.1 x.2.1)
abbrev S0 : WF := (85, Maj) :: S3
theorem Bai : WO S0 := Se Wab func85
abbrev Rae : Xa := .pu Bz (.p .s .u) [true] (fun x => Jl x.1)
abbrev AN : WF := (102, Rae) :: S0
def RR : Ta := ⟨29, ⟨[(1, Up), (3, (.own 200001 .s true)), (10, (.data Nj)), (11, Cb), (12, Cb)], [(1, Lb, (.data Lb))]⟩, 0, ⟨[(1, Up), (3, (.own 200001 .s true))], [(1, Lb, (.data Lb))]⟩, ⟨[], []⟩, Pj⟩
def Mad : WL := [(5, RR)]
theorem W5 : Ib (WG true S0 [] [] []) Mad (lp f102 0) := Kd 5 (ls := RR) rfl
theorem Cab : WO AN := Vf Bai func102 (Ra W5 Za)
abbrev Zai : Xa := .tp Oa Pc Tl (.p Pc .u) Tl (fun x0 xs x => Qj x0 xs x.1)
abbrev XN : WF := (37, Zai) :: AN
def CT : Ta := ⟨93, ⟨[(0, (.ptr 500000 [])), (3, Mj), (7, (.ptr 7 [])), (8, (.own 200101 Br true)), (12, (.ptr 12 [])), (14, (.data .s)), (43, Cb), (44, Cb), (61, (.own 200102 Lb true)), (62, Cb), (63, Cb)], [(500000, Ay, AW), (3, Pc, (.data Pc)), (7, Gb, (.pr Bj (.pr (.own 200103 Pi true) (.pr Cb (.pr (.own 200104 Rl true) (.data (.p int Df))))))), (12, Gb, (.pr (.pr Cb (.pr (.own 200105 Rr true) .un)) (.pr (.own 200106 Pi true) (.pr Cb (.pr (.own 200107 Rl true) (.data (.p int Df)))))))]⟩, 2, ⟨[(0, (.ptr 500000 [])), (3, Mj), (7, (.ptr 7 [])), (8, (.own 200101 Br true)), (12, (.ptr 12 [])), (14, (.data .s)), (43, Cb), (44, Cb)], [(500000, Ay, AW), (3, Pc, (.data Pc)), (7, Gb, (.pr Bj (.pr (.own 200102 Pi true) (.pr Cb (.pr (.own 200103 Rl true) (.data (.p int Df))))))), (12, Gb, (.pr (.pr Cb (.pr (.own 200104 Rr true) .un)) (.pr (.own 200105 Pi true) (.pr Cb (.pr (.own 200106 Rl true) (.data (.p int Df)))))))]⟩, ⟨[], []⟩, Qg⟩
def BZ : Ta := ⟨93, ⟨[(0, (.ptr 500000 [])), (3, Mj), (7, (.ptr 7 [])), (8, (.own 200001 Br true)), (43, Cb), (44, Cb)], [(500000, Ay, AW), (3, Pc, (.data Pc)), (7, Gb, (.pr Bj (.pr (.own 200002 Pi true) (.pr Cb (.pr (.own 200003 Rl true) (.data (.p int Df)))))))]⟩, 0, ⟨[(0, (.ptr 500000 [])), (3, Mj), (8, (.own 200001 Br true))], [(500000, Ay, AW), (3, Pc, (.data Pc))]⟩, ⟨[], []⟩, Bk⟩
def A9 : WL := [(13, CT), (7, BZ)]
theorem F7 : Ib (WG true AN [(16999, 200102), (16999, 200101), (999999998, 0), (19000, 1000200001)] [] []) A9 (lp f37 1) := Kd 13 (ls := CT) rfl
theorem S9 : Ib (WG true AN [(16999, 200102), (16999, 200101), (999999998, 0), (19000, 1000200001)] [] []) A9 (lp f37 0) := Kd 7 (ls := BZ) rfl
theorem Oah : WO XN := wtp Cab func37 (Ra F7 (Ra S9 Za))
abbrev Rai : Xa := .pu (.p Oa Tt) (.p Nj Df) [true, true] (fun x => Il x.1 x.2.1)
abbrev I8 : WF := (10, Rai) :: XN
def TR : Ta := ⟨125, ⟨[(2, Zh), (6, (.ptr 6 [])), (7, (.ptr 7 [])), (8, (.mpo 200101 Nd Nj)), (9, (.own 200102 Nd true)), (10, (.ptr 10 [])), (11, (.data Tl)), (12, (.data Tl)), (64, Cb), (65, Cb)], [(2, Oa, Bj), (6, Ay, (.pr Bj (.pr (.mpo 200103 Pc Tl) .un))), (7, Ay, (.pr Bj (.pr (.mpo 200104 Pc Tl) .un))), (10, Nd, (.data Nd))]⟩, 2, ⟨[(2, Zh), (6, (.ptr 6 [])), (7, (.ptr 7 [])), (8, (.mpo 200101 Nd Nj)), (9, (.own 200102 Nd true)), (10, (.ptr 10 [])), (11, (.data Tl)), (12, (.data Tl))], [(2, Oa, Bj), (6, Ay, (.pr Bj (.pr (.mpo 200103 Pc Tl) .un))), (7, Ay, (.pr Bj (.pr (.mpo 200104 Pc Tl) .un))), (10, Nd, (.data Nd))]⟩, ⟨[(4, ZJ), (5, Jh)], []⟩, Ig⟩
def UR : Ta := ⟨125, ⟨[(2, Zh), (6, (.ptr 6 [])), (7, (.ptr 7 [])), (8, (.mpo 200201 Nd Nj)), (9, (.own 200202 Nd true)), (10, (.ptr 10 [])), (11, (.data Tl)), (12, (.data Tl)), (88, Cb), (89, Cb)], [(2, Oa, Bj), (6, Ay, (.pr Bj (.pr (.mpo 200203 Pc Tl) .un))), (7, Ay, (.pr Bj (.pr (.mpo 200204 Pc Tl) .un))), (10, Nd, (.data Nd))]⟩, 4, ⟨[(2, Zh), (6, (.ptr 6 [])), (7, (.ptr 7 [])), (8, (.mpo 200201 Nd Nj)), (9, (.own 200202 Nd true))], [(2, Oa, Bj), (6, Ay, (.pr Bj (.pr (.mpo 200203 Pc Tl) .un))), (7, Ay, (.pr Bj (.pr (.mpo 200204 Pc Tl) .un)))]⟩, ⟨[], []⟩, Jg⟩
def XY : Ta := ⟨125, ⟨[(2, Zh), (6, (.ptr 6 [])), (7, (.ptr 7 [])), (8, (.mpo 200001 Nd Nj)), (9, (.own 200002 Nd true))], [(2, Oa, Bj), (6, Ay, (.pr Bj (.pr (.mpo 200003 Pc Tl) (.data .u)))), (7, Ay, (.pr Bj (.pr (.mpo 200004 Pc Tl) (.data .u))))]⟩, 0, ⟨[], []⟩, ⟨[(4, Iw), (5, Jh)], []⟩, Le⟩
def V0 : WL := [(11, TR), (17, UR), (6, XY)]
theorem X5 : Ib (WG true XN [] [56] []) V0 (lp f10 1) := Kd 11 (ls := TR) rfl
theorem Y5 : Ib (WG true XN [] [56] []) V0 (lp f10 2) := Kd 17 (ls := UR) rfl
theorem O9 : Ib (WG true XN [] [56] []) V0 (lp f10 0) := Kd 6 (ls := XY) rfl
theorem Gah : WO I8 := Vf Oah func10 (Ra Y5 (Ra X5 (Ra O9 Za)))
abbrev Sai : Xa := .pu (.p Oa Tt) Df [true] (fun x => On x.1 x.2.1)
abbrev J8 : WF := (11, Sai) :: I8
theorem Hah : WO J8 := Se Gah func11
abbrev Dag : Xa := .pu (.p Sb Vp) Df [true] (fun x => Qn x.1 x.2.1)
abbrev WU : WF := (199, Dag) :: J8
theorem Oac : WO WU := Se Hah func199
abbrev Xae : Xa := .pu (.p Rr (.p Rr .u)) Df [true] (fun x => Yl x.1 x.2.1)
abbrev HU : WF := (111, Xae) :: WU
def WR : Ta := ⟨27, ⟨[(0, (.data Rr)), (1, (.data Rr)), (5, Cb)], []⟩, 0, ⟨[], []⟩, ⟨[(4, Jh)], []⟩, Ht⟩
def Oad : WL := [(4, WR)]
theorem A6 : Ib (WG true WU [] [] []) Oad (lp f111 0) := Kd 4 (ls := WR) rfl
theorem Iab : WO HU := Vf Oac func111 (Ra A6 Za)
abbrev Gaj : Xa := .pu (.p (.sl Rr) (.p (.sl Rr) .u)) Df [true] (fun x => Ap x.1 x.2.1)
abbrev T8 : WF := (50, Gaj) :: HU
def HZ : Ta := ⟨27, ⟨[(0, Hx), (1, Hx), (5, Cb)], []⟩, 0, ⟨[], []⟩, ⟨[(4, Jh)], []⟩, Vr⟩
def Jai : WL := [(4, HZ)]
theorem Y9 : Ib (WG true HU [] [] []) Jai (lp f50 0) := Kd 4 (ls := HZ) rfl
theorem Vah : WO T8 := Vf Iab func50 (Ra Y9 Za)
abbrev Wai : Xa := .pu (.p Oa Tt) Df [true] (fun x => Rn x.1 x.2.1)
abbrev N8 : WF := (19, Wai) :: T8
theorem Lah : WO N8 := Se Vah func19
abbrev s_4 : Xa := .pu (.p Oa Tt) Df [true] (fun x => Ui x.1 x.2.1)
abbrev F_4 : WF := (4, s_4) :: N8
theorem E_4 : WO F_4 := Se Lah func4
theorem Px : Gg Tryz.prog II 4 s_4 := Zaa E_4 (by kernel_rfl)
end
end KF
