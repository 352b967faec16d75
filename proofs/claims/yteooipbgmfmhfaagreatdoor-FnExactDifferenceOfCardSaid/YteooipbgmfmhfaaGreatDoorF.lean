/- An evaluator of Go functions on plain data, its soundness, and plain laws on what the functions compute, part 6 (conditions: as each lemma tells). -/
import Derived.Test.YteooipbgmfmhfaaGreatDoorE
import Derived.Test.YteooipbgmfmhfaaGreatDoorRows
set_option linter.unusedSimpArgs false
set_option linter.unusedVariables false
namespace Go.Proofs
open Go.Shelf
def Tryz.lays_strings_Split_ren : Go.Shelf.Ren := ⟨fun | 146 => 150 | 221 => 237 | 268 => 281 | 138 => 282 | 143 => 155 | 195 => 309 | 197 => 310 | 218 => 311 | 219 => 241 | 260 => 331 | 217 => 286 | 225 => 287 | 224 => 288 | 267 => 289 | 266 => 312 | 314 => 313 | n => n, fun | 9 => 9 | 31 => 120 | 3 => 3 | 4 => 4 | 0 => 0 | 105 => 325 | 21 => 21 | 5 => 5 | 46 => 242 | 119 => 359 | 139 => 362 | 138 => 361 | 146 => 328 | 51 => 327 | n => n, fun | 1 => 0 | 3 => 4 | 4 => 5 | n => n⟩
theorem Tryz.lays_strings_Split : Go.Proofs.LaysM.n146 Tryz.prog Tryz.lays_strings_Split_ren := {
 mixed := by kernel_rfl
 f138 := Tryz.func282.trans (congrArg some (by kernel_rfl))
 f143 := Tryz.func155.trans (congrArg some (by kernel_rfl))
 f146 := Tryz.func150.trans (congrArg some (by kernel_rfl))
 f195 := Tryz.func309.trans (congrArg some (by kernel_rfl))
 f197 := Tryz.func310.trans (congrArg some (by kernel_rfl))
 f217 := Tryz.func286.trans (congrArg some (by kernel_rfl))
 f218 := Tryz.func311.trans (congrArg some (by kernel_rfl))
 f219 := Tryz.func241.trans (congrArg some (by kernel_rfl))
 f221 := Tryz.func237.trans (congrArg some (by kernel_rfl))
 f224 := Tryz.func288.trans (congrArg some (by kernel_rfl))
 f225 := Tryz.func287.trans (congrArg some (by kernel_rfl))
 f260 := Tryz.func331.trans (congrArg some (by kernel_rfl))
 f266 := Tryz.func312.trans (congrArg some (by kernel_rfl))
 f267 := Tryz.func289.trans (congrArg some (by kernel_rfl))
 f268 := Tryz.func281.trans (congrArg some (by kernel_rfl))
 f314 := Tryz.func313.trans (congrArg some (by kernel_rfl))
 t0 := Tryz.underlying0
 a0 := Tryz.isAgg0
 z0 := Tryz.sizeOf0
 v0 := Tryz.zeroValue0
 t3 := Tryz.underlying3
 a3 := Tryz.isAgg3
 z3 := Tryz.sizeOf3
 v3 := Tryz.zeroValue3
 t4 := Tryz.underlying4
 a4 := Tryz.isAgg4
 z4 := Tryz.sizeOf4
 v4 := Tryz.zeroValue4
 t5 := Tryz.underlying5
 a5 := Tryz.isAgg5
 z5 := Tryz.sizeOf5
 v5 := Tryz.zeroValue5
 t9 := Tryz.underlying9
 a9 := Tryz.isAgg9
 z9 := Tryz.sizeOf9
 v9 := Tryz.zeroValue9
 t21 := Tryz.underlying21
 a21 := Tryz.isAgg21
 z21 := Tryz.sizeOf21
 v21 := Tryz.zeroValue21
 t31 := Tryz.underlying120
 a31 := Tryz.isAgg120
 z31 := Tryz.sizeOf120
 v31 := Tryz.zeroValue120
 t46 := Tryz.underlying242
 a46 := Tryz.isAgg242
 z46 := Tryz.sizeOf242
 v46 := Tryz.zeroValue242
 t51 := Tryz.underlying327
 a51 := Tryz.isAgg327
 z51 := Tryz.sizeOf327
 v51 := Tryz.zeroValue327
 t105 := Tryz.underlying325
 a105 := Tryz.isAgg325
 z105 := Tryz.sizeOf325
 v105 := Tryz.zeroValue325
 t119 := Tryz.underlying359
 a119 := Tryz.isAgg359
 z119 := Tryz.sizeOf359
 t138 := Tryz.underlying361
 a138 := Tryz.isAgg361
 z138 := Tryz.sizeOf361
 v138 := Tryz.zeroValue361
 t139 := Tryz.underlying362
 a139 := Tryz.isAgg362
 z139 := Tryz.sizeOf362
 v139 := Tryz.zeroValue362
 t146 := Tryz.underlying328
 a146 := Tryz.isAgg328
 z146 := Tryz.sizeOf328
 v146 := Tryz.zeroValue328
 g1 := by kernel_rfl
 g3 := by kernel_rfl
 g4 := by kernel_rfl
 i0 := by kernel_rfl
 i3 := by kernel_rfl
 i4 := by kernel_rfl
 i5 := by kernel_rfl
 i9 := by kernel_rfl
 i21 := by kernel_rfl
 i31 := by kernel_rfl
 i46 := by kernel_rfl
 i51 := by kernel_rfl
 i105 := by kernel_rfl
 i138 := by kernel_rfl
 i139 := by kernel_rfl
 i146 := by kernel_rfl
 m1 := by kernel_rfl
 s1_3 := fun w h => Go.Proofs.cell_of_shapedOpen_int (zero := #[.int .i64 0]) (t := 3) h (of_decide_eq_true (by kernel_rfl)) (by kernel_rfl) rfl (by kernel_rfl) (by kernel_rfl) Tryz.underlying3
 m3 := by kernel_rfl
 m4 := by kernel_rfl }
def Tryz.lays_strings_Join_ren : Go.Shelf.Ren := ⟨fun | 156 => 165 | 165 => 247 | 166 => 248 | 169 => 249 | 240 => 295 | 241 => 296 | 276 => 325 | 277 => 326 | n => n, fun | 31 => 120 | 9 => 9 | 3 => 3 | 4 => 4 | 0 => 0 | 20 => 20 | 72 => 287 | 76 => 283 | 70 => 285 | 37 => 22 | 75 => 282 | 127 => 316 | 164 => 344 | 5 => 5 | 80 => 289 | n => n, fun | n => n⟩
theorem Tryz.lays_strings_Join : Go.Proofs.Lays.n156 Tryz.prog Tryz.lays_strings_Join_ren := {
 mixed := by kernel_rfl
 f156 := Tryz.func165.trans (congrArg some (by kernel_rfl))
 f165 := Tryz.func247.trans (congrArg some (by kernel_rfl))
 f166 := Tryz.func248.trans (congrArg some (by kernel_rfl))
 f169 := Tryz.func249.trans (congrArg some (by kernel_rfl))
 f240 := Tryz.func295.trans (congrArg some (by kernel_rfl))
 f241 := Tryz.func296.trans (congrArg some (by kernel_rfl))
 f276 := Tryz.func325.trans (congrArg some (by kernel_rfl))
 f277 := Tryz.func326.trans (congrArg some (by kernel_rfl))
 t0 := Tryz.underlying0
 a0 := Tryz.isAgg0
 z0 := Tryz.sizeOf0
 v0 := Tryz.zeroValue0
 t3 := Tryz.underlying3
 a3 := Tryz.isAgg3
 z3 := Tryz.sizeOf3
 v3 := Tryz.zeroValue3
 t4 := Tryz.underlying4
 a4 := Tryz.isAgg4
 z4 := Tryz.sizeOf4
 v4 := Tryz.zeroValue4
 t9 := Tryz.underlying9
 a9 := Tryz.isAgg9
 z9 := Tryz.sizeOf9
 v9 := Tryz.zeroValue9
 t20 := Tryz.underlying20
 a20 := Tryz.isAgg20
 z20 := Tryz.sizeOf20
 v20 := Tryz.zeroValue20
 t31 := Tryz.underlying120
 a31 := Tryz.isAgg120
 z31 := Tryz.sizeOf120
 v31 := Tryz.zeroValue120
 t37 := Tryz.underlying22
 a37 := Tryz.isAgg22
 z37 := Tryz.sizeOf22
 v37 := Tryz.zeroValue22
 t70 := Tryz.underlying285
 a70 := Tryz.isAgg285
 z70 := Tryz.sizeOf285
 v70 := Tryz.zeroValue285
 t72 := Tryz.underlying287
 a72 := Tryz.isAgg287
 z72 := Tryz.sizeOf287
 v72 := Tryz.zeroValue287
 t75 := Tryz.underlying282
 a75 := Tryz.isAgg282
 z75 := Tryz.sizeOf282
 v75 := Tryz.zeroValue282
 t76 := Tryz.underlying283
 a76 := Tryz.isAgg283
 z76 := Tryz.sizeOf283
 v76 := Tryz.zeroValue283
 t127 := Tryz.underlying316
 a127 := Tryz.isAgg316
 z127 := Tryz.sizeOf316
 v127 := Tryz.zeroValue316
 t164 := Tryz.underlying344
 a164 := Tryz.isAgg344
 z164 := Tryz.sizeOf344
 v164 := Tryz.zeroValue344 }
theorem Tryz.extra_strings_Join : Builder.Extra Tryz.prog Tryz.lays_strings_Join_ren := {
 sizeBuilder := by kernel_rfl
 liesBuilder := by kernel_rfl
 t5 := by kernel_rfl
 a5 := by intro _; kernel_rfl
 z5 := by intro _; kernel_rfl
 v5 := by intro _; kernel_rfl
 infoByte := by kernel_rfl
 cellsByte := by kernel_rfl
 sizeByte := by kernel_rfl
 neB5 := by decide }
end Go.Proofs
namespace KF
open Go Go.Proofs Go.Proofs.Tryz
def GT : List (Nat × Ty) := [(3, int), (4, .b), (9, .s), (24, (.sl (.sl Jb))), (26, Oa), (29, (.sl int)), (33, (.sl Nb)), (39, (.sl (.sl Jb))), (41, Oa), (64, (.sl (.sl Oh))), (65, (.sl Bm)), (67, Kb), (85, (.mp Pc (.sl Qr))), (87, (.p Oa (.p (.mp Pc (.sl Qr)) .u))), (89, Pc), (91, Qd), (92, (.mp Qd (.sl int))), (93, (.sl Qd)), (94, (.sl Qr)), (97, Qr), (104, Nb), (108, (.sl Jb)), (111, Jb), (116, Pt), (117, (.sl Pt)), (120, (.sl .s)), (132, (.sl Oh)), (172, (.sl Jb)), (201, Oh), (238, Bm), (244, Jb), (277, (.sl Ph)), (279, Ph)]
def GA : List (Nat × Ty × Nat) := []
theorem Maf : ((GT.all fun x => Bc Tryz.prog x.2 x.1) && (GA.all fun x => SH Tryz.prog x.1 x.2.1 x.2.2)) = true := by kernel_rfl
theorem EM : Tryz.prog.follows .mixedOrders = true := by kernel_rfl
noncomputable abbrev II : Hg := O3 (Tryz.lays_strings_Split_ren.g 1)
noncomputable section
noncomputable abbrev WP : Program := Tryz.prog
abbrev WF := List (Nat × Xa)
abbrev WL := List (Nat × Ra)
abbrev WG (z : Bool) (fs : WF) (m : List (Nat × Nat)) (v l : List Nat) : Ed := ⟨GT, fs, m, z, GA, v, l⟩
def WO (fs : WF) : Prop := ∀ z m v l, Sg WP II (WG z fs m v l)
theorem Fam : WO [] := fun _ _ _ _ => OM Maf
theorem wc {f : Nat} {s : Xa} {fs : WF} (e : WO fs) (h : Tf WP II f s) : WO ((f, s) :: fs) := fun z m v l => Sg.cons h (e z m v l)
theorem Zac {f : Nat} {s : Xa} {fs : WF} (e : WO fs) (h : Ya fs f = some s) : Tf WP II f s := (e true [] [] []).fn f s h
theorem Xc {z : Bool} {fs : WF} {m : List (Nat × Nat)} {v l : List Nat} {L : WL} {fn : Func} {i : Nat} (r : Nat) {ls : Ra} {R : ls.inT.X → Option (ls.inT.X ⊕ (ls.outT.X ⊕ ls.retT.X))}
 (h3 : ls.F = Bb R) (h1 : Yh (lp fn i) = some r := by kernel_rfl) (h2 : (Ya L r) = some ls := by kernel_rfl) (h4 : ∀ x, Zz (WG z fs m v l) L ls (lp fn i) x = R x := by intro _; kernel_rfl) : Cb (WG z fs m v l) L (lp fn i) := WM h1 h2 h3 h4
theorem Jf {f : Nat} {fn : Func} {pt rt : Ty} {fr : List Bool} {F : T pt → Option (T rt)} {fs : WF} (e : WO fs) (hf : WP.funcs[f]? = some fn)
 (hb : (fn.body.isSome && !(fn.name == "runtime.NumGoroutine") && Nat.ble pt.npar fn.ntmps && Nat.beq (Kd (fn.body.getD .skip)).length 0) = true := by kernel_rfl)
 (hF : ∀ x, WZ (WG true fs [] [] []) [] fn pt rt fr x = F x := by intro _; kernel_rfl) : WO ((f, .pu pt rt fr F) :: fs) := wc e (FF (e _ _ _ _) EM hf hb Ua hF)
theorem Sf {k : Nat} {L : WL} {m : List (Nat × Nat)} {v l : List Nat} {f : Nat} {fn : Func} {pt rt : Ty} {fr : List Bool} {F : T pt → Option (T rt)} {fs : WF} (e : WO fs) (hf : WP.funcs[f]? = some fn) (hL : ∀ i, i < k → Cb (WG true fs m v l) L (lp fn i))
 (hb : (fn.body.isSome && !(fn.name == "runtime.NumGoroutine") && Nat.ble pt.npar fn.ntmps && Nat.beq (Kd (fn.body.getD .skip)).length k) = true := by kernel_rfl)
 (hF : ∀ x, WZ (WG true fs m v l) L fn pt rt fr x = F x := by intro _; kernel_rfl) : WO ((f, .pu pt rt fr F) :: fs) := wc e (FF (e _ _ _ _) EM hf hb hL hF)
theorem G7 {k : Nat} {L : WL} {m : List (Nat × Nat)} {v l : List Nat} {f : Nat} {fn : Func} {τ pt rt : Ty} {fr : List Bool} {F : T τ → T pt → Option (T τ × T rt)} {fs : WF} (e : WO fs) (hf : WP.funcs[f]? = some fn) (hL : ∀ i, i < k → Cb (WG false fs m v l) L (lp fn i))
 (hb : (fn.body.isSome && !(fn.name == "runtime.NumGoroutine") && Nat.ble (pt.npar + 1) fn.ntmps && Nat.beq (Kd (fn.body.getD .skip)).length k) = true := by kernel_rfl)
 (hF : ∀ x0 x, BP (WG false fs m v l) L fn τ pt rt fr x0 x = F x0 x := by intro _ _; kernel_rfl) : WO ((f, .io τ pt rt fr F) :: fs) := wc e (Y1 (e _ _ _ _) rfl EM hf hb hL hF)
theorem wbx {z : Bool} {k : Nat} {L : WL} {m : List (Nat × Nat)} {v l : List Nat} {f : Nat} {fn : Func} {vw cv : Bool} {τ pt rt : Ty} {fr : List Bool} {F : T τ → T pt → Option (T τ × T rt)} {fs : WF} (e : WO fs) (hf : WP.funcs[f]? = some fn) (hL : ∀ i, i < k → Cb (WG z fs m v l) L (lp fn i))
 (hb : (fn.body.isSome && !(fn.name == "runtime.NumGoroutine") && Nat.ble (pt.npar + 1) fn.ntmps && Nat.beq (Kd (fn.body.getD .skip)).length k) = true := by kernel_rfl)
 (hF : ∀ x0 x, AP (WG z fs m v l) L fn vw cv τ pt rt fr x0 x = F x0 x := by intro _ _; kernel_rfl) (hz : (!z || ((vw && !cv) && Ep m)) = true := by kernel_rfl) : WO ((f, .bx vw cv τ pt rt fr F) :: fs) := wc e (W1 (e _ _ _ _) hz EM hf hb hL hF)
theorem wtp {z : Bool} {k : Nat} {L : WL} {m : List (Nat × Nat)} {v l : List Nat} {f : Nat} {fn : Func} {τ κ ε pt rt : Ty} {F : T τ → List (T κ × T ε) → T pt → Option (T τ × (List (T κ × T ε) × T rt))} {fs : WF} (e : WO fs) (hf : WP.funcs[f]? = some fn) (hL : ∀ i, i < k → Cb (WG z fs m v l) L (lp fn i))
 (hb : (fn.body.isSome && !(fn.name == "runtime.NumGoroutine") && Nat.ble (pt.npar + 1) fn.ntmps && Nat.beq (Kd (fn.body.getD .skip)).length k) = true := by kernel_rfl)
 (hF : ∀ x0 xs x, CP (WG z fs m v l) L fn τ κ ε pt rt x0 xs x = F x0 xs x := by intro _ _ _; kernel_rfl) (hz : (!z || YP m) = true := by kernel_rfl) : WO ((f, .tp τ κ ε pt rt F) :: fs) := wc e (Z1 (e _ _ _ _) hz EM hf hb hL hF)
theorem Lak : ∀ w, II.p w → ∃ m, w.cell? ⟨Tryz.lays_strings_Split_ren.g 1, 0, none⟩ = some (.int .i64 m) := fun _ h => h
abbrev Ab : TD := .data int
abbrev Un : Ty := .sl Jb
abbrev Nj : TD := .data Oa
abbrev Lf : Ty := .p .b .u
abbrev Eh : Ty := .p int .u
abbrev Jq : Ty := .p Jb .u
abbrev Gy : TD := .data (.sl Un)
abbrev Dm : Ty := .sl Qr
abbrev Hz : Ty := .p Oa (.p (.mp Pc Dm) .u)
abbrev Cx : TD := .own 200001 int true
abbrev Hi : TD := .ptr 2 []
abbrev ZK : TD := .pr Ab (.pr (.own 200001 Un true) .un)
abbrev Jh : TD := .data .b
abbrev BC : TD := .own 200001 Nb true
abbrev Xj : TD := .ptr 3 []
abbrev Uo : Ty := .sl Nb
abbrev Aj : Ty := .sl Oh
abbrev c8_ : TD := .pr (.pr Ab (.pr (.own 200002 Un true) .un)) (.pr (.own 200003 Aj true) (.pr Ab (.pr (.own 200004 Bm true) (.data (.p int Lf)))))
abbrev Qg : Ty := .sl int
abbrev Rr : TD := .pr Ab (.pr (.data Qg) .un)
abbrev HA : Ty := .p int (.p .o .u)
abbrev Dx : Ty := .p Oa .u
abbrev Iq : TD := .ptr 1 []
abbrev KX : TD := .pr Nj (.pr (.mpo 500001 Pc Dm) .un)
abbrev Ur : Ty := .sl Bm
abbrev Is : TD := .data Ur
abbrev JX : TD := .pr (.data (.sl Aj)) (.pr Ab (.pr Is (.data (.p int Lf))))
abbrev IA : Ty := .p Nb .u
abbrev AL : TD := .pr Ab (.pr Gy .un)
abbrev Ku : TD := .ptr 4 []
abbrev CC : TD := .data Kb
abbrev BL : TD := .own 200101 int true
abbrev Gx : TD := .ptr 5 []
abbrev Xag : Xa := .pu (.p Un Eh) Eh [true] (fun x => Hm x.1 x.2.1)
abbrev PV : WF := (109, Xag) :: ([] : WF)
theorem Gad : WO PV := Jf Fam func109
abbrev Qal : Xa := .pu (.p (.sl Un) Eh) Eh [true] (fun x => Qp x.1 x.2.1)
abbrev Laa : WF := (48, Qal) :: PV
def X0 : Ra := ⟨27, ⟨[(0, Gy), (1, Ab), (5, Ab)], []⟩, 0, ⟨[(1, Ab)], []⟩, ⟨[(4, Ab)], []⟩, Ns⟩
def Qak : WL := [(5, X0)]
theorem Uab : Cb (WG true PV [] [] []) Qak (lp f48 0) := Xc 5 (ls := X0) rfl
theorem Yaj : WO Laa := Sf Gad func48 (Na Uab Ua)
abbrev Cal : Xa := .pu (.p Oa Eh) Eh [true] (fun x => Ao x.1 x.2.1)
abbrev Eaa : WF := (17, Cal) :: Laa
theorem Kaj : WO Eaa := Jf Yaj func17
abbrev Fai : Xa := .pu Jq Jq [true] (fun x => Bo x.1)
abbrev FW : WF := (198, Fai) :: Eaa
theorem Oae : WO FW := Jf Kaj func198
abbrev Yag : Xa := .pu (.p Un .u) (.p Un .u) [true] (fun x => Mr x.1)
abbrev QV : WF := (110, Yag) :: FW
def FT : Ra := ⟨23, ⟨[(0, (.data Un)), (3, (.own 200001 Jb true)), (4, Ab)], []⟩, 0, ⟨[(3, (.own 200001 Jb true))], []⟩, ⟨[], []⟩, Yt⟩
def Oaf : WL := [(3, FT)]
theorem U7 : Cb (WG true FW [] [] []) Oaf (lp f110 0) := Xc 3 (ls := FT) rfl
theorem Had : WO QV := Sf Oae func110 (Na U7 Ua)
abbrev Ral : Xa := .pu (.p (.sl Un) .u) (.p (.sl Un) .u) [true] (fun x => Tu x.1)
abbrev Maa : WF := (49, Ral) :: QV
def Y0 : Ra := ⟨23, ⟨[(0, Gy), (3, (.own 200001 Un true)), (4, Ab)], []⟩, 0, ⟨[(3, (.own 200001 Un true))], []⟩, ⟨[], []⟩, Ps⟩
def Rak : WL := [(3, Y0)]
theorem Vab : Cb (WG true QV [] [] []) Rak (lp f49 0) := Xc 3 (ls := Y0) rfl
theorem Zaj : WO Maa := Sf Had func49 (Na Vab Ua)
abbrev Dal : Xa := .pu Dx Dx [true] (fun x => Bf x.1)
abbrev Faa : WF := (18, Dal) :: Maa
theorem Laj : WO Faa := Jf Zaj func18
abbrev Wag : Xa := .pu Oh Lf [true] (fun x => Ke x.1 x.2.1 x.2.2.1)
abbrev H5 : WF := (107, Wag) :: Faa
theorem Fad : WO H5 := Jf Laj func107
abbrev Vag : Xa := .pu Jq Lf [true] (fun x => Ih x.1)
abbrev JO : WF := (106, Vag) :: H5
theorem Ead : WO JO := Jf Fad func106
abbrev Nal : Xa := .pu Dx Lf [true] (fun x => Fo x.1)
abbrev Kaa : WF := (42, Nal) :: JO
def V0 : Ra := ⟨74, ⟨[(1, Iq), (3, Ab), (4, Ab)], [(1, Oa, Nj)]⟩, 2, ⟨[(1, Iq), (3, Ab)], [(1, Oa, Nj)]⟩, ⟨[(2, Jh)], []⟩, Kj⟩
def U0 : Ra := ⟨74, ⟨[(1, Iq), (3, Ab)], [(1, Oa, Nj)]⟩, 0, ⟨[(1, Iq)], [(1, Oa, Nj)]⟩, ⟨[(2, Jh)], []⟩, Jj⟩
def Waa : WL := [(7, V0), (2, U0)]
theorem Sab : Cb (WG true JO [] [] []) Waa (lp f42 1) := Xc 7 (ls := V0) rfl
theorem Rab : Cb (WG true JO [] [] []) Waa (lp f42 0) := Xc 2 (ls := U0) rfl
theorem Vaj : WO Kaa := Sf Ead func42 (Na Sab (Na Rab Ua))
abbrev Rah : Xa := .pu Jq Lf [true] (fun x => Vj x.1)
abbrev AW : WF := (184, Rah) :: Kaa
theorem Aae : WO AW := Jf Vaj func184
abbrev Hai : Xa := .pu (.p Ur .u) Lf [true] (fun x => Nl x.1)
abbrev HW : WF := (200, Hai) :: AW
def ZT : Ra := ⟨57, ⟨[(0, Is), (3, Ab), (4, Ab)], []⟩, 0, ⟨[], []⟩, ⟨[(2, Jh)], []⟩, Zq⟩
def Eag : WL := [(3, ZT)]
theorem N8 : Cb (WG true AW [] [] []) Eag (lp f200 0) := Xc 3 (ls := ZT) rfl
theorem Qae : WO HW := Sf Aae func200 (Na N8 Ua)
abbrev Pai : Xa := .pu (.p Ur (.p Oh .u)) Eh [true] (fun x => Oo x.1 x.2.1)
abbrev C6 : WF := (222, Pai) :: HW
def EU : Ra := ⟨33, ⟨[(0, Is), (3, Xj), (5, Ab)], [(3, Oh, (.data Oh))]⟩, 0, ⟨[], []⟩, ⟨[(4, Ab)], []⟩, Dr⟩
def Iag : WL := [(2, EU)]
theorem S8 : Cb (WG true HW [] [] []) Iag (lp f222 0) := Xc 2 (ls := EU) rfl
theorem Yae : WO C6 := Sf Qae func222 (Na S8 Ua)
abbrev Qai : Xa := .pu (.p Oh .u) Jq [true] (fun x => Io x.1)
abbrev D6 : WF := (223, Qai) :: C6
theorem Zae : WO D6 := Jf Yae func223
abbrev Oai : Xa := .pu (.p Ur Eh) (.p Ur .u) [true] (fun x => Ff x.1 x.2.1)
abbrev KW : WF := (207, Oai) :: D6
theorem Xae : WO KW := Jf Zae func207
abbrev Kah : Xa := .pu (.p Aj .u) Lf [true] (fun x => Ar x.1)
abbrev KO : WF := (136, Kah) :: KW
def PT : Ra := ⟨62, ⟨[(0, (.data Aj)), (3, (.own 200001 Bm true)), (4, Ab)], []⟩, 0, ⟨[(0, (.data Aj)), (3, (.own 200001 Bm true))], []⟩, ⟨[(2, Jh)], []⟩, Zo⟩
def Uaf : WL := [(3, PT)]
theorem D8 : Cb (WG true KW [] [] []) Uaf (lp f136 0) := Xc 3 (ls := PT) rfl
theorem Tad : WO KO := Sf Xae func136 (Na D8 Ua)
abbrev Aah : Xa := .pu (.p Kb .u) Lf [true] (fun x => Eg x.1)
abbrev SV : WF := (112, Aah) :: KO
def IT : Ra := ⟨96, ⟨[(1, Iq), (3, Ab)], [(1, Kb, CC)]⟩, 0, ⟨[(1, Iq)], [(1, Kb, CC)]⟩, ⟨[(2, Jh)], []⟩, Hj⟩
def JT : Ra := ⟨96, ⟨[(1, Iq), (4, Ab)], [(1, Kb, CC)]⟩, 2, ⟨[(1, Iq)], [(1, Kb, CC)]⟩, ⟨[(2, Jh)], []⟩, Ij⟩
def M6 : WL := [(4, IT), (9, JT)]
theorem W7 : Cb (WG true KO [] [] []) M6 (lp f112 0) := Xc 4 (ls := IT) rfl
theorem X7 : Cb (WG true KO [] [] []) M6 (lp f112 1) := Xc 9 (ls := JT) rfl
theorem Jad : WO SV := Sf Tad func112 (Na X7 (Na W7 Ua))
abbrev Aam : Xa := .pu Dx Dx [true] (fun x => Gw x.1)
abbrev U2 : WF := (94, Aam) :: SV
def H1 : Ra := ⟨28, ⟨[(1, Iq), (2, Hi), (3, Xj), (4, Ab)], [(1, Oa, Nj), (2, Oa, AL), (3, Oa, ZK)]⟩, 0, ⟨[(2, Hi), (3, Xj)], [(2, Oa, AL), (3, Oa, ZK)]⟩, ⟨[], []⟩, Cr⟩
def Yak : WL := [(3, H1)]
theorem Cac : Cb (WG true SV [] [] []) Yak (lp f94 0) := Xc 3 (ls := H1) rfl
theorem Iak : WO U2 := Sf Jad func94 (Na Cac Ua)
abbrev Bah : Xa := .pu (.p Kb .u) (.p Kb .u) [true] (fun x => Rj x.1)
abbrev I5 : WF := (113, Bah) :: U2
def KT : Ra := ⟨37, ⟨[(1, Iq), (2, Hi), (3, Xj), (4, Ab)], [(1, Kb, CC), (2, Kb, (.pr AL JX)), (3, Kb, (.pr ZK (.pr (.own 200002 Aj true) (.data (.p int (.p Ur (.p int Lf)))))))]⟩, 0, ⟨[(1, Iq), (2, Hi), (3, Xj)], [(1, Kb, CC), (2, Kb, (.pr AL JX)), (3, Kb, (.pr ZK (.pr (.own 200002 Aj true) (.data (.p int (.p Ur (.p int Lf)))))))]⟩, ⟨[], []⟩, Er⟩
def Qaf : WL := [(5, KT)]
theorem Y7 : Cb (WG true U2 [] [] []) Qaf (lp f113 0) := Xc 5 (ls := KT) rfl
theorem Kad : WO I5 := Sf Iak func113 (Na Y7 Ua)
abbrev Tal : Xa := .pu (.p Oa (.p (.sl Aj) .u)) (.p Kb Lf) [true, true] (fun x => Km x.1 x.2.1)
abbrev R2 : WF := (51, Tal) :: I5
theorem Bak : WO R2 := Jf Kad func51
abbrev Iai : Xa := .pu (.p Kb Eh) Eh [true] (fun x => Ts x.1 x.2.1)
abbrev IW : WF := (201, Iai) :: R2
def AU : Ra := ⟨22, ⟨[(1, Ab), (2, Hi), (5, Ab)], [(2, Kb, CC)]⟩, 0, ⟨[], []⟩, ⟨[(4, Ab)], []⟩, Yq⟩
def Fag : WL := [(2, AU)]
theorem O8 : Cb (WG true R2 [] [] []) Fag (lp f201 0) := Xc 2 (ls := AU) rfl
theorem Rae : WO IW := Sf Bak func201 (Na O8 Ua)
abbrev Iah : Xa := .pu (.p int (.p Ur .u)) Eh [true] (fun x => Ho x.1 x.2.1)
abbrev XV : WF := (128, Iah) :: IW
def NT : Ra := ⟨38, ⟨[(1, Is), (5, Ab), (6, Ab)], []⟩, 0, ⟨[(5, Ab)], []⟩, ⟨[], []⟩, Lj⟩
def Taf : WL := [(5, NT)]
theorem B8 : Cb (WG true IW [] [] []) Taf (lp f128 0) := Xc 5 (ls := NT) rfl
theorem Rad : WO XV := Sf Rae func128 (Na B8 Ua)
abbrev Wai : Xa := .pu (.p Oa Ph) Eh [true] (fun x => Xu x.1 x.2.1 x.2.2.1)
abbrev H6 : WF := (266, Wai) :: XV
def IU : Ra := ⟨45, ⟨[(1, Ab), (2, Ab), (3, Xj), (7, Ab)], [(3, Oa, Nj)]⟩, 0, ⟨[], []⟩, ⟨[(6, Ab)], []⟩, Yf⟩
def Mag : WL := [(4, IU)]
theorem W8 : Cb (WG true XV [] [] []) Mag (lp f266 0) := Xc 4 (ls := IU) rfl
theorem Faf : WO H6 := Sf Rad func266 (Na W8 Ua)
abbrev Jai : Xa := .pu (.p Oa Ph) Jq [true] (fun x => Eo x.1 x.2.1 x.2.2.1)
abbrev Z5 : WF := (202, Jai) :: H6
theorem Sae : WO Z5 := Jf Faf func202
abbrev Kai : Xa := .pu Jq Jq [true] (fun x => JH x.1)
abbrev A6 : WF := (203, Kai) :: Z5
theorem Tae : WO A6 := Jf Sae func203
abbrev Bam : Xa := .pu Jq Jq [true] (fun x => Wx x.1)
abbrev Raa : WF := (98, Bam) :: A6
theorem Jak : WO Raa := Jf Tae func98
abbrev Caj : Xa := .pu Eh Lf [true] (fun x => Wp x.1)
abbrev K6 : WF := (305, Caj) :: Raa
theorem Laf : WO K6 := Jf Jak func305
abbrev Xai : Xa := .bx false false Kb Jq Jq [true] (fun x0 x => YC x0 x.1)
abbrev I6 : WF := (267, Xai) :: K6
theorem Gaf : WO I6 := wbx (L := []) (m := []) (v := []) (l := []) (z := false) Laf func267 Ua
abbrev Lai : Xa := .bx false false Kb Jq Jq [true] (fun x0 x => Nk x0 x.1)
abbrev ZI : WF := (204, Lai) :: I6
theorem Uae : WO ZI := wbx (L := []) (m := []) (v := []) (l := []) (z := false) Gaf func204 Ua
abbrev Jah : Xa := .pu (.p Ur .u) IA [true] (fun x => Vb x.1)
abbrev TF : WF := (130, Jah) :: ZI
def OT : Ra := ⟨70, ⟨[(0, Is), (2, Hi), (3, Xj), (4, Ab)], [(2, Nb, Rr), (3, Nb, (.pr Ab (.pr Cx .un)))]⟩, 0, ⟨[(0, Is), (2, Hi), (3, Xj)], [(2, Nb, Rr), (3, Nb, (.pr Ab (.pr Cx .un)))]⟩, ⟨[], []⟩, Mn⟩
def XQ : Ra := ⟨70, ⟨[(0, Is), (2, Hi), (3, Xj), (5, Ab), (6, Ab)], [(2, Nb, Rr), (3, Nb, (.pr Ab (.pr (.own 200201 int true) .un)))]⟩, 4, ⟨[(0, Is), (2, Hi), (3, Xj), (5, Ab)], [(2, Nb, Rr), (3, Nb, (.pr Ab (.pr (.own 200201 int true) .un)))]⟩, ⟨[], []⟩, Ri⟩
def WQ : Ra := ⟨70, ⟨[(0, Is), (2, Hi), (3, Xj), (5, Ab)], [(2, Nb, Rr), (3, Nb, (.pr Ab (.pr BL .un)))]⟩, 2, ⟨[(2, Hi), (3, Xj)], [(2, Nb, Rr), (3, Nb, (.pr Ab (.pr BL .un)))]⟩, ⟨[], []⟩, Mm⟩
def TW : WL := [(5, OT), (13, XQ), (10, WQ)]
theorem C8 : Cb (WG true ZI [] [] []) TW (lp f130 0) := Xc 5 (ls := OT) rfl
theorem S3 : Cb (WG true ZI [] [] []) TW (lp f130 2) := Xc 13 (ls := XQ) rfl
theorem R3 : Cb (WG true ZI [] [] []) TW (lp f130 1) := Xc 10 (ls := WQ) rfl
theorem Sad : WO TF := Sf Uae func130 (Na S3 (Na R3 (Na C8 Ua)))
abbrev Yai : Xa := .pu (.p Ur (.p Ur .u)) IA [true] (fun x => Bt x.1 x.2.1)
abbrev OW : WF := (268, Yai) :: TF
def JU : Ra := ⟨77, ⟨[(1, Is), (4, Ku), (5, Gx), (6, Ab)], [(4, Nb, Rr), (5, Nb, (.pr Ab (.pr Cx .un)))]⟩, 0, ⟨[(1, Is), (4, Ku), (5, Gx)], [(4, Nb, Rr), (5, Nb, (.pr Ab (.pr Cx .un)))]⟩, ⟨[], []⟩, Av⟩
def YQ : Ra := ⟨77, ⟨[(1, Is), (4, Ku), (5, Gx), (7, (.own 200201 int true)), (8, Ab), (9, Jh), (10, Ab)], [(4, Nb, Rr), (5, Nb, (.pr Ab (.pr (.own 200202 int true) .un)))]⟩, 4, ⟨[(1, Is), (4, Ku), (5, Gx), (7, (.own 200201 int true)), (8, Ab), (9, Jh)], [(4, Nb, Rr), (5, Nb, (.pr Ab (.pr (.own 200202 int true) .un)))]⟩, ⟨[], []⟩, Bu⟩
def ZQ : Ra := ⟨77, ⟨[(1, Is), (4, Ku), (5, Gx), (7, (.own 200301 int true)), (8, Ab), (9, Jh), (11, Ab)], [(4, Nb, Rr), (5, Nb, (.pr Ab (.pr (.own 200302 int true) .un)))]⟩, 6, ⟨[(1, Is), (4, Ku), (5, Gx), (7, (.own 200301 int true)), (8, Ab), (9, Jh)], [(4, Nb, Rr), (5, Nb, (.pr Ab (.pr (.own 200302 int true) .un)))]⟩, ⟨[], []⟩, Cu⟩
def KU : Ra := ⟨77, ⟨[(1, Is), (4, Ku), (5, Gx), (7, BL), (8, Ab)], [(4, Nb, Rr), (5, Nb, (.pr Ab (.pr (.own 200102 int true) .un)))]⟩, 2, ⟨[(4, Ku), (5, Gx), (7, BL)], [(4, Nb, Rr), (5, Nb, (.pr Ab (.pr (.own 200102 int true) .un)))]⟩, ⟨[], []⟩, Bv⟩
def LO : WL := [(3, JU), (12, YQ), (16, ZQ), (8, KU)]
theorem X8 : Cb (WG true TF [] [] []) LO (lp f268 0) := Xc 3 (ls := JU) rfl
theorem T3 : Cb (WG true TF [] [] []) LO (lp f268 2) := Xc 12 (ls := YQ) rfl
theorem U3 : Cb (WG true TF [] [] []) LO (lp f268 3) := Xc 16 (ls := ZQ) rfl
theorem Y8 : Cb (WG true TF [] [] []) LO (lp f268 1) := Xc 8 (ls := KU) rfl
theorem Haf : WO OW := Sf Sad func268 (Na U3 (Na T3 (Na Y8 (Na X8 Ua))))
abbrev Mai : Xa := .pu (.p Ur (.p Aj .u)) (.p Uo .u) [true] (fun x => Ds x.1 x.2.1)
abbrev JW : WF := (205, Mai) :: OW
def BU : Ra := ⟨60, ⟨[(0, Is), (1, (.data Aj)), (5, BC), (6, (.own 200002 Bm true)), (7, Ab)], []⟩, 0, ⟨[(5, BC)], []⟩, ⟨[], []⟩, Br⟩
def Gag : WL := [(6, BU)]
theorem P8 : Cb (WG true OW [] [] []) Gag (lp f205 0) := Xc 6 (ls := BU) rfl
theorem Vae : WO JW := Sf Haf func205 (Na P8 Ua)
abbrev Eah : Xa := .pu (.p Nb IA) Lf [true] (fun x => Zk x.1 x.2.1)
abbrev K5 : WF := (116, Eah) :: JW
def LT : Ra := ⟨38, ⟨[(2, Hi), (3, Xj), (5, Ab)], [(2, Nb, (.data Nb)), (3, Nb, (.data Nb))]⟩, 0, ⟨[], []⟩, ⟨[(4, Jh)], []⟩, Ol⟩
def Raf : WL := [(4, LT)]
theorem Z7 : Cb (WG true JW [] [] []) Raf (lp f116 0) := Xc 4 (ls := LT) rfl
theorem Nad : WO K5 := Sf Vae func116 (Na Z7 Ua)
abbrev Hah : Xa := .pu IA IA [true] (fun x => Hw x.1)
abbrev WV : WF := (125, Hah) :: K5
theorem Qad : WO WV := Jf Nad func125
abbrev Nai : Xa := .pu (.p Nb (.p Uo .u)) (.p Uo .u) [true] (fun x => Rd x.1 x.2.1)
abbrev B6 : WF := (206, Nai) :: WV
def CU : Ra := ⟨34, ⟨[(1, (.data Uo)), (2, Hi), (5, BC), (6, Ab)], [(2, Nb, (.data Nb))]⟩, 0, ⟨[(5, BC)], []⟩, ⟨[], []⟩, Om⟩
def Hag : WL := [(3, CU)]
theorem Q8 : Cb (WG true WV [] [] []) Hag (lp f206 0) := Xc 3 (ls := CU) rfl
theorem Wae : WO B6 := Sf Qad func206 (Na Q8 Ua)
abbrev Cah : Xa := .pu (.p Kb (.p int Lf)) (.p Kb (.p Uo Lf)) [true, true, true] (fun x => Ln x.1 x.2.1 x.2.2.1)
abbrev J5 : WF := (114, Cah) :: B6
theorem Lad : WO J5 := Jf Wae func114
abbrev Dah : Xa := .pu (.p Kb Eh) (.p Kb (.p Uo Lf)) [true, true, true] (fun x => Lm x.1 x.2.1)
abbrev TV : WF := (115, Dah) :: J5
theorem Mad : WO TV := Jf Lad func115
abbrev Ual : Xa := .pu (.p Kb (.p Qg .u)) (.p Kb (.p Uo Lf)) [true, true, true] (fun x => Nm x.1 x.2.1)
abbrev S2 : WF := (52, Ual) :: TV
def A1 : Ra := ⟨66, ⟨[(1, (.data Qg)), (4, Ku), (7, BC), (8, (.ptr 8 [])), (9, Ab)], [(4, Kb, c8_), (8, Kb, (.pr (.pr Ab (.pr Gy (.data .u))) JX))]⟩, 0, ⟨[(4, Ku), (7, BC), (8, (.ptr 8 []))], [(4, Kb, c8_), (8, Kb, (.pr (.pr Ab (.pr Gy (.data .u))) JX))]⟩, ⟨[(4, Ku), (5, BC), (6, Jh)], [(4, Kb, c8_)]⟩, Ap⟩
def Tak : WL := [(4, A1)]
theorem Xab : Cb (WG true TV [(5999, 1000102560), (5999, 1000102561), (5999, 1000102562)] [] []) Tak (lp f52 0) := Xc 4 (ls := A1) rfl
theorem Cak : WO S2 := Sf Mad func52 (Na Xab Ua)
abbrev Val : Xa := .pu (.p Uo (.p Uo .u)) Lf [true] (fun x => Xp x.1 x.2.1)
abbrev Oaa : WF := (53, Val) :: S2
def B1 : Ra := ⟨33, ⟨[(0, (.data Uo)), (1, (.data Uo)), (5, Ab)], []⟩, 0, ⟨[(0, (.data Uo)), (1, (.data Uo))], []⟩, ⟨[(4, Jh)], []⟩, Pl⟩
def Uak : WL := [(2, B1)]
theorem Yab : Cb (WG true S2 [] [] []) Uak (lp f53 0) := Xc 2 (ls := B1) rfl
theorem Dak : WO Oaa := Sf Cak func53 (Na Yab Ua)
abbrev Fah : Xa := .pu (.p Kb (.p Kb .u)) Lf [true] (fun x => Yu x.1 x.2.1)
abbrev UV : WF := (117, Fah) :: Oaa
theorem Oad : WO UV := Jf Dak func117
abbrev Wal : Xa := .pu (.p (.sl Pt) (.p Kb (.p Kb .u))) Lf [true] (fun x => Zu x.1 x.2.1 x.2.2.1)
abbrev RW : WF := (54, Wal) :: UV
def C1 : Ra := ⟨30, ⟨[(0, (.data (.sl Pt))), (4, Ku), (5, Gx), (7, Ab)], [(4, Kb, CC), (5, Kb, CC)]⟩, 0, ⟨[], []⟩, ⟨[(6, Jh)], []⟩, Bp⟩
def Vak : WL := [(2, C1)]
theorem Zab : Cb (WG true UV [] [] []) Vak (lp f54 0) := Xc 2 (ls := C1) rfl
theorem Eak : WO RW := Sf Oad func54 (Na Zab Ua)
abbrev Fal : Xa := .pu (.p Oa Dx) (.p Qg Lf) [true, true] (fun x => Wi x.1 x.2.1)
abbrev Gaa : WF := (20, Fal) :: RW
def DU : Ra := ⟨119, ⟨[(2, Hi), (10, (.own 200101 Pt true)), (11, Ab), (12, Ab)], [(2, Oa, Nj)]⟩, 2, ⟨[(2, Hi), (10, (.own 200101 Pt true)), (11, Ab)], [(2, Oa, Nj)]⟩, ⟨[(4, BL), (5, Jh)], []⟩, Ie⟩
def M0 : Ra := ⟨119, ⟨[(2, Hi), (10, (.own 200001 Pt true)), (11, Ab)], [(2, Oa, Nj)]⟩, 0, ⟨[], []⟩, ⟨[(4, Cx), (5, Jh)], []⟩, Pe⟩
def Taa : WL := [(10, DU), (7, M0)]
theorem R8 : Cb (WG true RW [(17000, 200101), (14000, 200101), (13000, 200101)] [] []) Taa (lp f20 1) := Xc 10 (ls := DU) rfl
theorem Kab : Cb (WG true RW [(17000, 200101), (14000, 200101), (13000, 200101)] [] []) Taa (lp f20 0) := Xc 7 (ls := M0) rfl
theorem Naj : WO Gaa := Sf Eak func20 (Na R8 (Na Kab Ua))
abbrev Sah : Xa := .pu Eh Lf [true] (fun x => Hl x.1)
abbrev Q5 : WF := (185, Sah) :: Gaa
theorem Bae : WO Q5 := Jf Naj func185
abbrev Tah : Xa := .pu Eh Lf [true] (fun x => Il x.1)
abbrev R5 : WF := (186, Tah) :: Q5
theorem Cae : WO R5 := Jf Bae func186
abbrev Uah : Xa := .pu Eh Lf [true] (fun x => Fm x.1)
abbrev S5 : WF := (187, Uah) :: R5
theorem Dae : WO S5 := Jf Cae func187
abbrev Cam : Xa := .pu Jq Lf [true] (fun x => Fh x.1)
abbrev SW : WF := (99, Cam) :: S5
theorem Kak : WO SW := Jf Dae func99
abbrev Kal : Xa := .pu Dx Lf [true] (fun x => Wn x.1)
abbrev M2 : WF := (36, Kal) :: SW
def S0 : Ra := ⟨73, ⟨[(1, Iq), (3, Ab), (28, Gy), (29, Ab), (30, Ab), (40, (.data Un)), (41, Ab), (42, Ab)], [(1, Oa, Nj)]⟩, 2, ⟨[(1, Iq), (28, Gy), (29, Ab), (30, Ab)], [(1, Oa, Nj)]⟩, ⟨[(2, Jh)], []⟩, Cj⟩
def R0 : Ra := ⟨73, ⟨[(1, Iq), (28, Gy), (29, Ab), (30, Ab)], [(1, Oa, Nj)]⟩, 0, ⟨[], []⟩, ⟨[(2, Jh)], []⟩, Bj⟩
def Uaa : WL := [(9, S0), (4, R0)]
theorem Pab : Cb (WG true SW [] [] []) Uaa (lp f36 1) := Xc 9 (ls := S0) rfl
theorem Oab : Cb (WG true SW [] [] []) Uaa (lp f36 0) := Xc 4 (ls := R0) rfl
theorem Saj : WO M2 := Sf Kak func36 (Na Pab (Na Oab Ua))
abbrev Oal : Xa := .pu Dx Dx [true] (fun x => Kp x.1)
abbrev N2 : WF := (45, Oal) :: M2
def W0 : Ra := ⟨25, ⟨[(2, Hi), (3, Xj), (10, Gy), (11, Ab), (12, Ab)], [(2, Oa, AL), (3, Oa, ZK)]⟩, 0, ⟨[(2, Hi), (3, Xj)], [(2, Oa, AL), (3, Oa, ZK)]⟩, ⟨[], []⟩, Fl⟩
def Pak : WL := [(3, W0)]
theorem Tab : Cb (WG true M2 [] [] []) Pak (lp f45 0) := Xc 3 (ls := W0) rfl
theorem Waj : WO N2 := Sf Saj func45 (Na Tab Ua)
abbrev Yal : Xa := .pu (.p (.sl Aj) .u) (.p (.sl Aj) .u) [true] (fun x => Lp x.1)
abbrev Qaa : WF := (80, Yal) :: N2
def E1 : Ra := ⟨19, ⟨[(3, (.own 200001 Aj true)), (6, (.data (.sl Aj))), (7, Ab), (8, Ab)], []⟩, 0, ⟨[(3, (.own 200001 Aj true))], []⟩, ⟨[], []⟩, Gl⟩
def Xak : WL := [(3, E1)]
theorem Bac : Cb (WG true N2 [] [] []) Xak (lp f80 0) := Xc 3 (ls := E1) rfl
theorem Gak : WO Qaa := Sf Waj func80 (Na Bac Ua)
abbrev Uag : Xa := .pu (.p Kb .u) (.p Kb .u) [true] (fun x => Sk x.1)
abbrev G5 : WF := (104, Uag) :: Qaa
theorem Dad : WO G5 := Jf Gak func104
abbrev Pal : Xa := .pu Ph Eh [true] (fun x => Kv x.1 x.2.1)
abbrev Q2 : WF := (47, Pal) :: G5
theorem Xaj : WO Q2 := Jf Dad func47
abbrev Eai : Xa := .pu (.p Ur .u) Lf [true] (fun x => Pj x.1)
abbrev EW : WF := (197, Eai) :: Q2
def YT : Ra := ⟨46, ⟨[(3, Ab), (6, Is), (7, Ab), (8, Ab)], []⟩, 0, ⟨[], []⟩, ⟨[(2, Jh)], []⟩, Oq⟩
def Dag : WL := [(3, YT)]
theorem M8 : Cb (WG true Q2 [] [] []) Dag (lp f197 0) := Xc 3 (ls := YT) rfl
theorem Nae : WO EW := Sf Xaj func197 (Na M8 Ua)
abbrev Pah : Xa := .pu (.p int (.p Ur .u)) Eh [true] (fun x => Xn x.1 x.2.1)
abbrev YV : WF := (166, Pah) :: EW
def ST : Ra := ⟨39, ⟨[(5, Ab), (21, Is), (22, Ab), (23, Ab)], []⟩, 0, ⟨[(5, Ab)], []⟩, ⟨[], []⟩, Vg⟩
def Xaf : WL := [(7, ST)]
theorem G8 : Cb (WG true EW [] [] []) Xaf (lp f166 0) := Xc 7 (ls := ST) rfl
theorem Yad : WO YV := Sf Nae func166 (Na G8 Ua)
abbrev Vah : Xa := .pu (.p Oa Ph) Eh [true] (fun x => Sq x.1 x.2.1 x.2.2.1)
abbrev T5 : WF := (188, Vah) :: YV
def UT : Ra := ⟨33, ⟨[(1, Ab), (2, Ab), (3, Xj), (7, Ab)], [(3, Oa, Nj)]⟩, 0, ⟨[], []⟩, ⟨[(6, Ab)], []⟩, Xf⟩
def Zaf : WL := [(2, UT)]
theorem I8 : Cb (WG true YV [] [] []) Zaf (lp f188 0) := Xc 2 (ls := UT) rfl
theorem Eae : WO T5 := Sf Yad func188 (Na I8 Ua)
abbrev Tai : Xa := .pu Jq Lf [true] (fun x => Em x.1)
abbrev E6 : WF := (262, Tai) :: T5
theorem Caf : WO E6 := Jf Eae func262
abbrev Wah : Xa := .pu Jq Jq [true] (fun x => CH x.1)
abbrev U5 : WF := (189, Wah) :: E6
theorem Fae : WO U5 := Jf Caf func189
abbrev Xah : Xa := .pu Jq Jq [true] (fun x => Sx x.1)
abbrev V5 : WF := (190, Xah) :: U5
theorem Gae : WO V5 := Jf Fae func190
abbrev Uai : Xa := .pu Eh Lf [true] (fun x => Jp x.1)
abbrev F6 : WF := (263, Uai) :: V5
theorem Daf : WO F6 := Jf Gae func263
abbrev Yah : Xa := .bx false false Kb Jq Jq [true] (fun x0 x => Lo x0 x.1)
abbrev BW : WF := (191, Yah) :: F6
theorem Hae : WO BW := wbx (L := []) (m := []) (v := []) (l := []) (z := false) Daf func191 Ua
abbrev Rai : Xa := .pu (.p (.sl Ph) (.p Ph .u)) Eh [true] (fun x => KA x.1 x.2.1)
abbrev LW : WF := (242, Rai) :: BW
def FU : Ra := ⟨19, ⟨[(3, Xj), (7, (.data (.sl Ph))), (8, Ab), (9, Ab)], [(3, Ph, (.data Ph))]⟩, 0, ⟨[], []⟩, ⟨[(4, Ab)], []⟩, Ow⟩
def Jag : WL := [(2, FU)]
theorem T8 : Cb (WG true BW [] [] []) Jag (lp f242 0) := Xc 2 (ls := FU) rfl
theorem Aaf : WO LW := Sf Hae func242 (Na T8 Ua)
abbrev Nah : Xa := .pu (.p Aj .u) Lf [true] (fun x => GE x.1)
abbrev O5 : WF := (156, Nah) :: LW
def RT : Ra := ⟨62, ⟨[(3, (.own 200001 Ph true)), (11, (.data Aj)), (12, Ab), (13, Ab)], []⟩, 0, ⟨[(3, (.own 200001 Ph true))], []⟩, ⟨[(2, Jh)], []⟩, Cv⟩
def Waf : WL := [(5, RT)]
theorem F8 : Cb (WG true LW [] [] []) Waf (lp f156 0) := Xc 5 (ls := RT) rfl
theorem Wad : WO O5 := Sf Aaf func156 (Na F8 Ua)
abbrev Mal : Xa := .pu (.p Qg .u) (.p Qg .u) [true] (fun x => Dg x.1)
abbrev Jaa : WF := (38, Mal) :: O5
theorem Uaj : WO Jaa := Jf Wad func38
abbrev Zai : Xa := .io Qg .u .u [] (fun x0 _ => sort_Ints x0)
abbrev PW : WF := (297, Zai) :: Jaa
end
end KF
namespace Go.Proofs
open Go.Shelf
def Tryz.lays_sort_Ints_ren : Go.Shelf.Ren := ⟨fun | 191 => 297 | 189 => 327 | 125 => 342 | 257 => 341 | 128 => 356 | 129 => 337 | 294 => 347 | 295 => 348 | 296 => 349 | 297 => 350 | 298 => 351 | 299 => 352 | 216 => 353 | 300 => 354 | 301 => 355 | 328 => 357 | 329 => 358 | 330 => 359 | 331 => 360 | 332 => 361 | 215 => 362 | 343 => 363 | n => n, fun | 28 => 29 | 0 => 0 | 3 => 3 | 46 => 242 | 51 => 327 | 53 => 339 | 4 => 4 | 183 => 370 | 182 => 369 | 131 => 135 | 5 => 5 | 9 => 9 | 218 => 378 | 222 => 382 | 228 => 384 | 229 => 336 | n => n, fun | n => n⟩
theorem Tryz.lays_sort_Ints : Go.Proofs.Lays.n191 Tryz.prog Tryz.lays_sort_Ints_ren := {
 mixed := by kernel_rfl
 f125 := Tryz.func342.trans (congrArg some (by kernel_rfl))
 f128 := Tryz.func356.trans (congrArg some (by kernel_rfl))
 f129 := Tryz.func337.trans (congrArg some (by kernel_rfl))
 f189 := Tryz.func327.trans (congrArg some (by kernel_rfl))
 f191 := Tryz.func297.trans (congrArg some (by kernel_rfl))
 f215 := Tryz.func362.trans (congrArg some (by kernel_rfl))
 f216 := Tryz.func353.trans (congrArg some (by kernel_rfl))
 f257 := Tryz.func341.trans (congrArg some (by kernel_rfl))
 f294 := Tryz.func347.trans (congrArg some (by kernel_rfl))
 f295 := Tryz.func348.trans (congrArg some (by kernel_rfl))
 f296 := Tryz.func349.trans (congrArg some (by kernel_rfl))
 f297 := Tryz.func350.trans (congrArg some (by kernel_rfl))
 f298 := Tryz.func351.trans (congrArg some (by kernel_rfl))
 f299 := Tryz.func352.trans (congrArg some (by kernel_rfl))
 f300 := Tryz.func354.trans (congrArg some (by kernel_rfl))
 f301 := Tryz.func355.trans (congrArg some (by kernel_rfl))
 f328 := Tryz.func357.trans (congrArg some (by kernel_rfl))
 f329 := Tryz.func358.trans (congrArg some (by kernel_rfl))
 f330 := Tryz.func359.trans (congrArg some (by kernel_rfl))
 f331 := Tryz.func360.trans (congrArg some (by kernel_rfl))
 f332 := Tryz.func361.trans (congrArg some (by kernel_rfl))
 f343 := Tryz.func363.trans (congrArg some (by kernel_rfl))
 t0 := Tryz.underlying0
 a0 := Tryz.isAgg0
 z0 := Tryz.sizeOf0
 v0 := Tryz.zeroValue0
 t3 := Tryz.underlying3
 a3 := Tryz.isAgg3
 z3 := Tryz.sizeOf3
 v3 := Tryz.zeroValue3
 t4 := Tryz.underlying4
 a4 := Tryz.isAgg4
 z4 := Tryz.sizeOf4
 v4 := Tryz.zeroValue4
 t5 := Tryz.underlying5
 a5 := Tryz.isAgg5
 z5 := Tryz.sizeOf5
 v5 := Tryz.zeroValue5
 t9 := Tryz.underlying9
 a9 := Tryz.isAgg9
 z9 := Tryz.sizeOf9
 v9 := Tryz.zeroValue9
 t28 := Tryz.underlying29
 a28 := Tryz.isAgg29
 z28 := Tryz.sizeOf29
 v28 := Tryz.zeroValue29
 t46 := Tryz.underlying242
 a46 := Tryz.isAgg242
 z46 := Tryz.sizeOf242
 v46 := Tryz.zeroValue242
 t51 := Tryz.underlying327
 a51 := Tryz.isAgg327
 z51 := Tryz.sizeOf327
 v51 := Tryz.zeroValue327
 t53 := Tryz.underlying339
 a53 := Tryz.isAgg339
 z53 := Tryz.sizeOf339
 v53 := Tryz.zeroValue339
 t131 := Tryz.underlying135
 a131 := Tryz.isAgg135
 z131 := Tryz.sizeOf135
 v131 := Tryz.zeroValue135
 t182 := Tryz.underlying369
 a182 := Tryz.isAgg369
 z182 := Tryz.sizeOf369
 v182 := Tryz.zeroValue369
 t183 := Tryz.underlying370
 a183 := Tryz.isAgg370
 z183 := Tryz.sizeOf370
 v183 := Tryz.zeroValue370
 t218 := Tryz.underlying378
 a218 := Tryz.isAgg378
 z218 := Tryz.sizeOf378
 v218 := Tryz.zeroValue378
 t222 := Tryz.underlying382
 a222 := Tryz.isAgg382
 z222 := Tryz.sizeOf382
 v222 := Tryz.zeroValue382
 t228 := Tryz.underlying384
 a228 := Tryz.isAgg384
 z228 := Tryz.sizeOf384
 v228 := Tryz.zeroValue384
 t229 := Tryz.underlying336
 a229 := Tryz.isAgg336
 z229 := Tryz.sizeOf336
 v229 := Tryz.zeroValue336 }
end Go.Proofs
namespace KF
open Go Go.Proofs Go.Proofs.Tryz
noncomputable section
theorem Iaf : WO PW := wc Uaj (NY Tryz.lays_sort_Ints (by kernel_rfl))
abbrev Aaj : Xa := .pu (.p Qg Eh) Lf [true] (fun x => Ew x.1 x.2.1)
abbrev QW : WF := (298, Aaj) :: PW
def LU : Ra := ⟨17, ⟨[(1, Ab), (7, (.data Qg)), (8, Ab), (9, Ab)], []⟩, 0, ⟨[], []⟩, ⟨[(4, Jh)], []⟩, Rq⟩
def Nag : WL := [(2, LU)]
theorem Z8 : Cb (WG true PW [] [] []) Nag (lp f298 0) := Xc 2 (ls := LU) rfl
theorem Jaf : WO QW := Sf Iaf func298 (Na Z8 Ua)
abbrev Sai : Xa := .pu (.p Qg .u) (.p Qg .u) [true] (fun x => Qq x.1)
abbrev MW : WF := (250, Sai) :: QW
def GU : Ra := ⟨31, ⟨[(4, Cx), (11, (.own 200002 int true)), (12, Ab), (13, Ab)], []⟩, 0, ⟨[(4, Cx)], []⟩, ⟨[], []⟩, Yo⟩
def Kag : WL := [(5, GU)]
theorem U8 : Cb (WG true QW [] [] []) Kag (lp f250 0) := Xc 5 (ls := GU) rfl
theorem Baf : WO MW := Sf Jaf func250 (Na U8 Ua)
abbrev Qah : Xa := .pu (.p Ur .u) IA [true] (fun x => Ub x.1)
abbrev ZV : WF := (167, Qah) :: MW
def TT : Ra := ⟨45, ⟨[(2, Hi), (3, Xj), (4, Cx), (11, Is), (12, Ab), (13, Ab)], [(2, Nb, Rr), (3, Nb, Rr)]⟩, 0, ⟨[(2, Hi), (3, Xj), (4, Cx)], [(2, Nb, Rr), (3, Nb, Rr)]⟩, ⟨[], []⟩, Zm⟩
def Yaf : WL := [(6, TT)]
theorem H8 : Cb (WG true MW [] [] []) Yaf (lp f167 0) := Xc 6 (ls := TT) rfl
theorem Zad : WO ZV := Sf Baf func167 (Na H8 Ua)
abbrev Vai : Xa := .pu (.p Nb (.p (.sl Ph) .u)) IA [true] (fun x => Uj x.1 x.2.1)
abbrev NW : WF := (264, Vai) :: ZV
def HU : Ra := ⟨37, ⟨[(4, Ku), (5, Gx), (6, Cx), (15, (.data (.sl Ph))), (16, Ab), (17, Ab)], [(4, Nb, Rr), (5, Nb, Rr)]⟩, 0, ⟨[(4, Ku), (5, Gx), (6, Cx)], [(4, Nb, Rr), (5, Nb, Rr)]⟩, ⟨[], []⟩, Tt⟩
def Lag : WL := [(4, HU)]
theorem V8 : Cb (WG true ZV [] [] []) Lag (lp f264 0) := Xc 4 (ls := HU) rfl
theorem Eaf : WO NW := Sf Zad func264 (Na V8 Ua)
abbrev Zah : Xa := .pu (.p Ur (.p Aj .u)) (.p Uo .u) [true] (fun x => Zr x.1 x.2.1)
abbrev CW : WF := (192, Zah) :: NW
def VT : Ra := ⟨74, ⟨[(5, Gx), (6, BC), (7, (.own 200002 Ph true)), (22, (.data Aj)), (23, Ab), (24, Ab)], [(5, Nb, (.pr Ab (.pr (.own 200003 int true) .un)))]⟩, 0, ⟨[(6, BC)], []⟩, ⟨[], []⟩, Pq⟩
def Aag : WL := [(7, VT)]
theorem J8 : Cb (WG true NW [] [] []) Aag (lp f192 0) := Xc 7 (ls := VT) rfl
theorem Iae : WO CW := Sf Eaf func192 (Na J8 Ua)
abbrev Baj : Xa := .pu (.p Qg (.p Qg .u)) Lf [true] (fun x => Ys x.1 x.2.1)
abbrev J6 : WF := (304, Baj) :: CW
def MU : Ra := ⟨26, ⟨[(0, (.data Qg)), (1, (.data Qg)), (12, Ab), (13, Ab)], []⟩, 0, ⟨[], []⟩, ⟨[(4, Jh)], []⟩, Cn⟩
def Oag : WL := [(4, MU)]
theorem A9 : Cb (WG true CW [] [] []) Oag (lp f304 0) := Xc 4 (ls := MU) rfl
theorem Kaf : WO J6 := Sf Iae func304 (Na A9 Ua)
abbrev C7 : Xa := .pu (.p Nb IA) Lf [true] (fun x => Rk x.1 x.2.1)
abbrev G6 : WF := (265, C7) :: J6
theorem F5 : WO G6 := Jf Kaf func265
abbrev Aai : Xa := .co (.p Nb (.p Uo .u)) (.p Uo .u) [true] (fun x => Gc x.1 x.2.1)
abbrev W5 : WF := (193, Aai) :: G6
def GTo : List (Nat × Ty) := [(3, int), (33, (.sl HA)), (104, HA)]
theorem Saa : ((GTo.all fun x => Bc Tryz.prog x.2 x.1) && (([] : List (Nat × Ty × Nat)).all fun x => SH Tryz.prog x.1 x.2.1 x.2.2)) = true := by kernel_rfl
@[reducible] def B3 (c : T Gd → T Gd → Option Bool) : Xa := .pu (.p HA (.p (.sl HA) .u)) (.p (.sl HA) .u) [true] (fun x => MX c x.1 x.2.1)
def JZ (c : T Gd → T Gd → Option Bool) : Ed := ⟨GTo, [(265, UL c)], [], true, [], [], []⟩
theorem A3 (I : Hg) (c : T Gd → T Gd → Option Bool) (h : Tf Tryz.prog I 265 (UL c)) : Sg Tryz.prog I (JZ c) := Sg.cons h (OM Saa)
def HM (c : T Gd → T Gd → Option Bool) : Ra := ⟨25, ⟨[(2, Hi), (5, (.own 200001 HA true)), (8, (.data (.sl HA))), (9, Ab), (10, Ab)], [(2, HA, (.data HA))]⟩, 0, ⟨[(5, (.own 200001 HA true))], []⟩, ⟨[], []⟩, Jo c⟩
def KZ (c : T Gd → T Gd → Option Bool) : List (Nat × Ra) := [(3, HM c)]
theorem NX (c : T Gd → T Gd → Option Bool) : Cb (JZ c) (KZ c) (lp Tryz.f193 0) := WM (r := 3) (ls := HM c) (R := fun x => Hv c x.1.1 x.1.2.1 x.1.2.2.1 x.1.2.2.2.1 x.1.2.2.2.2.1 x.2.1) (by kernel_rfl) (by kernel_rfl) rfl (fun x => by kernel_rfl)
theorem C3 (I : Hg) (c : T Gd → T Gd → Option Bool) (h : Tf Tryz.prog I 265 (UL c)) : Tf Tryz.prog I 193 (B3 c) := FF (L := KZ c) (k := 1) (A3 I c h) EM Tryz.func193 (by kernel_rfl) (Na (NX c) Ua) (fun x => by kernel_rfl)
theorem Jae : WO W5 := wc F5 (X1 (f2 := 265) (SR := fun x => Rk x.1 x.2.1) (same := Rf) S4 (Zac (s := C7) F5 (by kernel_rfl)) (fun I c h => ⟨_, C3 I c h, I7 c⟩))
abbrev Rag : Xa := .pu (.p Kb (.p int Lf)) (.p Kb (.p Uo .u)) [true, true] (fun x => Tx x.1 x.2.1 x.2.2.1)
abbrev NV : WF := (100, Rag) :: W5
theorem Aad : WO NV := Jf Jae func100
abbrev Bai : Xa := .pu (.p Kb Eh) Eh [true] (fun x => Dw x.1 x.2.1)
abbrev X5 : WF := (194, Bai) :: NV
def WT : Ra := ⟨21, ⟨[(1, Ab), (8, Is), (9, Ab), (10, Ab)], []⟩, 0, ⟨[], []⟩, ⟨[(4, Ab)], []⟩, Nq⟩
def Bag : WL := [(2, WT)]
theorem K8 : Cb (WG true NV [] [] []) Bag (lp f194 0) := Xc 2 (ls := WT) rfl
theorem Kae : WO X5 := Sf Aad func194 (Na K8 Ua)
abbrev Sag : Xa := .pu (.p Kb Eh) (.p Kb (.p Uo .u)) [true, true] (fun x => Ou x.1 x.2.1)
abbrev OV : WF := (101, Sag) :: X5
theorem Bad : WO OV := Jf Kae func101
abbrev Lah : Xa := .pu IA Lf [true] (fun x => Ws x.1)
abbrev L5 : WF := (146, Lah) :: OV
def QT : Ra := ⟨39, ⟨[(1, Iq), (14, (.data Qg)), (15, Ab), (16, Ab)], [(1, Nb, (.data Nb))]⟩, 0, ⟨[], []⟩, ⟨[(2, Jh)], []⟩, Ym⟩
def Vaf : WL := [(4, QT)]
theorem E8 : Cb (WG true OV [] [] []) Vaf (lp f146 0) := Xc 4 (ls := QT) rfl
theorem Uad : WO L5 := Sf Bad func146 (Na E8 Ua)
abbrev Mah : Xa := .pu (.p .s (.p .s .u)) (.p (.sl .s) .u) [true] (fun x => strings_Split x.1 x.2.1)
abbrev N5 : WF := (150, Mah) :: L5
theorem Vad : WO N5 := wc Uad (PS Tryz.lays_strings_Split (by kernel_rfl) Lak)
abbrev Cai : Xa := .pu Eh (.p .s .u) [true] (fun x => Vs x.1)
abbrev DW : WF := (195, Cai) :: N5
theorem Lae : WO DW := Jf Vad func195
abbrev Dai : Xa := .pu Eh (.p .s .u) [true] (fun x => Gp x.1)
abbrev Y5 : WF := (196, Dai) :: DW
def XT : Ra := ⟨28, ⟨[(0, Ab), (3, (.data .s)), (12, (.own 200001 .s true)), (13, Ab), (14, Ab)], []⟩, 0, ⟨[(3, (.data .s))], []⟩, ⟨[], []⟩, Dl⟩
def Cag : WL := [(5, XT)]
theorem L8 : Cb (WG true DW [] [] []) Cag (lp f196 0) := Xc 5 (ls := XT) rfl
theorem Mae : WO Y5 := Sf Lae func196 (Na L8 Ua)
abbrev Oah : Xa := .pu (.p (.sl .s) (.p .s .u)) (.p .s .u) [true] (fun x => strings_Join x.1 x.2.1)
abbrev P5 : WF := (165, Oah) :: Y5
theorem Xad : WO P5 := wc Mae (WX Tryz.lays_strings_Join (by kernel_rfl) Tryz.extra_strings_Join)
abbrev Zal : Xa := .pu (.p (.sl .s) (.p .s .u)) (.p .s .u) [true] (fun x => Xs x.1 x.2.1)
abbrev T2 : WF := (85, Zal) :: P5
theorem Hak : WO T2 := Jf Xad func85
abbrev Tag : Xa := .pu IA (.p .s .u) [true] (fun x => Sl x.1)
abbrev HO : WF := (102, Tag) :: T2
def CT : Ra := ⟨29, ⟨[(1, Iq), (3, (.own 200001 .s true)), (10, (.data Qg)), (11, Ab), (12, Ab)], [(1, Nb, (.data Nb))]⟩, 0, ⟨[(1, Iq), (3, (.own 200001 .s true))], [(1, Nb, (.data Nb))]⟩, ⟨[], []⟩, Zj⟩
def Naf : WL := [(5, CT)]
theorem R7 : Cb (WG true T2 [] [] []) Naf (lp f102 0) := Xc 5 (ls := CT) rfl
theorem Cad : WO HO := Sf Hak func102 (Na R7 Ua)
abbrev Lal : Xa := .tp Oa Pc Dm (.p Pc .u) Dm (fun x0 xs x => Ak x0 xs x.1)
abbrev JP : WF := (37, Lal) :: HO
def NU : Ra := ⟨93, ⟨[(0, (.ptr 500000 [])), (3, Xj), (7, (.ptr 7 [])), (8, (.own 200101 Qr true)), (12, (.ptr 12 [])), (14, (.data .s)), (43, Ab), (44, Ab), (61, (.own 200102 Nb true)), (62, Ab), (63, Ab)], [(500000, Hz, KX), (3, Pc, (.data Pc)), (7, Kb, (.pr Nj (.pr (.own 200103 Aj true) (.pr Ab (.pr (.own 200104 Bm true) (.data (.p int Lf))))))), (12, Kb, (.pr (.pr Ab (.pr (.own 200105 Un true) .un)) (.pr (.own 200106 Aj true) (.pr Ab (.pr (.own 200107 Bm true) (.data (.p int Lf)))))))]⟩, 2, ⟨[(0, (.ptr 500000 [])), (3, Xj), (7, (.ptr 7 [])), (8, (.own 200101 Qr true)), (12, (.ptr 12 [])), (14, (.data .s)), (43, Ab), (44, Ab)], [(500000, Hz, KX), (3, Pc, (.data Pc)), (7, Kb, (.pr Nj (.pr (.own 200102 Aj true) (.pr Ab (.pr (.own 200103 Bm true) (.data (.p int Lf))))))), (12, Kb, (.pr (.pr Ab (.pr (.own 200104 Un true) .un)) (.pr (.own 200105 Aj true) (.pr Ab (.pr (.own 200106 Bm true) (.data (.p int Lf)))))))]⟩, ⟨[], []⟩, Wg⟩
def T0 : Ra := ⟨93, ⟨[(0, (.ptr 500000 [])), (3, Xj), (7, (.ptr 7 [])), (8, (.own 200001 Qr true)), (43, Ab), (44, Ab)], [(500000, Hz, KX), (3, Pc, (.data Pc)), (7, Kb, (.pr Nj (.pr (.own 200002 Aj true) (.pr Ab (.pr (.own 200003 Bm true) (.data (.p int Lf)))))))]⟩, 0, ⟨[(0, (.ptr 500000 [])), (3, Xj), (8, (.own 200001 Qr true))], [(500000, Hz, KX), (3, Pc, (.data Pc))]⟩, ⟨[], []⟩, Kk⟩
def Vaa : WL := [(13, NU), (7, T0)]
theorem B9 : Cb (WG true HO [(16999, 200102), (16999, 200101), (999999998, 0), (19000, 1000200001)] [] []) Vaa (lp f37 1) := Xc 13 (ls := NU) rfl
theorem Qab : Cb (WG true HO [(16999, 200102), (16999, 200101), (999999998, 0), (19000, 1000200001)] [] []) Vaa (lp f37 0) := Xc 7 (ls := T0) rfl
theorem Taj : WO JP := wtp Cad func37 (Na B9 (Na Qab Ua))
abbrev Bal : Xa := .pu (.p Oa Dx) (.p Qg Lf) [true, true] (fun x => Ch x.1 x.2.1)
abbrev I2 : WF := (10, Bal) :: JP
def DT : Ra := ⟨125, ⟨[(2, Hi), (6, (.ptr 6 [])), (7, (.ptr 7 [])), (8, (.mpo 200101 Qd Qg)), (9, (.own 200102 Qd true)), (10, (.ptr 10 [])), (11, (.data Dm)), (12, (.data Dm)), (64, Ab), (65, Ab)], [(2, Oa, Nj), (6, Hz, (.pr Nj (.pr (.mpo 200103 Pc Dm) .un))), (7, Hz, (.pr Nj (.pr (.mpo 200104 Pc Dm) .un))), (10, Qd, (.data Qd))]⟩, 2, ⟨[(2, Hi), (6, (.ptr 6 [])), (7, (.ptr 7 [])), (8, (.mpo 200101 Qd Qg)), (9, (.own 200102 Qd true)), (10, (.ptr 10 [])), (11, (.data Dm)), (12, (.data Dm))], [(2, Oa, Nj), (6, Hz, (.pr Nj (.pr (.mpo 200103 Pc Dm) .un))), (7, Hz, (.pr Nj (.pr (.mpo 200104 Pc Dm) .un))), (10, Qd, (.data Qd))]⟩, ⟨[(4, BL), (5, Jh)], []⟩, Ng⟩
def ET : Ra := ⟨125, ⟨[(2, Hi), (6, (.ptr 6 [])), (7, (.ptr 7 [])), (8, (.mpo 200201 Qd Qg)), (9, (.own 200202 Qd true)), (10, (.ptr 10 [])), (11, (.data Dm)), (12, (.data Dm)), (88, Ab), (89, Ab)], [(2, Oa, Nj), (6, Hz, (.pr Nj (.pr (.mpo 200203 Pc Dm) .un))), (7, Hz, (.pr Nj (.pr (.mpo 200204 Pc Dm) .un))), (10, Qd, (.data Qd))]⟩, 4, ⟨[(2, Hi), (6, (.ptr 6 [])), (7, (.ptr 7 [])), (8, (.mpo 200201 Qd Qg)), (9, (.own 200202 Qd true))], [(2, Oa, Nj), (6, Hz, (.pr Nj (.pr (.mpo 200203 Pc Dm) .un))), (7, Hz, (.pr Nj (.pr (.mpo 200204 Pc Dm) .un)))]⟩, ⟨[], []⟩, Og⟩
def L0 : Ra := ⟨125, ⟨[(2, Hi), (6, (.ptr 6 [])), (7, (.ptr 7 [])), (8, (.mpo 200001 Qd Qg)), (9, (.own 200002 Qd true))], [(2, Oa, Nj), (6, Hz, (.pr Nj (.pr (.mpo 200003 Pc Dm) (.data .u)))), (7, Hz, (.pr Nj (.pr (.mpo 200004 Pc Dm) (.data .u))))]⟩, 0, ⟨[], []⟩, ⟨[(4, Cx), (5, Jh)], []⟩, Oe⟩
def W2 : WL := [(11, DT), (17, ET), (6, L0)]
theorem S7 : Cb (WG true JP [] [56] []) W2 (lp f10 1) := Xc 11 (ls := DT) rfl
theorem T7 : Cb (WG true JP [] [56] []) W2 (lp f10 2) := Xc 17 (ls := ET) rfl
theorem Jab : Cb (WG true JP [] [56] []) W2 (lp f10 0) := Xc 6 (ls := L0) rfl
theorem Jaj : WO I2 := Sf Taj func10 (Na T7 (Na S7 (Na Jab Ua)))
abbrev Gal : Xa := .pu (.p Qg (.p Qg .u)) Lf [true] (fun x => Mo x.1 x.2.1)
abbrev Haa : WF := (21, Gal) :: I2
def N0 : Ra := ⟨26, ⟨[(0, (.data Qg)), (1, (.data Qg)), (5, Ab)], []⟩, 0, ⟨[], []⟩, ⟨[(4, Jh)], []⟩, Tq⟩
def Mak : WL := [(4, N0)]
theorem Lab : Cb (WG true I2 [] [] []) Mak (lp f21 0) := Xc 4 (ls := N0) rfl
theorem Oaj : WO Haa := Sf Jaj func21 (Na Lab Ua)
abbrev Gai : Xa := .pu (.p Jb Jq) Lf [true] (fun x => Yn x.1 x.2.1)
abbrev GW : WF := (199, Gai) :: Haa
theorem Pae : WO GW := Jf Oaj func199
abbrev Zag : Xa := .pu (.p Un (.p Un .u)) Lf [true] (fun x => Gm x.1 x.2.1)
abbrev RV : WF := (111, Zag) :: GW
def HT : Ra := ⟨27, ⟨[(0, (.data Un)), (1, (.data Un)), (5, Ab)], []⟩, 0, ⟨[], []⟩, ⟨[(4, Jh)], []⟩, Xt⟩
def Paf : WL := [(4, HT)]
theorem V7 : Cb (WG true GW [] [] []) Paf (lp f111 0) := Xc 4 (ls := HT) rfl
theorem Iad : WO RV := Sf Pae func111 (Na V7 Ua)
abbrev Sal : Xa := .pu (.p (.sl Un) (.p (.sl Un) .u)) Lf [true] (fun x => Np x.1 x.2.1)
abbrev Naa : WF := (50, Sal) :: RV
def Z0 : Ra := ⟨27, ⟨[(0, Gy), (1, Gy), (5, Ab)], []⟩, 0, ⟨[], []⟩, ⟨[(4, Jh)], []⟩, Ms⟩
def Sak : WL := [(4, Z0)]
theorem Wab : Cb (WG true RV [] [] []) Sak (lp f50 0) := Xc 4 (ls := Z0) rfl
theorem Aak : WO Naa := Sf Iad func50 (Na Wab Ua)
abbrev Eal : Xa := .pu (.p Oa Dx) Lf [true] (fun x => Zn x.1 x.2.1)
abbrev J2 : WF := (19, Eal) :: Naa
theorem Maj : WO J2 := Jf Aak func19
abbrev Gah : Xa := .io Un Eh Eh [true] (fun x0 x => Jt x0 x.1)
abbrev VV : WF := (118, Gah) :: J2
def MT : Ra := ⟨41, ⟨[(0, (.own 500000 Jb true)), (1, Ab), (5, Ab)], []⟩, 0, ⟨[(0, (.own 500000 Jb true)), (1, Ab)], []⟩, ⟨[], []⟩, Sr⟩
def Saf : WL := [(2, MT)]
theorem A8 : Cb (WG false J2 [] [] []) Saf (lp f118 0) := Xc 2 (ls := MT) rfl
theorem Pad : WO VV := G7 Maj func118 (Na A8 Ua)
abbrev Xal : Xa := .io (.sl Un) Eh Eh [true] (fun x0 x => As x0 x.1)
abbrev Paa : WF := (55, Xal) :: VV
def D1 : Ra := ⟨19, ⟨[(0, (.own 500000 Un true)), (1, Ab), (5, Ab)], []⟩, 0, ⟨[(0, (.own 500000 Un true)), (1, Ab)], []⟩, ⟨[], []⟩, Uq⟩
def Wak : WL := [(2, D1)]
theorem Aac : Cb (WG false VV [(3999, 500000)] [] []) Wak (lp f55 0) := Xc 2 (ls := D1) rfl
theorem Fak : WO Paa := G7 Pad func55 (Na Aac Ua)
abbrev Hal : Xa := .io Oa Eh Eh [true] (fun x0 x => Tk x0 x.1)
abbrev K2 : WF := (22, Hal) :: Paa
theorem Paj : WO K2 := G7 (L := []) (m := []) (v := []) (l := []) Fak func22 Ua
abbrev Ial : Xa := .io Qg Eh Eh [true] (fun x0 x => Hx x0 x.1)
abbrev L2 : WF := (23, Ial) :: K2
def P0 : Ra := ⟨19, ⟨[(0, (.own 500000 int true)), (1, Ab), (5, Ab)], []⟩, 0, ⟨[(0, (.own 500000 int true)), (1, Ab)], []⟩, ⟨[], []⟩, Su⟩
def Nak : WL := [(2, P0)]
theorem Mab : Cb (WG false K2 [] [] []) Nak (lp f23 0) := Xc 2 (ls := P0) rfl
theorem Qaj : WO L2 := G7 Paj func23 (Na Mab Ua)
abbrev Jal : Xa := .pu (.p Qg Eh) Eh [true] (fun x => Zs x.1 x.2.1)
abbrev Iaa : WF := (24, Jal) :: L2
def Q0 : Ra := ⟨21, ⟨[(0, (.data Qg)), (1, Ab), (5, Ab)], []⟩, 0, ⟨[(1, Ab)], []⟩, ⟨[(4, Ab)], []⟩, Ru⟩
def Oak : WL := [(2, Q0)]
theorem Nab : Cb (WG true L2 [] [] []) Oak (lp f24 0) := Xc 2 (ls := Q0) rfl
theorem Raj : WO Iaa := Sf Qaj func24 (Na Nab Ua)
abbrev s_5 : Xa := .pu (.p Oa Dx) Lf [true] (fun x => Xg x.1 x.2.1)
abbrev F_5 : WF := (5, s_5) :: Iaa
theorem E_5 : WO F_5 := Jf Raj func5
theorem Nv : Tf Tryz.prog II 5 s_5 := Zac E_5 (by kernel_rfl)
end
end KF
