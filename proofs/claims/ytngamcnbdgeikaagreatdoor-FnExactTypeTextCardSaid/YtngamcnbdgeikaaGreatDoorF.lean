/- An evaluator of Go functions on plain data, its soundness, and plain laws on what the functions compute, part 6 (conditions: as each lemma tells). -/
import Derived.Test.YtngamcnbdgeikaaGreatDoorE
import Derived.Test.YtngamcnbdgeikaaGreatDoorRows
set_option linter.unusedSimpArgs false
set_option linter.unusedVariables false
namespace Go.Proofs
open Go.Shelf
def Tryz.lays_strings_Split_ren : Go.Shelf.Ren := ⟨fun | 146 => 117 | 221 => 128 | 268 => 133 | 138 => 134 | 143 => 135 | 195 => 138 | 197 => 139 | 218 => 140 | 219 => 141 | 260 => 144 | 217 => 145 | 225 => 146 | 224 => 147 | 267 => 148 | 266 => 160 | 314 => 161 | n => n, fun | 9 => 9 | 31 => 140 | 3 => 3 | 4 => 4 | 0 => 0 | 105 => 161 | 21 => 21 | 5 => 5 | 46 => 166 | 119 => 179 | 139 => 182 | 138 => 181 | 146 => 183 | 51 => 176 | n => n, fun | 1 => 0 | 3 => 1 | 4 => 2 | n => n⟩
theorem Tryz.lays_strings_Split : Go.Proofs.LaysM.n146 Tryz.prog Tryz.lays_strings_Split_ren := {
 mixed := by kernel_rfl
 f138 := Tryz.func134.trans (congrArg some (by kernel_rfl))
 f143 := Tryz.func135.trans (congrArg some (by kernel_rfl))
 f146 := Tryz.func117.trans (congrArg some (by kernel_rfl))
 f195 := Tryz.func138.trans (congrArg some (by kernel_rfl))
 f197 := Tryz.func139.trans (congrArg some (by kernel_rfl))
 f217 := Tryz.func145.trans (congrArg some (by kernel_rfl))
 f218 := Tryz.func140.trans (congrArg some (by kernel_rfl))
 f219 := Tryz.func141.trans (congrArg some (by kernel_rfl))
 f221 := Tryz.func128.trans (congrArg some (by kernel_rfl))
 f224 := Tryz.func147.trans (congrArg some (by kernel_rfl))
 f225 := Tryz.func146.trans (congrArg some (by kernel_rfl))
 f260 := Tryz.func144.trans (congrArg some (by kernel_rfl))
 f266 := Tryz.func160.trans (congrArg some (by kernel_rfl))
 f267 := Tryz.func148.trans (congrArg some (by kernel_rfl))
 f268 := Tryz.func133.trans (congrArg some (by kernel_rfl))
 f314 := Tryz.func161.trans (congrArg some (by kernel_rfl))
 t0 := Tryz.underlying0
 a0 := Tryz.isAgg0
 z0 := Tryz.sizeOf0
 v0 := Tryz.zeroValue0
 t3 := Tryz.underlying3
 a3 := Tryz.isAgg3
 z3 := Tryz.sizeOf3
 v3 := Tryz.zeroValue3
 t4 := Tryz.underlying4
 a4 := Tryz.isAgg4
 z4 := Tryz.sizeOf4
 v4 := Tryz.zeroValue4
 t5 := Tryz.underlying5
 a5 := Tryz.isAgg5
 z5 := Tryz.sizeOf5
 v5 := Tryz.zeroValue5
 t9 := Tryz.underlying9
 a9 := Tryz.isAgg9
 z9 := Tryz.sizeOf9
 v9 := Tryz.zeroValue9
 t21 := Tryz.underlying21
 a21 := Tryz.isAgg21
 z21 := Tryz.sizeOf21
 v21 := Tryz.zeroValue21
 t31 := Tryz.underlying140
 a31 := Tryz.isAgg140
 z31 := Tryz.sizeOf140
 v31 := Tryz.zeroValue140
 t46 := Tryz.underlying166
 a46 := Tryz.isAgg166
 z46 := Tryz.sizeOf166
 v46 := Tryz.zeroValue166
 t51 := Tryz.underlying176
 a51 := Tryz.isAgg176
 z51 := Tryz.sizeOf176
 v51 := Tryz.zeroValue176
 t105 := Tryz.underlying161
 a105 := Tryz.isAgg161
 z105 := Tryz.sizeOf161
 v105 := Tryz.zeroValue161
 t119 := Tryz.underlying179
 a119 := Tryz.isAgg179
 z119 := Tryz.sizeOf179
 t138 := Tryz.underlying181
 a138 := Tryz.isAgg181
 z138 := Tryz.sizeOf181
 v138 := Tryz.zeroValue181
 t139 := Tryz.underlying182
 a139 := Tryz.isAgg182
 z139 := Tryz.sizeOf182
 v139 := Tryz.zeroValue182
 t146 := Tryz.underlying183
 a146 := Tryz.isAgg183
 z146 := Tryz.sizeOf183
 v146 := Tryz.zeroValue183
 g1 := by kernel_rfl
 g3 := by kernel_rfl
 g4 := by kernel_rfl
 i0 := by kernel_rfl
 i3 := by kernel_rfl
 i4 := by kernel_rfl
 i5 := by kernel_rfl
 i9 := by kernel_rfl
 i21 := by kernel_rfl
 i31 := by kernel_rfl
 i46 := by kernel_rfl
 i51 := by kernel_rfl
 i105 := by kernel_rfl
 i138 := by kernel_rfl
 i139 := by kernel_rfl
 i146 := by kernel_rfl
 m1 := by kernel_rfl
 s1_3 := fun w h => Go.Proofs.cell_of_shapedOpen_int (zero := #[.int .i64 0]) (t := 3) h (of_decide_eq_true (by kernel_rfl)) (by kernel_rfl) rfl (by kernel_rfl) (by kernel_rfl) Tryz.underlying3
 m3 := by kernel_rfl
 m4 := by kernel_rfl }
end Go.Proofs
namespace KF
open Go Go.Proofs Go.Proofs.Tryz
def GT : List (Nat × Ty) := [(3, int), (4, .b), (5, Ay), (9, .s), (22, (.sl (.sl Nb))), (24, Bb), (26, Ec), (30, (.sl (.sl Nb))), (32, Bb), (34, Ec), (39, (.sl Kl)), (42, (.sl (.sl Ec))), (43, (.sl Rj)), (45, Mb), (49, Uc), (52, (.sl Ag)), (56, (.sl int)), (58, Db), (59, (.sl Db)), (64, (.sl Nb)), (74, Kl), (81, Ag), (82, (.sl Nb)), (96, Nb), (103, (.sl Ec)), (105, Rj), (115, (.sl Ay)), (118, Nb), (132, Ec), (140, (.sl .s)), (143, (.sl Af)), (145, Af)]
def GA : List (Nat × Ty × Nat) := []
theorem Xak : ((GT.all fun x => Od Tryz.prog x.2 x.1) && (GA.all fun x => DM Tryz.prog x.1 x.2.1 x.2.2)) = true := by kernel_rfl
theorem PW : Tryz.prog.follows .mixedOrders = true := by kernel_rfl
noncomputable abbrev II : Cg := D9 (Tryz.lays_strings_Split_ren.g 1)
noncomputable section
abbrev WP : Program := Tryz.prog
abbrev WF := List (Nat × Na)
abbrev WL := List (Nat × Ra)
abbrev WG (z : Bool) (fs : WF) (m : List (Nat × Nat)) (v l : List Nat) : Le := ⟨GT, fs, m, z, GA, v, l⟩
def WO (fs : WF) : Prop := ∀ z m v l, Ij WP II (WG z fs m v l)
theorem Law : WO [] := fun _ _ _ _ => NR Xak
theorem wc {f : Nat} {s : Na} {fs : WF} (e : WO fs) (h : Mh WP II f s) : WO ((f, s) :: fs) := fun z m v l => Ij.cons h (e z m v l)
theorem Naj {f : Nat} {s : Na} {fs : WF} (e : WO fs) (h : Lb fs f = some s) : Mh WP II f s := (e true [] [] []).fn f s h
theorem Ic {z : Bool} {fs : WF} {m : List (Nat × Nat)} {v l : List Nat} {L : WL} {fn : Func} {i : Nat} (r : Nat) {ls : Ra} {R : ls.inT.X → Option (ls.inT.X ⊕ (ls.outT.X ⊕ ls.retT.X))}
 (h3 : ls.F = Za R) (h1 : Zi (lp fn i) = some r := by kernel_rfl) (h2 : (Lb L r) = some ls := by kernel_rfl) (h4 : ∀ x, EE (WG z fs m v l) L ls (lp fn i) x = R x := by intro _; kernel_rfl) : Cb (WG z fs m v l) L (lp fn i) := TR h1 h2 h3 h4
theorem Gd {f : Nat} {fn : Func} {pt rt : Ty} {fr : List Bool} {F : T pt → Option (T rt)} {fs : WF} (e : WO fs) (hf : WP.funcs[f]? = some fn)
 (hb : (fn.body.isSome && !(fn.name == "runtime.NumGoroutine") && Nat.ble pt.npar fn.ntmps && Nat.beq (Vd (fn.body.getD .skip)).length 0) = true := by kernel_rfl)
 (hF : ∀ x, U3 (WG true fs [] [] []) [] fn pt rt fr x = F x := by intro _; kernel_rfl) : WO ((f, .pu pt rt fr F) :: fs) := wc e (LJ (e _ _ _ _) PW hf hb Oa hF)
theorem Te {k : Nat} {L : WL} {m : List (Nat × Nat)} {v l : List Nat} {f : Nat} {fn : Func} {pt rt : Ty} {fr : List Bool} {F : T pt → Option (T rt)} {fs : WF} (e : WO fs) (hf : WP.funcs[f]? = some fn) (hL : ∀ i, i < k → Cb (WG true fs m v l) L (lp fn i))
 (hb : (fn.body.isSome && !(fn.name == "runtime.NumGoroutine") && Nat.ble pt.npar fn.ntmps && Nat.beq (Vd (fn.body.getD .skip)).length k) = true := by kernel_rfl)
 (hF : ∀ x, U3 (WG true fs m v l) L fn pt rt fr x = F x := by intro _; kernel_rfl) : WO ((f, .pu pt rt fr F) :: fs) := wc e (LJ (e _ _ _ _) PW hf hb hL hF)
theorem wco {k : Nat} {L : WL} {m : List (Nat × Nat)} {v l : List Nat} {f : Nat} {fn : Func} {pt rt : Ty} {fr : List Bool} {F : T pt → Option (T rt)} {fs : WF} (e : WO fs) (hf : WP.funcs[f]? = some fn) (hL : ∀ i, i < k → Cb (WG false fs m v l) L (lp fn i))
 (hb : (fn.body.isSome && !(fn.name == "runtime.NumGoroutine") && Nat.ble pt.npar fn.ntmps && Nat.beq (Vd (fn.body.getD .skip)).length k) = true := by kernel_rfl)
 (hF : ∀ x, RT (WG false fs m v l) L fn pt rt fr x = F x := by intro _; kernel_rfl) : WO ((f, .co pt rt fr F) :: fs) := wc e (R6 (e _ _ _ _) rfl PW hf hb hL hF)
theorem GZ {k : Nat} {L : WL} {m : List (Nat × Nat)} {v l : List Nat} {f : Nat} {fn : Func} {vw cv : Bool} {τ pt rt : Ty} {fr : List Bool} {F : T τ → T pt → Option (T τ × T rt)} {fs : WF} (e : WO fs) (hf : WP.funcs[f]? = some fn) (hL : ∀ i, i < k → Cb (WG false fs m v l) L (lp fn i))
 (hb : (fn.body.isSome && !(fn.name == "runtime.NumGoroutine") && Nat.ble (pt.npar + 1) fn.ntmps && Nat.beq (Vd (fn.body.getD .skip)).length k) = true := by kernel_rfl)
 (hF : ∀ x0 x, QT (WG false fs m v l) L fn vw cv τ pt rt fr x0 x = F x0 x := by intro _ _; kernel_rfl) : WO ((f, .bx vw cv τ pt rt fr F) :: fs) := wc e (P6 (e _ _ _ _) rfl PW hf hb hL hF)
theorem Yaq : ∀ w, II.p w → ∃ m, w.cell? ⟨Tryz.lays_strings_Split_ren.g 1, 0, none⟩ = some (.int .i64 m) := fun _ h => h
abbrev Qa : TD := .data int
abbrev Me : Ty := .p .b .u
abbrev Qv : Ty := .sl Nb
abbrev Mg : Ty := .p int .u
abbrev Wt : TD := .data (.sl Rj)
abbrev Ms : Ty := .p Nb .u
abbrev HC : TD := .own 200001 int true
abbrev XA : Ty := .sl Db
abbrev Hi : TD := .ptr 2 []
abbrev NE : TD := .own 200001 Db true
abbrev Cz : Ty := .sl Kl
abbrev Oh : TD := .data .b
abbrev EU : TD := .pr Qa (.pr (.own 200001 Qv true) .un)
abbrev Vt : TD := .data Db
abbrev Sl : TD := .ptr 1 []
abbrev Hn : TD := .ptr 3 []
abbrev Tl : Ty := .sl Ec
abbrev C3 : TD := .pr (.pr (.pr Qa (.pr (.own 200002 Qv true) .un)) (.pr (.own 200003 Tl true) (.pr Qa (.pr (.own 200004 Rj true) (.data (.p int Me)))))) (.pr (.data Ec) (.pr (.own 200005 Kl true) (.data Nb)))
abbrev Cy : Ty := .p Db .u
abbrev Dz : TD := .data (.sl Qv)
abbrev c4_ : TD := .pr (.pr Qa (.pr Dz .un)) (.pr (.data (.sl Tl)) (.pr Qa (.pr Wt (.data (.p int Me)))))
abbrev Ez : TD := .data Bb
abbrev OE : Ty := .p int (.p .o .u)
abbrev AI : TD := .own 200101 int true
abbrev YA : TD := .data Mb
abbrev EG : Ty := .p (.sl Rj) .u
abbrev FM : TD := .own 200001 Ag true
abbrev EQ : TD := .own 200001 Kl true
abbrev Gz : Ty := .p XA .u
abbrev Dy : TD := .ptr 5 []
abbrev FG : Ty := .p Bb .u
abbrev GM : Ty := .p Bb Af
abbrev Zr : Ty := .sl int
abbrev Pv : TD := .pr Qa (.pr (.data Zr) .un)
abbrev GC : TD := .data Cz
abbrev Jag : TD := .pr EU (.pr (.own 200002 Tl true) (.data (.p int (.p (.sl Rj) (.p int Me)))))
abbrev Jat : Na := .pu (.p Qv Mg) Mg [true] (fun x => Zo x.1 x.2.1)
abbrev G7 : WF := (25, Jat) :: ([] : WF)
theorem Bao : WO G7 := Gd Law func25
abbrev Uas : Na := .pu (.p (.sl Qv) Mg) Mg [true] (fun x => Ct x.1 x.2.1)
abbrev Eae : WF := (10, Uas) :: G7
def C4 : Ra := ⟨27, ⟨[(0, Dz), (1, Qa), (5, Qa)], []⟩, 0, ⟨[(1, Qa)], []⟩, ⟨[(4, Qa)], []⟩, Nw⟩
def Zaq : WL := [(5, C4)]
theorem Sag : Cb (WG true G7 [] [] []) Zaq (lp f10 0) := Ic 5 (ls := C4) rfl
theorem Man : WO Eae := Te Bao func10 (La Sag Oa)
abbrev s_4 : Na := .pu (.p Bb Mg) Mg [true] (fun x => Yw x.1 x.2.1)
abbrev F_4 : WF := (4, s_4) :: Eae
theorem E_4 : WO F_4 := Gd Man func4
abbrev Dav : Na := .pu Ms Ms [true] (fun x => Jr x.1)
abbrev Z7 : WF := (70, Dav) :: F_4
theorem Uap : WO Z7 := Gd E_4 func70
abbrev Xat : Na := .pu (.p Qv .u) (.p Qv .u) [true] (fun x => Fv x.1)
abbrev L7 : WF := (38, Xat) :: Z7
def Y4 : Ra := ⟨23, ⟨[(0, (.data Qv)), (3, (.own 200001 Nb true)), (4, Qa)], []⟩, 0, ⟨[(3, (.own 200001 Nb true))], []⟩, ⟨[], []⟩, Vx⟩
def Lar : WL := [(3, Y4)]
theorem Nah : Cb (WG true Z7 [] [] []) Lar (lp f38 0) := Ic 3 (ls := Y4) rfl
theorem Oao : WO L7 := Te Uap func38 (La Nah Oa)
abbrev Bat : Na := .pu (.p (.sl Qv) .u) (.p (.sl Qv) .u) [true] (fun x => Ky x.1)
abbrev Hae : WF := (17, Bat) :: L7
def I4 : Ra := ⟨23, ⟨[(0, Dz), (3, (.own 200001 Qv true)), (4, Qa)], []⟩, 0, ⟨[(3, (.own 200001 Qv true))], []⟩, ⟨[], []⟩, Ow⟩
def Car : WL := [(3, I4)]
theorem Xag : Cb (WG true L7 [] [] []) Car (lp f17 0) := Ic 3 (ls := I4) rfl
theorem Tan : WO Hae := Te Oao func17 (La Xag Oa)
abbrev s_6 : Na := .pu FG FG [true] (fun x => Zl x.1)
abbrev F_6 : WF := (6, s_6) :: Hae
theorem E_6 : WO F_6 := Gd Tan func6
abbrev s_7 : Na := .pu (.p Ec .u) (.p Ec .u) [true] (fun x => Kr x.1)
abbrev F_7 : WF := (7, s_7) :: F_6
theorem E_7 : WO F_7 := Gd E_6 func7
abbrev Qat : Na := .pu Ec Me [true] (fun x => Zb x.1 x.2.1 x.2.2.1)
abbrev Pae : WF := (31, Qat) :: F_7
theorem Hao : WO Pae := Gd E_7 func31
abbrev Pau : Na := .pu Ms Me [true] (fun x => Bi x.1)
abbrev XZ : WF := (56, Pau) :: Pae
theorem Gap : WO XZ := Gd Hao func56
abbrev Kat : Na := .pu FG Me [true] (fun x => Xj x.1)
abbrev H7 : WF := (26, Kat) :: XZ
def Q4 : Ra := ⟨74, ⟨[(1, Sl), (3, Qa), (4, Qa)], [(1, Bb, Ez)]⟩, 2, ⟨[(1, Sl), (3, Qa)], [(1, Bb, Ez)]⟩, ⟨[(2, Oh)], []⟩, Lk⟩
def P4 : Ra := ⟨74, ⟨[(1, Sl), (3, Qa)], [(1, Bb, Ez)]⟩, 0, ⟨[(1, Sl)], [(1, Bb, Ez)]⟩, ⟨[(2, Oh)], []⟩, Kk⟩
def Waf : WL := [(7, Q4), (2, P4)]
theorem Fah : Cb (WG true XZ [] [] []) Waf (lp f26 1) := Ic 7 (ls := Q4) rfl
theorem Eah : Cb (WG true XZ [] [] []) Waf (lp f26 0) := Ic 2 (ls := P4) rfl
theorem Cao : WO H7 := Te Gap func26 (La Fah (La Eah Oa))
abbrev Nam : Na := .pu (.p .s (.p Ay .u)) (.p (.sl .s) .u) [true] (fun x => Pz x.1 x.2.1)
abbrev Dab : WF := (123, Nam) :: H7
def DY : Ra := ⟨36, ⟨[(0, (.data .s)), (1, (.data Ay)), (5, (.own 200001 .s true)), (6, Qa), (7, Qa)], []⟩, 0, ⟨[(5, (.own 200001 .s true))], []⟩, ⟨[], []⟩, Ip⟩
def Hal : WL := [(4, DY)]
theorem Bad : Cb (WG true H7 [] [] []) Hal (lp f123 0) := Ic 4 (ls := DY) rfl
theorem Oak : WO Dab := Te Cao func123 (La Bad Oa)
abbrev Sal : Na := .pu .u (.p (.sl .s) .u) [true] (fun x => Vy)
abbrev Qaa : WF := (102, Sal) :: Dab
theorem Taj : WO Qaa := Gd Oak func102
abbrev Cav : Na := .pu Mg (.p .s .u) [true] (fun x => Wj x.1)
abbrev Faf : WF := (69, Cav) :: Qaa
theorem Tap : WO Faf := Gd Taj func69
abbrev Vat : Na := .pu Af (.p .s .u) [true] (fun x => Jh x.1 x.2.1)
abbrev UZ : WF := (36, Vat) :: Faf
theorem Mao : WO UZ := Gd Tap func36
abbrev Qau : Na := .pu (.p Ay .u) Af [true, true] (fun x => WB x.1)
abbrev Baf : WF := (57, Qau) :: UZ
def K5 : Ra := ⟨23, ⟨[(0, (.data Ay)), (4, Qa), (5, Qa)], []⟩, 2, ⟨[(0, (.data Ay)), (4, Qa)], []⟩, ⟨[(2, Qa), (3, Qa)], []⟩, Re⟩
def J5 : Ra := ⟨23, ⟨[(0, (.data Ay)), (4, Qa)], []⟩, 0, ⟨[], []⟩, ⟨[(2, Qa), (3, Qa)], []⟩, Cw⟩
def Bag : WL := [(5, K5), (2, J5)]
theorem Zah : Cb (WG true UZ [] [] []) Bag (lp f57 1) := Ic 5 (ls := K5) rfl
theorem Yah : Cb (WG true UZ [] [] []) Bag (lp f57 0) := Ic 2 (ls := J5) rfl
theorem Hap : WO Baf := Te Mao func57 (La Zah (La Yah Oa))
abbrev Yav : Na := .pu Ms Me [true] (fun x => Ui x.1)
abbrev Oaf : WF := (91, Yav) :: Baf
theorem Paq : WO Oaf := Gd Hap func91
abbrev Xav : Na := .pu Ms Ms [true] (fun x => Sy x.1)
abbrev J8 : WF := (90, Xav) :: Oaf
theorem Oaq : WO J8 := Gd Paq func90
abbrev Rau : Na := .pu GM Mg [true] (fun x => Wr x.1 x.2.1 x.2.2.1)
abbrev Caf : WF := (58, Rau) :: J8
def L5 : Ra := ⟨50, ⟨[(1, Qa), (2, Qa), (3, Hn), (7, Qa)], [(3, Bb, Ez)]⟩, 0, ⟨[], []⟩, ⟨[(6, Qa)], []⟩, Gj⟩
def Tar : WL := [(2, L5)]
theorem Aai : Cb (WG true J8 [] [] []) Tar (lp f58 0) := Ic 2 (ls := L5) rfl
theorem Iap : WO Caf := Te Oaq func58 (La Aai Oa)
abbrev Lat : Na := .pu (.p Bb (.p Ay Mg)) (.p Cz .u) [true] (fun x => Uy x.1 x.2.1 x.2.2.1)
abbrev I7 : WF := (27, Lat) :: Caf
theorem Dao : WO I7 := Gd Iap func27
abbrev Vas : Na := .pu (.p Bb (.p .s .u)) (.p Cz Me) [true, true] (fun x => Kv x.1 x.2.1)
abbrev A7 : WF := (11, Vas) :: I7
def D4 : Ra := ⟨43, ⟨[(1, (.data .s)), (2, Hi), (6, EQ), (7, Qa)], [(2, Bb, Ez)]⟩, 0, ⟨[(6, EQ)], []⟩, ⟨[(4, EQ), (5, Oh)], []⟩, Ep⟩
def Aar : WL := [(5, D4)]
theorem Tag : Cb (WG true I7 [] [] []) Aar (lp f11 0) := Ic 5 (ls := D4) rfl
theorem Nan : WO A7 := Te Dao func11 (La Tag Oa)
abbrev Sau : Na := .pu EG Me [true] (fun x => Pn x.1)
abbrev T7 : WF := (59, Sau) :: A7
def N5 : Ra := ⟨57, ⟨[(0, Wt), (3, Qa), (4, Qa)], []⟩, 0, ⟨[], []⟩, ⟨[(2, Oh)], []⟩, Nu⟩
def Uar : WL := [(3, N5)]
theorem Bai : Cb (WG true A7 [] [] []) Uar (lp f59 0) := Ic 3 (ls := N5) rfl
theorem Jap : WO T7 := Te Nan func59 (La Bai Oa)
abbrev Zav : Na := .pu (.p (.sl Rj) (.p Ec .u)) Mg [true] (fun x => Pk x.1 x.2.1)
abbrev Paf : WF := (92, Zav) :: T7
def C6 : Ra := ⟨33, ⟨[(0, Wt), (3, Hn), (5, Qa)], [(3, Ec, (.data Ec))]⟩, 0, ⟨[], []⟩, ⟨[(4, Qa)], []⟩, Tu⟩
def Has : WL := [(2, C6)]
theorem Qai : Cb (WG true T7 [] [] []) Has (lp f92 0) := Ic 2 (ls := C6) rfl
theorem Qaq : WO Paf := Te Jap func92 (La Qai Oa)
abbrev Aaw : Na := .pu (.p Ec .u) Ms [true] (fun x => Bm x.1)
abbrev Qaf : WF := (93, Aaw) :: Paf
theorem Raq : WO Qaf := Gd Qaq func93
abbrev Baw : Na := .pu (.p (.sl Rj) Mg) EG [true] (fun x => Ve x.1 x.2.1)
abbrev K8 : WF := (94, Baw) :: Qaf
theorem Saq : WO K8 := Gd Raq func94
abbrev Tau : Na := .pu (.p Tl .u) Me [true] (fun x => Ou x.1)
abbrev YZ : WF := (60, Tau) :: K8
def O5 : Ra := ⟨62, ⟨[(0, (.data Tl)), (3, (.own 200001 Rj true)), (4, Qa)], []⟩, 0, ⟨[(0, (.data Tl)), (3, (.own 200001 Rj true))], []⟩, ⟨[(2, Oh)], []⟩, Es⟩
def Var : WL := [(3, O5)]
theorem Cai : Cb (WG true K8 [] [] []) Var (lp f60 0) := Ic 3 (ls := O5) rfl
theorem Kap : WO YZ := Te Saq func60 (La Cai Oa)
abbrev Mat : Na := .pu (.p Mb .u) Me [true] (fun x => Ci x.1)
abbrev J7 : WF := (28, Mat) :: YZ
def R4 : Ra := ⟨96, ⟨[(1, Sl), (3, Qa)], [(1, Mb, YA)]⟩, 0, ⟨[(1, Sl)], [(1, Mb, YA)]⟩, ⟨[(2, Oh)], []⟩, Ik⟩
def S4 : Ra := ⟨96, ⟨[(1, Sl), (4, Qa)], [(1, Mb, YA)]⟩, 2, ⟨[(1, Sl)], [(1, Mb, YA)]⟩, ⟨[(2, Oh)], []⟩, Jk⟩
def Xaf : WL := [(4, R4), (9, S4)]
theorem Gah : Cb (WG true YZ [] [] []) Xaf (lp f28 0) := Ic 4 (ls := R4) rfl
theorem Hah : Cb (WG true YZ [] [] []) Xaf (lp f28 1) := Ic 9 (ls := S4) rfl
theorem Eao : WO J7 := Te Kap func28 (La Hah (La Gah Oa))
abbrev Uau : Na := .pu FG FG [true] (fun x => JA x.1)
abbrev U7 : WF := (61, Uau) :: J7
def P5 : Ra := ⟨28, ⟨[(1, Sl), (2, Hi), (3, Hn), (4, Qa)], [(1, Bb, Ez), (2, Bb, (.pr Qa (.pr Dz .un))), (3, Bb, EU)]⟩, 0, ⟨[(2, Hi), (3, Hn)], [(2, Bb, (.pr Qa (.pr Dz .un))), (3, Bb, EU)]⟩, ⟨[], []⟩, Su⟩
def War : WL := [(3, P5)]
theorem Dai : Cb (WG true J7 [] [] []) War (lp f61 0) := Ic 3 (ls := P5) rfl
theorem Lap : WO U7 := Te Eao func61 (La Dai Oa)
abbrev Oat : Na := .pu (.p Mb .u) (.p Mb .u) [true] (fun x => Dj x.1)
abbrev Nae : WF := (29, Oat) :: U7
def T4 : Ra := ⟨37, ⟨[(1, Sl), (2, Hi), (3, Hn), (4, Qa)], [(1, Mb, YA), (2, Mb, c4_), (3, Mb, Jag)]⟩, 0, ⟨[(1, Sl), (2, Hi), (3, Hn)], [(1, Mb, YA), (2, Mb, c4_), (3, Mb, Jag)]⟩, ⟨[], []⟩, Uu⟩
def Har : WL := [(5, T4)]
theorem Iah : Cb (WG true U7 [] [] []) Har (lp f29 0) := Ic 5 (ls := T4) rfl
theorem Fao : WO Nae := Te Lap func29 (La Iah Oa)
abbrev Was : Na := .pu (.p Bb (.p (.sl Tl) .u)) (.p Mb Me) [true, true] (fun x => Mv x.1 x.2.1)
abbrev Fae : WF := (12, Was) :: Nae
theorem Oan : WO Fae := Gd Fao func12
abbrev Vau : Na := .pu (.p Ec .u) Me [true] (fun x => Nr x.1)
abbrev Daf : WF := (62, Vau) :: Fae
theorem Map : WO Daf := Gd Oan func62
abbrev Xau : Na := .pu Mg Mg [true] (fun x => TE x.1)
abbrev W7 : WF := (64, Xau) :: Daf
theorem Oap : WO W7 := Gd Map func64
abbrev Sat : Na := .pu (.p Mb .u) Mg [true] (fun x => Qu x.1)
abbrev Rae : WF := (33, Sat) :: W7
def V4 : Ra := ⟨22, ⟨[(1, Sl), (3, Qa), (4, Qa)], [(1, Mb, YA)]⟩, 0, ⟨[(3, Qa)], []⟩, ⟨[], []⟩, Is⟩
def Jar : WL := [(3, V4)]
theorem Kah : Cb (WG true W7 [] [] []) Jar (lp f33 0) := Ic 3 (ls := V4) rfl
theorem Jao : WO Rae := Te Oap func33 (La Kah Oa)
abbrev Wau : Na := .pu (.p Kl .u) Me [true] (fun x => Mu x.1)
abbrev V7 : WF := (63, Wau) :: Rae
theorem Nap : WO V7 := Gd Jao func63
abbrev Rat : Na := .pu (.p Cz Ec) Me [true] (fun x => Ym x.1 x.2.1 x.2.2.1 x.2.2.2.1)
abbrev Qae : WF := (32, Rat) :: V7
def U4 : Ra := ⟨73, ⟨[(0, GC), (1, Qa), (2, Qa), (3, Qa), (9, Qa)], []⟩, 0, ⟨[(0, GC)], []⟩, ⟨[(8, Oh)], []⟩, Rn⟩
def Iar : WL := [(2, U4)]
theorem Jah : Cb (WG true V7 [] [] []) Iar (lp f32 0) := Ic 2 (ls := U4) rfl
theorem Iao : WO Qae := Te Nap func32 (La Jah Oa)
abbrev Pat : Na := .pu (.p Uc .u) Me [true] (fun x => Fp x.1)
abbrev Oae : WF := (30, Pat) :: Qae
theorem Gao : WO Oae := Gd Iao func30
abbrev Xas : Na := .pu (.p Mb (.p Ec .u)) (.p Uc Me) [true, true] (fun x => Ht x.1 x.2.1)
abbrev B7 : WF := (13, Xas) :: Oae
theorem Pan : WO B7 := Gd Gao func13
abbrev Daw : Na := .pu (.p int EG) Mg [true] (fun x => Pr x.1 x.2.1)
abbrev M8 : WF := (96, Daw) :: B7
def D6 : Ra := ⟨38, ⟨[(1, Wt), (5, Qa), (6, Qa)], []⟩, 0, ⟨[(5, Qa)], []⟩, ⟨[], []⟩, Mk⟩
def Ias : WL := [(5, D6)]
theorem Rai : Cb (WG true B7 [] [] []) Ias (lp f96 0) := Ic 5 (ls := D6) rfl
theorem Uaq : WO M8 := Te Pan func96 (La Rai Oa)
abbrev Iam : Na := .pu GM Mg [true] (fun x => Qy x.1 x.2.1 x.2.2.1)
abbrev Aab : WF := (118, Iam) :: M8
def AY : Ra := ⟨45, ⟨[(1, Qa), (2, Qa), (3, Hn), (7, Qa)], [(3, Bb, Ez)]⟩, 0, ⟨[], []⟩, ⟨[(6, Qa)], []⟩, Tg⟩
def Eal : WL := [(4, AY)]
theorem Yac : Cb (WG true M8 [] [] []) Eal (lp f118 0) := Ic 4 (ls := AY) rfl
theorem Jak : WO Aab := Te Uaq func118 (La Yac Oa)
abbrev Caw : Na := .pu GM Ms [true] (fun x => Lr x.1 x.2.1 x.2.2.1)
abbrev L8 : WF := (95, Caw) :: Aab
theorem Taq : WO L8 := Gd Jak func95
abbrev Eaw : Na := .pu (.p Ec (.p int (.p int (.p Cz Mg)))) Af [true, true] (fun x => Dx x.1 x.2.1 x.2.2.1 x.2.2.2.1 x.2.2.2.2.1)
abbrev N8 : WF := (97, Eaw) :: L8
def E6 : Ra := ⟨101, ⟨[(1, Qa), (3, GC), (4, Qa), (5, Dy), (12, Qa), (13, Qa), (14, Qa)], [(5, Ec, (.data Ec))]⟩, 0, ⟨[(4, Qa), (12, Qa)], []⟩, ⟨[(10, Qa), (11, Qa)], []⟩, Nq⟩
def Jas : WL := [(6, E6)]
theorem Sai : Cb (WG true L8 [] [] []) Jas (lp f97 0) := Ic 6 (ls := E6) rfl
theorem Vaq : WO N8 := Te Taq func97 (La Sai Oa)
abbrev Gaw : Na := .pu (.p Mb Mg) Mg [true] (fun x => Qw x.1 x.2.1)
abbrev Saf : WF := (99, Gaw) :: N8
def F6 : Ra := ⟨22, ⟨[(1, Qa), (2, Hi), (5, Qa)], [(2, Mb, YA)]⟩, 0, ⟨[], []⟩, ⟨[(4, Qa)], []⟩, Lu⟩
def Kas : WL := [(2, F6)]
theorem Tai : Cb (WG true N8 [] [] []) Kas (lp f99 0) := Ic 2 (ls := F6) rfl
theorem Xaq : WO Saf := Te Vaq func99 (La Tai Oa)
abbrev Jam : Na := .pu Ms Ms [true] (fun x => HA x.1)
abbrev Bab : WF := (119, Jam) :: Saf
theorem Kak : WO Bab := Gd Xaq func119
abbrev Vam : Na := .pu Mg Me [true] (fun x => Gt x.1)
abbrev Iab : WF := (136, Vam) :: Bab
theorem Wak : WO Iab := Gd Kak func136
abbrev Ram : Na := .bx false false Mb Ms Ms [true] (fun x0 x => AH x0 x.1)
abbrev Gab : WF := (129, Ram) :: Iab
theorem Sak : WO Gab := GZ (L := []) (m := []) (v := []) (l := []) Wak func129 Oa
abbrev Kam : Na := .bx false false Mb Ms Ms [true] (fun x0 x => Yj x0 x.1)
abbrev YN : WF := (120, Kam) :: Gab
theorem Lak : WO YN := GZ (L := []) (m := []) (v := []) (l := []) Sak func120 Oa
abbrev Ral : Na := .pu EG Cy [true] (fun x => Dd x.1)
abbrev YJ : WF := (101, Ral) :: YN
def UX : Ra := ⟨70, ⟨[(0, Wt), (2, Hi), (3, Hn), (4, Qa)], [(2, Db, Pv), (3, Db, (.pr Qa (.pr HC .un)))]⟩, 0, ⟨[(0, Wt), (2, Hi), (3, Hn)], [(2, Db, Pv), (3, Db, (.pr Qa (.pr HC .un)))]⟩, ⟨[], []⟩, Sq⟩
def HV : Ra := ⟨70, ⟨[(0, Wt), (2, Hi), (3, Hn), (5, Qa), (6, Qa)], [(2, Db, Pv), (3, Db, (.pr Qa (.pr (.own 200201 int true) .un)))]⟩, 4, ⟨[(0, Wt), (2, Hi), (3, Hn), (5, Qa)], [(2, Db, Pv), (3, Db, (.pr Qa (.pr (.own 200201 int true) .un)))]⟩, ⟨[], []⟩, Oj⟩
def GV : Ra := ⟨70, ⟨[(0, Wt), (2, Hi), (3, Hn), (5, Qa)], [(2, Db, Pv), (3, Db, (.pr Qa (.pr AI .un)))]⟩, 2, ⟨[(2, Hi), (3, Hn)], [(2, Db, Pv), (3, Db, (.pr Qa (.pr AI .un)))]⟩, ⟨[], []⟩, Gp⟩
def C0 : WL := [(5, UX), (13, HV), (10, GV)]
theorem Sac : Cb (WG true YN [] [] []) C0 (lp f101 0) := Ic 5 (ls := UX) rfl
theorem I9 : Cb (WG true YN [] [] []) C0 (lp f101 2) := Ic 13 (ls := HV) rfl
theorem H9 : Cb (WG true YN [] [] []) C0 (lp f101 1) := Ic 10 (ls := GV) rfl
theorem Saj : WO YJ := Te Lak func101 (La I9 (La H9 (La Sac Oa)))
abbrev Sam : Na := .pu (.p (.sl Rj) EG) Cy [true] (fun x => Hg x.1 x.2.1)
abbrev RZ : WF := (130, Sam) :: YJ
def GY : Ra := ⟨77, ⟨[(1, Wt), (4, (.ptr 4 [])), (5, Dy), (6, Qa)], [(4, Db, Pv), (5, Db, (.pr Qa (.pr HC .un)))]⟩, 0, ⟨[(1, Wt), (4, (.ptr 4 [])), (5, Dy)], [(4, Db, Pv), (5, Db, (.pr Qa (.pr HC .un)))]⟩, ⟨[], []⟩, Wq⟩
def IV : Ra := ⟨77, ⟨[(1, Wt), (4, (.ptr 4 [])), (5, Dy), (7, (.own 200201 int true)), (8, Qa), (9, Oh), (10, Qa)], [(4, Db, Pv), (5, Db, (.pr Qa (.pr (.own 200202 int true) .un)))]⟩, 4, ⟨[(1, Wt), (4, (.ptr 4 [])), (5, Dy), (7, (.own 200201 int true)), (8, Qa), (9, Oh)], [(4, Db, Pv), (5, Db, (.pr Qa (.pr (.own 200202 int true) .un)))]⟩, ⟨[], []⟩, Pj⟩
def JV : Ra := ⟨77, ⟨[(1, Wt), (4, (.ptr 4 [])), (5, Dy), (7, (.own 200301 int true)), (8, Qa), (9, Oh), (11, Qa)], [(4, Db, Pv), (5, Db, (.pr Qa (.pr (.own 200302 int true) .un)))]⟩, 6, ⟨[(1, Wt), (4, (.ptr 4 [])), (5, Dy), (7, (.own 200301 int true)), (8, Qa), (9, Oh)], [(4, Db, Pv), (5, Db, (.pr Qa (.pr (.own 200302 int true) .un)))]⟩, ⟨[], []⟩, Qj⟩
def HY : Ra := ⟨77, ⟨[(1, Wt), (4, (.ptr 4 [])), (5, Dy), (7, AI), (8, Qa)], [(4, Db, Pv), (5, Db, (.pr Qa (.pr (.own 200102 int true) .un)))]⟩, 2, ⟨[(4, (.ptr 4 [])), (5, Dy), (7, AI)], [(4, Db, Pv), (5, Db, (.pr Qa (.pr (.own 200102 int true) .un)))]⟩, ⟨[], []⟩, Xq⟩
def BT : WL := [(3, GY), (12, IV), (16, JV), (8, HY)]
theorem Ead : Cb (WG true YJ [] [] []) BT (lp f130 0) := Ic 3 (ls := GY) rfl
theorem J9 : Cb (WG true YJ [] [] []) BT (lp f130 2) := Ic 12 (ls := IV) rfl
theorem K9 : Cb (WG true YJ [] [] []) BT (lp f130 3) := Ic 16 (ls := JV) rfl
theorem Fad : Cb (WG true YJ [] [] []) BT (lp f130 1) := Ic 8 (ls := HY) rfl
theorem Tak : WO RZ := Te Saj func130 (La K9 (La J9 (La Fad (La Ead Oa))))
abbrev Lam : Na := .pu (.p (.sl Rj) (.p Tl .u)) Gz [true] (fun x => Wh x.1 x.2.1)
abbrev OZ : WF := (121, Lam) :: RZ
def BY : Ra := ⟨60, ⟨[(0, Wt), (1, (.data Tl)), (5, NE), (6, (.own 200002 Rj true)), (7, Qa)], []⟩, 0, ⟨[(5, NE)], []⟩, ⟨[], []⟩, Il⟩
def Fal : WL := [(6, BY)]
theorem Zac : Cb (WG true RZ [] [] []) Fal (lp f121 0) := Ic 6 (ls := BY) rfl
theorem Mak : WO OZ := Te Tak func121 (La Zac Oa)
abbrev Mam : Na := .pu (.p Db Cy) Me [true] (fun x => Jt x.1 x.2.1)
abbrev Cab : WF := (122, Mam) :: OZ
def CY : Ra := ⟨38, ⟨[(2, Hi), (3, Hn), (5, Qa)], [(2, Db, Vt), (3, Db, Vt)]⟩, 0, ⟨[], []⟩, ⟨[(4, Oh)], []⟩, Qn⟩
def Gal : WL := [(4, CY)]
theorem Aad : Cb (WG true OZ [] [] []) Gal (lp f122 0) := Ic 4 (ls := CY) rfl
theorem Nak : WO Cab := Te Mak func122 (La Aad Oa)
abbrev Wat : Na := .pu Cy Cy [true] (fun x => Rw x.1)
abbrev K7 : WF := (37, Wat) :: Cab
theorem Nao : WO K7 := Gd Nak func37
abbrev Qal : Na := .pu (.p Db Gz) Gz [true] (fun x => Kf x.1 x.2.1)
abbrev Paa : WF := (100, Qal) :: K7
def TX : Ra := ⟨34, ⟨[(1, (.data XA)), (2, Hi), (5, NE), (6, Qa)], [(2, Db, Vt)]⟩, 0, ⟨[(5, NE)], []⟩, ⟨[], []⟩, Mp⟩
def Yak : WL := [(3, TX)]
theorem Rac : Cb (WG true K7 [] [] []) Yak (lp f100 0) := Ic 3 (ls := TX) rfl
theorem Raj : WO Paa := Te Nao func100 (La Rac Oa)
abbrev Faw : Na := .pu (.p Mb (.p int Me)) (.p Mb (.p XA Me)) [true, true, true] (fun x => Cj x.1 x.2.1 x.2.2.1)
abbrev Raf : WF := (98, Faw) :: Paa
theorem Waq : WO Raf := Gd Raj func98
abbrev Yau : Na := .bx false false Uc (.p Kl Mg) (.p XA (.p int Me)) [true, true, true] (fun x0 x => Lp x0 x.1 x.2.1)
abbrev Eaf : WF := (65, Yau) :: Raf
theorem Pap : WO Eaf := GZ (L := []) (m := []) (v := []) (l := []) Waq func65 Oa
abbrev Zau : Na := .pu (.p Mb Mg) (.p Mb (.p XA Me)) [true, true, true] (fun x => Pu x.1 x.2.1)
abbrev ZZ : WF := (66, Zau) :: Eaf
theorem Qap : WO ZZ := Gd Pap func66
abbrev Tat : Na := .bx false false Uc .u (.p (.sl Ag) .u) [true] (fun x0 x => Xr x0)
abbrev Sae : WF := (34, Tat) :: ZZ
def JY : Ra := ⟨109, ⟨[(0, (.ptr 500000 [])), (3, (.own 200101 Ag true)), (5, Qa), (6, (.mov 200102 Db)), (13, Qa)], [(500000, Uc, (.pr (.pr (.pr Qa (.pr (.own 200103 Qv true) .un)) (.pr (.own 200104 Tl true) (.pr Qa (.pr (.own 200105 Rj true) (.data (.p int Me)))))) (.pr (.data Ec) (.pr (.own 200106 Kl true) (.data Nb)))))]⟩, 2, ⟨[(0, (.ptr 500000 [])), (3, (.own 200101 Ag true)), (5, Qa)], [(500000, Uc, (.pr (.pr (.pr Qa (.pr (.own 200102 Qv true) .un)) (.pr (.own 200103 Tl true) (.pr Qa (.pr (.own 200104 Rj true) (.data (.p int Me)))))) (.pr (.data Ec) (.pr (.own 200105 Kl true) (.data Nb)))))]⟩, ⟨[], []⟩, Ug⟩
def W4 : Ra := ⟨109, ⟨[(0, (.ptr 500000 [])), (3, FM)], [(500000, Uc, C3)]⟩, 0, ⟨[(0, (.ptr 500000 [])), (3, FM)], [(500000, Uc, C3)]⟩, ⟨[(0, (.ptr 500000 [])), (2, FM)], [(500000, Uc, C3)]⟩, Dh⟩
def Yaf : WL := [(18, JY), (2, W4)]
theorem Had : Cb (WG false ZZ [] [] [90]) Yaf (lp f34 1) := Ic 18 (ls := JY) rfl
theorem Lah : Cb (WG false ZZ [] [] [90]) Yaf (lp f34 0) := Ic 2 (ls := W4) rfl
theorem Kao : WO Sae := GZ Qap func34 (La Had (La Lah Oa))
abbrev Yas : Na := .pu (.p Uc (.p Cz Mg)) (.p Uc (.p (.sl Ag) Me)) [true, true, true] (fun x => It x.1 x.2.1 x.2.2.1)
abbrev C7 : WF := (14, Yas) :: Sae
theorem Qan : WO C7 := Gd Kao func14
abbrev Aat : Na := .pu (.p (.sl Ag) .u) Gz [true] (fun x => Nv x.1)
abbrev D7 : WF := (16, Aat) :: C7
def H4 : Ra := ⟨22, ⟨[(0, (.data (.sl Ag))), (3, NE), (4, Qa)], []⟩, 0, ⟨[(3, NE)], []⟩, ⟨[], []⟩, Hp⟩
def Bar : WL := [(3, H4)]
theorem Wag : Cb (WG true C7 [] [] []) Bar (lp f16 0) := Ic 3 (ls := H4) rfl
theorem San : WO D7 := Te Qan func16 (La Wag Oa)
abbrev Aav : Na := .pu Cy Me [true] (fun x => Mr x.1)
abbrev X7 : WF := (67, Aav) :: D7
def Q5 : Ra := ⟨39, ⟨[(1, Sl), (3, Qa)], [(1, Db, Vt)]⟩, 0, ⟨[(1, Sl)], [(1, Db, Vt)]⟩, ⟨[(2, Oh)], []⟩, Qq⟩
def Xar : WL := [(2, Q5)]
theorem Eai : Cb (WG true D7 [] [] []) Xar (lp f67 0) := Ic 2 (ls := Q5) rfl
theorem Rap : WO X7 := Te San func67 (La Eai Oa)
abbrev Bav : Na := .pu (.p Zr Mg) Me [true] (fun x => IA x.1 x.2.1)
abbrev Y7 : WF := (68, Bav) :: X7
def R5 : Ra := ⟨18, ⟨[(0, (.data Zr)), (1, Qa), (5, Qa)], []⟩, 0, ⟨[], []⟩, ⟨[(4, Oh)], []⟩, Ru⟩
def Yar : WL := [(2, R5)]
theorem Fai : Cb (WG true X7 [] [] []) Yar (lp f68 0) := Ic 2 (ls := R5) rfl
theorem Sap : WO Y7 := Te Rap func68 (La Fai Oa)
abbrev Uat : Na := .pu (.p Db Cy) (.p Zr .u) [true] (fun x => Ry x.1 x.2.1)
abbrev TZ : WF := (35, Uat) :: Y7
def X4 : Ra := ⟨41, ⟨[(2, Hi), (3, Hn), (5, HC), (6, Qa)], [(2, Db, Vt), (3, Db, Vt)]⟩, 0, ⟨[(5, HC)], []⟩, ⟨[], []⟩, Hs⟩
def Kar : WL := [(3, X4)]
theorem Mah : Cb (WG true Y7 [] [] []) Kar (lp f35 0) := Ic 3 (ls := X4) rfl
theorem Lao : WO TZ := Te Sap func35 (La Mah Oa)
abbrev Zas : Na := .pu (.p Db Gz) (.p .s .u) [true] (fun x => Ov x.1 x.2.1)
abbrev Gae : WF := (15, Zas) :: TZ
def G4 : Ra := ⟨44, ⟨[(1, (.data XA)), (2, Hi), (5, (.data .s)), (6, Qa), (7, AI), (8, Qa)], [(2, Db, Vt)]⟩, 2, ⟨[(1, (.data XA)), (2, Hi), (5, (.data .s)), (6, Qa)], [(2, Db, Vt)]⟩, ⟨[], []⟩, Kp⟩
def E4 : Ra := ⟨44, ⟨[(1, (.data XA)), (2, Hi), (5, (.data .s)), (6, Qa)], [(2, Db, Vt)]⟩, 0, ⟨[(5, (.data .s))], []⟩, ⟨[], []⟩, Jp⟩
def Uaf : WL := [(7, G4), (3, E4)]
theorem Vag : Cb (WG true TZ [] [] []) Uaf (lp f15 1) := Ic 7 (ls := G4) rfl
theorem Uag : Cb (WG true TZ [] [] []) Uaf (lp f15 0) := Ic 3 (ls := E4) rfl
theorem Ran : WO Gae := Te Lao func15 (La Vag (La Uag Oa))
abbrev s_5 : Na := .pu (.p Bb (.p Ec (.p .s .u))) (.p .s Me) [true, true] (fun x => Qr x.1 x.2.1 x.2.2.1)
abbrev F_5 : WF := (5, s_5) :: Gae
theorem E_5 : WO F_5 := Gd Ran func5
abbrev Tav : Na := .pu Mg Me [true] (fun x => Nk x.1)
abbrev Laf : WF := (86, Tav) :: F_5
theorem Kaq : WO Laf := Gd E_5 func86
abbrev Tal : Na := .pu Mg Me [true] (fun x => Mn x.1)
abbrev Raa : WF := (103, Tal) :: Laf
theorem Uaj : WO Raa := Gd Kaq func103
abbrev Ual : Na := .pu Mg Me [true] (fun x => Vo x.1)
abbrev Saa : WF := (104, Ual) :: Raa
theorem Vaj : WO Saa := Gd Uaj func104
abbrev Eav : Na := .pu Ms Me [true] (fun x => Zh x.1)
abbrev A0 : WF := (71, Eav) :: Saa
theorem Vap : WO A0 := Gd Vaj func71
abbrev Yat : Na := .pu FG Me [true] (fun x => Wl x.1)
abbrev Tae : WF := (39, Yat) :: A0
def A5 : Ra := ⟨73, ⟨[(1, Sl), (3, Qa), (28, Dz), (29, Qa), (30, Qa), (40, (.data Qv)), (41, Qa), (42, Qa)], [(1, Bb, Ez)]⟩, 2, ⟨[(1, Sl), (28, Dz), (29, Qa), (30, Qa)], [(1, Bb, Ez)]⟩, ⟨[(2, Oh)], []⟩, Fk⟩
def Z4 : Ra := ⟨73, ⟨[(1, Sl), (28, Dz), (29, Qa), (30, Qa)], [(1, Bb, Ez)]⟩, 0, ⟨[], []⟩, ⟨[(2, Oh)], []⟩, Ek⟩
def Zaf : WL := [(9, A5), (4, Z4)]
theorem Pah : Cb (WG true A0 [] [] []) Zaf (lp f39 1) := Ic 9 (ls := A5) rfl
theorem Oah : Cb (WG true A0 [] [] []) Zaf (lp f39 0) := Ic 4 (ls := Z4) rfl
theorem Pao : WO Tae := Te Vap func39 (La Pah (La Oah Oa))
abbrev Ham : Na := .pu (.p .s (.p .s .u)) (.p (.sl .s) .u) [true] (fun x => strings_Split x.1 x.2.1)
abbrev Zaa : WF := (117, Ham) :: Tae
theorem Iak : WO Zaa := wc Pao (AX Tryz.lays_strings_Split (by kernel_rfl) Yaq)
abbrev Uav : Na := .pu Mg (.p .s .u) [true] (fun x => Gc x.1)
abbrev Maf : WF := (87, Uav) :: Zaa
theorem Laq : WO Maf := Gd Iak func87
abbrev Mau : Na := .pu Af (.p .s .u) [true] (fun x => Ih x.1 x.2.1)
abbrev WZ : WF := (53, Mau) :: Maf
theorem Dap : WO WZ := Gd Laq func53
abbrev Fav : Na := .pu (.p Ay .u) Af [true, true] (fun x => SB x.1)
abbrev Gaf : WF := (72, Fav) :: WZ
def T5 : Ra := ⟨27, ⟨[(0, (.data Ay)), (5, Qa), (6, Qa), (7, AI), (8, Qa), (9, Qa)], []⟩, 2, ⟨[(0, (.data Ay)), (7, AI), (8, Qa), (9, Qa)], []⟩, ⟨[(2, Qa), (3, Qa)], []⟩, Qe⟩
def S5 : Ra := ⟨27, ⟨[(0, (.data Ay)), (7, HC), (8, Qa), (9, Qa)], []⟩, 0, ⟨[], []⟩, ⟨[(2, Qa), (3, Qa)], []⟩, Wv⟩
def Cag : WL := [(5, T5), (2, S5)]
theorem Hai : Cb (WG true WZ [] [] []) Cag (lp f72 1) := Ic 5 (ls := T5) rfl
theorem Gai : Cb (WG true WZ [] [] []) Cag (lp f72 0) := Ic 2 (ls := S5) rfl
theorem Wap : WO Gaf := Te Dap func72 (La Hai (La Gai Oa))
abbrev Nav : Na := .pu Ms Me [true] (fun x => Qk x.1)
abbrev Iaf : WF := (80, Nav) :: Gaf
theorem Eaq : WO Iaf := Gd Wap func80
abbrev Val : Na := .pu Ms Ms [true] (fun x => Jy x.1)
abbrev IZ : WF := (105, Val) :: Iaf
theorem Waj : WO IZ := Gd Eaq func105
abbrev Gav : Na := .pu GM Mg [true] (fun x => Sr x.1 x.2.1 x.2.2.1)
abbrev Haf : WF := (73, Gav) :: IZ
def U5 : Ra := ⟨40, ⟨[(1, Qa), (2, Qa), (12, (.data Qv)), (13, Qa), (14, Qa)], []⟩, 0, ⟨[], []⟩, ⟨[(6, Qa)], []⟩, Mm⟩
def Zar : WL := [(2, U5)]
theorem Iai : Cb (WG true IZ [] [] []) Zar (lp f73 0) := Ic 2 (ls := U5) rfl
theorem Xap : WO Haf := Te Waj func73 (La Iai Oa)
abbrev Zat : Na := .pu (.p Bb (.p Ay Mg)) (.p Cz Me) [true, true] (fun x => Dv x.1 x.2.1 x.2.2.1)
abbrev M7 : WF := (40, Zat) :: Haf
theorem Qao : WO M7 := Gd Xap func40
abbrev Cat : Na := .pu (.p Bb (.p .s .u)) (.p Cz Me) [true, true] (fun x => Zu x.1 x.2.1)
abbrev E7 : WF := (18, Cat) :: M7
def J4 : Ra := ⟨42, ⟨[(1, (.data .s)), (2, Hi), (6, EQ), (7, Qa)], [(2, Bb, Ez)]⟩, 0, ⟨[(6, EQ)], []⟩, ⟨[(4, EQ), (5, Oh)], []⟩, Po⟩
def Dar : WL := [(5, J4)]
theorem Yag : Cb (WG true M7 [] [] []) Dar (lp f18 0) := Ic 5 (ls := J4) rfl
theorem Uan : WO E7 := Te Qao func18 (La Yag Oa)
abbrev Aau : Na := .pu FG FG [true] (fun x => Km x.1)
abbrev N7 : WF := (41, Aau) :: E7
def B5 : Ra := ⟨25, ⟨[(2, Hi), (3, Hn), (10, Dz), (11, Qa), (12, Qa)], [(2, Bb, (.pr Qa (.pr Dz .un))), (3, Bb, EU)]⟩, 0, ⟨[(2, Hi), (3, Hn)], [(2, Bb, (.pr Qa (.pr Dz .un))), (3, Bb, EU)]⟩, ⟨[], []⟩, Kn⟩
def Mar : WL := [(3, B5)]
theorem Qah : Cb (WG true E7 [] [] []) Mar (lp f41 0) := Ic 3 (ls := B5) rfl
theorem Rao : WO N7 := Te Uan func41 (La Qah Oa)
abbrev Bau : Na := .pu (.p (.sl Tl) .u) (.p (.sl Tl) .u) [true] (fun x => Lm x.1)
abbrev Uae : WF := (42, Bau) :: N7
def C5 : Ra := ⟨19, ⟨[(3, (.own 200001 Tl true)), (6, (.data (.sl Tl))), (7, Qa), (8, Qa)], []⟩, 0, ⟨[(3, (.own 200001 Tl true))], []⟩, ⟨[], []⟩, Ln⟩
def Nar : WL := [(3, C5)]
theorem Rah : Cb (WG true N7 [] [] []) Nar (lp f42 0) := Ic 3 (ls := C5) rfl
theorem Sao : WO Uae := Te Rao func42 (La Rah Oa)
abbrev Wal : Na := .pu Af Mg [true] (fun x => Gq x.1 x.2.1)
abbrev JZ : WF := (106, Wal) :: Uae
theorem Xaj : WO JZ := Gd Sao func106
abbrev Hav : Na := .pu EG Me [true] (fun x => Aj x.1)
abbrev A8 : WF := (74, Hav) :: JZ
def V5 : Ra := ⟨46, ⟨[(3, Qa), (6, Wt), (7, Qa), (8, Qa)], []⟩, 0, ⟨[], []⟩, ⟨[(2, Oh)], []⟩, Au⟩
def Aas : WL := [(3, V5)]
theorem Jai : Cb (WG true JZ [] [] []) Aas (lp f74 0) := Ic 3 (ls := V5) rfl
theorem Yap : WO A8 := Te Xaj func74 (La Jai Oa)
abbrev Xal : Na := .pu (.p (.sl Af) (.p Af .u)) Mg [true] (fun x => Kw x.1 x.2.1)
abbrev KZ : WF := (107, Xal) :: A8
def VX : Ra := ⟨19, ⟨[(3, Hn), (7, (.data (.sl Af))), (8, Qa), (9, Qa)], [(3, Af, (.data Af))]⟩, 0, ⟨[], []⟩, ⟨[(4, Qa)], []⟩, Hu⟩
def Zak : WL := [(2, VX)]
theorem Tac : Cb (WG true A8 [] [] []) Zak (lp f107 0) := Ic 2 (ls := VX) rfl
theorem Yaj : WO KZ := Te Yap func107 (La Tac Oa)
abbrev Iav : Na := .pu (.p Tl .u) Me [true] (fun x => Bu x.1)
abbrev B0 : WF := (75, Iav) :: KZ
def W5 : Ra := ⟨62, ⟨[(3, (.own 200001 Af true)), (11, (.data Tl)), (12, Qa), (13, Qa)], []⟩, 0, ⟨[(3, (.own 200001 Af true))], []⟩, ⟨[(2, Oh)], []⟩, Bs⟩
def Bas : WL := [(5, W5)]
theorem Kai : Cb (WG true KZ [] [] []) Bas (lp f75 0) := Ic 5 (ls := W5) rfl
theorem Zap : WO B0 := Te Yaj func75 (La Kai Oa)
abbrev Cau : Na := .pu (.p Mb .u) Me [true] (fun x => Sj x.1)
abbrev Vae : WF := (43, Cau) :: B0
def D5 : Ra := ⟨92, ⟨[(1, Sl), (35, (.data (.sl Tl))), (36, Qa), (37, Qa)], [(1, Mb, YA)]⟩, 0, ⟨[(1, Sl)], [(1, Mb, YA)]⟩, ⟨[(2, Oh)], []⟩, Dk⟩
def KY : Ra := ⟨92, ⟨[(1, Sl), (5, Qa), (50, Wt), (51, Qa), (52, Qa)], [(1, Mb, YA)]⟩, 2, ⟨[(1, Sl), (5, Qa)], [(1, Mb, YA)]⟩, ⟨[(2, Oh)], []⟩, Lj⟩
def Aag : WL := [(4, D5), (11, KY)]
theorem Sah : Cb (WG true B0 [] [] []) Aag (lp f43 0) := Ic 4 (ls := D5) rfl
theorem Iad : Cb (WG true B0 [] [] []) Aag (lp f43 1) := Ic 11 (ls := KY) rfl
theorem Tao : WO Vae := Te Zap func43 (La Iad (La Sah Oa))
abbrev Dat : Na := .pu (.p Bb (.p (.sl Tl) .u)) (.p Mb Me) [true, true] (fun x => Rk x.1 x.2.1)
abbrev Iae : WF := (19, Dat) :: Vae
theorem Van : WO Iae := Gd Tao func19
abbrev Dau : Na := .pu (.p Mb .u) (.p Mb .u) [true] (fun x => Qh x.1)
abbrev Wae : WF := (44, Dau) :: Iae
theorem Uao : WO Wae := Gd Van func44
abbrev Jav : Na := .pu (.p Ec .u) Me [true] (fun x => Er x.1)
abbrev B8 : WF := (76, Jav) :: Wae
theorem Aaq : WO B8 := Gd Uao func76
abbrev Iau : Na := .pu EG Mg [true] (fun x => Yl x.1)
abbrev Aaf : WF := (49, Iau) :: B8
def F5 : Ra := ⟨19, ⟨[(3, Qa), (6, Wt), (7, Qa), (8, Qa)], []⟩, 0, ⟨[(3, Qa)], []⟩, ⟨[], []⟩, Iq⟩
def Par : WL := [(3, F5)]
theorem Uah : Cb (WG true B8 [] [] []) Par (lp f49 0) := Ic 3 (ls := F5) rfl
theorem Zao : WO Aaf := Te Aaq func49 (La Uah Oa)
abbrev Yal : Na := .pu (.p Kl .u) Me [true] (fun x => Zt x.1)
abbrev LZ : WF := (108, Yal) :: Aaf
theorem Zaj : WO LZ := Gd Zao func108
abbrev Kav : Na := .pu (.p Cz Mg) (.p int Me) [true, true] (fun x => DA x.1 x.2.1)
abbrev C8 : WF := (77, Kav) :: LZ
def X5 : Ra := ⟨53, ⟨[(0, GC), (1, Qa), (11, GC), (12, Qa), (13, Qa)], []⟩, 0, ⟨[(1, Qa)], []⟩, ⟨[(4, Qa), (5, Oh)], []⟩, Eu⟩
def Cas : WL := [(4, X5)]
theorem Lai : Cb (WG true LZ [] [] []) Cas (lp f77 0) := Ic 4 (ls := X5) rfl
theorem Baq : WO C8 := Te Zaj func77 (La Lai Oa)
abbrev Hau : Na := .pu (.p Cz Af) Me [true] (fun x => Tk x.1 x.2.1 x.2.2.1)
abbrev Zae : WF := (48, Hau) :: C8
def E5 : Ra := ⟨29, ⟨[(0, GC), (1, Qa), (2, Qa), (11, GC), (12, Qa), (13, Qa)], []⟩, 0, ⟨[(0, GC), (1, Qa)], []⟩, ⟨[(6, Oh)], []⟩, Wo⟩
def Oar : WL := [(2, E5)]
theorem Tah : Cb (WG true C8 [] [] []) Oar (lp f48 0) := Ic 2 (ls := E5) rfl
theorem Yao : WO Zae := Te Baq func48 (La Tah Oa)
abbrev Fau : Na := .pu (.p Cz Mg) Me [true] (fun x => Sk x.1 x.2.1)
abbrev Yae : WF := (46, Fau) :: Zae
theorem Wao : WO Yae := Gd Yao func46
abbrev Eau : Na := .pu (.p Uc .u) Me [true] (fun x => Qo x.1)
abbrev Xae : WF := (45, Eau) :: Yae
theorem Vao : WO Xae := Gd Wao func45
abbrev Eat : Na := .pu (.p Mb (.p Ec .u)) (.p Uc Me) [true, true] (fun x => Us x.1 x.2.1)
abbrev Jae : WF := (20, Eat) :: Xae
theorem Wan : WO Jae := Gd Vao func20
abbrev Gau : Na := .pu (.p Uc .u) (.p Uc .u) [true] (fun x => Bl x.1)
abbrev O7 : WF := (47, Gau) :: Jae
theorem Xao : WO O7 := Gd Wan func47
abbrev Zal : Na := .pu (.p Mb Mg) Mg [true] (fun x => AA x.1 x.2.1)
abbrev Taa : WF := (109, Zal) :: O7
def WX : Ra := ⟨21, ⟨[(1, Qa), (8, Wt), (9, Qa), (10, Qa)], []⟩, 0, ⟨[], []⟩, ⟨[(4, Qa)], []⟩, Yt⟩
def Aal : WL := [(2, WX)]
theorem Uac : Cb (WG true O7 [] [] []) Aal (lp f109 0) := Ic 2 (ls := WX) rfl
theorem Aak : WO Taa := Te Xao func109 (La Uac Oa)
abbrev Vav : Na := .pu (.p Zr .u) (.p Zr .u) [true] (fun x => Xl x.1)
abbrev Naf : WF := (88, Vav) :: Taa
theorem Maq : WO Naf := Gd Aak func88
abbrev Uam : Na := .io Zr .u .u [] (fun x0 _ => sort_Ints x0)
abbrev SZ : WF := (132, Uam) :: Naf
end
end KF
namespace Go.Proofs
open Go.Shelf
def Tryz.lays_sort_Ints_ren : Go.Shelf.Ren := ⟨fun | 191 => 132 | 189 => 137 | 125 => 143 | 257 => 142 | 128 => 158 | 129 => 159 | 294 => 149 | 295 => 150 | 296 => 151 | 297 => 152 | 298 => 153 | 299 => 154 | 216 => 155 | 300 => 156 | 301 => 157 | 328 => 162 | 329 => 163 | 330 => 164 | 331 => 165 | 332 => 166 | 215 => 167 | 343 => 168 | n => n, fun | 28 => 56 | 0 => 0 | 3 => 3 | 46 => 166 | 51 => 176 | 53 => 178 | 4 => 4 | 183 => 169 | 182 => 168 | 131 => 119 | 5 => 5 | 9 => 9 | 218 => 185 | 222 => 189 | 228 => 191 | 229 => 98 | n => n, fun | n => n⟩
theorem Tryz.lays_sort_Ints : Go.Proofs.Lays.n191 Tryz.prog Tryz.lays_sort_Ints_ren := {
 mixed := by kernel_rfl
 f125 := Tryz.func143.trans (congrArg some (by kernel_rfl))
 f128 := Tryz.func158.trans (congrArg some (by kernel_rfl))
 f129 := Tryz.func159.trans (congrArg some (by kernel_rfl))
 f189 := Tryz.func137.trans (congrArg some (by kernel_rfl))
 f191 := Tryz.func132.trans (congrArg some (by kernel_rfl))
 f215 := Tryz.func167.trans (congrArg some (by kernel_rfl))
 f216 := Tryz.func155.trans (congrArg some (by kernel_rfl))
 f257 := Tryz.func142.trans (congrArg some (by kernel_rfl))
 f294 := Tryz.func149.trans (congrArg some (by kernel_rfl))
 f295 := Tryz.func150.trans (congrArg some (by kernel_rfl))
 f296 := Tryz.func151.trans (congrArg some (by kernel_rfl))
 f297 := Tryz.func152.trans (congrArg some (by kernel_rfl))
 f298 := Tryz.func153.trans (congrArg some (by kernel_rfl))
 f299 := Tryz.func154.trans (congrArg some (by kernel_rfl))
 f300 := Tryz.func156.trans (congrArg some (by kernel_rfl))
 f301 := Tryz.func157.trans (congrArg some (by kernel_rfl))
 f328 := Tryz.func162.trans (congrArg some (by kernel_rfl))
 f329 := Tryz.func163.trans (congrArg some (by kernel_rfl))
 f330 := Tryz.func164.trans (congrArg some (by kernel_rfl))
 f331 := Tryz.func165.trans (congrArg some (by kernel_rfl))
 f332 := Tryz.func166.trans (congrArg some (by kernel_rfl))
 f343 := Tryz.func168.trans (congrArg some (by kernel_rfl))
 t0 := Tryz.underlying0
 a0 := Tryz.isAgg0
 z0 := Tryz.sizeOf0
 v0 := Tryz.zeroValue0
 t3 := Tryz.underlying3
 a3 := Tryz.isAgg3
 z3 := Tryz.sizeOf3
 v3 := Tryz.zeroValue3
 t4 := Tryz.underlying4
 a4 := Tryz.isAgg4
 z4 := Tryz.sizeOf4
 v4 := Tryz.zeroValue4
 t5 := Tryz.underlying5
 a5 := Tryz.isAgg5
 z5 := Tryz.sizeOf5
 v5 := Tryz.zeroValue5
 t9 := Tryz.underlying9
 a9 := Tryz.isAgg9
 z9 := Tryz.sizeOf9
 v9 := Tryz.zeroValue9
 t28 := Tryz.underlying56
 a28 := Tryz.isAgg56
 z28 := Tryz.sizeOf56
 v28 := Tryz.zeroValue56
 t46 := Tryz.underlying166
 a46 := Tryz.isAgg166
 z46 := Tryz.sizeOf166
 v46 := Tryz.zeroValue166
 t51 := Tryz.underlying176
 a51 := Tryz.isAgg176
 z51 := Tryz.sizeOf176
 v51 := Tryz.zeroValue176
 t53 := Tryz.underlying178
 a53 := Tryz.isAgg178
 z53 := Tryz.sizeOf178
 v53 := Tryz.zeroValue178
 t131 := Tryz.underlying119
 a131 := Tryz.isAgg119
 z131 := Tryz.sizeOf119
 v131 := Tryz.zeroValue119
 t182 := Tryz.underlying168
 a182 := Tryz.isAgg168
 z182 := Tryz.sizeOf168
 v182 := Tryz.zeroValue168
 t183 := Tryz.underlying169
 a183 := Tryz.isAgg169
 z183 := Tryz.sizeOf169
 v183 := Tryz.zeroValue169
 t218 := Tryz.underlying185
 a218 := Tryz.isAgg185
 z218 := Tryz.sizeOf185
 v218 := Tryz.zeroValue185
 t222 := Tryz.underlying189
 a222 := Tryz.isAgg189
 z222 := Tryz.sizeOf189
 v222 := Tryz.zeroValue189
 t228 := Tryz.underlying191
 a228 := Tryz.isAgg191
 z228 := Tryz.sizeOf191
 v228 := Tryz.zeroValue191
 t229 := Tryz.underlying98
 a229 := Tryz.isAgg98
 z229 := Tryz.sizeOf98
 v229 := Tryz.zeroValue98 }
end Go.Proofs
namespace KF
open Go Go.Proofs Go.Proofs.Tryz
noncomputable section
theorem Vak : WO SZ := wc Maq (D2 Tryz.lays_sort_Ints (by kernel_rfl))
abbrev Sav : Na := .pu (.p Zr Mg) Me [true] (fun x => Jw x.1 x.2.1)
abbrev H8 : WF := (85, Sav) :: SZ
def B6 : Ra := ⟨17, ⟨[(1, Qa), (7, (.data Zr)), (8, Qa), (9, Qa)], []⟩, 0, ⟨[], []⟩, ⟨[(4, Oh)], []⟩, Fu⟩
def Gas : WL := [(2, B6)]
theorem Pai : Cb (WG true SZ [] [] []) Gas (lp f85 0) := Ic 2 (ls := B6) rfl
theorem Jaq : WO H8 := Te Vak func85 (La Pai Oa)
abbrev Oam : Na := .pu (.p Zr .u) (.p Zr .u) [true] (fun x => Uo x.1)
abbrev PZ : WF := (125, Oam) :: H8
def EY : Ra := ⟨31, ⟨[(4, HC), (11, (.own 200002 int true)), (12, Qa), (13, Qa)], []⟩, 0, ⟨[(4, HC)], []⟩, ⟨[], []⟩, Ds⟩
def Ial : WL := [(5, EY)]
theorem Cad : Cb (WG true H8 [] [] []) Ial (lp f125 0) := Ic 5 (ls := EY) rfl
theorem Pak : WO PZ := Te Jaq func125 (La Cad Oa)
abbrev Bam : Na := .pu EG Cy [true] (fun x => Xc x.1)
abbrev MZ : WF := (111, Bam) :: PZ
def XX : Ra := ⟨45, ⟨[(2, Hi), (3, Hn), (4, HC), (11, Wt), (12, Qa), (13, Qa)], [(2, Db, Pv), (3, Db, Pv)]⟩, 0, ⟨[(2, Hi), (3, Hn), (4, HC)], [(2, Db, Pv), (3, Db, Pv)]⟩, ⟨[], []⟩, Dq⟩
def Bal : WL := [(6, XX)]
theorem Vac : Cb (WG true PZ [] [] []) Bal (lp f111 0) := Ic 6 (ls := XX) rfl
theorem Cak : WO MZ := Te Pak func111 (La Vac Oa)
abbrev Tam : Na := .pu (.p Zr (.p Zr .u)) Me [true] (fun x => Vw x.1 x.2.1)
abbrev Hab : WF := (131, Tam) :: MZ
def IY : Ra := ⟨26, ⟨[(0, (.data Zr)), (1, (.data Zr)), (12, Qa), (13, Qa)], []⟩, 0, ⟨[], []⟩, ⟨[(4, Oh)], []⟩, Jq⟩
def Kal : WL := [(4, IY)]
theorem Gad : Cb (WG true MZ [] [] []) Kal (lp f131 0) := Ic 4 (ls := IY) rfl
theorem Uak : WO Hab := Te Cak func131 (La Gad Oa)
abbrev Cac : Na := .pu (.p Db Cy) Me [true] (fun x => Gm x.1 x.2.1)
abbrev Eab : WF := (124, Cac) :: Hab
theorem Oaa : WO Eab := Gd Uak func124
abbrev Aam : Na := .co (.p Db Gz) Gz [true] (fun x => Nd x.1 x.2.1)
abbrev Uaa : WF := (110, Aam) :: Eab
def GTo : List (Nat × Ty) := [(3, int), (58, OE), (59, (.sl OE))]
theorem Taf : ((GTo.all fun x => Od Tryz.prog x.2 x.1) && (([] : List (Nat × Ty × Nat)).all fun x => DM Tryz.prog x.1 x.2.1 x.2.2)) = true := by kernel_rfl
@[reducible] def R8 (c : T Ld → T Ld → Option Bool) : Na := .pu (.p OE (.p (.sl OE) .u)) (.p (.sl OE) .u) [true] (fun x => A1 c x.1 x.2.1)
def I3 (c : T Ld → T Ld → Option Bool) : Le := ⟨GTo, [(124, YQ c)], [], true, [], [], []⟩
theorem Q8 (I : Cg) (c : T Ld → T Ld → Option Bool) (h : Mh Tryz.prog I 124 (YQ c)) : Ij Tryz.prog I (I3 c) := Ij.cons h (NR Taf)
def IR (c : T Ld → T Ld → Option Bool) : Ra := ⟨25, ⟨[(2, Hi), (5, (.own 200001 OE true)), (8, (.data (.sl OE))), (9, Qa), (10, Qa)], [(2, OE, (.data OE))]⟩, 0, ⟨[(5, (.own 200001 OE true))], []⟩, ⟨[], []⟩, Rr c⟩
def J3 (c : T Ld → T Ld → Option Bool) : List (Nat × Ra) := [(3, IR c)]
theorem B1 (c : T Ld → T Ld → Option Bool) : Cb (I3 c) (J3 c) (lp Tryz.f110 0) := TR (r := 3) (ls := IR c) (R := fun x => Hz c x.1.1 x.1.2.1 x.1.2.2.1 x.1.2.2.2.1 x.1.2.2.2.2.1 x.2.1) (by kernel_rfl) (by kernel_rfl) rfl (fun x => by kernel_rfl)
theorem S8 (I : Cg) (c : T Ld → T Ld → Option Bool) (h : Mh Tryz.prog I 124 (YQ c)) : Mh Tryz.prog I 110 (R8 c) := LJ (L := J3 c) (k := 1) (Q8 I c h) PW Tryz.func110 (by kernel_rfl) (La (B1 c) Oa) (fun x => by kernel_rfl)
theorem Bak : WO Uaa := wc Oaa (Q6 (f2 := 124) (SR := fun x => Gm x.1 x.2.1) (same := Li) Faa (Naj (s := Cac) Oaa (by kernel_rfl)) (fun I c h => ⟨_, S8 I c h, Kac c⟩))
abbrev Lav : Na := .pu (.p Mb Mg) (.p Mb Gz) [true, true] (fun x => Iu x.1 x.2.1)
abbrev D8 : WF := (78, Lav) :: Uaa
theorem Caq : WO D8 := Gd Bak func78
abbrev Mav : Na := .pu (.p int EG) Mg [true] (fun x => Gr x.1 x.2.1)
abbrev E8 : WF := (79, Mav) :: D8
def Y5 : Ra := ⟨39, ⟨[(5, Qa), (21, Wt), (22, Qa), (23, Qa)], []⟩, 0, ⟨[(5, Qa)], []⟩, ⟨[], []⟩, Ph⟩
def Das : WL := [(7, Y5)]
theorem Mai : Cb (WG true D8 [] [] []) Das (lp f79 0) := Ic 7 (ls := Y5) rfl
theorem Daq : WO E8 := Te Caq func79 (La Mai Oa)
abbrev Dam : Na := .pu GM Mg [true] (fun x => Gu x.1 x.2.1 x.2.2.1)
abbrev Waa : WF := (113, Dam) :: E8
def YX : Ra := ⟨33, ⟨[(1, Qa), (2, Qa), (3, Hn), (7, Qa)], [(3, Bb, Ez)]⟩, 0, ⟨[], []⟩, ⟨[(6, Qa)], []⟩, Sg⟩
def Cal : WL := [(2, YX)]
theorem Wac : Cb (WG true E8 [] [] []) Cal (lp f113 0) := Ic 2 (ls := YX) rfl
theorem Eak : WO Waa := Te Daq func113 (La Wac Oa)
abbrev Cam : Na := .pu GM Mg [true] (fun x => PC x.1 x.2.1 x.2.2.1)
abbrev Vaa : WF := (112, Cam) :: Waa
theorem Dak : WO Vaa := Gd Eak func112
abbrev Oav : Na := .pu GM Ms [true] (fun x => Uw x.1 x.2.1 x.2.2.1)
abbrev F8 : WF := (81, Oav) :: Vaa
theorem Faq : WO F8 := Gd Dak func81
abbrev Pav : Na := .pu (.p Ec (.p int (.p int (.p Cz Mg)))) Af [true, true] (fun x => Cr x.1 x.2.1 x.2.2.1 x.2.2.2.1 x.2.2.2.2.1)
abbrev Jaf : WF := (82, Pav) :: F8
def Z5 : Ra := ⟨102, ⟨[(1, Qa), (2, Qa), (4, Qa), (5, Dy), (12, Qa), (26, GC), (27, Qa), (28, Qa)], [(5, Ec, (.data Ec))]⟩, 0, ⟨[(2, Qa), (4, Qa), (5, Dy)], [(5, Ec, (.data Ec))]⟩, ⟨[(10, Qa), (11, Qa)], []⟩, Zp⟩
def Eas : WL := [(5, Z5)]
theorem Nai : Cb (WG true F8 [] [] []) Eas (lp f82 0) := Ic 5 (ls := Z5) rfl
theorem Gaq : WO Jaf := Te Faq func82 (La Nai Oa)
abbrev Eam : Na := .pu Ms Ms [true] (fun x => BA x.1)
abbrev Xaa : WF := (114, Eam) :: Jaf
theorem Fak : WO Xaa := Gd Gaq func114
abbrev Pam : Na := .pu Mg Me [true] (fun x => Ts x.1)
abbrev Fab : WF := (126, Pam) :: Xaa
theorem Qak : WO Fab := Gd Fak func126
abbrev Fam : Na := .bx false false Mb Ms Ms [true] (fun x0 x => Nn x0 x.1)
abbrev NZ : WF := (115, Fam) :: Fab
theorem Gak : WO NZ := GZ (L := []) (m := []) (v := []) (l := []) Qak func115 Oa
abbrev Qam : Na := .pu (.p Db (.p (.sl Af) .u)) Cy [true] (fun x => Ce x.1 x.2.1)
abbrev QZ : WF := (127, Qam) :: NZ
def FY : Ra := ⟨37, ⟨[(4, (.ptr 4 [])), (5, Dy), (6, HC), (15, (.data (.sl Af))), (16, Qa), (17, Qa)], [(4, Db, Pv), (5, Db, Pv)]⟩, 0, ⟨[(4, (.ptr 4 [])), (5, Dy), (6, HC)], [(4, Db, Pv), (5, Db, Pv)]⟩, ⟨[], []⟩, Xo⟩
def Jal : WL := [(4, FY)]
theorem Dad : Cb (WG true NZ [] [] []) Jal (lp f127 0) := Ic 4 (ls := FY) rfl
theorem Rak : WO QZ := Te Gak func127 (La Dad Oa)
abbrev Gam : Na := .pu (.p (.sl Rj) (.p Tl .u)) Gz [true] (fun x => Vh x.1 x.2.1)
abbrev Yaa : WF := (116, Gam) :: QZ
def ZX : Ra := ⟨74, ⟨[(5, Dy), (6, NE), (7, (.own 200002 Af true)), (22, (.data Tl)), (23, Qa), (24, Qa)], [(5, Db, (.pr Qa (.pr (.own 200003 int true) .un)))]⟩, 0, ⟨[(6, NE)], []⟩, ⟨[], []⟩, Al⟩
def Dal : WL := [(7, ZX)]
theorem Xac : Cb (WG true QZ [] [] []) Dal (lp f116 0) := Ic 7 (ls := ZX) rfl
theorem Hak : WO Yaa := Te Rak func116 (La Xac Oa)
abbrev Qav : Na := .pu (.p Mb (.p int Me)) (.p Mb Gz) [true, true] (fun x => Lg x.1 x.2.1 x.2.2.1)
abbrev Kaf : WF := (83, Qav) :: Yaa
theorem Haq : WO Kaf := Gd Hak func83
abbrev Jau : Na := .bx false false Uc .u (.p XA Me) [true, true] (fun x0 x => Kg x0)
abbrev P7 : WF := (50, Jau) :: Kaf
theorem Aap : WO P7 := GZ (L := []) (m := []) (v := []) (l := []) Haq func50 Oa
abbrev Kau : Na := .co (.p (.sl Ag) (.p int Gz)) (.p (.sl Ag) .u) [true] (fun x => OA x.1 x.2.1 x.2.2.1)
abbrev Q7 : WF := (51, Kau) :: P7
def G5 : Ra := ⟨23, ⟨[(0, FM), (1, Qa), (9, (.mov 200002 Db)), (10, Qa), (11, Qa)], []⟩, 0, ⟨[(0, FM)], []⟩, ⟨[], []⟩, Mx⟩
def Qar : WL := [(2, G5)]
theorem Vah : Cb (WG false P7 [] [] [14]) Qar (lp f51 0) := Ic 2 (ls := G5) rfl
theorem Bap : WO Q7 := wco Aap func51 (La Vah Oa)
abbrev Fat : Na := .pu (.p Uc (.p Cz Mg)) (.p Uc (.p (.sl Ag) Me)) [true, true, true] (fun x => Vs x.1 x.2.1 x.2.2.1)
abbrev Kae : WF := (21, Fat) :: Q7
def K4 : Ra := ⟨86, ⟨[(6, (.ptr 6 [])), (9, (.ptr 9 [])), (10, FM)], [(6, Uc, (.pr c4_ (.pr (.data Ec) (.pr GC (.data Nb))))), (9, Uc, C3)]⟩, 0, ⟨[(6, (.ptr 6 [])), (9, (.ptr 9 [])), (10, FM)], [(6, Uc, (.pr c4_ (.pr (.data Ec) (.pr GC (.data Nb))))), (9, Uc, C3)]⟩, ⟨[], []⟩, Ye⟩
def Ear : WL := [(9, K4)]
theorem Zag : Cb (WG true Q7 [] [] []) Ear (lp f21 0) := Ic 9 (ls := K4) rfl
theorem Xan : WO Kae := Te Bap func21 (La Zag Oa)
abbrev Nau : Na := .pu Cy Cy [true] (fun x => Ws x.1)
abbrev R7 : WF := (54, Nau) :: Kae
theorem Eap : WO R7 := Gd Xan func54
abbrev Hat : Na := .pu (.p (.sl Ag) .u) Gz [true] (fun x => Bv x.1)
abbrev F7 : WF := (23, Hat) :: R7
def N4 : Ra := ⟨20, ⟨[(3, NE), (6, (.data (.sl Ag))), (7, Qa), (8, Qa)], []⟩, 0, ⟨[(3, NE)], []⟩, ⟨[], []⟩, Ro⟩
def Far : WL := [(3, N4)]
theorem Cah : Cb (WG true R7 [] [] []) Far (lp f23 0) := Ic 3 (ls := N4) rfl
theorem Zan : WO F7 := Te Eap func23 (La Cah Oa)
abbrev Rav : Na := .pu Cy Me [true] (fun x => Dr x.1)
abbrev G8 : WF := (84, Rav) :: F7
def A6 : Ra := ⟨39, ⟨[(1, Sl), (14, (.data Zr)), (15, Qa), (16, Qa)], [(1, Db, Vt)]⟩, 0, ⟨[], []⟩, ⟨[(2, Oh)], []⟩, Bq⟩
def Fas : WL := [(4, A6)]
theorem Oai : Cb (WG true F7 [] [] []) Fas (lp f84 0) := Ic 4 (ls := A6) rfl
theorem Iaq : WO G8 := Te Zan func84 (La Oai Oa)
abbrev Lau : Na := .pu (.p Db Cy) (.p Zr .u) [true] (fun x => Iy x.1 x.2.1)
abbrev VZ : WF := (52, Lau) :: G8
def H5 : Ra := ⟨34, ⟨[(2, Hi), (5, HC), (17, (.data Zr)), (18, Qa), (19, Qa)], [(2, Db, Vt)]⟩, 0, ⟨[(5, HC)], []⟩, ⟨[], []⟩, Cs⟩
def Rar : WL := [(5, H5)]
theorem Wah : Cb (WG true G8 [] [] []) Rar (lp f52 0) := Ic 5 (ls := H5) rfl
theorem Cap : WO VZ := Te Iaq func52 (La Wah Oa)
abbrev Gat : Na := .pu (.p Db Gz) (.p .s .u) [true] (fun x => Cv x.1 x.2.1)
abbrev Lae : WF := (22, Gat) :: VZ
def M4 : Ra := ⟨34, ⟨[(2, Hi), (5, (.data .s)), (7, (.ptr 7 [])), (10, (.data XA)), (11, Qa), (12, Qa), (18, AI), (19, Qa), (20, Qa)], [(2, Db, Vt), (7, Db, Vt)]⟩, 2, ⟨[(2, Hi), (5, (.data .s)), (7, (.ptr 7 [])), (10, (.data XA)), (11, Qa), (12, Qa)], [(2, Db, Vt), (7, Db, Vt)]⟩, ⟨[], []⟩, To⟩
def L4 : Ra := ⟨34, ⟨[(2, Hi), (5, (.data .s)), (10, (.data XA)), (11, Qa), (12, Qa)], [(2, Db, Vt)]⟩, 0, ⟨[(5, (.data .s))], []⟩, ⟨[], []⟩, So⟩
def Vaf : WL := [(6, M4), (3, L4)]
theorem Bah : Cb (WG true VZ [] [] []) Vaf (lp f22 1) := Ic 6 (ls := M4) rfl
theorem Aah : Cb (WG true VZ [] [] []) Vaf (lp f22 0) := Ic 3 (ls := L4) rfl
theorem Yan : WO Lae := Te Cap func22 (La Bah (La Aah Oa))
abbrev s_8 : Na := .pu (.p Bb (.p Ec (.p .s .u))) (.p .s Me) [true, true] (fun x => Hr x.1 x.2.1 x.2.2.1)
abbrev F_8 : WF := (8, s_8) :: Lae
theorem E_8 : WO F_8 := Gd Yan func8
abbrev Wav : Na := .pu (.p Nb Ms) Me [true] (fun x => Ir x.1 x.2.1)
abbrev I8 : WF := (89, Wav) :: F_8
theorem Naq : WO I8 := Gd E_8 func89
abbrev Oau : Na := .pu (.p Qv (.p Qv .u)) Me [true] (fun x => Yo x.1 x.2.1)
abbrev S7 : WF := (55, Oau) :: I8
def I5 : Ra := ⟨27, ⟨[(0, (.data Qv)), (1, (.data Qv)), (5, Qa)], []⟩, 0, ⟨[], []⟩, ⟨[(4, Oh)], []⟩, Ux⟩
def Sar : WL := [(4, I5)]
theorem Xah : Cb (WG true I8 [] [] []) Sar (lp f55 0) := Ic 4 (ls := I5) rfl
theorem Fap : WO S7 := Te Naq func55 (La Xah Oa)
abbrev Iat : Na := .pu (.p (.sl Qv) (.p (.sl Qv) .u)) Me [true] (fun x => Bt x.1 x.2.1)
abbrev Mae : WF := (24, Iat) :: S7
def O4 : Ra := ⟨27, ⟨[(0, Dz), (1, Dz), (5, Qa)], []⟩, 0, ⟨[], []⟩, ⟨[(4, Oh)], []⟩, Mw⟩
def Gar : WL := [(4, O4)]
theorem Dah : Cb (WG true S7 [] [] []) Gar (lp f24 0) := Ic 4 (ls := O4) rfl
theorem Aao : WO Mae := Te Fap func24 (La Dah Oa)
abbrev s_9 : Na := .pu (.p Bb FG) Me [true] (fun x => Xw x.1 x.2.1)
abbrev F_9 : WF := (9, s_9) :: Mae
theorem E_9 : WO F_9 := Gd Aao func9
abbrev s_3 : Na := .pu (.p Bb (.p Ec (.p .s .u))) Me [true] (fun x => Gk x.1 x.2.1 x.2.2.1)
abbrev F_3 : WF := (3, s_3) :: F_9
theorem E_3 : WO F_3 := Gd E_9 func3
theorem TC : Mh Tryz.prog II 3 s_3 := Naj E_3 (by kernel_rfl)
end
end KF
