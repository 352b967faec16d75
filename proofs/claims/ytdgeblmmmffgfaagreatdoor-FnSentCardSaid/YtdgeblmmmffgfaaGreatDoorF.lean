/- An evaluator of Go functions on plain data, its soundness, and plain laws on what the functions compute, part 6 (conditions: as each lemma tells). -/
import Derived.Test.YtdgeblmmmffgfaaGreatDoorE
import Derived.Test.YtdgeblmmmffgfaaGreatDoorRows
set_option linter.unusedSimpArgs false
set_option linter.unusedVariables false
namespace Go.Proofs
open Go.Shelf
def Tryz.lays_strconv_Itoa_ren : Go.Shelf.Ren := ⟨fun | 171 => 44 | 243 => 94 | 246 => 148 | 283 => 188 | 284 => 189 | 285 => 190 | 286 => 191 | 129 => 218 | 317 => 217 | 318 => 219 | 319 => 220 | 320 => 221 | 337 => 237 | 338 => 238 | n => n, fun | 3 => 3 | 9 => 9 | 2 => 2 | 4 => 4 | 171 => 212 | 0 => 0 | 53 => 213 | 37 => 41 | 5 => 5 | 173 => 216 | 212 => 232 | 51 => 233 | 20 => 20 | 213 => 234 | 46 => 96 | 232 => 253 | 233 => 254 | n => n, fun | 17 => 1 | 18 => 4 | 19 => 5 | n => n⟩
theorem Tryz.lays_strconv_Itoa : Go.Proofs.LaysM.n171 Tryz.prog Tryz.lays_strconv_Itoa_ren := {
 mixed := by kernel_rfl
 f129 := Tryz.func218.trans (congrArg some (by kernel_rfl))
 f171 := Tryz.func44.trans (congrArg some (by kernel_rfl))
 f243 := Tryz.func94.trans (congrArg some (by kernel_rfl))
 f246 := Tryz.func148.trans (congrArg some (by kernel_rfl))
 f283 := Tryz.func188.trans (congrArg some (by kernel_rfl))
 f284 := Tryz.func189.trans (congrArg some (by kernel_rfl))
 f285 := Tryz.func190.trans (congrArg some (by kernel_rfl))
 f286 := Tryz.func191.trans (congrArg some (by kernel_rfl))
 f317 := Tryz.func217.trans (congrArg some (by kernel_rfl))
 f318 := Tryz.func219.trans (congrArg some (by kernel_rfl))
 f319 := Tryz.func220.trans (congrArg some (by kernel_rfl))
 f320 := Tryz.func221.trans (congrArg some (by kernel_rfl))
 f337 := Tryz.func237.trans (congrArg some (by kernel_rfl))
 f338 := Tryz.func238.trans (congrArg some (by kernel_rfl))
 t0 := Tryz.underlying0
 a0 := Tryz.isAgg0
 z0 := Tryz.sizeOf0
 v0 := Tryz.zeroValue0
 t2 := Tryz.underlying2
 a2 := Tryz.isAgg2
 z2 := Tryz.sizeOf2
 v2 := Tryz.zeroValue2
 t3 := Tryz.underlying3
 a3 := Tryz.isAgg3
 z3 := Tryz.sizeOf3
 v3 := Tryz.zeroValue3
 t4 := Tryz.underlying4
 a4 := Tryz.isAgg4
 z4 := Tryz.sizeOf4
 v4 := Tryz.zeroValue4
 t5 := Tryz.underlying5
 a5 := Tryz.isAgg5
 z5 := Tryz.sizeOf5
 v5 := Tryz.zeroValue5
 t9 := Tryz.underlying9
 a9 := Tryz.isAgg9
 z9 := Tryz.sizeOf9
 v9 := Tryz.zeroValue9
 t20 := Tryz.underlying20
 a20 := Tryz.isAgg20
 z20 := Tryz.sizeOf20
 v20 := Tryz.zeroValue20
 t37 := Tryz.underlying41
 a37 := Tryz.isAgg41
 z37 := Tryz.sizeOf41
 v37 := Tryz.zeroValue41
 t46 := Tryz.underlying96
 a46 := Tryz.isAgg96
 z46 := Tryz.sizeOf96
 v46 := Tryz.zeroValue96
 t51 := Tryz.underlying233
 a51 := Tryz.isAgg233
 z51 := Tryz.sizeOf233
 v51 := Tryz.zeroValue233
 t53 := Tryz.underlying213
 a53 := Tryz.isAgg213
 z53 := Tryz.sizeOf213
 v53 := Tryz.zeroValue213
 t171 := Tryz.underlying212
 a171 := Tryz.isAgg212
 z171 := Tryz.sizeOf212
 v171 := Tryz.zeroValue212
 t173 := Tryz.underlying216
 a173 := Tryz.isAgg216
 z173 := Tryz.sizeOf216
 v173 := Tryz.zeroValue216
 t212 := Tryz.underlying232
 a212 := Tryz.isAgg232
 z212 := Tryz.sizeOf232
 v212 := Tryz.zeroValue232
 t213 := Tryz.underlying234
 a213 := Tryz.isAgg234
 z213 := Tryz.sizeOf234
 t232 := Tryz.underlying253
 a232 := Tryz.isAgg253
 z232 := Tryz.sizeOf253
 v232 := Tryz.zeroValue253
 t233 := Tryz.underlying254
 a233 := Tryz.isAgg254
 z233 := Tryz.sizeOf254
 v233 := Tryz.zeroValue254
 g17 := by kernel_rfl
 g18 := by kernel_rfl
 g19 := by kernel_rfl
 i0 := by kernel_rfl
 i2 := by kernel_rfl
 i3 := by kernel_rfl
 i4 := by kernel_rfl
 i5 := by kernel_rfl
 i9 := by kernel_rfl
 i20 := by kernel_rfl
 i37 := by kernel_rfl
 i46 := by kernel_rfl
 i51 := by kernel_rfl
 i53 := by kernel_rfl
 i171 := by kernel_rfl
 i173 := by kernel_rfl
 i212 := by kernel_rfl
 i232 := by kernel_rfl
 i233 := by kernel_rfl
 m17 := by kernel_rfl
 m18 := by kernel_rfl
 m19 := by kernel_rfl }
def Tryz.lays_strings_Split_ren : Go.Shelf.Ren := ⟨fun | 146 => 59 | 221 => 115 | 268 => 160 | 138 => 161 | 143 => 162 | 195 => 195 | 197 => 196 | 218 => 197 | 219 => 198 | 260 => 222 | 217 => 102 | 225 => 223 | 224 => 224 | 267 => 225 | 266 => 151 | 314 => 239 | n => n, fun | 9 => 9 | 31 => 47 | 3 => 3 | 4 => 4 | 0 => 0 | 105 => 222 | 21 => 21 | 5 => 5 | 46 => 96 | 119 => 239 | 139 => 242 | 138 => 241 | 146 => 243 | 51 => 233 | n => n, fun | 1 => 0 | 3 => 2 | 4 => 3 | n => n⟩
theorem Tryz.lays_strings_Split : Go.Proofs.LaysM.n146 Tryz.prog Tryz.lays_strings_Split_ren := {
 mixed := by kernel_rfl
 f138 := Tryz.func161.trans (congrArg some (by kernel_rfl))
 f143 := Tryz.func162.trans (congrArg some (by kernel_rfl))
 f146 := Tryz.func59.trans (congrArg some (by kernel_rfl))
 f195 := Tryz.func195.trans (congrArg some (by kernel_rfl))
 f197 := Tryz.func196.trans (congrArg some (by kernel_rfl))
 f217 := Tryz.func102.trans (congrArg some (by kernel_rfl))
 f218 := Tryz.func197.trans (congrArg some (by kernel_rfl))
 f219 := Tryz.func198.trans (congrArg some (by kernel_rfl))
 f221 := Tryz.func115.trans (congrArg some (by kernel_rfl))
 f224 := Tryz.func224.trans (congrArg some (by kernel_rfl))
 f225 := Tryz.func223.trans (congrArg some (by kernel_rfl))
 f260 := Tryz.func222.trans (congrArg some (by kernel_rfl))
 f266 := Tryz.func151.trans (congrArg some (by kernel_rfl))
 f267 := Tryz.func225.trans (congrArg some (by kernel_rfl))
 f268 := Tryz.func160.trans (congrArg some (by kernel_rfl))
 f314 := Tryz.func239.trans (congrArg some (by kernel_rfl))
 t0 := Tryz.underlying0
 a0 := Tryz.isAgg0
 z0 := Tryz.sizeOf0
 v0 := Tryz.zeroValue0
 t3 := Tryz.underlying3
 a3 := Tryz.isAgg3
 z3 := Tryz.sizeOf3
 v3 := Tryz.zeroValue3
 t4 := Tryz.underlying4
 a4 := Tryz.isAgg4
 z4 := Tryz.sizeOf4
 v4 := Tryz.zeroValue4
 t5 := Tryz.underlying5
 a5 := Tryz.isAgg5
 z5 := Tryz.sizeOf5
 v5 := Tryz.zeroValue5
 t9 := Tryz.underlying9
 a9 := Tryz.isAgg9
 z9 := Tryz.sizeOf9
 v9 := Tryz.zeroValue9
 t21 := Tryz.underlying21
 a21 := Tryz.isAgg21
 z21 := Tryz.sizeOf21
 v21 := Tryz.zeroValue21
 t31 := Tryz.underlying47
 a31 := Tryz.isAgg47
 z31 := Tryz.sizeOf47
 v31 := Tryz.zeroValue47
 t46 := Tryz.underlying96
 a46 := Tryz.isAgg96
 z46 := Tryz.sizeOf96
 v46 := Tryz.zeroValue96
 t51 := Tryz.underlying233
 a51 := Tryz.isAgg233
 z51 := Tryz.sizeOf233
 v51 := Tryz.zeroValue233
 t105 := Tryz.underlying222
 a105 := Tryz.isAgg222
 z105 := Tryz.sizeOf222
 v105 := Tryz.zeroValue222
 t119 := Tryz.underlying239
 a119 := Tryz.isAgg239
 z119 := Tryz.sizeOf239
 t138 := Tryz.underlying241
 a138 := Tryz.isAgg241
 z138 := Tryz.sizeOf241
 v138 := Tryz.zeroValue241
 t139 := Tryz.underlying242
 a139 := Tryz.isAgg242
 z139 := Tryz.sizeOf242
 v139 := Tryz.zeroValue242
 t146 := Tryz.underlying243
 a146 := Tryz.isAgg243
 z146 := Tryz.sizeOf243
 v146 := Tryz.zeroValue243
 g1 := by kernel_rfl
 g3 := by kernel_rfl
 g4 := by kernel_rfl
 i0 := by kernel_rfl
 i3 := by kernel_rfl
 i4 := by kernel_rfl
 i5 := by kernel_rfl
 i9 := by kernel_rfl
 i21 := by kernel_rfl
 i31 := by kernel_rfl
 i46 := by kernel_rfl
 i51 := by kernel_rfl
 i105 := by kernel_rfl
 i138 := by kernel_rfl
 i139 := by kernel_rfl
 i146 := by kernel_rfl
 m1 := by kernel_rfl
 s1_3 := fun w h => Go.Proofs.cell_of_shapedOpen_int (zero := #[.int .i64 0]) (t := 3) h (of_decide_eq_true (by kernel_rfl)) (by kernel_rfl) rfl (by kernel_rfl) (by kernel_rfl) Tryz.underlying3
 m3 := by kernel_rfl
 m4 := by kernel_rfl }
def Tryz.lays_strings_Join_ren : Go.Shelf.Ren := ⟨fun | 156 => 48 | 165 => 97 | 166 => 98 | 169 => 99 | 240 => 149 | 241 => 150 | 276 => 192 | 277 => 193 | n => n, fun | 31 => 47 | 9 => 9 | 3 => 3 | 4 => 4 | 0 => 0 | 20 => 20 | 72 => 140 | 76 => 144 | 70 => 138 | 37 => 41 | 75 => 143 | 127 => 183 | 164 => 218 | 5 => 5 | 80 => 146 | n => n, fun | n => n⟩
theorem Tryz.lays_strings_Join : Go.Proofs.Lays.n156 Tryz.prog Tryz.lays_strings_Join_ren := {
 mixed := by kernel_rfl
 f156 := Tryz.func48.trans (congrArg some (by kernel_rfl))
 f165 := Tryz.func97.trans (congrArg some (by kernel_rfl))
 f166 := Tryz.func98.trans (congrArg some (by kernel_rfl))
 f169 := Tryz.func99.trans (congrArg some (by kernel_rfl))
 f240 := Tryz.func149.trans (congrArg some (by kernel_rfl))
 f241 := Tryz.func150.trans (congrArg some (by kernel_rfl))
 f276 := Tryz.func192.trans (congrArg some (by kernel_rfl))
 f277 := Tryz.func193.trans (congrArg some (by kernel_rfl))
 t0 := Tryz.underlying0
 a0 := Tryz.isAgg0
 z0 := Tryz.sizeOf0
 v0 := Tryz.zeroValue0
 t3 := Tryz.underlying3
 a3 := Tryz.isAgg3
 z3 := Tryz.sizeOf3
 v3 := Tryz.zeroValue3
 t4 := Tryz.underlying4
 a4 := Tryz.isAgg4
 z4 := Tryz.sizeOf4
 v4 := Tryz.zeroValue4
 t9 := Tryz.underlying9
 a9 := Tryz.isAgg9
 z9 := Tryz.sizeOf9
 v9 := Tryz.zeroValue9
 t20 := Tryz.underlying20
 a20 := Tryz.isAgg20
 z20 := Tryz.sizeOf20
 v20 := Tryz.zeroValue20
 t31 := Tryz.underlying47
 a31 := Tryz.isAgg47
 z31 := Tryz.sizeOf47
 v31 := Tryz.zeroValue47
 t37 := Tryz.underlying41
 a37 := Tryz.isAgg41
 z37 := Tryz.sizeOf41
 v37 := Tryz.zeroValue41
 t70 := Tryz.underlying138
 a70 := Tryz.isAgg138
 z70 := Tryz.sizeOf138
 v70 := Tryz.zeroValue138
 t72 := Tryz.underlying140
 a72 := Tryz.isAgg140
 z72 := Tryz.sizeOf140
 v72 := Tryz.zeroValue140
 t75 := Tryz.underlying143
 a75 := Tryz.isAgg143
 z75 := Tryz.sizeOf143
 v75 := Tryz.zeroValue143
 t76 := Tryz.underlying144
 a76 := Tryz.isAgg144
 z76 := Tryz.sizeOf144
 v76 := Tryz.zeroValue144
 t127 := Tryz.underlying183
 a127 := Tryz.isAgg183
 z127 := Tryz.sizeOf183
 v127 := Tryz.zeroValue183
 t164 := Tryz.underlying218
 a164 := Tryz.isAgg218
 z164 := Tryz.sizeOf218
 v164 := Tryz.zeroValue218 }
theorem Tryz.extra_strings_Join : Builder.Extra Tryz.prog Tryz.lays_strings_Join_ren := {
 sizeBuilder := by kernel_rfl
 liesBuilder := by kernel_rfl
 t5 := by kernel_rfl
 a5 := by intro _; kernel_rfl
 z5 := by intro _; kernel_rfl
 v5 := by intro _; kernel_rfl
 infoByte := by kernel_rfl
 cellsByte := by kernel_rfl
 sizeByte := by kernel_rfl
 neB5 := by decide }
def Tryz.lays_strings_IndexByte_ren : Go.Shelf.Ren := ⟨fun | 137 => 52 | 217 => 102 | 266 => 151 | n => n, fun | 9 => 9 | 5 => 5 | 3 => 3 | n => n, fun | n => n⟩
theorem Tryz.lays_strings_IndexByte : Go.Proofs.Lays.n137 Tryz.prog Tryz.lays_strings_IndexByte_ren := {
 mixed := by kernel_rfl
 f137 := Tryz.func52.trans (congrArg some (by kernel_rfl))
 f217 := Tryz.func102.trans (congrArg some (by kernel_rfl))
 f266 := Tryz.func151.trans (congrArg some (by kernel_rfl))
 t3 := Tryz.underlying3
 a3 := Tryz.isAgg3
 z3 := Tryz.sizeOf3
 v3 := Tryz.zeroValue3
 t5 := Tryz.underlying5
 a5 := Tryz.isAgg5
 z5 := Tryz.sizeOf5
 v5 := Tryz.zeroValue5
 t9 := Tryz.underlying9
 a9 := Tryz.isAgg9
 z9 := Tryz.sizeOf9
 v9 := Tryz.zeroValue9 }
end Go.Proofs
namespace KF
open Go Go.Proofs Go.Proofs.Tryz
def GT : List (Nat × Ty) := [(3, int), (4, .b), (5, Zo), (9, .s), (22, (.sl (.sl Lc))), (24, Qb), (25, (.sl (.sl Xc))), (26, (.sl Oj)), (28, Ub), (30, Xc), (31, (.sl Xi)), (33, Dc), (34, (.sl Pg)), (41, (.sl Zo)), (47, (.sl .s)), (49, (.sl int)), (51, Hb), (53, Pg), (57, (.sl Hb)), (83, Xi), (97, (.sl Lc)), (100, Lc), (116, Oe), (126, Oj), (156, (.sl Xc)), (185, Xc), (207, (.sl Df)), (209, Df)]
def GA : List (Nat × Ty × Nat) := []
theorem Vao : ((GT.all fun x => Id Tryz.prog x.2 x.1) && (GA.all fun x => UM Tryz.prog x.1 x.2.1 x.2.2)) = true := by kernel_rfl
theorem QS : Tryz.prog.follows .mixedOrders = true := by kernel_rfl
noncomputable abbrev II : Ag := Mab Tryz.prog (Tryz.lays_strings_Split_ren.g 1) (Tryz.lays_strconv_Itoa_ren.g 17) "internal/strconv.uint64pow10" .u64 Lib.pow10Tab Tryz.lays_strconv_Itoa.m17
noncomputable section
abbrev WP : Program := Tryz.prog
abbrev WF := List (Nat × Sa)
abbrev WL := List (Nat × Ua)
abbrev WG (z : Bool) (fs : WF) (m : List (Nat × Nat)) (v l : List Nat) : Ke := ⟨GT, fs, m, z, GA, v, l⟩
def WO (fs : WF) : Prop := ∀ z m v l, Uh WP II (WG z fs m v l)
theorem Uay : WO [] := fun _ _ _ _ => BT Vao
theorem wc {f : Nat} {s : Sa} {fs : WF} (e : WO fs) (h : Og WP II f s) : WO ((f, s) :: fs) := fun z m v l => Uh.cons h (e z m v l)
theorem Gam {f : Nat} {s : Sa} {fs : WF} (e : WO fs) (h : Lb fs f = some s) : Og WP II f s := (e true [] [] []).fn f s h
theorem Uc {z : Bool} {fs : WF} {m : List (Nat × Nat)} {v l : List Nat} {L : WL} {fn : Func} {i : Nat} (r : Nat) {ls : Ua} {R : ls.inT.X → Option (ls.inT.X ⊕ (ls.outT.X ⊕ ls.retT.X))}
 (h3 : ls.F = Mb R) (h1 : Gj (lp fn i) = some r := by kernel_rfl) (h2 : (Lb L r) = some ls := by kernel_rfl) (h4 : ∀ x, UE (WG z fs m v l) L ls (lp fn i) x = R x := by intro _; kernel_rfl) : Cb (WG z fs m v l) L (lp fn i) := NT h1 h2 h3 h4
theorem We {f : Nat} {fn : Func} {pt rt : Ty} {fr : List Bool} {F : T pt → Option (T rt)} {fs : WF} (e : WO fs) (hf : WP.funcs[f]? = some fn)
 (hb : (fn.body.isSome && !(fn.name == "runtime.NumGoroutine") && Nat.ble pt.npar fn.ntmps && Nat.beq (Wd (fn.body.getD .skip)).length 0) = true := by kernel_rfl)
 (hF : ∀ x, T6 (WG true fs [] [] []) [] fn pt rt fr x = F x := by intro _; kernel_rfl) : WO ((f, .pu pt rt fr F) :: fs) := wc e (DK (e _ _ _ _) QS hf hb Ma hF)
theorem Jg {k : Nat} {L : WL} {m : List (Nat × Nat)} {v l : List Nat} {f : Nat} {fn : Func} {pt rt : Ty} {fr : List Bool} {F : T pt → Option (T rt)} {fs : WF} (e : WO fs) (hf : WP.funcs[f]? = some fn) (hL : ∀ i, i < k → Cb (WG true fs m v l) L (lp fn i))
 (hb : (fn.body.isSome && !(fn.name == "runtime.NumGoroutine") && Nat.ble pt.npar fn.ntmps && Nat.beq (Wd (fn.body.getD .skip)).length k) = true := by kernel_rfl)
 (hF : ∀ x, T6 (WG true fs m v l) L fn pt rt fr x = F x := by intro _; kernel_rfl) : WO ((f, .pu pt rt fr F) :: fs) := wc e (DK (e _ _ _ _) QS hf hb hL hF)
theorem wco {k : Nat} {L : WL} {m : List (Nat × Nat)} {v l : List Nat} {f : Nat} {fn : Func} {pt rt : Ty} {fr : List Bool} {F : T pt → Option (T rt)} {fs : WF} (e : WO fs) (hf : WP.funcs[f]? = some fn) (hL : ∀ i, i < k → Cb (WG false fs m v l) L (lp fn i))
 (hb : (fn.body.isSome && !(fn.name == "runtime.NumGoroutine") && Nat.ble pt.npar fn.ntmps && Nat.beq (Wd (fn.body.getD .skip)).length k) = true := by kernel_rfl)
 (hF : ∀ x, FV (WG false fs m v l) L fn pt rt fr x = F x := by intro _; kernel_rfl) : WO ((f, .co pt rt fr F) :: fs) := wc e (E9 (e _ _ _ _) rfl QS hf hb hL hF)
theorem Xy {k : Nat} {L : WL} {m : List (Nat × Nat)} {v l : List Nat} {f : Nat} {fn : Func} {vw cv : Bool} {τ pt rt : Ty} {fr : List Bool} {F : T τ → T pt → Option (T τ × T rt)} {fs : WF} (e : WO fs) (hf : WP.funcs[f]? = some fn) (hL : ∀ i, i < k → Cb (WG false fs m v l) L (lp fn i))
 (hb : (fn.body.isSome && !(fn.name == "runtime.NumGoroutine") && Nat.ble (pt.npar + 1) fn.ntmps && Nat.beq (Wd (fn.body.getD .skip)).length k) = true := by kernel_rfl)
 (hF : ∀ x0 x, EV (WG false fs m v l) L fn vw cv τ pt rt fr x0 x = F x0 x := by intro _ _; kernel_rfl) : WO ((f, .bx vw cv τ pt rt fr F) :: fs) := wc e (C9 (e _ _ _ _) rfl QS hf hb hL hF)
theorem wnw {k : Nat} {L : WL} {m : List (Nat × Nat)} {v l : List Nat} {f : Nat} {fn : Func} {pt τ : Ty} {F : T pt → Option (T τ)} {fs : WF} (e : WO fs) (hf : WP.funcs[f]? = some fn) (hL : ∀ i, i < k → Cb (WG true fs m v l) L (lp fn i))
 (hb : (fn.body.isSome && !(fn.name == "runtime.NumGoroutine") && Nat.ble pt.npar fn.ntmps && Nat.beq (Wd (fn.body.getD .skip)).length k) = true := by kernel_rfl)
 (hF : ∀ x, GV (WG true fs m v l) L fn pt τ x = F x := by intro _; kernel_rfl) : WO ((f, .nw pt τ F) :: fs) := wc e (F9 (e _ _ _ _) QS hf hb hL hF)
theorem Fav : ∀ w, II.p w → ∃ m, w.cell? ⟨Tryz.lays_strings_Split_ren.g 1, 0, none⟩ = some (.int .i64 m) := fun _ h => h.1
theorem Gav : ∀ w, II.p w → Lib.TabIs Tryz.prog w "internal/strconv.uint64pow10" .u64 Lib.pow10Tab := fun _ h => h.2
abbrev Ra : TD := .data int
abbrev US : TD := .pr Ra (.pr (.own 200001 (.sl Lc) true) .un)
abbrev Bg : Ty := .p int .u
abbrev Wf : Ty := .p .b .u
abbrev Tt : TD := .data (.sl Oj)
abbrev Hw : TD := .ptr 500000 []
abbrev Ov : Ty := .p Lc .u
abbrev Am : Ty := .sl Xi
abbrev OB : TD := .own 200001 int true
abbrev Dk : Ty := .sl Xc
abbrev B6 : TD := .pr (.pr (.pr Ra (.pr (.own 200002 (.sl Lc) true) .un)) (.pr (.own 200003 Dk true) (.pr Ra (.pr (.own 200004 Oj true) (.data (.p int Wf)))))) (.pr (.data Xc) (.pr (.own 200005 Xi true) (.data Lc)))
abbrev YG : Ty := .sl Hb
abbrev Rj : TD := .data .b
abbrev Bm : TD := .ptr 1 []
abbrev Cm : TD := .ptr 2 []
abbrev ZG : TD := .data (.sl (.sl Lc))
abbrev A6 : TD := .pr (.pr Ra (.pr ZG .un)) (.pr (.data (.sl Dk)) (.pr Ra (.pr Tt (.data (.p int Wf)))))
abbrev W3 : TD := .pr A6 (.pr (.data Xc) (.pr (.data Am) (.data Lc)))
abbrev Rv : TD := .data Oe
abbrev QI : TD := .own 200001 Hb true
abbrev Mn : TD := .ptr 4 []
abbrev Hq : TD := .ptr 3 []
abbrev Ez : Ty := .p Hb .u
abbrev EF : Ty := .p int (.p .o .u)
abbrev PB : TD := .data Ub
abbrev QB : TD := .data Hb
abbrev AH : Ty := .p (.sl Oj) .u
abbrev VM : TD := .own 200001 Pg true
abbrev Sv : TD := .ptr 5 []
abbrev FF : TD := .data Qb
abbrev WM : TD := .own 200001 .s true
abbrev Qaa : TD := .pr Ra (.pr (.own 200102 (.sl Lc) true) .un)
abbrev Raa : TD := .pr Ra (.pr (.own 200103 (.sl Lc) true) .un)
abbrev Yaj : TD := .pr US (.pr (.own 200002 Dk true) (.pr Ra (.pr (.own 200003 Oj true) (.data (.p int Wf)))))
abbrev Dx : Ty := .p .s .u
abbrev Rt : Ty := .sl int
abbrev Nv : TD := .pr Ra (.pr (.data Rt) .un)
abbrev VC : Ty := .p YG .u
abbrev RI : Ty := .p Ub .u
abbrev Zaj : TD := .pr US (.pr (.own 200002 Dk true) (.data (.p int (.p (.sl Oj) (.p int Wf)))))
abbrev Kaw : Sa := .pu (.p (.sl Zo) .u) Wf [true] (fun x => Qz x.1)
abbrev M9 : WF := (10, Kaw) :: ([] : WF)
theorem Was : WO M9 := We Uay func10
abbrev Yax : Sa := .nw (.p (.sl Zo) .u) Oe (fun x => MC x.1)
abbrev Aaj : WF := (76, Yax) :: M9
def I8 : Ua := ⟨32, ⟨[(0, (.data (.sl Zo))), (3, Ra), (4, Ra)], []⟩, 0, ⟨[(0, (.data (.sl Zo))), (3, Ra)], []⟩, ⟨[], []⟩, Cw⟩
def Uav : WL := [(3, I8)]
theorem Fal : Cb (WG true M9 [] [] []) Uav (lp f76 0) := Uc 3 (ls := I8) rfl
theorem Lau : WO Aaj := wnw Was func76 (Oa Fal Ma)
abbrev Xaw : Sa := .nw (.p (.sl Zo) Bg) Oe (fun x => TA x.1 x.2.1)
abbrev Jai : WF := (32, Xaw) :: Aaj
theorem Jat : WO Jai := wnw (L := []) (m := []) (v := []) (l := []) Lau func32 Ma
abbrev Cay : Sa := .bx true false Oe .u Bg [true] (fun x0 x => Al x0)
abbrev Caj : WF := (80, Cay) :: Jai
theorem Pau : WO Caj := Xy (L := []) (m := []) (v := []) (l := []) Jat func80 Ma
abbrev Zaw : Sa := .bx true false Oe Bg Bg [true] (fun x0 x => Bb x0 x.1)
abbrev Kai : WF := (34, Zaw) :: Caj
theorem Lat : WO Kai := Xy (L := []) (m := []) (v := []) (l := []) Pau func34 Ma
abbrev Fay : Sa := .bx true true Oe (.p Rt .u) Bg [true] (fun x0 x => Fj x0 x.1)
abbrev Eaj : WF := (83, Fay) :: Kai
theorem Sau : WO Eaj := Xy (L := []) (m := []) (v := []) (l := []) Lat func83 Ma
abbrev Paq : Sa := .bx true false Oe Bg Wf [true] (fun x0 x => Bl x0 x.1)
abbrev E2 : WF := (133, Paq) :: Eaj
theorem Xam : WO E2 := Xy (L := []) (m := []) (v := []) (l := []) Sau func133 Ma
abbrev Lar : Sa := .bx true false Oe .u (.p Dk .u) [true] (fun x0 x => YA x0)
abbrev Wad : WF := (179, Lar) :: E2
def E0 : Ua := ⟨41, ⟨[(0, Hw), (3, (.own 200001 Xc true)), (4, Ra)], [(500000, Oe, Rv)]⟩, 0, ⟨[(0, Hw), (3, (.own 200001 Xc true))], [(500000, Oe, Rv)]⟩, ⟨[], []⟩, Xu⟩
def Lap : WL := [(3, E0)]
theorem Sag : Cb (WG false E2 [] [] []) Lap (lp f179 0) := Uc 3 (ls := E0) rfl
theorem Tan : WO Wad := Xy Xam func179 (Oa Sag Ma)
abbrev Tar : Sa := .bx true false Oe Bg Ov [true] (fun x0 x => UA x0 x.1)
abbrev TU : WF := (207, Tar) :: Wad
theorem Bao : WO TU := Xy (L := []) (m := []) (v := []) (l := []) Tan func207 Ma
abbrev Mar : Sa := .bx true false Oe Bg (.p Qb .u) [true] (fun x0 x => WA x0 x.1)
abbrev Xad : WF := (180, Mar) :: TU
def H0 : Ua := ⟨48, ⟨[(0, Hw), (1, Ra), (4, Mn), (5, Ra), (6, (.ptr 6 [])), (7, Ra), (8, (.own 200101 Lc true)), (9, Ra)], [(500000, Oe, Rv), (4, Qb, Qaa), (6, Qb, Raa)]⟩, 2, ⟨[(0, Hw), (1, Ra), (4, Mn), (5, Ra), (6, (.ptr 6 [])), (7, Ra), (8, (.own 200101 Lc true))], [(500000, Oe, Rv), (4, Qb, Qaa), (6, Qb, Raa)]⟩, ⟨[], []⟩, Wu⟩
def G0 : Ua := ⟨48, ⟨[(0, Hw), (1, Ra), (4, Mn), (5, Ra), (6, (.ptr 6 [])), (7, Ra)], [(500000, Oe, Rv), (4, Qb, US), (6, Qb, (.pr Ra (.pr (.own 200002 (.sl Lc) true) .un)))]⟩, 0, ⟨[(0, Hw), (4, Mn), (6, (.ptr 6 []))], [(500000, Oe, Rv), (4, Qb, US), (6, Qb, (.pr Ra (.pr (.own 200002 (.sl Lc) true) .un)))]⟩, ⟨[], []⟩, Vu⟩
def Nae : WL := [(8, H0), (4, G0)]
theorem Uag : Cb (WG false TU [] [] []) Nae (lp f180 1) := Uc 8 (ls := H0) rfl
theorem Tag : Cb (WG false TU [] [] []) Nae (lp f180 0) := Uc 4 (ls := G0) rfl
theorem Uan : WO Xad := Xy Bao func180 (Oa Uag (Oa Tag Ma))
abbrev Faq : Sa := .pu Xc Wf [true] (fun x => Qc x.1 x.2.1 x.2.2.1)
abbrev Ead : WF := (109, Faq) :: Xad
theorem Nam : WO Ead := We Uan func109
abbrev Eaq : Sa := .pu Ov Wf [true] (fun x => Ni x.1)
abbrev NU : WF := (108, Eaq) :: Ead
theorem Mam : WO NU := We Nam func108
abbrev Sax : Sa := .pu (.p Qb .u) Wf [true] (fun x => Tr x.1)
abbrev Vai : WF := (55, Sax) :: NU
def C8 : Ua := ⟨74, ⟨[(1, Bm), (3, Ra), (4, Ra)], [(1, Qb, FF)]⟩, 2, ⟨[(1, Bm), (3, Ra)], [(1, Qb, FF)]⟩, ⟨[(2, Rj)], []⟩, Tk⟩
def B8 : Ua := ⟨74, ⟨[(1, Bm), (3, Ra)], [(1, Qb, FF)]⟩, 0, ⟨[(1, Bm)], [(1, Qb, FF)]⟩, ⟨[(2, Rj)], []⟩, Sk⟩
def Oaj : WL := [(7, C8), (2, B8)]
theorem Zak : Cb (WG true NU [] [] []) Oaj (lp f55 1) := Uc 7 (ls := C8) rfl
theorem Yak : Cb (WG true NU [] [] []) Oaj (lp f55 0) := Uc 2 (ls := B8) rfl
theorem Fau : WO Vai := Jg Mam func55 (Oa Zak (Oa Yak Ma))
abbrev Ear : Sa := .pu Ov Wf [true] (fun x => Ej x.1)
abbrev L2 : WF := (155, Ear) :: Vai
theorem Man : WO L2 := We Fau func155
abbrev Gaq : Sa := .pu AH Wf [true] (fun x => Wn x.1)
abbrev B2 : WF := (110, Gaq) :: L2
def PZ : Ua := ⟨57, ⟨[(0, Tt), (3, Ra), (4, Ra)], []⟩, 0, ⟨[], []⟩, ⟨[(2, Rj)], []⟩, Pu⟩
def Xao : WL := [(3, PZ)]
theorem Dag : Cb (WG true L2 [] [] []) Xao (lp f110 0) := Uc 3 (ls := PZ) rfl
theorem Oam : WO B2 := Jg Man func110 (Oa Dag Ma)
abbrev Far : Sa := .pu (.p (.sl Oj) (.p Xc .u)) Bg [true] (fun x => Cl x.1 x.2.1)
abbrev Sad : WF := (156, Far) :: B2
def D0 : Ua := ⟨33, ⟨[(0, Tt), (3, Hq), (5, Ra)], [(3, Xc, (.data Xc))]⟩, 0, ⟨[], []⟩, ⟨[(4, Ra)], []⟩, Yu⟩
def Kap : WL := [(2, D0)]
theorem Rag : Cb (WG true B2 [] [] []) Kap (lp f156 0) := Uc 2 (ls := D0) rfl
theorem Nan : WO Sad := Jg Oam func156 (Oa Rag Ma)
abbrev Gar : Sa := .pu (.p Xc .u) Ov [true] (fun x => Lm x.1)
abbrev Tad : WF := (157, Gar) :: Sad
theorem Oan : WO Tad := We Nan func157
abbrev Har : Sa := .pu (.p (.sl Oj) Bg) AH [true] (fun x => Hf x.1 x.2.1)
abbrev M2 : WF := (158, Har) :: Tad
theorem Pan : WO M2 := We Oan func158
abbrev Haq : Sa := .pu (.p Dk .u) Wf [true] (fun x => Qu x.1)
abbrev OU : WF := (111, Haq) :: M2
def QZ : Ua := ⟨62, ⟨[(0, (.data Dk)), (3, (.own 200001 Oj true)), (4, Ra)], []⟩, 0, ⟨[(0, (.data Dk)), (3, (.own 200001 Oj true))], []⟩, ⟨[(2, Rj)], []⟩, Hs⟩
def Yao : WL := [(3, QZ)]
theorem Eag : Cb (WG true M2 [] [] []) Yao (lp f111 0) := Uc 3 (ls := QZ) rfl
theorem Pam : WO OU := Jg Pan func111 (Oa Eag Ma)
abbrev Tax : Sa := .pu RI Wf [true] (fun x => Hk x.1)
abbrev Caa : WF := (56, Tax) :: OU
def D8 : Ua := ⟨96, ⟨[(1, Bm), (3, Ra)], [(1, Ub, PB)]⟩, 0, ⟨[(1, Bm)], [(1, Ub, PB)]⟩, ⟨[(2, Rj)], []⟩, Qk⟩
def E8 : Ua := ⟨96, ⟨[(1, Bm), (4, Ra)], [(1, Ub, PB)]⟩, 2, ⟨[(1, Bm)], [(1, Ub, PB)]⟩, ⟨[(2, Rj)], []⟩, Rk⟩
def Paj : WL := [(4, D8), (9, E8)]
theorem Aal : Cb (WG true OU [] [] []) Paj (lp f56 0) := Uc 4 (ls := D8) rfl
theorem Bal : Cb (WG true OU [] [] []) Paj (lp f56 1) := Uc 9 (ls := E8) rfl
theorem Gau : WO Caa := Jg Pam func56 (Oa Bal (Oa Aal Ma))
abbrev Iaq : Sa := .pu (.p Qb .u) (.p Qb .u) [true] (fun x => VA x.1)
abbrev C2 : WF := (112, Iaq) :: Caa
def RZ : Ua := ⟨28, ⟨[(1, Bm), (2, Cm), (3, Hq), (4, Ra)], [(1, Qb, FF), (2, Qb, (.pr Ra (.pr ZG .un))), (3, Qb, US)]⟩, 0, ⟨[(2, Cm), (3, Hq)], [(2, Qb, (.pr Ra (.pr ZG .un))), (3, Qb, US)]⟩, ⟨[], []⟩, Uu⟩
def Zao : WL := [(3, RZ)]
theorem Fag : Cb (WG true Caa [] [] []) Zao (lp f112 0) := Uc 3 (ls := RZ) rfl
theorem Qam : WO C2 := Jg Gau func112 (Oa Fag Ma)
abbrev Uax : Sa := .pu RI RI [true] (fun x => Nj x.1)
abbrev Wai : WF := (57, Uax) :: C2
def F8 : Ua := ⟨37, ⟨[(1, Bm), (2, Cm), (3, Hq), (4, Ra)], [(1, Ub, PB), (2, Ub, A6), (3, Ub, Zaj)]⟩, 0, ⟨[(1, Bm), (2, Cm), (3, Hq)], [(1, Ub, PB), (2, Ub, A6), (3, Ub, Zaj)]⟩, ⟨[], []⟩, Zu⟩
def Tav : WL := [(5, F8)]
theorem Cal : Cb (WG true C2 [] [] []) Tav (lp f57 0) := Uc 5 (ls := F8) rfl
theorem Hau : WO Wai := Jg Qam func57 (Oa Cal Ma)
abbrev Vaw : Sa := .pu (.p Qb (.p (.sl Dk) .u)) (.p Ub Wf) [true, true] (fun x => Kv x.1 x.2.1)
abbrev T9 : WF := (22, Vaw) :: Wai
theorem Hat : WO T9 := We Hau func22
abbrev Oaq : Sa := .bx true false Oe Bg RI [true] (fun x0 x => NC x0 x.1)
abbrev Iad : WF := (132, Oaq) :: T9
def VZ : Ua := ⟨30, ⟨[(0, Hw), (1, Ra), (4, Mn), (5, (.own 200001 Dk true)), (6, Ra)], [(500000, Oe, Rv), (4, Ub, A6)]⟩, 0, ⟨[(0, Hw), (1, Ra), (4, Mn), (5, (.own 200001 Dk true))], [(500000, Oe, Rv), (4, Ub, A6)]⟩, ⟨[], []⟩, Ew⟩
def Dap : WL := [(3, VZ)]
theorem Jag : Cb (WG false T9 [] [] []) Dap (lp f132 0) := Uc 3 (ls := VZ) rfl
theorem Wam : WO Iad := Xy Hat func132 (Oa Jag Ma)
abbrev Qaq : Sa := .bx true false Oe .u (.p Xc .u) [true] (fun x0 x => Tz x0)
abbrev Jad : WF := (134, Qaq) :: Iad
theorem Yam : WO Jad := Xy (L := []) (m := []) (v := []) (l := []) Wam func134 Ma
abbrev Jaq : Sa := .pu (.p Xc .u) Wf [true] (fun x => Ur x.1)
abbrev Fad : WF := (113, Jaq) :: Jad
theorem Ram : WO Fad := We Yam func113
abbrev Eay : Sa := .pu Bg Bg [true] (fun x => Yr x.1)
abbrev Faa : WF := (82, Eay) :: Fad
theorem Rau : WO Faa := We Ram func82
abbrev Day : Sa := .pu RI Bg [true] (fun x => Vp x.1)
abbrev Daj : WF := (81, Day) :: Faa
def L8 : Ua := ⟨22, ⟨[(1, Bm), (3, Ra), (4, Ra)], [(1, Ub, PB)]⟩, 0, ⟨[(3, Ra)], []⟩, ⟨[], []⟩, Is⟩
def Xav : WL := [(3, L8)]
theorem Ial : Cb (WG true Faa [] [] []) Xav (lp f81 0) := Uc 3 (ls := L8) rfl
theorem Qau : WO Daj := Jg Rau func81 (Oa Ial Ma)
abbrev Iar : Sa := .pu (.p Xi .u) Wf [true] (fun x => Ou x.1)
abbrev N2 : WF := (159, Iar) :: Daj
theorem Qan : WO N2 := We Qau func159
abbrev Kaq : Sa := .pu (.p Am Xc) Wf [true] (fun x => En x.1 x.2.1 x.2.2.1 x.2.2.2.1)
abbrev Gad : WF := (114, Kaq) :: N2
def SZ : Ua := ⟨73, ⟨[(0, (.data Am)), (1, Ra), (2, Ra), (3, Ra), (9, Ra)], []⟩, 0, ⟨[(0, (.data Am))], []⟩, ⟨[(8, Rj)], []⟩, Yn⟩
def Aap : WL := [(2, SZ)]
theorem Gag : Cb (WG true N2 [] [] []) Aap (lp f114 0) := Uc 2 (ls := SZ) rfl
theorem Sam : WO Gad := Jg Qan func114 (Oa Gag Ma)
abbrev Vax : Sa := .pu (.p Dc .u) Wf [true] (fun x => Sp x.1)
abbrev Xai : WF := (58, Vax) :: Gad
theorem Iau : WO Xai := We Sam func58
abbrev Waw : Sa := .pu (.p Ub (.p Xc .u)) (.p Dc Wf) [true, true] (fun x => An x.1 x.2.1)
abbrev U9 : WF := (23, Waw) :: Xai
theorem Iat : WO U9 := We Iau func23
abbrev Zax : Sa := .bx true false Oe Bg (.p Dc .u) [true] (fun x0 x => SA x0 x.1)
abbrev Daa : WF := (77, Zax) :: U9
def J8 : Ua := ⟨41, ⟨[(0, Hw), (1, Ra), (4, Mn), (5, Sv), (6, Ra)], [(500000, Oe, Rv), (4, Dc, W3), (5, Ub, Yaj)]⟩, 0, ⟨[(0, Hw), (4, Mn), (5, Sv)], [(500000, Oe, Rv), (4, Dc, W3), (5, Ub, Yaj)]⟩, ⟨[], []⟩, Su⟩
def Vav : WL := [(3, J8)]
theorem Gal : Cb (WG false U9 [(4999, 200001)] [] []) Vav (lp f77 0) := Uc 3 (ls := J8) rfl
theorem Mau : WO Daa := Xy Iat func77 (Oa Gal Ma)
abbrev Aay : Sa := .bx true false Oe Xc (.p Am .u) [true] (fun x0 x => Pw x0 x.1 x.2.1 x.2.2.1)
abbrev Eaa : WF := (78, Aay) :: Daa
def K8 : Ua := ⟨56, ⟨[(0, Hw), (1, Ra), (3, Ra), (9, (.own 200001 Xi true)), (10, Ra), (11, Ra), (12, Ra)], [(500000, Oe, Rv)]⟩, 0, ⟨[(0, Hw), (9, (.own 200001 Xi true))], [(500000, Oe, Rv)]⟩, ⟨[], []⟩, Tu⟩
def Wav : WL := [(5, K8)]
theorem Hal : Cb (WG false Daa [] [] []) Wav (lp f78 0) := Uc 5 (ls := K8) rfl
theorem Nau : WO Eaa := Xy Mau func78 (Oa Hal Ma)
abbrev Var : Sa := .pu (.p int AH) Bg [true] (fun x => Vr x.1 x.2.1)
abbrev U2 : WF := (209, Var) :: Eaa
def M0 : Ua := ⟨38, ⟨[(1, Tt), (5, Ra), (6, Ra)], []⟩, 0, ⟨[(5, Ra)], []⟩, ⟨[], []⟩, Uk⟩
def Pap : WL := [(5, M0)]
theorem Yag : Cb (WG true Eaa [] [] []) Pap (lp f209 0) := Uc 5 (ls := M0) rfl
theorem Dao : WO U2 := Jg Nau func209 (Oa Yag Ma)
abbrev Das : Sa := .pu (.p Qb Df) Bg [true] (fun x => My x.1 x.2.1 x.2.2.1)
abbrev Fae : WF := (229, Das) :: U2
def U0 : Ua := ⟨45, ⟨[(1, Ra), (2, Ra), (3, Hq), (7, Ra)], [(3, Qb, FF)]⟩, 0, ⟨[], []⟩, ⟨[(6, Ra)], []⟩, Ih⟩
def Uap : WL := [(4, U0)]
theorem Eah : Cb (WG true U2 [] [] []) Uap (lp f229 0) := Uc 4 (ls := U0) rfl
theorem Lao : WO Fae := Jg Dao func229 (Oa Eah Ma)
abbrev Uar : Sa := .pu (.p Qb Df) Ov [true] (fun x => Sr x.1 x.2.1 x.2.2.1)
abbrev T2 : WF := (208, Uar) :: Fae
theorem Cao : WO T2 := We Lao func208
abbrev War : Sa := .pu (.p Xc (.p int (.p int (.p Am Bg)))) Df [true, true] (fun x => Ax x.1 x.2.1 x.2.2.1 x.2.2.2.1 x.2.2.2.2.1)
abbrev V2 : WF := (210, War) :: T2
def N0 : Ua := ⟨101, ⟨[(1, Ra), (3, (.data Am)), (4, Ra), (5, Sv), (12, Ra), (13, Ra), (14, Ra)], [(5, Xc, (.data Xc))]⟩, 0, ⟨[(4, Ra), (12, Ra)], []⟩, ⟨[(10, Ra), (11, Ra)], []⟩, Wq⟩
def Qap : WL := [(6, N0)]
theorem Zag : Cb (WG true T2 [] [] []) Qap (lp f210 0) := Uc 6 (ls := N0) rfl
theorem Eao : WO V2 := Jg Cao func210 (Oa Zag Ma)
abbrev Yar : Sa := .pu (.p Ub Bg) Bg [true] (fun x => Ow x.1 x.2.1)
abbrev Cae : WF := (212, Yar) :: V2
def P0 : Ua := ⟨22, ⟨[(1, Ra), (2, Cm), (5, Ra)], [(2, Ub, PB)]⟩, 0, ⟨[], []⟩, ⟨[(4, Ra)], []⟩, Nu⟩
def Rap : WL := [(2, P0)]
theorem Aah : Cb (WG true V2 [] [] []) Rap (lp f212 0) := Uc 2 (ls := P0) rfl
theorem Gao : WO Cae := Jg Eao func212 (Oa Aah Ma)
abbrev Eas : Sa := .pu Ov Ov [true] (fun x => RA x.1)
abbrev Gae : WF := (230, Eas) :: Cae
theorem Mao : WO Gae := We Gao func230
abbrev Fas : Sa := .pu Ov Ov [true] (fun x => LC x.1)
abbrev Hae : WF := (231, Fas) :: Gae
theorem Nao : WO Hae := We Mao func231
abbrev Mas : Sa := .pu Bg Wf [true] (fun x => Ht x.1)
abbrev Kae : WF := (252, Mas) :: Hae
theorem Uao : WO Kae := We Nao func252
abbrev Kas : Sa := .bx false false Ub Ov Ov [true] (fun x0 x => VH x0 x.1)
abbrev Jae : WF := (245, Kas) :: Kae
theorem Sao : WO Jae := Xy (L := []) (m := []) (v := []) (l := []) Uao func245 Ma
abbrev Gas : Sa := .bx false false Ub Ov Ov [true] (fun x0 x => Ik x0 x.1)
abbrev XO : WF := (232, Gas) :: Jae
theorem Oao : WO XO := Xy (L := []) (m := []) (v := []) (l := []) Sao func232 Ma
abbrev Aas : Sa := .pu AH Ez [true] (fun x => Hd x.1)
abbrev NK : WF := (214, Aas) :: XO
def S0 : Ua := ⟨70, ⟨[(0, Tt), (2, Cm), (3, Hq), (4, Ra)], [(2, Hb, Nv), (3, Hb, (.pr Ra (.pr OB .un)))]⟩, 0, ⟨[(0, Tt), (2, Cm), (3, Hq)], [(2, Hb, Nv), (3, Hb, (.pr Ra (.pr OB .un)))]⟩, ⟨[], []⟩, Ar⟩
def CX : Ua := ⟨70, ⟨[(0, Tt), (2, Cm), (3, Hq), (5, Ra), (6, Ra)], [(2, Hb, Nv), (3, Hb, (.pr Ra (.pr (.own 200201 int true) .un)))]⟩, 4, ⟨[(0, Tt), (2, Cm), (3, Hq), (5, Ra)], [(2, Hb, Nv), (3, Hb, (.pr Ra (.pr (.own 200201 int true) .un)))]⟩, ⟨[], []⟩, Ak⟩
def BX : Ua := ⟨70, ⟨[(0, Tt), (2, Cm), (3, Hq), (5, Ra)], [(2, Hb, Nv), (3, Hb, (.pr Ra (.pr (.own 200101 int true) .un)))]⟩, 2, ⟨[(2, Cm), (3, Hq)], [(2, Hb, Nv), (3, Hb, (.pr Ra (.pr (.own 200101 int true) .un)))]⟩, ⟨[], []⟩, Tp⟩
def C3 : WL := [(5, S0), (13, CX), (10, BX)]
theorem Cah : Cb (WG true XO [] [] []) C3 (lp f214 0) := Uc 5 (ls := S0) rfl
theorem Rab : Cb (WG true XO [] [] []) C3 (lp f214 2) := Uc 13 (ls := CX) rfl
theorem Qab : Cb (WG true XO [] [] []) C3 (lp f214 1) := Uc 10 (ls := BX) rfl
theorem Iao : WO NK := Jg Oao func214 (Oa Rab (Oa Qab (Oa Cah Ma)))
abbrev Las : Sa := .pu (.p (.sl Oj) AH) Ez [true] (fun x => Ug x.1 x.2.1)
abbrev Z2 : WF := (246, Las) :: NK
def X0 : Ua := ⟨77, ⟨[(1, Tt), (4, Mn), (5, Sv), (6, Ra)], [(4, Hb, Nv), (5, Hb, (.pr Ra (.pr OB .un)))]⟩, 0, ⟨[(1, Tt), (4, Mn), (5, Sv)], [(4, Hb, Nv), (5, Hb, (.pr Ra (.pr OB .un)))]⟩, ⟨[], []⟩, Gr⟩
def DX : Ua := ⟨77, ⟨[(1, Tt), (4, Mn), (5, Sv), (7, (.own 200201 int true)), (8, Ra), (9, Rj), (10, Ra)], [(4, Hb, Nv), (5, Hb, (.pr Ra (.pr (.own 200202 int true) .un)))]⟩, 4, ⟨[(1, Tt), (4, Mn), (5, Sv), (7, (.own 200201 int true)), (8, Ra), (9, Rj)], [(4, Hb, Nv), (5, Hb, (.pr Ra (.pr (.own 200202 int true) .un)))]⟩, ⟨[], []⟩, Bk⟩
def EX : Ua := ⟨77, ⟨[(1, Tt), (4, Mn), (5, Sv), (7, (.own 200301 int true)), (8, Ra), (9, Rj), (11, Ra)], [(4, Hb, Nv), (5, Hb, (.pr Ra (.pr (.own 200302 int true) .un)))]⟩, 6, ⟨[(1, Tt), (4, Mn), (5, Sv), (7, (.own 200301 int true)), (8, Ra), (9, Rj)], [(4, Hb, Nv), (5, Hb, (.pr Ra (.pr (.own 200302 int true) .un)))]⟩, ⟨[], []⟩, Ck⟩
def Y0 : Ua := ⟨77, ⟨[(1, Tt), (4, Mn), (5, Sv), (7, (.own 200101 int true)), (8, Ra)], [(4, Hb, Nv), (5, Hb, (.pr Ra (.pr (.own 200102 int true) .un)))]⟩, 2, ⟨[(4, Mn), (5, Sv), (7, (.own 200101 int true))], [(4, Hb, Nv), (5, Hb, (.pr Ra (.pr (.own 200102 int true) .un)))]⟩, ⟨[], []⟩, Hr⟩
def UU : WL := [(3, X0), (12, DX), (16, EX), (8, Y0)]
theorem Hah : Cb (WG true NK [] [] []) UU (lp f246 0) := Uc 3 (ls := X0) rfl
theorem Sab : Cb (WG true NK [] [] []) UU (lp f246 2) := Uc 12 (ls := DX) rfl
theorem Tab : Cb (WG true NK [] [] []) UU (lp f246 3) := Uc 16 (ls := EX) rfl
theorem Iah : Cb (WG true NK [] [] []) UU (lp f246 1) := Uc 8 (ls := Y0) rfl
theorem Tao : WO Z2 := Jg Iao func246 (Oa Tab (Oa Sab (Oa Iah (Oa Hah Ma))))
abbrev Has : Sa := .pu (.p (.sl Oj) (.p Dk .u)) VC [true] (fun x => Hi x.1 x.2.1)
abbrev X2 : WF := (233, Has) :: Z2
def V0 : Ua := ⟨60, ⟨[(0, Tt), (1, (.data Dk)), (5, QI), (6, (.own 200002 Oj true)), (7, Ra)], []⟩, 0, ⟨[(5, QI)], []⟩, ⟨[], []⟩, Ul⟩
def Vap : WL := [(6, V0)]
theorem Fah : Cb (WG true Z2 [] [] []) Vap (lp f233 0) := Uc 6 (ls := V0) rfl
theorem Pao : WO X2 := Jg Tao func233 (Oa Fah Ma)
abbrev Ias : Sa := .pu (.p Hb Ez) Wf [true] (fun x => It x.1 x.2.1)
abbrev Iae : WF := (234, Ias) :: X2
def W0 : Ua := ⟨38, ⟨[(2, Cm), (3, Hq), (5, Ra)], [(2, Hb, QB), (3, Hb, QB)]⟩, 0, ⟨[], []⟩, ⟨[(4, Rj)], []⟩, Xn⟩
def Wap : WL := [(4, W0)]
theorem Gah : Cb (WG true X2 [] [] []) Wap (lp f234 0) := Uc 4 (ls := W0) rfl
theorem Qao : WO Iae := Jg Pao func234 (Oa Gah Ma)
abbrev Jas : Sa := .pu Ez Ez [true] (fun x => XA x.1)
abbrev Y2 : WF := (235, Jas) :: Iae
theorem Rao : WO Y2 := We Qao func235
abbrev Zar : Sa := .pu (.p Hb VC) VC [true] (fun x => Qf x.1 x.2.1)
abbrev Dae : WF := (213, Zar) :: Y2
def Q0 : Ua := ⟨34, ⟨[(1, (.data YG)), (2, Cm), (5, QI), (6, Ra)], [(2, Hb, QB)]⟩, 0, ⟨[(5, QI)], []⟩, ⟨[], []⟩, Wp⟩
def Sap : WL := [(3, Q0)]
theorem Bah : Cb (WG true Y2 [] [] []) Sap (lp f213 0) := Uc 3 (ls := Q0) rfl
theorem Hao : WO Dae := Jg Rao func213 (Oa Bah Ma)
abbrev Xar : Sa := .pu (.p Ub (.p int Wf)) (.p Ub (.p YG Wf)) [true, true, true] (fun x => Mj x.1 x.2.1 x.2.2.1)
abbrev Bae : WF := (211, Xar) :: Dae
theorem Fao : WO Bae := We Hao func211
abbrev Nar : Sa := .bx false false Dc (.p Xi Bg) (.p YG (.p int Wf)) [true, true, true] (fun x0 x => Up x0 x.1 x.2.1)
abbrev Yad : WF := (181, Nar) :: Bae
theorem Van : WO Yad := Xy (L := []) (m := []) (v := []) (l := []) Fao func181 Ma
abbrev Oar : Sa := .pu (.p Ub Bg) (.p Ub (.p YG Wf)) [true, true, true] (fun x => Ru x.1 x.2.1)
abbrev SU : WF := (182, Oar) :: Yad
theorem Wan : WO SU := We Van func182
abbrev Raq : Sa := .bx false false Dc .u (.p (.sl Pg) .u) [true] (fun x0 x => Zr x0)
abbrev Kad : WF := (135, Raq) :: SU
def AX : Ua := ⟨109, ⟨[(0, Hw), (3, (.own 200101 Pg true)), (5, Ra), (6, (.mov 200102 Hb)), (13, Ra)], [(500000, Dc, (.pr (.pr Raa (.pr (.own 200104 Dk true) (.pr Ra (.pr (.own 200105 Oj true) (.data (.p int Wf)))))) (.pr (.data Xc) (.pr (.own 200106 Xi true) (.data Lc)))))]⟩, 2, ⟨[(0, Hw), (3, (.own 200101 Pg true)), (5, Ra)], [(500000, Dc, (.pr (.pr Qaa (.pr (.own 200103 Dk true) (.pr Ra (.pr (.own 200104 Oj true) (.data (.p int Wf)))))) (.pr (.data Xc) (.pr (.own 200105 Xi true) (.data Lc)))))]⟩, ⟨[], []⟩, Jh⟩
def WZ : Ua := ⟨109, ⟨[(0, Hw), (3, VM)], [(500000, Dc, B6)]⟩, 0, ⟨[(0, Hw), (3, VM)], [(500000, Dc, B6)]⟩, ⟨[(0, Hw), (2, VM)], [(500000, Dc, B6)]⟩, Rh⟩
def Mae : WL := [(18, AX), (2, WZ)]
theorem Pab : Cb (WG false SU [] [] [90]) Mae (lp f135 1) := Uc 18 (ls := AX) rfl
theorem Kag : Cb (WG false SU [] [] [90]) Mae (lp f135 0) := Uc 2 (ls := WZ) rfl
theorem Zam : WO Kad := Xy Wan func135 (Oa Pab (Oa Kag Ma))
abbrev Bay : Sa := .pu (.p Dc (.p Am Bg)) (.p Dc (.p (.sl Pg) Wf)) [true, true, true] (fun x => Bn x.1 x.2.1 x.2.2.1)
abbrev Baj : WF := (79, Bay) :: Kad
theorem Oau : WO Baj := We Zam func79
abbrev Yaw : Sa := .bx true false Oe Bg (.p Dc .u) [true] (fun x0 x => Ny x0 x.1)
abbrev A3 : WF := (33, Yaw) :: Baj
theorem Kat : WO A3 := Xy (L := []) (m := []) (v := []) (l := []) Oau func33 Ma
abbrev Aax : Sa := .bx true false Oe (.p Dc Bg) (.p Am .u) [true] (fun x0 x => Py x0 x.1 x.2.1)
abbrev Lai : WF := (35, Aax) :: A3
def T7 : Ua := ⟨85, ⟨[(0, Hw), (2, Ra), (4, Mn), (7, Ra), (8, Ra)], [(500000, Oe, Rv), (4, Dc, (.data Dc))]⟩, 0, ⟨[(0, Hw), (2, Ra), (4, Mn), (7, Ra)], [(500000, Oe, Rv), (4, Dc, (.data Dc))]⟩, ⟨[], []⟩, Js⟩
def U7 : Ua := ⟨85, ⟨[(0, Hw), (4, Mn), (7, Ra), (9, (.own 200101 Xi true)), (10, Ra), (11, Ra)], [(500000, Oe, Rv), (4, Dc, (.data Dc))]⟩, 2, ⟨[(0, Hw), (9, (.own 200101 Xi true))], [(500000, Oe, Rv)]⟩, ⟨[], []⟩, Ks⟩
def Naj : WL := [(3, T7), (9, U7)]
theorem Qak : Cb (WG false A3 [] [] []) Naj (lp f35 0) := Uc 3 (ls := T7) rfl
theorem Rak : Cb (WG false A3 [] [] []) Naj (lp f35 1) := Uc 9 (ls := U7) rfl
theorem Mat : WO Lai := Xy Kat func35 (Oa Rak (Oa Qak Ma))
abbrev Bax : Sa := .pu (.p Am Bg) Bg [true] (fun x => Ry x.1 x.2.1)
abbrev Mai : WF := (36, Bax) :: Lai
theorem Oat : WO Mai := We Mat func36
abbrev Law : Sa := .pu (.p (.sl Zo) .u) (.p Dc (.p Am Bg)) [false, true, true] (fun x => Zq x.1)
abbrev Fai : WF := (11, Law) :: Mai
theorem Xas : WO Fai := Jg (L := []) (m := [(3000, 1000100896), (3000, 1000100897), (3000, 1000100898), (3000, 1000100899)]) (v := []) (l := []) Oat func11 Ma
abbrev Qay : Sa := .pu Bg Wf [true] (fun x => Xk x.1)
abbrev Kaj : WF := (95, Qay) :: Fai
theorem Dav : WO Kaj := We Xas func95
abbrev Jar : Sa := .pu Bg Wf [true] (fun x => Sn x.1)
abbrev Uad : WF := (169, Jar) :: Kaj
theorem Ran : WO Uad := We Dav func169
abbrev Kar : Sa := .pu Bg Wf [true] (fun x => Mp x.1)
abbrev Vad : WF := (170, Kar) :: Uad
theorem San : WO Vad := We Ran func170
abbrev Laq : Sa := .pu Ov Wf [true] (fun x => Li x.1)
abbrev PU : WF := (117, Laq) :: Vad
theorem Tam : WO PU := We San func117
abbrev Xax : Sa := .pu (.p Qb .u) Wf [true] (fun x => Nr x.1)
abbrev Zai : WF := (62, Xax) :: PU
def H8 : Ua := ⟨73, ⟨[(1, Bm), (3, Ra), (28, ZG), (29, Ra), (30, Ra), (40, (.data (.sl Lc))), (41, Ra), (42, Ra)], [(1, Qb, FF)]⟩, 2, ⟨[(1, Bm), (28, ZG), (29, Ra), (30, Ra)], [(1, Qb, FF)]⟩, ⟨[(2, Rj)], []⟩, Nk⟩
def G8 : Ua := ⟨73, ⟨[(1, Bm), (28, ZG), (29, Ra), (30, Ra)], [(1, Qb, FF)]⟩, 0, ⟨[], []⟩, ⟨[(2, Rj)], []⟩, Mk⟩
def Qaj : WL := [(9, H8), (4, G8)]
theorem Eal : Cb (WG true PU [] [] []) Qaj (lp f62 1) := Uc 9 (ls := H8) rfl
theorem Dal : Cb (WG true PU [] [] []) Qaj (lp f62 0) := Uc 4 (ls := G8) rfl
theorem Kau : WO Zai := Jg Tam func62 (Oa Eal (Oa Dal Ma))
abbrev Ray : Sa := .pu Df Bg [true] (fun x => Pn x.1 x.2.1)
abbrev Laa : WF := (96, Ray) :: Zai
theorem Eav : WO Laa := We Kau func96
abbrev Saq : Sa := .pu AH Wf [true] (fun x => Ij x.1)
abbrev H2 : WF := (136, Saq) :: Laa
def XZ : Ua := ⟨46, ⟨[(3, Ra), (6, Tt), (7, Ra), (8, Ra)], []⟩, 0, ⟨[], []⟩, ⟨[(2, Rj)], []⟩, Yt⟩
def Eap : WL := [(3, XZ)]
theorem Lag : Cb (WG true Laa [] [] []) Eap (lp f136 0) := Uc 3 (ls := XZ) rfl
theorem Aan : WO H2 := Jg Eav func136 (Oa Lag Ma)
abbrev Par : Sa := .pu (.p (.sl Df) (.p Df .u)) Bg [true] (fun x => Lw x.1 x.2.1)
abbrev Q2 : WF := (183, Par) :: H2
def J0 : Ua := ⟨19, ⟨[(3, Hq), (7, (.data (.sl Df))), (8, Ra), (9, Ra)], [(3, Df, (.data Df))]⟩, 0, ⟨[], []⟩, ⟨[(4, Ra)], []⟩, Du⟩
def Map : WL := [(2, J0)]
theorem Vag : Cb (WG true H2 [] [] []) Map (lp f183 0) := Uc 2 (ls := J0) rfl
theorem Xan : WO Q2 := Jg Aan func183 (Oa Vag Ma)
abbrev Taq : Sa := .pu (.p Dk .u) Wf [true] (fun x => Zt x.1)
abbrev QU : WF := (137, Taq) :: Q2
def YZ : Ua := ⟨62, ⟨[(3, (.own 200001 Df true)), (11, (.data Dk)), (12, Ra), (13, Ra)], []⟩, 0, ⟨[(3, (.own 200001 Df true))], []⟩, ⟨[(2, Rj)], []⟩, Cs⟩
def Fap : WL := [(5, YZ)]
theorem Mag : Cb (WG true Q2 [] [] []) Fap (lp f137 0) := Uc 5 (ls := YZ) rfl
theorem Ban : WO QU := Jg Xan func137 (Oa Mag Ma)
abbrev Gay : Sa := .pu RI Wf [true] (fun x => Ww x.1)
abbrev Faj : WF := (84, Gay) :: QU
def M8 : Ua := ⟨92, ⟨[(1, Bm), (35, (.data (.sl Dk))), (36, Ra), (37, Ra)], [(1, Ub, PB)]⟩, 0, ⟨[(1, Bm)], [(1, Ub, PB)]⟩, ⟨[(2, Rj)], []⟩, Lk⟩
def Z0 : Ua := ⟨92, ⟨[(1, Bm), (5, Ra), (50, Tt), (51, Ra), (52, Ra)], [(1, Ub, PB)]⟩, 2, ⟨[(1, Bm), (5, Ra)], [(1, Ub, PB)]⟩, ⟨[(2, Rj)], []⟩, Xj⟩
def Raj : WL := [(4, M8), (11, Z0)]
theorem Jal : Cb (WG true QU [] [] []) Raj (lp f84 0) := Uc 4 (ls := M8) rfl
theorem Jah : Cb (WG true QU [] [] []) Raj (lp f84 1) := Uc 11 (ls := Z0) rfl
theorem Tau : WO Faj := Jg Ban func84 (Oa Jah (Oa Jal Ma))
abbrev Hay : Sa := .pu (.p Xc .u) Wf [true] (fun x => Pr x.1)
abbrev Gaa : WF := (85, Hay) :: Faj
theorem Uau : WO Gaa := We Tau func85
abbrev Gax : Sa := .pu AH Bg [true] (fun x => Hm x.1)
abbrev Pai : WF := (41, Gax) :: Gaa
def W7 : Ua := ⟨19, ⟨[(3, Ra), (6, Tt), (7, Ra), (8, Ra)], []⟩, 0, ⟨[(3, Ra)], []⟩, ⟨[], []⟩, Rq⟩
def Oav : WL := [(3, W7)]
theorem Tak : Cb (WG true Gaa [] [] []) Oav (lp f41 0) := Uc 3 (ls := W7) rfl
theorem Tat : WO Pai := Jg Uau func41 (Oa Tak Ma)
abbrev Uaq : Sa := .pu (.p Xi .u) Wf [true] (fun x => Xt x.1)
abbrev I2 : WF := (138, Uaq) :: Pai
theorem Can : WO I2 := We Tat func138
abbrev Jay : Sa := .pu (.p Am Bg) (.p int Wf) [true, true] (fun x => MA x.1 x.2.1)
abbrev Haa : WF := (87, Jay) :: I2
def N8 : Ua := ⟨53, ⟨[(0, (.data Am)), (1, Ra), (11, (.data Am)), (12, Ra), (13, Ra)], []⟩, 0, ⟨[(1, Ra)], []⟩, ⟨[(4, Ra), (5, Rj)], []⟩, Au⟩
def Yav : WL := [(4, N8)]
theorem Kal : Cb (WG true I2 [] [] []) Yav (lp f87 0) := Uc 4 (ls := N8) rfl
theorem Wau : WO Haa := Jg Can func87 (Oa Kal Ma)
abbrev Fax : Sa := .pu (.p Am Df) Wf [true] (fun x => Jl x.1 x.2.1 x.2.2.1)
abbrev Oai : WF := (40, Fax) :: Haa
def V7 : Ua := ⟨29, ⟨[(0, (.data Am)), (1, Ra), (2, Ra), (11, (.data Am)), (12, Ra), (13, Ra)], []⟩, 0, ⟨[(0, (.data Am)), (1, Ra)], []⟩, ⟨[(6, Rj)], []⟩, Np⟩
def Nav : WL := [(2, V7)]
theorem Sak : Cb (WG true Haa [] [] []) Nav (lp f40 0) := Uc 2 (ls := V7) rfl
theorem Sat : WO Oai := Jg Wau func40 (Oa Sak Ma)
abbrev Dax : Sa := .pu (.p Am Bg) Wf [true] (fun x => Il x.1 x.2.1)
abbrev Nai : WF := (38, Dax) :: Oai
theorem Qat : WO Nai := We Sat func38
abbrev Cax : Sa := .pu (.p Dc .u) Wf [true] (fun x => Gl x.1)
abbrev V9 : WF := (37, Cax) :: Nai
theorem Pat : WO V9 := We Qat func37
abbrev Maq : Sa := .pu (.p Qb .u) (.p Qb .u) [true] (fun x => Ws x.1)
abbrev D2 : WF := (119, Maq) :: V9
def TZ : Ua := ⟨25, ⟨[(2, Cm), (3, Hq), (10, ZG), (11, Ra), (12, Ra)], [(2, Qb, (.pr Ra (.pr ZG .un))), (3, Qb, US)]⟩, 0, ⟨[(2, Cm), (3, Hq)], [(2, Qb, (.pr Ra (.pr ZG .un))), (3, Qb, US)]⟩, ⟨[], []⟩, Qn⟩
def Bap : WL := [(3, TZ)]
theorem Hag : Cb (WG true V9 [] [] []) Bap (lp f119 0) := Uc 3 (ls := TZ) rfl
theorem Uam : WO D2 := Jg Pat func119 (Oa Hag Ma)
abbrev Naq : Sa := .pu (.p (.sl Dk) .u) (.p (.sl Dk) .u) [true] (fun x => Xs x.1)
abbrev Had : WF := (120, Naq) :: D2
def UZ : Ua := ⟨19, ⟨[(3, (.own 200001 Dk true)), (6, (.data (.sl Dk))), (7, Ra), (8, Ra)], []⟩, 0, ⟨[(3, (.own 200001 Dk true))], []⟩, ⟨[], []⟩, Rn⟩
def Cap : WL := [(3, UZ)]
theorem Iag : Cb (WG true D2 [] [] []) Cap (lp f120 0) := Uc 3 (ls := UZ) rfl
theorem Vam : WO Had := Jg Uam func120 (Oa Iag Ma)
abbrev Iay : Sa := .pu RI RI [true] (fun x => Bi x.1)
abbrev Gaj : WF := (86, Iay) :: Had
theorem Vau : WO Gaj := We Vam func86
abbrev Eax : Sa := .pu (.p Dc .u) (.p Dc .u) [true] (fun x => Sl x.1)
abbrev W9 : WF := (39, Eax) :: Gaj
theorem Rat : WO W9 := We Vau func39
abbrev Vaq : Sa := .pu (.p Ub Bg) Bg [true] (fun x => JA x.1 x.2.1)
abbrev Lad : WF := (139, Vaq) :: W9
def ZZ : Ua := ⟨21, ⟨[(1, Ra), (8, Tt), (9, Ra), (10, Ra)], []⟩, 0, ⟨[], []⟩, ⟨[(4, Ra)], []⟩, Wt⟩
def Gap : WL := [(2, ZZ)]
theorem Nag : Cb (WG true W9 [] [] []) Gap (lp f139 0) := Uc 2 (ls := ZZ) rfl
theorem Dan : WO Lad := Jg Rat func139 (Oa Nag Ma)
abbrev Daq : Sa := .pu (.p Rt .u) (.p Rt .u) [true] (fun x => Gm x.1)
abbrev Dad : WF := (101, Daq) :: Lad
theorem Lam : WO Dad := We Dan func101
abbrev Cas : Sa := .io Rt .u .u [] (fun x0 _ => sort_Ints x0)
abbrev W2 : WF := (216, Cas) :: Dad
end
end KF
namespace Go.Proofs
open Go.Shelf
def Tryz.lays_sort_Ints_ren : Go.Shelf.Ren := ⟨fun | 191 => 216 | 189 => 236 | 125 => 248 | 257 => 247 | 128 => 262 | 129 => 218 | 294 => 253 | 295 => 254 | 296 => 255 | 297 => 256 | 298 => 257 | 299 => 258 | 216 => 259 | 300 => 260 | 301 => 261 | 328 => 265 | 329 => 266 | 330 => 267 | 331 => 268 | 332 => 269 | 215 => 270 | 343 => 271 | n => n, fun | 28 => 49 | 0 => 0 | 3 => 3 | 46 => 96 | 51 => 233 | 53 => 213 | 4 => 4 | 183 => 263 | 182 => 262 | 131 => 123 | 5 => 5 | 9 => 9 | 218 => 274 | 222 => 278 | 228 => 280 | 229 => 133 | n => n, fun | n => n⟩
theorem Tryz.lays_sort_Ints : Go.Proofs.Lays.n191 Tryz.prog Tryz.lays_sort_Ints_ren := {
 mixed := by kernel_rfl
 f125 := Tryz.func248.trans (congrArg some (by kernel_rfl))
 f128 := Tryz.func262.trans (congrArg some (by kernel_rfl))
 f129 := Tryz.func218.trans (congrArg some (by kernel_rfl))
 f189 := Tryz.func236.trans (congrArg some (by kernel_rfl))
 f191 := Tryz.func216.trans (congrArg some (by kernel_rfl))
 f215 := Tryz.func270.trans (congrArg some (by kernel_rfl))
 f216 := Tryz.func259.trans (congrArg some (by kernel_rfl))
 f257 := Tryz.func247.trans (congrArg some (by kernel_rfl))
 f294 := Tryz.func253.trans (congrArg some (by kernel_rfl))
 f295 := Tryz.func254.trans (congrArg some (by kernel_rfl))
 f296 := Tryz.func255.trans (congrArg some (by kernel_rfl))
 f297 := Tryz.func256.trans (congrArg some (by kernel_rfl))
 f298 := Tryz.func257.trans (congrArg some (by kernel_rfl))
 f299 := Tryz.func258.trans (congrArg some (by kernel_rfl))
 f300 := Tryz.func260.trans (congrArg some (by kernel_rfl))
 f301 := Tryz.func261.trans (congrArg some (by kernel_rfl))
 f328 := Tryz.func265.trans (congrArg some (by kernel_rfl))
 f329 := Tryz.func266.trans (congrArg some (by kernel_rfl))
 f330 := Tryz.func267.trans (congrArg some (by kernel_rfl))
 f331 := Tryz.func268.trans (congrArg some (by kernel_rfl))
 f332 := Tryz.func269.trans (congrArg some (by kernel_rfl))
 f343 := Tryz.func271.trans (congrArg some (by kernel_rfl))
 t0 := Tryz.underlying0
 a0 := Tryz.isAgg0
 z0 := Tryz.sizeOf0
 v0 := Tryz.zeroValue0
 t3 := Tryz.underlying3
 a3 := Tryz.isAgg3
 z3 := Tryz.sizeOf3
 v3 := Tryz.zeroValue3
 t4 := Tryz.underlying4
 a4 := Tryz.isAgg4
 z4 := Tryz.sizeOf4
 v4 := Tryz.zeroValue4
 t5 := Tryz.underlying5
 a5 := Tryz.isAgg5
 z5 := Tryz.sizeOf5
 v5 := Tryz.zeroValue5
 t9 := Tryz.underlying9
 a9 := Tryz.isAgg9
 z9 := Tryz.sizeOf9
 v9 := Tryz.zeroValue9
 t28 := Tryz.underlying49
 a28 := Tryz.isAgg49
 z28 := Tryz.sizeOf49
 v28 := Tryz.zeroValue49
 t46 := Tryz.underlying96
 a46 := Tryz.isAgg96
 z46 := Tryz.sizeOf96
 v46 := Tryz.zeroValue96
 t51 := Tryz.underlying233
 a51 := Tryz.isAgg233
 z51 := Tryz.sizeOf233
 v51 := Tryz.zeroValue233
 t53 := Tryz.underlying213
 a53 := Tryz.isAgg213
 z53 := Tryz.sizeOf213
 v53 := Tryz.zeroValue213
 t131 := Tryz.underlying123
 a131 := Tryz.isAgg123
 z131 := Tryz.sizeOf123
 v131 := Tryz.zeroValue123
 t182 := Tryz.underlying262
 a182 := Tryz.isAgg262
 z182 := Tryz.sizeOf262
 v182 := Tryz.zeroValue262
 t183 := Tryz.underlying263
 a183 := Tryz.isAgg263
 z183 := Tryz.sizeOf263
 v183 := Tryz.zeroValue263
 t218 := Tryz.underlying274
 a218 := Tryz.isAgg274
 z218 := Tryz.sizeOf274
 v218 := Tryz.zeroValue274
 t222 := Tryz.underlying278
 a222 := Tryz.isAgg278
 z222 := Tryz.sizeOf278
 v222 := Tryz.zeroValue278
 t228 := Tryz.underlying280
 a228 := Tryz.isAgg280
 z228 := Tryz.sizeOf280
 v228 := Tryz.zeroValue280
 t229 := Tryz.underlying133
 a229 := Tryz.isAgg133
 z229 := Tryz.sizeOf133
 v229 := Tryz.zeroValue133 }
end Go.Proofs
namespace KF
open Go Go.Proofs Go.Proofs.Tryz
noncomputable section
theorem Kao : WO W2 := wc Lam (G5 Tryz.lays_sort_Ints (by kernel_rfl))
abbrev Caq : Sa := .pu (.p Rt Bg) Wf [true] (fun x => Kw x.1 x.2.1)
abbrev A2 : WF := (100, Caq) :: W2
def OZ : Ua := ⟨17, ⟨[(1, Ra), (7, (.data Rt)), (8, Ra), (9, Ra)], []⟩, 0, ⟨[], []⟩, ⟨[(4, Rj)], []⟩, Bu⟩
def Wao : WL := [(2, OZ)]
theorem Cag : Cb (WG true W2 [] [] []) Wao (lp f100 0) := Uc 2 (ls := OZ) rfl
theorem Kam : WO A2 := Jg Kao func100 (Oa Cag Ma)
abbrev Qar : Sa := .pu (.p Rt .u) (.p Rt .u) [true] (fun x => Lp x.1)
abbrev R2 : WF := (185, Qar) :: A2
def K0 : Ua := ⟨31, ⟨[(4, OB), (11, (.own 200002 int true)), (12, Ra), (13, Ra)], []⟩, 0, ⟨[(4, OB)], []⟩, ⟨[], []⟩, Es⟩
def Nap : WL := [(5, K0)]
theorem Wag : Cb (WG true A2 [] [] []) Nap (lp f185 0) := Uc 5 (ls := K0) rfl
theorem Yan : WO R2 := Jg Kam func185 (Oa Wag Ma)
abbrev Xaq : Sa := .pu AH Ez [true] (fun x => Yc x.1)
abbrev J2 : WF := (141, Xaq) :: R2
def A0 : Ua := ⟨45, ⟨[(2, Cm), (3, Hq), (4, OB), (11, Tt), (12, Ra), (13, Ra)], [(2, Hb, Nv), (3, Hb, Nv)]⟩, 0, ⟨[(2, Cm), (3, Hq), (4, OB)], [(2, Hb, Nv), (3, Hb, Nv)]⟩, ⟨[], []⟩, Oq⟩
def Hap : WL := [(6, A0)]
theorem Oag : Cb (WG true R2 [] [] []) Hap (lp f141 0) := Uc 6 (ls := A0) rfl
theorem Fan : WO J2 := Jg Yan func141 (Oa Oag Ma)
abbrev Bas : Sa := .pu (.p Rt (.p Rt .u)) Wf [true] (fun x => Xw x.1 x.2.1)
abbrev Eae : WF := (215, Bas) :: J2
def T0 : Ua := ⟨26, ⟨[(0, (.data Rt)), (1, (.data Rt)), (12, Ra), (13, Ra)], []⟩, 0, ⟨[], []⟩, ⟨[(4, Rj)], []⟩, Sq⟩
def Tap : WL := [(4, T0)]
theorem Dah : Cb (WG true J2 [] [] []) Tap (lp f215 0) := Uc 4 (ls := T0) rfl
theorem Jao : WO Eae := Jg Fan func215 (Oa Dah Ma)
abbrev Jaf : Sa := .pu (.p Hb Ez) Wf [true] (fun x => Tm x.1 x.2.1)
abbrev Zad : WF := (184, Jaf) :: Eae
theorem Cad : WO Zad := We Jao func184
abbrev Waq : Sa := .co (.p Hb VC) VC [true] (fun x => Zd x.1 x.2.1)
abbrev Mad : WF := (140, Waq) :: Zad
def GTo : List (Nat × Ty) := [(3, int), (51, EF), (57, (.sl EF))]
theorem Laj : ((GTo.all fun x => Id Tryz.prog x.2 x.1) && (([] : List (Nat × Ty × Nat)).all fun x => UM Tryz.prog x.1 x.2.1 x.2.2)) = true := by kernel_rfl
@[reducible] def Uaa (c : T Ud → T Ud → Option Bool) : Sa := .pu (.p EF (.p (.sl EF) .u)) (.p (.sl EF) .u) [true] (fun x => Y3 c x.1 x.2.1)
def H6 (c : T Ud → T Ud → Option Bool) : Ke := ⟨GTo, [(184, GS c)], [], true, [], [], []⟩
theorem Taa (I : Ag) (c : T Ud → T Ud → Option Bool) (h : Og Tryz.prog I 184 (GS c)) : Uh Tryz.prog I (H6 c) := Uh.cons h (BT Laj)
def VS (c : T Ud → T Ud → Option Bool) : Ua := ⟨25, ⟨[(2, Cm), (5, (.own 200001 EF true)), (8, (.data (.sl EF))), (9, Ra), (10, Ra)], [(2, EF, (.data EF))]⟩, 0, ⟨[(5, (.own 200001 EF true))], []⟩, ⟨[], []⟩, Wr c⟩
def I6 (c : T Ud → T Ud → Option Bool) : List (Nat × Ua) := [(3, VS c)]
theorem Z3 (c : T Ud → T Ud → Option Bool) : Cb (H6 c) (I6 c) (lp Tryz.f140 0) := NT (r := 3) (ls := VS c) (R := fun x => Hz c x.1.1 x.1.2.1 x.1.2.2.1 x.1.2.2.2.1 x.1.2.2.2.2.1 x.2.1) (by kernel_rfl) (by kernel_rfl) rfl (fun x => by kernel_rfl)
theorem Vaa (I : Ag) (c : T Ud → T Ud → Option Bool) (h : Og Tryz.prog I 184 (GS c)) : Og Tryz.prog I 140 (Uaa c) := DK (L := I6 c) (k := 1) (Taa I c h) QS Tryz.func140 (by kernel_rfl) (Oa (Z3 c) Ma) (fun x => by kernel_rfl)
theorem Ean : WO Mad := wc Cad (D9 (f2 := 184) (SR := fun x => Tm x.1 x.2.1) (same := Wi) Rac (Gam (s := Jaf) Cad (by kernel_rfl)) (fun I c h => ⟨_, Vaa I c h, Saf c⟩))
abbrev Kay : Sa := .pu (.p Ub Bg) (.p Ub VC) [true, true] (fun x => Eu x.1 x.2.1)
abbrev Iaa : WF := (88, Kay) :: Mad
theorem Xau : WO Iaa := We Ean func88
abbrev Lay : Sa := .pu (.p int AH) Bg [true] (fun x => Qr x.1 x.2.1)
abbrev Jaa : WF := (89, Lay) :: Iaa
def O8 : Ua := ⟨39, ⟨[(5, Ra), (21, Tt), (22, Ra), (23, Ra)], []⟩, 0, ⟨[(5, Ra)], []⟩, ⟨[], []⟩, Ai⟩
def Zav : WL := [(7, O8)]
theorem Lal : Cb (WG true Iaa [] [] []) Zav (lp f89 0) := Uc 7 (ls := O8) rfl
theorem Yau : WO Jaa := Jg Xau func89 (Oa Lal Ma)
abbrev Zaq : Sa := .pu (.p Qb Df) Bg [true] (fun x => Cu x.1 x.2.1 x.2.2.1)
abbrev Oad : WF := (143, Zaq) :: Jaa
def B0 : Ua := ⟨33, ⟨[(1, Ra), (2, Ra), (3, Hq), (7, Ra)], [(3, Qb, FF)]⟩, 0, ⟨[], []⟩, ⟨[(6, Ra)], []⟩, Hh⟩
def Iap : WL := [(2, B0)]
theorem Pag : Cb (WG true Jaa [] [] []) Iap (lp f143 0) := Uc 2 (ls := B0) rfl
theorem Han : WO Oad := Jg Yau func143 (Oa Pag Ma)
abbrev Yaq : Sa := .pu (.p Qb Df) Bg [true] (fun x => ED x.1 x.2.1 x.2.2.1)
abbrev Nad : WF := (142, Yaq) :: Oad
theorem Gan : WO Nad := We Han func142
abbrev Nay : Sa := .pu (.p Qb Df) Ov [true] (fun x => Vw x.1 x.2.1 x.2.2.1)
abbrev Haj : WF := (91, Nay) :: Nad
theorem Aav : WO Haj := We Gan func91
abbrev May : Sa := .pu Ov Wf [true] (fun x => Hl x.1)
abbrev Kaa : WF := (90, May) :: Haj
theorem Zau : WO Kaa := We Aav func90
abbrev Oay : Sa := .pu (.p Xc (.p int (.p int (.p Am Bg)))) Df [true, true] (fun x => Mr x.1 x.2.1 x.2.2.1 x.2.2.2.1 x.2.2.2.2.1)
abbrev Iaj : WF := (92, Oay) :: Kaa
def P8 : Ua := ⟨102, ⟨[(1, Ra), (2, Ra), (4, Ra), (5, Sv), (12, Ra), (26, (.data Am)), (27, Ra), (28, Ra)], [(5, Xc, (.data Xc))]⟩, 0, ⟨[(2, Ra), (4, Ra), (5, Sv)], [(5, Xc, (.data Xc))]⟩, ⟨[(10, Ra), (11, Ra)], []⟩, Kq⟩
def Aaw : WL := [(5, P8)]
theorem Mal : Cb (WG true Kaa [] [] []) Aaw (lp f92 0) := Uc 5 (ls := P8) rfl
theorem Bav : WO Iaj := Jg Zau func92 (Oa Mal Ma)
abbrev Aar : Sa := .pu Ov Ov [true] (fun x => KA x.1)
abbrev Pad : WF := (144, Aar) :: Iaj
theorem Ian : WO Pad := We Bav func144
abbrev Bar : Sa := .pu Ov Ov [true] (fun x => HC x.1)
abbrev Qad : WF := (145, Bar) :: Pad
theorem Jan : WO Qad := We Ian func145
abbrev Rar : Sa := .pu Bg Wf [true] (fun x => Ts x.1)
abbrev Aae : WF := (186, Rar) :: Qad
theorem Zan : WO Aae := We Jan func186
abbrev Car : Sa := .bx false false Ub Ov Ov [true] (fun x0 x => Tn x0 x.1)
abbrev K2 : WF := (146, Car) :: Aae
theorem Kan : WO K2 := Xy (L := []) (m := []) (v := []) (l := []) Zan func146 Ma
abbrev Sar : Sa := .pu (.p Hb (.p (.sl Df) .u)) Ez [true] (fun x => Qe x.1 x.2.1)
abbrev S2 : WF := (187, Sar) :: K2
def L0 : Ua := ⟨37, ⟨[(4, Mn), (5, Sv), (6, OB), (15, (.data (.sl Df))), (16, Ra), (17, Ra)], [(4, Hb, Nv), (5, Hb, Nv)]⟩, 0, ⟨[(4, Mn), (5, Sv), (6, OB)], [(4, Hb, Nv), (5, Hb, Nv)]⟩, ⟨[], []⟩, Pp⟩
def Oap : WL := [(4, L0)]
theorem Xag : Cb (WG true K2 [] [] []) Oap (lp f187 0) := Uc 4 (ls := L0) rfl
theorem Aao : WO S2 := Jg Kan func187 (Oa Xag Ma)
abbrev Dar : Sa := .pu (.p (.sl Oj) (.p Dk .u)) VC [true] (fun x => Gi x.1 x.2.1)
abbrev Rad : WF := (147, Dar) :: S2
def C0 : Ua := ⟨74, ⟨[(5, Sv), (6, QI), (7, (.own 200002 Df true)), (22, (.data Dk)), (23, Ra), (24, Ra)], [(5, Hb, (.pr Ra (.pr (.own 200003 int true) .un)))]⟩, 0, ⟨[(6, QI)], []⟩, ⟨[], []⟩, Rl⟩
def Jap : WL := [(7, C0)]
theorem Qag : Cb (WG true S2 [] [] []) Jap (lp f147 0) := Uc 7 (ls := C0) rfl
theorem Lan : WO Rad := Jg Aao func147 (Oa Qag Ma)
abbrev Pay : Sa := .pu (.p Ub (.p int Wf)) (.p Ub VC) [true, true] (fun x => Yg x.1 x.2.1 x.2.2.1)
abbrev Jaj : WF := (93, Pay) :: Rad
theorem Cav : WO Jaj := We Lan func93
abbrev Hax : Sa := .bx false false Dc .u (.p YG Wf) [true, true] (fun x0 x => Wg x0)
abbrev X9 : WF := (42, Hax) :: Jaj
theorem Uat : WO X9 := Xy (L := []) (m := []) (v := []) (l := []) Cav func42 Ma
abbrev Iax : Sa := .co (.p (.sl Pg) (.p int VC)) (.p (.sl Pg) .u) [true] (fun x => DB x.1 x.2.1 x.2.2.1)
abbrev Y9 : WF := (43, Iax) :: X9
def X7 : Ua := ⟨23, ⟨[(0, VM), (1, Ra), (9, (.mov 200002 Hb)), (10, Ra), (11, Ra)], []⟩, 0, ⟨[(0, VM)], []⟩, ⟨[], []⟩, Kx⟩
def Pav : WL := [(2, X7)]
theorem Uak : Cb (WG false X9 [] [] [14]) Pav (lp f43 0) := Uc 2 (ls := X7) rfl
theorem Vat : WO Y9 := wco Uat func43 (Oa Uak Ma)
abbrev Maw : Sa := .pu (.p Dc (.p Am Bg)) (.p Dc (.p (.sl Pg) Wf)) [true, true, true] (fun x => Vs x.1 x.2.1 x.2.2.1)
abbrev Gai : WF := (12, Maw) :: Y9
def L7 : Ua := ⟨86, ⟨[(6, (.ptr 6 [])), (9, (.ptr 9 [])), (10, VM)], [(6, Dc, W3), (9, Dc, B6)]⟩, 0, ⟨[(6, (.ptr 6 [])), (9, (.ptr 9 [])), (10, VM)], [(6, Dc, W3), (9, Dc, B6)]⟩, ⟨[], []⟩, Lf⟩
def Hav : WL := [(9, L7)]
theorem Iak : Cb (WG true Y9 [] [] []) Hav (lp f12 0) := Uc 9 (ls := L7) rfl
theorem Yas : WO Gai := Jg Vat func12 (Oa Iak Ma)
abbrev Jax : Sa := .pu Bg Dx [true] (fun x => strconv_Itoa x.1)
abbrev Qai : WF := (44, Jax) :: Gai
theorem Wat : WO Qai := wc Yas (M4 Tryz.lays_strconv_Itoa (by kernel_rfl) Gav)
abbrev Naw : Sa := .pu Bg Dx [true] (fun x => Fp x.1)
abbrev N9 : WF := (13, Naw) :: Qai
theorem Zas : WO N9 := We Wat func13
abbrev Kax : Sa := .pu Ez Wf [true] (fun x => Em x.1)
abbrev Rai : WF := (45, Kax) :: N9
def Y7 : Ua := ⟨39, ⟨[(1, Bm), (14, (.data Rt)), (15, Ra), (16, Ra)], [(1, Hb, QB)]⟩, 0, ⟨[], []⟩, ⟨[(2, Rj)], []⟩, Mq⟩
def Qav : WL := [(4, Y7)]
theorem Vak : Cb (WG true N9 [] [] []) Qav (lp f45 0) := Uc 4 (ls := Y7) rfl
theorem Xat : WO Rai := Jg Zas func45 (Oa Vak Ma)
abbrev Wax : Sa := .pu (.p .s Dx) (.p (.sl .s) .u) [true] (fun x => strings_Split x.1 x.2.1)
abbrev Yai : WF := (59, Wax) :: Rai
theorem Jau : WO Yai := wc Xat (XY Tryz.lays_strings_Split (by kernel_rfl) Fav)
abbrev Lax : Sa := .pu Bg Dx [true] (fun x => Ic x.1)
abbrev Z9 : WF := (46, Lax) :: Yai
theorem Yat : WO Z9 := We Jau func46
abbrev Max : Sa := .pu Bg Dx [true] (fun x => Qs x.1)
abbrev Sai : WF := (47, Max) :: Z9
def Z7 : Ua := ⟨28, ⟨[(0, Ra), (3, (.data .s)), (12, WM), (13, Ra), (14, Ra)], []⟩, 0, ⟨[(3, (.data .s))], []⟩, ⟨[], []⟩, Nn⟩
def Rav : WL := [(5, Z7)]
theorem Wak : Cb (WG true Z9 [] [] []) Rav (lp f47 0) := Uc 5 (ls := Z7) rfl
theorem Zat : WO Sai := Jg Yat func47 (Oa Wak Ma)
abbrev Nax : Sa := .pu (.p (.sl .s) Dx) Dx [true] (fun x => strings_Join x.1 x.2.1)
abbrev Tai : WF := (48, Nax) :: Sai
theorem Aau : WO Tai := wc Zat (N4 Tryz.lays_strings_Join (by kernel_rfl) Tryz.extra_strings_Join)
abbrev Paw : Sa := .pu (.p (.sl .s) Dx) Dx [true] (fun x => Fm x.1 x.2.1)
abbrev O9 : WF := (15, Paw) :: Tai
theorem Bat : WO O9 := We Aau func15
abbrev Oaw : Sa := .pu Ez Dx [true] (fun x => Jk x.1)
abbrev Hai : WF := (14, Oaw) :: O9
def M7 : Ua := ⟨29, ⟨[(1, Bm), (3, WM), (10, (.data Rt)), (11, Ra), (12, Ra)], [(1, Hb, QB)]⟩, 0, ⟨[(1, Bm), (3, WM)], [(1, Hb, QB)]⟩, ⟨[], []⟩, Pl⟩
def Iav : WL := [(5, M7)]
theorem Jak : Cb (WG true O9 [] [] []) Iav (lp f14 0) := Uc 5 (ls := M7) rfl
theorem Aat : WO Hai := Jg Bat func14 (Oa Jak Ma)
abbrev Qax : Sa := .pu Ez Ez [true] (fun x => Ys x.1)
abbrev Aaa : WF := (51, Qax) :: Hai
theorem Dau : WO Aaa := We Aat func51
abbrev Raw : Sa := .pu (.p (.sl Pg) .u) VC [true] (fun x => Gp x.1)
abbrev Q9 : WF := (17, Raw) :: Aaa
def P7 : Ua := ⟨20, ⟨[(3, QI), (6, (.data (.sl Pg))), (7, Ra), (8, Ra)], []⟩, 0, ⟨[(3, QI)], []⟩, ⟨[], []⟩, Hp⟩
def Jav : WL := [(3, P7)]
theorem Mak : Cb (WG true Aaa [] [] []) Jav (lp f17 0) := Uc 3 (ls := P7) rfl
theorem Dat : WO Q9 := Jg Dau func17 (Oa Mak Ma)
abbrev Oax : Sa := .pu (.p Hb Ez) (.p Rt .u) [true] (fun x => Gy x.1 x.2.1)
abbrev Uai : WF := (49, Oax) :: Q9
def A8 : Ua := ⟨34, ⟨[(2, Cm), (5, OB), (17, (.data Rt)), (18, Ra), (19, Ra)], [(2, Hb, QB)]⟩, 0, ⟨[(5, OB)], []⟩, ⟨[], []⟩, Ds⟩
def Sav : WL := [(5, A8)]
theorem Xak : Cb (WG true Q9 [] [] []) Sav (lp f49 0) := Uc 5 (ls := A8) rfl
theorem Bau : WO Uai := Jg Dat func49 (Oa Xak Ma)
abbrev Pax : Sa := .pu Df Dx [true] (fun x => Hj x.1 x.2.1)
abbrev B3 : WF := (50, Pax) :: Uai
theorem Cau : WO B3 := We Bau func50
abbrev Qaw : Sa := .pu (.p Hb VC) Dx [true] (fun x => Ip x.1 x.2.1)
abbrev P9 : WF := (16, Qaw) :: B3
def O7 : Ua := ⟨34, ⟨[(2, Cm), (5, (.data .s)), (7, (.ptr 7 [])), (10, (.data YG)), (11, Ra), (12, Ra), (18, (.own 200101 int true)), (19, Ra), (20, Ra)], [(2, Hb, QB), (7, Hb, QB)]⟩, 2, ⟨[(2, Cm), (5, (.data .s)), (7, (.ptr 7 [])), (10, (.data YG)), (11, Ra), (12, Ra)], [(2, Hb, QB), (7, Hb, QB)]⟩, ⟨[], []⟩, Kp⟩
def N7 : Ua := ⟨34, ⟨[(2, Cm), (5, (.data .s)), (10, (.data YG)), (11, Ra), (12, Ra)], [(2, Hb, QB)]⟩, 0, ⟨[(5, (.data .s))], []⟩, ⟨[], []⟩, Jp⟩
def Maj : WL := [(6, O7), (3, N7)]
theorem Lak : Cb (WG true B3 [] [] []) Maj (lp f16 1) := Uc 6 (ls := O7) rfl
theorem Kak : Cb (WG true B3 [] [] []) Maj (lp f16 0) := Uc 3 (ls := N7) rfl
theorem Cat : WO P9 := Jg Cau func16 (Oa Lak (Oa Kak Ma))
abbrev Taw : Sa := .pu (.p (.sl Zo) .u) Dx [true] (fun x => Dp x.1)
abbrev Iai : WF := (19, Taw) :: P9
def R7 : Ua := ⟨27, ⟨[(3, (.own 200001 Zo true)), (9, (.data (.sl Zo))), (10, Ra), (11, Ra)], []⟩, 0, ⟨[(3, (.own 200001 Zo true))], []⟩, ⟨[], []⟩, Ep⟩
def Lav : WL := [(5, R7)]
theorem Oak : Cb (WG true P9 [] [] []) Lav (lp f19 0) := Uc 5 (ls := R7) rfl
theorem Fat : WO Iai := Jg Cat func19 (Oa Oak Ma)
abbrev Rax : Sa := .pu (.p .s (.p Zo .u)) Bg [true] (fun x => strings_IndexByte x.1 x.2.1)
abbrev Baa : WF := (52, Rax) :: Iai
theorem Eau : WO Baa := wc Fat (RY Tryz.lays_strings_IndexByte (by kernel_rfl))
abbrev Saw : Sa := .pu Dx (.p (.sl Zo) Wf) [true, true] (fun x => Rr x.1)
abbrev R9 : WF := (18, Saw) :: Baa
def Q7 : Ua := ⟨47, ⟨[(0, (.data .s)), (4, (.own 200001 Zo true)), (5, Ra)], []⟩, 0, ⟨[(4, (.own 200001 Zo true))], []⟩, ⟨[(2, (.own 200001 Zo true)), (3, Rj)], []⟩, Xg⟩
def Kav : WL := [(5, Q7)]
theorem Nak : Cb (WG true Baa [] [] []) Kav (lp f18 0) := Uc 5 (ls := Q7) rfl
theorem Eat : WO R9 := Jg Eau func18 (Oa Nak Ma)
abbrev Uaw : Sa := .pu (.p (.sl Pg) .u) Dx [true] (fun x => Qm x.1)
abbrev S9 : WF := (20, Uaw) :: R9
def S7 : Ua := ⟨29, ⟨[(3, WM), (9, (.data (.sl Pg))), (10, Ra), (11, Ra)], []⟩, 0, ⟨[(3, WM)], []⟩, ⟨[], []⟩, On⟩
def Mav : WL := [(5, S7)]
theorem Pak : Cb (WG true R9 [] [] []) Mav (lp f20 0) := Uc 5 (ls := S7) rfl
theorem Gat : WO S9 := Jg Eat func20 (Oa Pak Ma)
abbrev s_4 : Sa := .pu (.p (.sl Zo) .u) Wf [true] (fun x => Mw x.1)
abbrev F_4 : WF := (4, s_4) :: S9
def Daf : Ua := ⟨87, ⟨[(7, (.data (.sl Pg))), (8, Rj), (9, WM), (10, Ra)], []⟩, 0, ⟨[(7, (.data (.sl Pg))), (8, Rj), (9, WM)], []⟩, ⟨[], []⟩, Gu⟩
def L_4 : WL := [(7, Daf)]
theorem Aaq : Cb (WG true S9 [(6999, 1000101732)] [] []) L_4 (lp f4 0) := Uc 7 (ls := Daf) rfl
theorem E_4 : WO F_4 := Jg Gat func4 (Oa Aaq Ma)
theorem HQ : Og Tryz.prog II 4 s_4 := Gam E_4 (by kernel_rfl)
end
end KF
