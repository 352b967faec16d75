/- An evaluator of Go functions on plain data, its soundness, and plain laws on what the functions compute, part 5 (conditions: as each lemma tells). -/
import Derived.Test.YtdgeblmmmffgfaaGreatDoorD
import Derived.Shelf.LaysC
import Derived.Shelf.Strconv.Atoi
import Derived.Shelf.Strconv.AtoiErr
import Derived.Lib.AtoiErrMem
import Derived.WalkKit
import Derived.BigCall
import Derived.Test.YtdgeblmmmffgfaaGreatDoorRows
set_option linter.unusedSimpArgs false
set_option linter.unusedVariables false
namespace Go.Proofs
open Go.Shelf
def Tryz.lays_strings_Split_ren : Go.Shelf.Ren := ⟨fun | 146 => 59 | 221 => 115 | 268 => 160 | 138 => 161 | 143 => 162 | 195 => 195 | 197 => 196 | 218 => 197 | 219 => 198 | 260 => 222 | 217 => 102 | 225 => 223 | 224 => 224 | 267 => 225 | 266 => 151 | 314 => 239 | n => n, fun | 9 => 9 | 31 => 47 | 3 => 3 | 4 => 4 | 0 => 0 | 105 => 222 | 21 => 21 | 5 => 5 | 46 => 96 | 119 => 239 | 139 => 242 | 138 => 241 | 146 => 243 | 51 => 233 | n => n, fun | 1 => 0 | 3 => 2 | 4 => 3 | n => n⟩
theorem Tryz.lays_strings_Split : Go.Proofs.LaysM.n146 Tryz.prog Tryz.lays_strings_Split_ren := {
 mixed := by kernel_rfl
 f138 := Tryz.func161.trans (congrArg some (by kernel_rfl))
 f143 := Tryz.func162.trans (congrArg some (by kernel_rfl))
 f146 := Tryz.func59.trans (congrArg some (by kernel_rfl))
 f195 := Tryz.func195.trans (congrArg some (by kernel_rfl))
 f197 := Tryz.func196.trans (congrArg some (by kernel_rfl))
 f217 := Tryz.func102.trans (congrArg some (by kernel_rfl))
 f218 := Tryz.func197.trans (congrArg some (by kernel_rfl))
 f219 := Tryz.func198.trans (congrArg some (by kernel_rfl))
 f221 := Tryz.func115.trans (congrArg some (by kernel_rfl))
 f224 := Tryz.func224.trans (congrArg some (by kernel_rfl))
 f225 := Tryz.func223.trans (congrArg some (by kernel_rfl))
 f260 := Tryz.func222.trans (congrArg some (by kernel_rfl))
 f266 := Tryz.func151.trans (congrArg some (by kernel_rfl))
 f267 := Tryz.func225.trans (congrArg some (by kernel_rfl))
 f268 := Tryz.func160.trans (congrArg some (by kernel_rfl))
 f314 := Tryz.func239.trans (congrArg some (by kernel_rfl))
 t0 := Tryz.underlying0
 a0 := Tryz.isAgg0
 z0 := Tryz.sizeOf0
 v0 := Tryz.zeroValue0
 t3 := Tryz.underlying3
 a3 := Tryz.isAgg3
 z3 := Tryz.sizeOf3
 v3 := Tryz.zeroValue3
 t4 := Tryz.underlying4
 a4 := Tryz.isAgg4
 z4 := Tryz.sizeOf4
 v4 := Tryz.zeroValue4
 t5 := Tryz.underlying5
 a5 := Tryz.isAgg5
 z5 := Tryz.sizeOf5
 v5 := Tryz.zeroValue5
 t9 := Tryz.underlying9
 a9 := Tryz.isAgg9
 z9 := Tryz.sizeOf9
 v9 := Tryz.zeroValue9
 t21 := Tryz.underlying21
 a21 := Tryz.isAgg21
 z21 := Tryz.sizeOf21
 v21 := Tryz.zeroValue21
 t31 := Tryz.underlying47
 a31 := Tryz.isAgg47
 z31 := Tryz.sizeOf47
 v31 := Tryz.zeroValue47
 t46 := Tryz.underlying96
 a46 := Tryz.isAgg96
 z46 := Tryz.sizeOf96
 v46 := Tryz.zeroValue96
 t51 := Tryz.underlying233
 a51 := Tryz.isAgg233
 z51 := Tryz.sizeOf233
 v51 := Tryz.zeroValue233
 t105 := Tryz.underlying222
 a105 := Tryz.isAgg222
 z105 := Tryz.sizeOf222
 v105 := Tryz.zeroValue222
 t119 := Tryz.underlying239
 a119 := Tryz.isAgg239
 z119 := Tryz.sizeOf239
 t138 := Tryz.underlying241
 a138 := Tryz.isAgg241
 z138 := Tryz.sizeOf241
 v138 := Tryz.zeroValue241
 t139 := Tryz.underlying242
 a139 := Tryz.isAgg242
 z139 := Tryz.sizeOf242
 v139 := Tryz.zeroValue242
 t146 := Tryz.underlying243
 a146 := Tryz.isAgg243
 z146 := Tryz.sizeOf243
 v146 := Tryz.zeroValue243
 g1 := by kernel_rfl
 g3 := by kernel_rfl
 g4 := by kernel_rfl
 i0 := by kernel_rfl
 i3 := by kernel_rfl
 i4 := by kernel_rfl
 i5 := by kernel_rfl
 i9 := by kernel_rfl
 i21 := by kernel_rfl
 i31 := by kernel_rfl
 i46 := by kernel_rfl
 i51 := by kernel_rfl
 i105 := by kernel_rfl
 i138 := by kernel_rfl
 i139 := by kernel_rfl
 i146 := by kernel_rfl
 m1 := by kernel_rfl
 s1_3 := fun w h => Go.Proofs.cell_of_shapedOpen_int (zero := #[.int .i64 0]) (t := 3) h (of_decide_eq_true (by kernel_rfl)) (by kernel_rfl) rfl (by kernel_rfl) (by kernel_rfl) Tryz.underlying3
 m3 := by kernel_rfl
 m4 := by kernel_rfl }
def Tryz.lays_strconv_Itoa_ren : Go.Shelf.Ren := ⟨fun | 171 => 44 | 243 => 94 | 246 => 148 | 283 => 188 | 284 => 189 | 285 => 190 | 286 => 191 | 129 => 218 | 317 => 217 | 318 => 219 | 319 => 220 | 320 => 221 | 337 => 237 | 338 => 238 | n => n, fun | 3 => 3 | 9 => 9 | 2 => 2 | 4 => 4 | 171 => 212 | 0 => 0 | 53 => 213 | 37 => 41 | 5 => 5 | 173 => 216 | 212 => 232 | 51 => 233 | 20 => 20 | 213 => 234 | 46 => 96 | 232 => 253 | 233 => 254 | n => n, fun | 17 => 1 | 18 => 4 | 19 => 5 | n => n⟩
theorem Tryz.lays_strconv_Itoa : Go.Proofs.LaysM.n171 Tryz.prog Tryz.lays_strconv_Itoa_ren := {
 mixed := by kernel_rfl
 f129 := Tryz.func218.trans (congrArg some (by kernel_rfl))
 f171 := Tryz.func44.trans (congrArg some (by kernel_rfl))
 f243 := Tryz.func94.trans (congrArg some (by kernel_rfl))
 f246 := Tryz.func148.trans (congrArg some (by kernel_rfl))
 f283 := Tryz.func188.trans (congrArg some (by kernel_rfl))
 f284 := Tryz.func189.trans (congrArg some (by kernel_rfl))
 f285 := Tryz.func190.trans (congrArg some (by kernel_rfl))
 f286 := Tryz.func191.trans (congrArg some (by kernel_rfl))
 f317 := Tryz.func217.trans (congrArg some (by kernel_rfl))
 f318 := Tryz.func219.trans (congrArg some (by kernel_rfl))
 f319 := Tryz.func220.trans (congrArg some (by kernel_rfl))
 f320 := Tryz.func221.trans (congrArg some (by kernel_rfl))
 f337 := Tryz.func237.trans (congrArg some (by kernel_rfl))
 f338 := Tryz.func238.trans (congrArg some (by kernel_rfl))
 t0 := Tryz.underlying0
 a0 := Tryz.isAgg0
 z0 := Tryz.sizeOf0
 v0 := Tryz.zeroValue0
 t2 := Tryz.underlying2
 a2 := Tryz.isAgg2
 z2 := Tryz.sizeOf2
 v2 := Tryz.zeroValue2
 t3 := Tryz.underlying3
 a3 := Tryz.isAgg3
 z3 := Tryz.sizeOf3
 v3 := Tryz.zeroValue3
 t4 := Tryz.underlying4
 a4 := Tryz.isAgg4
 z4 := Tryz.sizeOf4
 v4 := Tryz.zeroValue4
 t5 := Tryz.underlying5
 a5 := Tryz.isAgg5
 z5 := Tryz.sizeOf5
 v5 := Tryz.zeroValue5
 t9 := Tryz.underlying9
 a9 := Tryz.isAgg9
 z9 := Tryz.sizeOf9
 v9 := Tryz.zeroValue9
 t20 := Tryz.underlying20
 a20 := Tryz.isAgg20
 z20 := Tryz.sizeOf20
 v20 := Tryz.zeroValue20
 t37 := Tryz.underlying41
 a37 := Tryz.isAgg41
 z37 := Tryz.sizeOf41
 v37 := Tryz.zeroValue41
 t46 := Tryz.underlying96
 a46 := Tryz.isAgg96
 z46 := Tryz.sizeOf96
 v46 := Tryz.zeroValue96
 t51 := Tryz.underlying233
 a51 := Tryz.isAgg233
 z51 := Tryz.sizeOf233
 v51 := Tryz.zeroValue233
 t53 := Tryz.underlying213
 a53 := Tryz.isAgg213
 z53 := Tryz.sizeOf213
 v53 := Tryz.zeroValue213
 t171 := Tryz.underlying212
 a171 := Tryz.isAgg212
 z171 := Tryz.sizeOf212
 v171 := Tryz.zeroValue212
 t173 := Tryz.underlying216
 a173 := Tryz.isAgg216
 z173 := Tryz.sizeOf216
 v173 := Tryz.zeroValue216
 t212 := Tryz.underlying232
 a212 := Tryz.isAgg232
 z212 := Tryz.sizeOf232
 v212 := Tryz.zeroValue232
 t213 := Tryz.underlying234
 a213 := Tryz.isAgg234
 z213 := Tryz.sizeOf234
 t232 := Tryz.underlying253
 a232 := Tryz.isAgg253
 z232 := Tryz.sizeOf253
 v232 := Tryz.zeroValue253
 t233 := Tryz.underlying254
 a233 := Tryz.isAgg254
 z233 := Tryz.sizeOf254
 v233 := Tryz.zeroValue254
 g17 := by kernel_rfl
 g18 := by kernel_rfl
 g19 := by kernel_rfl
 i0 := by kernel_rfl
 i2 := by kernel_rfl
 i3 := by kernel_rfl
 i4 := by kernel_rfl
 i5 := by kernel_rfl
 i9 := by kernel_rfl
 i20 := by kernel_rfl
 i37 := by kernel_rfl
 i46 := by kernel_rfl
 i51 := by kernel_rfl
 i53 := by kernel_rfl
 i171 := by kernel_rfl
 i173 := by kernel_rfl
 i212 := by kernel_rfl
 i232 := by kernel_rfl
 i233 := by kernel_rfl
 m17 := by kernel_rfl
 m18 := by kernel_rfl
 m19 := by kernel_rfl }
def Tryz.lays_strconv_Atoi_ren : Go.Shelf.Ren := ⟨fun | 172 => 200 | 244 => 227 | 245 => 228 | 247 => 240 | 279 => 241 | 280 => 242 | 281 => 243 | 282 => 244 | 287 => 249 | 316 => 250 | 171 => 44 | 205 => 251 | 321 => 263 | 322 => 264 | 243 => 94 | 246 => 148 | 283 => 188 | 284 => 189 | 285 => 190 | 286 => 191 | 129 => 218 | 317 => 217 | 318 => 219 | 319 => 220 | 320 => 221 | 337 => 237 | 338 => 238 | n => n, fun | 9 => 9 | 3 => 3 | 75 => 143 | 76 => 144 | 4 => 4 | 5 => 5 | 167 => 245 | 37 => 41 | 0 => 0 | 85 => 246 | 2 => 2 | 168 => 248 | 53 => 213 | 175 => 255 | 46 => 96 | 210 => 259 | 127 => 183 | 145 => 273 | 143 => 271 | 21 => 21 | 171 => 212 | 173 => 216 | 212 => 232 | 51 => 233 | 20 => 20 | 213 => 234 | 232 => 253 | 233 => 254 | 80 => 146 | n => n, fun | 15 => 6 | 16 => 7 | 17 => 1 | 18 => 4 | 19 => 5 | n => n⟩
theorem Tryz.lays_strconv_Atoi : Go.Proofs.LaysC.n172 Tryz.prog Tryz.lays_strconv_Atoi_ren := {
 mixed := by kernel_rfl
 f129 := Tryz.func218.trans (congrArg some (by kernel_rfl))
 f171 := Tryz.func44.trans (congrArg some (by kernel_rfl))
 f172 := Tryz.func200.trans (congrArg some (by kernel_rfl))
 f205 := Tryz.func251.trans (congrArg some (by kernel_rfl))
 f243 := Tryz.func94.trans (congrArg some (by kernel_rfl))
 f244 := Tryz.func227.trans (congrArg some (by kernel_rfl))
 f245 := Tryz.func228.trans (congrArg some (by kernel_rfl))
 f246 := Tryz.func148.trans (congrArg some (by kernel_rfl))
 f247 := Tryz.func240.trans (congrArg some (by kernel_rfl))
 f279 := Tryz.func241.trans (congrArg some (by kernel_rfl))
 f280 := Tryz.func242.trans (congrArg some (by kernel_rfl))
 f281 := Tryz.func243.trans (congrArg some (by kernel_rfl))
 f282 := Tryz.func244.trans (congrArg some (by kernel_rfl))
 f283 := Tryz.func188.trans (congrArg some (by kernel_rfl))
 f284 := Tryz.func189.trans (congrArg some (by kernel_rfl))
 f285 := Tryz.func190.trans (congrArg some (by kernel_rfl))
 f286 := Tryz.func191.trans (congrArg some (by kernel_rfl))
 f287 := Tryz.func249.trans (congrArg some (by kernel_rfl))
 f316 := Tryz.func250.trans (congrArg some (by kernel_rfl))
 f317 := Tryz.func217.trans (congrArg some (by kernel_rfl))
 f318 := Tryz.func219.trans (congrArg some (by kernel_rfl))
 f319 := Tryz.func220.trans (congrArg some (by kernel_rfl))
 f320 := Tryz.func221.trans (congrArg some (by kernel_rfl))
 f321 := Tryz.func263.trans (congrArg some (by kernel_rfl))
 f322 := Tryz.func264.trans (congrArg some (by kernel_rfl))
 f337 := Tryz.func237.trans (congrArg some (by kernel_rfl))
 f338 := Tryz.func238.trans (congrArg some (by kernel_rfl))
 t0 := Tryz.underlying0
 a0 := Tryz.isAgg0
 z0 := Tryz.sizeOf0
 v0 := Tryz.zeroValue0
 t2 := Tryz.underlying2
 a2 := Tryz.isAgg2
 z2 := Tryz.sizeOf2
 v2 := Tryz.zeroValue2
 t3 := Tryz.underlying3
 a3 := Tryz.isAgg3
 z3 := Tryz.sizeOf3
 v3 := Tryz.zeroValue3
 t4 := Tryz.underlying4
 a4 := Tryz.isAgg4
 z4 := Tryz.sizeOf4
 v4 := Tryz.zeroValue4
 t5 := Tryz.underlying5
 a5 := Tryz.isAgg5
 z5 := Tryz.sizeOf5
 v5 := Tryz.zeroValue5
 t9 := Tryz.underlying9
 a9 := Tryz.isAgg9
 z9 := Tryz.sizeOf9
 v9 := Tryz.zeroValue9
 t20 := Tryz.underlying20
 a20 := Tryz.isAgg20
 z20 := Tryz.sizeOf20
 v20 := Tryz.zeroValue20
 t21 := Tryz.underlying21
 a21 := Tryz.isAgg21
 z21 := Tryz.sizeOf21
 v21 := Tryz.zeroValue21
 t37 := Tryz.underlying41
 a37 := Tryz.isAgg41
 z37 := Tryz.sizeOf41
 v37 := Tryz.zeroValue41
 t46 := Tryz.underlying96
 a46 := Tryz.isAgg96
 z46 := Tryz.sizeOf96
 v46 := Tryz.zeroValue96
 t51 := Tryz.underlying233
 a51 := Tryz.isAgg233
 z51 := Tryz.sizeOf233
 v51 := Tryz.zeroValue233
 t53 := Tryz.underlying213
 a53 := Tryz.isAgg213
 z53 := Tryz.sizeOf213
 v53 := Tryz.zeroValue213
 t75 := Tryz.underlying143
 a75 := Tryz.isAgg143
 z75 := Tryz.sizeOf143
 v75 := Tryz.zeroValue143
 t76 := Tryz.underlying144
 a76 := Tryz.isAgg144
 z76 := Tryz.sizeOf144
 v76 := Tryz.zeroValue144
 t85 := Tryz.underlying246
 a85 := Tryz.isAgg246
 z85 := Tryz.sizeOf246
 v85 := Tryz.zeroValue246
 t127 := Tryz.underlying183
 a127 := Tryz.isAgg183
 z127 := Tryz.sizeOf183
 v127 := Tryz.zeroValue183
 t143 := Tryz.underlying271
 a143 := Tryz.isAgg271
 z143 := Tryz.sizeOf271
 v143 := Tryz.zeroValue271
 t145 := Tryz.underlying273
 a145 := Tryz.isAgg273
 z145 := Tryz.sizeOf273
 v145 := Tryz.zeroValue273
 t167 := Tryz.underlying245
 a167 := Tryz.isAgg245
 z167 := Tryz.sizeOf245
 v167 := Tryz.zeroValue245
 t168 := Tryz.underlying248
 a168 := Tryz.isAgg248
 z168 := Tryz.sizeOf248
 v168 := Tryz.zeroValue248
 t171 := Tryz.underlying212
 a171 := Tryz.isAgg212
 z171 := Tryz.sizeOf212
 v171 := Tryz.zeroValue212
 t173 := Tryz.underlying216
 a173 := Tryz.isAgg216
 z173 := Tryz.sizeOf216
 v173 := Tryz.zeroValue216
 t175 := Tryz.underlying255
 a175 := Tryz.isAgg255
 z175 := Tryz.sizeOf255
 v175 := Tryz.zeroValue255
 t210 := Tryz.underlying259
 a210 := Tryz.isAgg259
 z210 := Tryz.sizeOf259
 v210 := Tryz.zeroValue259
 t212 := Tryz.underlying232
 a212 := Tryz.isAgg232
 z212 := Tryz.sizeOf232
 v212 := Tryz.zeroValue232
 t213 := Tryz.underlying234
 a213 := Tryz.isAgg234
 z213 := Tryz.sizeOf234
 t232 := Tryz.underlying253
 a232 := Tryz.isAgg253
 z232 := Tryz.sizeOf253
 v232 := Tryz.zeroValue253
 t233 := Tryz.underlying254
 a233 := Tryz.isAgg254
 z233 := Tryz.sizeOf254
 v233 := Tryz.zeroValue254
 g15 := by kernel_rfl
 g16 := by kernel_rfl
 g17 := by kernel_rfl
 g18 := by kernel_rfl
 g19 := by kernel_rfl
 t80 := Tryz.underlying146
 a80 := Tryz.isAgg146
 z80 := Tryz.sizeOf146
 v80 := Tryz.zeroValue146
 i0 := by kernel_rfl
 i2 := by kernel_rfl
 i3 := by kernel_rfl
 i4 := by kernel_rfl
 i5 := by kernel_rfl
 i9 := by kernel_rfl
 i20 := by kernel_rfl
 i21 := by kernel_rfl
 i37 := by kernel_rfl
 i46 := by kernel_rfl
 i51 := by kernel_rfl
 i53 := by kernel_rfl
 i75 := by kernel_rfl
 i76 := by kernel_rfl
 i80 := by kernel_rfl
 i85 := by kernel_rfl
 i127 := by kernel_rfl
 i143 := by kernel_rfl
 i145 := by kernel_rfl
 i167 := by kernel_rfl
 i168 := by kernel_rfl
 i171 := by kernel_rfl
 i173 := by kernel_rfl
 i175 := by kernel_rfl
 i210 := by kernel_rfl
 i212 := by kernel_rfl
 i232 := by kernel_rfl
 i233 := by kernel_rfl
 m15 := by kernel_rfl
 m16 := by kernel_rfl
 m17 := by kernel_rfl
 m18 := by kernel_rfl
 m19 := by kernel_rfl
 c0 := by kernel_rfl
 c2 := by kernel_rfl
 c3 := by kernel_rfl
 c4 := by kernel_rfl
 c5 := by kernel_rfl
 c9 := by kernel_rfl
 c20 := by kernel_rfl
 c21 := by kernel_rfl
 c37 := by kernel_rfl
 c46 := by kernel_rfl
 c51 := by kernel_rfl
 c53 := by kernel_rfl
 c75 := by kernel_rfl
 c76 := by kernel_rfl
 c80 := by kernel_rfl
 c85 := by kernel_rfl
 c127 := by kernel_rfl
 c143 := by kernel_rfl
 c145 := by kernel_rfl
 c167 := by kernel_rfl
 c168 := by kernel_rfl
 c171 := by kernel_rfl
 c173 := by kernel_rfl
 c175 := by kernel_rfl
 c210 := by kernel_rfl
 c212 := by kernel_rfl
 c213 := by kernel_rfl
 c232 := by kernel_rfl
 c233 := by kernel_rfl }
def Tryz.lays_strings_Cut_ren : Go.Shelf.Ren := ⟨fun | 145 => 167 | 220 => 201 | 219 => 198 | 217 => 102 | 225 => 223 | 224 => 224 | 267 => 225 | 266 => 151 | 314 => 239 | n => n, fun | 9 => 9 | 4 => 4 | 59 => 193 | 3 => 3 | 5 => 5 | 46 => 96 | 146 => 243 | 51 => 233 | n => n, fun | 1 => 0 | n => n⟩
theorem Tryz.lays_strings_Cut : Go.Proofs.Lays.n145 Tryz.prog Tryz.lays_strings_Cut_ren := {
 mixed := by kernel_rfl
 f145 := Tryz.func167.trans (congrArg some (by kernel_rfl))
 f217 := Tryz.func102.trans (congrArg some (by kernel_rfl))
 f219 := Tryz.func198.trans (congrArg some (by kernel_rfl))
 f220 := Tryz.func201.trans (congrArg some (by kernel_rfl))
 f224 := Tryz.func224.trans (congrArg some (by kernel_rfl))
 f225 := Tryz.func223.trans (congrArg some (by kernel_rfl))
 f266 := Tryz.func151.trans (congrArg some (by kernel_rfl))
 f267 := Tryz.func225.trans (congrArg some (by kernel_rfl))
 f314 := Tryz.func239.trans (congrArg some (by kernel_rfl))
 t3 := Tryz.underlying3
 a3 := Tryz.isAgg3
 z3 := Tryz.sizeOf3
 v3 := Tryz.zeroValue3
 t4 := Tryz.underlying4
 a4 := Tryz.isAgg4
 z4 := Tryz.sizeOf4
 v4 := Tryz.zeroValue4
 t5 := Tryz.underlying5
 a5 := Tryz.isAgg5
 z5 := Tryz.sizeOf5
 v5 := Tryz.zeroValue5
 t9 := Tryz.underlying9
 a9 := Tryz.isAgg9
 z9 := Tryz.sizeOf9
 v9 := Tryz.zeroValue9
 t46 := Tryz.underlying96
 a46 := Tryz.isAgg96
 z46 := Tryz.sizeOf96
 v46 := Tryz.zeroValue96
 t51 := Tryz.underlying233
 a51 := Tryz.isAgg233
 z51 := Tryz.sizeOf233
 v51 := Tryz.zeroValue233
 t59 := Tryz.underlying193
 a59 := Tryz.isAgg193
 z59 := Tryz.sizeOf193
 v59 := Tryz.zeroValue193
 t146 := Tryz.underlying243
 a146 := Tryz.isAgg243
 z146 := Tryz.sizeOf243
 v146 := Tryz.zeroValue243
 g1 := by kernel_rfl }
def Tryz.lays_strings_Join_ren : Go.Shelf.Ren := ⟨fun | 156 => 48 | 165 => 97 | 166 => 98 | 169 => 99 | 240 => 149 | 241 => 150 | 276 => 192 | 277 => 193 | n => n, fun | 31 => 47 | 9 => 9 | 3 => 3 | 4 => 4 | 0 => 0 | 20 => 20 | 72 => 140 | 76 => 144 | 70 => 138 | 37 => 41 | 75 => 143 | 127 => 183 | 164 => 218 | 5 => 5 | 80 => 146 | n => n, fun | n => n⟩
theorem Tryz.lays_strings_Join : Go.Proofs.Lays.n156 Tryz.prog Tryz.lays_strings_Join_ren := {
 mixed := by kernel_rfl
 f156 := Tryz.func48.trans (congrArg some (by kernel_rfl))
 f165 := Tryz.func97.trans (congrArg some (by kernel_rfl))
 f166 := Tryz.func98.trans (congrArg some (by kernel_rfl))
 f169 := Tryz.func99.trans (congrArg some (by kernel_rfl))
 f240 := Tryz.func149.trans (congrArg some (by kernel_rfl))
 f241 := Tryz.func150.trans (congrArg some (by kernel_rfl))
 f276 := Tryz.func192.trans (congrArg some (by kernel_rfl))
 f277 := Tryz.func193.trans (congrArg some (by kernel_rfl))
 t0 := Tryz.underlying0
 a0 := Tryz.isAgg0
 z0 := Tryz.sizeOf0
 v0 := Tryz.zeroValue0
 t3 := Tryz.underlying3
 a3 := Tryz.isAgg3
 z3 := Tryz.sizeOf3
 v3 := Tryz.zeroValue3
 t4 := Tryz.underlying4
 a4 := Tryz.isAgg4
 z4 := Tryz.sizeOf4
 v4 := Tryz.zeroValue4
 t9 := Tryz.underlying9
 a9 := Tryz.isAgg9
 z9 := Tryz.sizeOf9
 v9 := Tryz.zeroValue9
 t20 := Tryz.underlying20
 a20 := Tryz.isAgg20
 z20 := Tryz.sizeOf20
 v20 := Tryz.zeroValue20
 t31 := Tryz.underlying47
 a31 := Tryz.isAgg47
 z31 := Tryz.sizeOf47
 v31 := Tryz.zeroValue47
 t37 := Tryz.underlying41
 a37 := Tryz.isAgg41
 z37 := Tryz.sizeOf41
 v37 := Tryz.zeroValue41
 t70 := Tryz.underlying138
 a70 := Tryz.isAgg138
 z70 := Tryz.sizeOf138
 v70 := Tryz.zeroValue138
 t72 := Tryz.underlying140
 a72 := Tryz.isAgg140
 z72 := Tryz.sizeOf140
 v72 := Tryz.zeroValue140
 t75 := Tryz.underlying143
 a75 := Tryz.isAgg143
 z75 := Tryz.sizeOf143
 v75 := Tryz.zeroValue143
 t76 := Tryz.underlying144
 a76 := Tryz.isAgg144
 z76 := Tryz.sizeOf144
 v76 := Tryz.zeroValue144
 t127 := Tryz.underlying183
 a127 := Tryz.isAgg183
 z127 := Tryz.sizeOf183
 v127 := Tryz.zeroValue183
 t164 := Tryz.underlying218
 a164 := Tryz.isAgg218
 z164 := Tryz.sizeOf218
 v164 := Tryz.zeroValue218 }
theorem Tryz.extra_strings_Join : Builder.Extra Tryz.prog Tryz.lays_strings_Join_ren := {
 sizeBuilder := by kernel_rfl
 liesBuilder := by kernel_rfl
 t5 := by kernel_rfl
 a5 := by intro _; kernel_rfl
 z5 := by intro _; kernel_rfl
 v5 := by intro _; kernel_rfl
 infoByte := by kernel_rfl
 cellsByte := by kernel_rfl
 sizeByte := by kernel_rfl
 neB5 := by decide }
end Go.Proofs
namespace KF
open Go Go.Proofs Go.Proofs.Tryz
def GT : List (Nat × Ty) := [(3, int), (4, .b), (5, BK), (9, .s), (22, (.sl (.sl Xa))), (24, Ua), (25, (.sl (.sl Ac))), (26, (.sl Mg)), (28, Jb), (30, Ac), (31, (.sl Qe)), (33, Dd), (34, (.sl Qf)), (36, Lf), (41, (.sl BK)), (47, (.sl .s)), (49, (.sl int)), (51, Vv), (53, Qf), (83, Qe), (97, (.sl Xa)), (100, Xa), (126, Mg), (156, (.sl Ac)), (185, Ac), (207, (.sl Xg)), (209, Xg)]
def GA : List (Nat × Ty × Nat) := []
theorem Bae : ((GT.all fun x => Sc Tryz.prog x.2 x.1) && (GA.all fun x => AK Tryz.prog x.1 x.2.1 x.2.2)) = true := by kernel_rfl
theorem U2 : Tryz.prog.follows .mixedOrders = true := by kernel_rfl
noncomputable abbrev II : Yf := T1 Tryz.prog (Tryz.lays_strings_Split_ren.g 1) (Tryz.lays_strconv_Itoa_ren.g 17) "internal/strconv.uint64pow10" .u64 Lib.pow10Tab Tryz.lays_strconv_Itoa.m17 (Tryz.lays_strconv_Atoi_ren.g 15)
noncomputable section
abbrev WP : Program := Tryz.prog
abbrev WF := List (Nat × La)
abbrev WL := List (Nat × Sa)
abbrev WG (z : Bool) (fs : WF) (m : List (Nat × Nat)) (v l : List Nat) : Rd := ⟨GT, fs, m, z, GA, v, l⟩
def WO (fs : WF) : Prop := ∀ z m v l, Zj WP II (WG z fs m v l)
theorem Aao : WO [] := fun _ _ _ _ => VX Bae
theorem wc {f : Nat} {s : La} {fs : WF} (e : WO fs) (h : Bk WP II f s) : WO ((f, s) :: fs) := fun z m v l => Zj.cons h (e z m v l)
theorem Lab {f : Nat} {s : La} {fs : WF} (e : WO fs) (h : Za fs f = some s) : Bk WP II f s := (e true [] [] []).fn f s h
theorem Tc {z : Bool} {fs : WF} {m : List (Nat × Nat)} {v l : List Nat} {L : WL} {fn : Func} {i : Nat} (r : Nat) {ls : Sa} {R : ls.inT.X → Option (ls.inT.X ⊕ (ls.outT.X ⊕ ls.retT.X))}
 (h3 : ls.F = Cb R) (h1 : Fh (lp fn i) = some r := by kernel_rfl) (h2 : (Za L r) = some ls := by kernel_rfl) (h4 : ∀ x, Jz (WG z fs m v l) L ls (lp fn i) x = R x := by intro _; kernel_rfl) : Db (WG z fs m v l) L (lp fn i) := NZ h1 h2 h3 h4
theorem Cd {f : Nat} {fn : Func} {pt rt : Ty} {fr : List Bool} {F : T pt → Option (T rt)} {fs : WF} (e : WO fs) (hf : WP.funcs[f]? = some fn)
 (hb : (fn.body.isSome && !(fn.name == "runtime.NumGoroutine") && Nat.ble pt.npar fn.ntmps && Nat.beq (Xd (fn.body.getD .skip)).length 0) = true := by kernel_rfl)
 (hF : ∀ x, BY (WG true fs [] [] []) [] fn pt rt fr x = F x := by intro _; kernel_rfl) : WO ((f, .pu pt rt fr F) :: fs) := wc e (DM (e _ _ _ _) U2 hf hb Oa hF)
theorem Re {k : Nat} {L : WL} {m : List (Nat × Nat)} {v l : List Nat} {f : Nat} {fn : Func} {pt rt : Ty} {fr : List Bool} {F : T pt → Option (T rt)} {fs : WF} (e : WO fs) (hf : WP.funcs[f]? = some fn) (hL : ∀ i, i < k → Db (WG true fs m v l) L (lp fn i))
 (hb : (fn.body.isSome && !(fn.name == "runtime.NumGoroutine") && Nat.ble pt.npar fn.ntmps && Nat.beq (Xd (fn.body.getD .skip)).length k) = true := by kernel_rfl)
 (hF : ∀ x, BY (WG true fs m v l) L fn pt rt fr x = F x := by intro _; kernel_rfl) : WO ((f, .pu pt rt fr F) :: fs) := wc e (DM (e _ _ _ _) U2 hf hb hL hF)
theorem AC {k : Nat} {L : WL} {m : List (Nat × Nat)} {v l : List Nat} {f : Nat} {fn : Func} {τ pt rt : Ty} {fr : List Bool} {F : T τ → T pt → Option (T τ × T rt)} {fs : WF} (e : WO fs) (hf : WP.funcs[f]? = some fn) (hL : ∀ i, i < k → Db (WG false fs m v l) L (lp fn i))
 (hb : (fn.body.isSome && !(fn.name == "runtime.NumGoroutine") && Nat.ble (pt.npar + 1) fn.ntmps && Nat.beq (Xd (fn.body.getD .skip)).length k) = true := by kernel_rfl)
 (hF : ∀ x0 x, TN (WG false fs m v l) L fn τ pt rt fr x0 x = F x0 x := by intro _ _; kernel_rfl) : WO ((f, .io τ pt rt fr F) :: fs) := wc e (ZZ (e _ _ _ _) rfl U2 hf hb hL hF)
theorem U8 : ∀ w, II.p w → ∃ m, w.cell? ⟨Tryz.lays_strings_Split_ren.g 1, 0, none⟩ = some (.int .i64 m) := fun _ h => h.1.1
theorem Rak : ∀ w, II.p w → Lib.TabIs Tryz.prog w "internal/strconv.uint64pow10" .u64 Lib.pow10Tab := fun _ h => h.1.2
theorem Qak : ∀ w, II.p w → ∃ ev, w.cell? ⟨Tryz.lays_strconv_Atoi_ren.g 15, 0, none⟩ = some ev ∧ (ev = .nilIface ∨ ∃ te pe, ev = .iface te pe) := fun _ h => h.2
abbrev Ta : TD := .data int
abbrev Ed : Ty := .p int .u
abbrev Tl : Ty := .sl Xa
abbrev Td : Ty := .p .b .u
abbrev KL : TD := .pr Ta (.pr (.own 200001 Tl true) .un)
abbrev Eu : Ty := .sl Ac
abbrev Ph : Ty := .p .s .u
abbrev Ul : TD := .data .b
abbrev Uq : Ty := .sl Mg
abbrev Aj : TD := .data .s
abbrev On : Ty := .sl Qe
abbrev VA : TD := .own 200001 .s true
abbrev Lm : TD := .ptr 1 []
abbrev Pn : TD := .ptr 2 []
abbrev Yx : TD := .data (.sl Tl)
abbrev NI : TD := .pr Ta (.pr Yx .un)
abbrev Zx : TD := .data Jb
abbrev WA : Ty := .p Xa .u
abbrev Xq : Ty := .sl Eu
abbrev PC : Ty := .p Ua .u
abbrev QC : TD := .data Ua
abbrev RC : Ty := .p Jb .u
abbrev Pam : La := .pu (.p .s (.p BK .u)) (.p (.sl .s) .u) [true] (fun x => Gf x.1 x.2.1)
abbrev C8 : WF := (53, Pam) :: ([] : WF)
def TY : Sa := ⟨36, ⟨[(0, Aj), (1, (.data BK)), (5, VA), (6, Ta), (7, Ta)], []⟩, 0, ⟨[(5, VA)], []⟩, ⟨[], []⟩, Te⟩
def Zak : WL := [(4, TY)]
theorem Baa : Db (WG true ([] : WF) [] [] []) Zak (lp f53 0) := Tc 4 (ls := TY) rfl
theorem Laj : WO C8 := Re Aao func53 (Na Baa Oa)
abbrev Aag : La := .pu Ac Td [true] (fun x => Pc x.1 x.2.1 x.2.2.1)
abbrev Z2 : WF := (109, Aag) :: C8
theorem Vab : WO Z2 := Cd Laj func109
abbrev Yah : La := .pu .u (.p (.sl .s) .u) [true] (fun x => Ev)
abbrev Z3 : WF := (194, Yah) :: Z2
theorem Tad : WO Z3 := Cd Vab func194
abbrev Zag : La := .pu Ed Ph [true] (fun x => Ug x.1)
abbrev GU : WF := (152, Zag) :: Z3
theorem Uac : WO GU := Cd Tad func152
abbrev Uaf : La := .pu Ph Ed [true] (fun x => Hl x.1)
abbrev ST : WF := (103, Uaf) :: GU
def MR : Sa := ⟨13, ⟨[(0, Aj), (3, Ta)], []⟩, 0, ⟨[], []⟩, ⟨[(2, Ta)], []⟩, Nh⟩
def Cae : WL := [(2, MR)]
theorem K5 : Db (WG true GU [] [] []) Cae (lp f103 0) := Tc 2 (ls := MR) rfl
theorem Pab : WO ST := Re Uac func103 (Na K5 Oa)
abbrev Aah : La := .pu Ed Ph [true] (fun x => Zc x.1)
abbrev HU : WF := (153, Aah) :: ST
def FS : Sa := ⟨31, ⟨[(0, Ta), (3, Aj), (4, Ta)], []⟩, 0, ⟨[(0, Ta), (3, Aj)], []⟩, ⟨[], []⟩, Se⟩
def Uae : WL := [(5, FS)]
theorem D6 : Db (WG true ST [] [] []) Uae (lp f153 0) := Tc 5 (ls := FS) rfl
theorem Vac : WO HU := Re Pab func153 (Na D6 Oa)
abbrev Waf : La := .pu Ph (.p int Td) [true, true] (fun x => Jn x.1)
abbrev TT : WF := (105, Waf) :: HU
def NR : Sa := ⟨62, ⟨[(0, Aj), (4, Aj), (5, Ta), (6, Ta)], []⟩, 0, ⟨[(0, Aj), (4, Aj), (5, Ta)], []⟩, ⟨[(2, Ta), (3, Ul)], []⟩, Be⟩
def Dae : WL := [(8, NR)]
theorem L5 : Db (WG true HU [] [] []) Dae (lp f105 0) := Tc 8 (ls := NR) rfl
theorem Rab : WO TT := Re Vac func105 (Na L5 Oa)
abbrev Bah : La := .pu Ed Ph [true] (fun x => Lg x.1)
abbrev IU : WF := (154, Bah) :: TT
def GS : Sa := ⟨25, ⟨[(0, Ta), (3, Aj), (4, Ta)], []⟩, 0, ⟨[(3, Aj)], []⟩, ⟨[], []⟩, Il⟩
def Vae : WL := [(3, GS)]
theorem E6 : Db (WG true TT [] [] []) Vae (lp f154 0) := Tc 3 (ls := GS) rfl
theorem Wac : WO IU := Re Rab func154 (Na E6 Oa)
abbrev Xaf : La := .pu Ph Ed [true] (fun x => Xi x.1)
abbrev W2 : WF := (106, Xaf) :: IU
def OR : Sa := ⟨13, ⟨[(0, Aj), (3, Ta)], []⟩, 0, ⟨[], []⟩, ⟨[(2, Ta)], []⟩, Dg⟩
def Eae : WL := [(2, OR)]
theorem N5 : Db (WG true IU [] [] []) Eae (lp f106 0) := Tc 2 (ls := OR) rfl
theorem Sab : WO W2 := Re Wac func106 (Na N5 Oa)
abbrev Vaf : La := .pu (.p int (.p .s Ph)) WA [true] (fun x => Lw x.1 x.2.1 x.2.2.1)
abbrev V2 : WF := (104, Vaf) :: W2
theorem Qab : WO V2 := Cd Sab func104
abbrev Zaf : La := .pu WA Td [true] (fun x => Vf x.1)
abbrev Y2 : WF := (108, Zaf) :: V2
theorem Uab : WO Y2 := Cd Qab func108
abbrev Yaf : La := .pu WA Ph [true] (fun x => Fd x.1)
abbrev X2 : WF := (107, Yaf) :: Y2
theorem Tab : WO X2 := Cd Uab func107
abbrev Qam : La := .pu Ph (.p Xa Td) [true, true] (fun x => Xm x.1)
abbrev ZU : WF := (54, Qam) :: X2
theorem Maj : WO ZU := Cd Tab func54
abbrev Ram : La := .pu PC Td [true] (fun x => Hn x.1)
abbrev P0 : WF := (55, Ram) :: ZU
def VY : Sa := ⟨74, ⟨[(1, Lm), (3, Ta), (4, Ta)], [(1, Ua, QC)]⟩, 2, ⟨[(1, Lm), (3, Ta)], [(1, Ua, QC)]⟩, ⟨[(2, Ul)], []⟩, Ri⟩
def UY : Sa := ⟨74, ⟨[(1, Lm), (3, Ta)], [(1, Ua, QC)]⟩, 0, ⟨[(1, Lm)], [(1, Ua, QC)]⟩, ⟨[(2, Ul)], []⟩, Qi⟩
def W8 : WL := [(7, VY), (2, UY)]
theorem Daa : Db (WG true ZU [] [] []) W8 (lp f55 1) := Tc 7 (ls := VY) rfl
theorem Caa : Db (WG true ZU [] [] []) W8 (lp f55 0) := Tc 2 (ls := UY) rfl
theorem Naj : WO P0 := Re Maj func55 (Na Daa (Na Caa Oa))
abbrev Wal : La := .pu Ph (.p Ua Td) [false, true] (fun x => Ym x.1)
abbrev O7 : WF := (21, Wal) :: P0
def KY : Sa := ⟨57, ⟨[(2, Pn), (4, (.ptr 4 [])), (5, (.own 200001 Xa true)), (6, (.own 200002 .s true)), (7, Ta)], [(2, Ua, NI), (4, Ua, (.pr Ta (.pr (.own 200003 Tl false) .un)))]⟩, 0, ⟨[(2, Pn), (4, (.ptr 4 []))], [(2, Ua, NI), (4, Ua, (.pr Ta (.pr (.own 200001 Tl false) .un)))]⟩, ⟨[(2, Pn), (3, Ul)], [(2, Ua, NI)]⟩, Tj⟩
def Sak : WL := [(5, KY)]
theorem S9 : Db (WG true P0 [(8004, 1000200001), (17999, 1000200001)] [] []) Sak (lp f21 0) := Tc 5 (ls := KY) rfl
theorem Sai : WO O7 := Re Naj func21 (Na S9 Oa)
abbrev Cah : La := .pu WA Td [true] (fun x => Qq x.1)
abbrev JU : WF := (155, Cah) :: O7
theorem Xac : WO JU := Cd Sai func155
abbrev Bag : La := .pu (.p Uq .u) Td [true] (fun x => Kw x.1)
abbrev UT : WF := (110, Bag) :: JU
def PR : Sa := ⟨57, ⟨[(0, (.data Uq)), (3, Ta), (4, Ta)], []⟩, 0, ⟨[], []⟩, ⟨[(2, Ul)], []⟩, Wp⟩
def Fae : WL := [(3, PR)]
theorem O5 : Db (WG true JU [] [] []) Fae (lp f110 0) := Tc 3 (ls := PR) rfl
theorem Wab : WO UT := Re Xac func110 (Na O5 Oa)
abbrev Dah : La := .pu (.p Uq (.p Ac .u)) Ed [true] (fun x => Nw x.1 x.2.1)
abbrev N3 : WF := (156, Dah) :: UT
def HS : Sa := ⟨33, ⟨[(0, (.data Uq)), (3, (.ptr 3 [])), (5, Ta)], [(3, Ac, (.data Ac))]⟩, 0, ⟨[], []⟩, ⟨[(4, Ta)], []⟩, Yp⟩
def Wae : WL := [(2, HS)]
theorem F6 : Db (WG true UT [] [] []) Wae (lp f156 0) := Tc 2 (ls := HS) rfl
theorem Yac : WO N3 := Re Wab func156 (Na F6 Oa)
abbrev Eah : La := .pu (.p Ac .u) WA [true] (fun x => Ws x.1)
abbrev O3 : WF := (157, Eah) :: N3
theorem Zac : WO O3 := Cd Yac func157
abbrev Fah : La := .pu (.p Uq Ed) (.p Uq .u) [true] (fun x => Dm x.1 x.2.1)
abbrev KU : WF := (158, Fah) :: O3
theorem Aad : WO KU := Cd Zac func158
abbrev Cag : La := .pu (.p Eu .u) Td [true] (fun x => Cv x.1)
abbrev GN : WF := (111, Cag) :: KU
def QR : Sa := ⟨62, ⟨[(0, (.data Eu)), (3, (.own 200001 Mg true)), (4, Ta)], []⟩, 0, ⟨[(0, (.data Eu)), (3, (.own 200001 Mg true))], []⟩, ⟨[(2, Ul)], []⟩, Tn⟩
def Gae : WL := [(3, QR)]
theorem P5 : Db (WG true KU [] [] []) Gae (lp f111 0) := Tc 3 (ls := QR) rfl
theorem Xab : WO GN := Re Aad func111 (Na P5 Oa)
abbrev Sam : La := .pu RC Td [true] (fun x => Yj x.1)
abbrev Q0 : WF := (56, Sam) :: GN
def WY : Sa := ⟨96, ⟨[(1, Lm), (3, Ta)], [(1, Jb, Zx)]⟩, 0, ⟨[(1, Lm)], [(1, Jb, Zx)]⟩, ⟨[(2, Ul)], []⟩, Oi⟩
def XY : Sa := ⟨96, ⟨[(1, Lm), (4, Ta)], [(1, Jb, Zx)]⟩, 2, ⟨[(1, Lm)], [(1, Jb, Zx)]⟩, ⟨[(2, Ul)], []⟩, Pi⟩
def X8 : WL := [(4, WY), (9, XY)]
theorem Eaa : Db (WG true GN [] [] []) X8 (lp f56 0) := Tc 4 (ls := WY) rfl
theorem Faa : Db (WG true GN [] [] []) X8 (lp f56 1) := Tc 9 (ls := XY) rfl
theorem Oaj : WO Q0 := Re Xab func56 (Na Faa (Na Eaa Oa))
abbrev Dag : La := .pu PC PC [true] (fun x => Mw x.1)
abbrev VT : WF := (112, Dag) :: Q0
def RR : Sa := ⟨28, ⟨[(1, Lm), (2, Pn), (3, (.ptr 3 [])), (4, Ta)], [(1, Ua, QC), (2, Ua, NI), (3, Ua, KL)]⟩, 0, ⟨[(2, Pn), (3, (.ptr 3 []))], [(2, Ua, NI), (3, Ua, KL)]⟩, ⟨[], []⟩, Xp⟩
def Hae : WL := [(3, RR)]
theorem Q5 : Db (WG true Q0 [] [] []) Hae (lp f112 0) := Tc 3 (ls := RR) rfl
theorem Yab : WO VT := Re Oaj func112 (Na Q5 Oa)
abbrev Tam : La := .pu RC RC [true] (fun x => Zr x.1)
abbrev D8 : WF := (57, Tam) :: VT
def YY : Sa := ⟨37, ⟨[(1, Lm), (2, Pn), (3, (.ptr 3 [])), (4, Ta)], [(1, Jb, Zx), (2, Jb, (.pr NI (.pr (.data Xq) (.pr Ta (.pr (.data Uq) (.data (.p int Td))))))), (3, Jb, (.pr KL (.pr (.own 200002 Eu true) (.data (.p int (.p Uq (.p int Td)))))))]⟩, 0, ⟨[(1, Lm), (2, Pn), (3, (.ptr 3 []))], [(1, Jb, Zx), (2, Jb, (.pr NI (.pr (.data Xq) (.pr Ta (.pr (.data Uq) (.data (.p int Td))))))), (3, Jb, (.pr KL (.pr (.own 200002 Eu true) (.data (.p int (.p Uq (.p int Td)))))))]⟩, ⟨[], []⟩, Zp⟩
def Aal : WL := [(5, YY)]
theorem Gaa : Db (WG true VT [] [] []) Aal (lp f57 0) := Tc 5 (ls := YY) rfl
theorem Paj : WO D8 := Re Yab func57 (Na Gaa Oa)
abbrev Xal : La := .pu (.p Ua (.p Xq .u)) (.p Jb Td) [true, true] (fun x => Rq x.1 x.2.1)
abbrev P7 : WF := (22, Xal) :: D8
theorem Tai : WO P7 := Cd Paj func22
abbrev Eag : La := .pu (.p Ac .u) Td [true] (fun x => Us x.1)
abbrev A3 : WF := (113, Eag) :: P7
theorem Zab : WO A3 := Cd Tai func113
abbrev Nan : La := .pu Ed Ed [true] (fun x => Qz x.1)
abbrev X0 : WF := (82, Nan) :: A3
theorem Jak : WO X0 := Cd Zab func82
abbrev Man : La := .pu RC Ed [true] (fun x => Dv x.1)
abbrev Q8 : WF := (81, Man) :: X0
def JZ : Sa := ⟨22, ⟨[(1, Lm), (3, Ta), (4, Ta)], [(1, Jb, Zx)]⟩, 0, ⟨[(3, Ta)], []⟩, ⟨[], []⟩, Un⟩
def Hal : WL := [(3, JZ)]
theorem Raa : Db (WG true X0 [] [] []) Hal (lp f81 0) := Tc 3 (ls := JZ) rfl
theorem Iak : WO Q8 := Re Jak func81 (Na Raa Oa)
abbrev Gah : La := .pu (.p Qe .u) Td [true] (fun x => Bv x.1)
abbrev LU : WF := (159, Gah) :: Q8
theorem Bad : WO LU := Cd Iak func159
abbrev Fag : La := .pu (.p On Ac) Td [true] (fun x => Ro x.1 x.2.1 x.2.2.1 x.2.2.2.1)
abbrev B3 : WF := (114, Fag) :: LU
def SR : Sa := ⟨73, ⟨[(0, (.data On)), (1, Ta), (2, Ta), (3, Ta), (9, Ta)], []⟩, 0, ⟨[(0, (.data On))], []⟩, ⟨[(8, Ul)], []⟩, Jl⟩
def Iae : WL := [(2, SR)]
theorem R5 : Db (WG true LU [] [] []) Iae (lp f114 0) := Tc 2 (ls := SR) rfl
theorem Aac : WO B3 := Re Bad func114 (Na R5 Oa)
abbrev Uam : La := .pu (.p Dd .u) Td [true] (fun x => Pq x.1)
abbrev E8 : WF := (58, Uam) :: B3
theorem Qaj : WO E8 := Cd Aac func58
abbrev Yal : La := .pu (.p Jb (.p Ac .u)) (.p Dd Td) [true, true] (fun x => Po x.1 x.2.1)
abbrev Q7 : WF := (23, Yal) :: E8
theorem Uai : WO Q7 := Cd Qaj func23
abbrev s_5 : La := .pu .u (.p Lf .u) [true] (fun x => Qo)
abbrev F_5 : WF := (5, s_5) :: Q7
theorem E_5 : WO F_5 := Cd Uai func5
abbrev Vam : La := .pu (.p .s Ph) (.p (.sl .s) .u) [true] (fun x => strings_Split x.1 x.2.1)
abbrev R0 : WF := (59, Vam) :: F_5
theorem Raj : WO R0 := wc E_5 (AR Tryz.lays_strings_Split (by kernel_rfl) U8)
abbrev Wam : La := .pu (.p .s (.p BK .u)) (.p (.sl .s) .u) [true] (fun x => Gq x.1 x.2.1)
abbrev F8 : WF := (60, Wam) :: R0
def ZY : Sa := ⟨34, ⟨[(0, Aj), (1, (.data BK)), (5, VA), (6, Ta), (7, Ta)], []⟩, 0, ⟨[(0, Aj), (5, VA), (6, Ta)], []⟩, ⟨[], []⟩, Ag⟩
def Bal : WL := [(4, ZY)]
theorem Haa : Db (WG true R0 [] [] []) Bal (lp f60 0) := Tc 4 (ls := ZY) rfl
theorem Saj : WO F8 := Re Raj func60 (Na Haa Oa)
abbrev Iah : La := .pu Ed Ph [true] (fun x => Gh x.1)
abbrev Q3 : WF := (164, Iah) :: F8
theorem Dad : WO Q3 := Cd Saj func164
abbrev Fai : La := .pu (.p .s Ph) Td [true] (fun x => Fm x.1 x.2.1)
abbrev B4 : WF := (226, Fai) :: Q3
theorem Aae : WO B4 := Cd Dad func226
abbrev Zah : La := .pu (.p .s Ph) (.p .s Td) [true, true] (fun x => Em x.1 x.2.1)
abbrev A4 : WF := (199, Zah) :: B4
theorem Uad : WO A4 := Cd Aae func199
abbrev Hah : La := .pu (.p .s Ph) (.p .s Td) [true, true] (fun x => Ei x.1 x.2.1)
abbrev P3 : WF := (163, Hah) :: A4
theorem Cad : WO P3 := Cd Uad func163
abbrev Lam : La := .pu Ed Ph [true] (fun x => strconv_Itoa x.1)
abbrev Z7 : WF := (44, Lam) :: P3
theorem Haj : WO Z7 := wc Cad (AW Tryz.lays_strconv_Itoa (by kernel_rfl) Rak)
abbrev Gab : La := .pu Ed Ph [true] (fun x => Bh x.1)
abbrev N7 : WF := (13, Gab) :: Z7
theorem M7 : WO N7 := Cd Haj func13
abbrev Jah : La := .pu Ph (.p int Td) [true, true] (fun x => Hs x.1)
abbrev R3 : WF := (165, Jah) :: N7
set_option maxRecDepth 100000 in
theorem PW {I : Yf} {F : T (.p (.i .i64) .u) → Option (T Ph)} (hS : Bk Tryz.prog I 13 (.pu (.p (.i .i64) .u) Ph [true] F)) (hF : ∀ n : Int, -999999999 ≤ n → n ≤ 999999999 → F (n, ()) = some (Lib.itoa n, ()))
 (hv : ∀ w, I.p w → ∃ ev, w.cell? ⟨Tryz.lays_strconv_Atoi_ren.g 15, 0, none⟩ = some ev ∧ (ev = .nilIface ∨ ∃ te pe, ev = .iface te pe)) :
 ∀ (s : List UInt8) (w : World), I.p w → I.base ≤ w.heap.size → Calls Tryz.prog 165 #[.string ⟨List.toArray s⟩] w fun e w' => e = .returned (.tuple #[.int .i64 (Mq s).1, .bool (Mq s).2.1]) ∧ Go.RowKit.Below w.heap.size w w' := by
 intro s w hi hb
 have hsz : (⟨List.toArray s⟩ : ByteArray).size = s.length := by show (List.toArray s).size = _; simp
 have hdl : (⟨List.toArray s⟩ : ByteArray).data.toList = s := WC s
 unfold Mq
 generalize hbs : (⟨List.toArray s⟩ : ByteArray) = bs at hsz hdl ⊢
 by_cases h1 : s.length < 1
 ·rw [show Nat.blt (List.length s) 1 = true from Nat.ble_eq_true_of_le (by omega)]
  simp only [Bool.true_or, cond_true]
  go_enter Tryz.func165, Tryz.ntmps165
  go_wp2
  all_goals (first | (exfalso; omega) | skip)
  go_ret2
  exact ⟨rfl, Go.RowKit.Below.refl _ _⟩
 rw [show Nat.blt (List.length s) 1 = false from Bool.eq_false_iff.2 fun h => absurd (Nat.le_of_ble_eq_true h) (by omega)]
 by_cases h2 : 10 < s.length
 ·rw [show Nat.blt 10 (List.length s) = true from Nat.ble_eq_true_of_le (by omega)]
  simp only [Bool.or_true, cond_true]
  go_enter Tryz.func165, Tryz.ntmps165
  go_wp2
  all_goals (first | (exfalso; omega) | skip)
  go_ret2
  exact ⟨rfl, Go.RowKit.Below.refl _ _⟩
 rw [show Nat.blt 10 (List.length s) = false from Bool.eq_false_iff.2 fun h => absurd (Nat.le_of_ble_eq_true h) (by omega)]
 simp only [Bool.or_false, cond_false]
 obtain ⟨ev, hv1, hev⟩ := hv w hi
 have hI1 : ∀ {w'}, Go.RowKit.Below w.heap.size w w' → I.p w' ∧ I.base ≤ w'.heap.size := fun hB => ⟨I.st w _ (fun b hb' => hB.block b (Nat.lt_of_lt_of_le hb' hb)) hi, Nat.le_trans hb hB.size⟩
 cases ha : Lib.atoi s with
 | none =>
  simp only []
  go_enter Tryz.func165, Tryz.ntmps165
  go_wp2_with (go_at_call 200; refine (Any.strconv_Atoi_err Tryz.lays_strconv_Atoi bs (by omega) (by rw [hdl]; exact ha) ev _ ?_ hev).mono ?_)
  all_goals (first | (exfalso; omega) | skip)
  ·exact hv1
  rintro e W1 ⟨N, rfl, -, -, hB⟩
  go_wp2
  go_ret2
  exact ⟨rfl, hB⟩
 | some n =>
  simp only []
  obtain ⟨hn1, hn2⟩ := Lib.atoi_bound ha (by omega)
  by_cases h3 : n < -999999999
  ·rw [show decide (n < -999999999) = true from decide_eq_true h3]
   simp only [Bool.true_or, cond_true]
   go_enter Tryz.func165, Tryz.ntmps165
   go_wp2_with (go_at_call 200; refine (Any.strconv_Atoi { Tryz.lays_strconv_Atoi with } bs n (by omega) (by rw [hdl]; exact ha) _).mono ?_; rintro e w' ⟨rfl, t, rfl⟩)
   all_goals (first | (exfalso; omega) | skip)
   go_ret2
   exact ⟨rfl, Lib.bytesWorld_below _ _ _⟩
  rw [show decide (n < -999999999) = false from decide_eq_false h3]
  by_cases h4 : n > 999999999
  ·rw [show decide (n > 999999999) = true from decide_eq_true h4]
   simp only [Bool.false_or, Bool.true_or, cond_true]
   go_enter Tryz.func165, Tryz.ntmps165
   go_wp2_with (go_at_call 200; refine (Any.strconv_Atoi { Tryz.lays_strconv_Atoi with } bs n (by omega) (by rw [hdl]; exact ha) _).mono ?_; rintro e w' ⟨rfl, t, rfl⟩)
   all_goals (first | (exfalso; omega) | skip)
   go_ret2
   exact ⟨rfl, Lib.bytesWorld_below _ _ _⟩
  rw [show decide (n > 999999999) = false from decide_eq_false h4]
  simp only [Bool.false_or]
  have hfi : ∀ w', Go.RowKit.Below w.heap.size w w' → Calls Tryz.prog 13 #[.int .i64 n] w' fun e w'' => e = .returned (.string ⟨List.toArray (Lib.itoa n)⟩) ∧ Go.RowKit.Below w.heap.size w w'' := fun w' hB =>
   (ZM hS (hF n (by omega) (by omega)) w' (hI1 hB).1 (hI1 hB).2).mono fun e w'' h => ⟨h.1, hB.trans (h.2.mono hB.size)⟩
  by_cases h5 : Lib.itoa n = s
  ·rw [show (Lib.itoa n != s) = false from by rw [h5]; simp]
   simp only [cond_false]
   rw [h5, hbs] at hfi
   go_enter Tryz.func165, Tryz.ntmps165
   go_wp2_with (first | (go_at_call 200; refine (Any.strconv_Atoi { Tryz.lays_strconv_Atoi with } bs n (by omega) (by rw [hdl]; exact ha) _).mono ?_; rintro e w' ⟨rfl, t, rfl⟩) | (go_at_call 13; refine (hfi _ (Lib.bytesWorld_below _ _ _)).mono ?_; rintro e w' ⟨rfl, hB⟩))
   all_goals (first | (exfalso; omega) | skip)
   go_ret2
   exact ⟨rfl, hB⟩
  ·rw [show (Lib.itoa n != s) = true from bne_iff_ne.2 h5]
   simp only [cond_true]
   have hbl : bs.toList = s := by rw [← hbs]; simp
   have hne : (⟨List.toArray (Lib.itoa n)⟩ : ByteArray) ≠ bs := fun h => h5 (by rw [← hbs] at h; simpa using h)
   go_enter Tryz.func165, Tryz.ntmps165
   go_wp2_with (first | (go_at_call 200; refine (Any.strconv_Atoi { Tryz.lays_strconv_Atoi with } bs n (by omega) (by rw [hdl]; exact ha) _).mono ?_; rintro e w' ⟨rfl, t, rfl⟩) | (go_at_call 13; refine (hfi _ (Lib.bytesWorld_below _ _ _)).mono ?_; rintro e w' ⟨rfl, hB⟩))
   all_goals (first | (exfalso; omega) | skip)
   ·go_ret2
    exact ⟨rfl, hB⟩
   ·rename_i hh
    exact absurd hh.2 (by simp [h5])
theorem Ead : WO R3 := wc M7 (QW ⟨_, func165, rfl, rfl⟩ (PW (Lab (s := Gab) M7 (by kernel_rfl)) (fun n h1 h2 => by show Bh n = _; unfold Bh strconv_Itoa; rw [Mab h1 h2]; rfl) Qak))
abbrev Tan : La := .pu Xg Ed [true] (fun x => Dt x.1 x.2.1)
abbrev A1 : WF := (96, Tan) :: R3
theorem Pak : WO A1 := Cd Ead func96
abbrev Nam : La := .pu Ed Ph [true] (fun x => Kg x.1)
abbrev N0 : WF := (47, Nam) :: A1
def SY : Sa := ⟨28, ⟨[(0, Ta), (3, Aj), (12, VA), (13, Ta), (14, Ta)], []⟩, 0, ⟨[(3, Aj)], []⟩, ⟨[], []⟩, Al⟩
def Yak : WL := [(5, SY)]
theorem Aaa : Db (WG true A1 [] [] []) Yak (lp f47 0) := Tc 5 (ls := SY) rfl
theorem Jaj : WO N0 := Re Pak func47 (Na Aaa Oa)
abbrev Kah : La := .pu Ph Ed [true] (fun x => Vi x.1)
abbrev S3 : WF := (166, Kah) :: N0
def IS : Sa := ⟨13, ⟨[(0, Aj), (3, Ta)], []⟩, 0, ⟨[], []⟩, ⟨[(2, Ta)], []⟩, Zf⟩
def Xae : WL := [(2, IS)]
theorem G6 : Db (WG true N0 [] [] []) Xae (lp f166 0) := Tc 2 (ls := IS) rfl
theorem Fad : WO S3 := Re Jaj func166 (Na G6 Oa)
abbrev Lah : La := .pu (.p .s Ph) (.p .s (.p .s Td)) [true, true, true] (fun x => strings_Cut x.1 x.2.1)
abbrev MU : WF := (167, Lah) :: S3
theorem Gad : WO MU := wc Fad (QX Tryz.lays_strings_Cut (by kernel_rfl) U8)
abbrev Mah : La := .pu Ph Ed [true] (fun x => Zk x.1)
abbrev NU : WF := (168, Mah) :: MU
def JS : Sa := ⟨18, ⟨[(0, Aj), (5, VA), (6, Ta), (7, Ta)], []⟩, 0, ⟨[], []⟩, ⟨[(2, Ta)], []⟩, Lh⟩
def Yae : WL := [(2, JS)]
theorem H6 : Db (WG true MU [] [] []) Yae (lp f168 0) := Tc 2 (ls := JS) rfl
theorem Had : WO NU := Re Gad func168 (Na H6 Oa)
abbrev Gag : La := .pu Ph WA [true] (fun x => Pm x.1)
abbrev C3 : WF := (116, Gag) :: NU
def TR : Sa := ⟨98, ⟨[(0, Aj), (2, Pn), (29, (.own 200001 int true)), (30, Ta), (31, Ta)], [(2, Xa, (.data Xa))]⟩, 1, ⟨[(0, Aj), (2, Pn)], [(2, Xa, (.data Xa))]⟩, ⟨[(2, Pn)], [(2, Xa, (.data Xa))]⟩, Sj⟩
def Jae : WL := [(9, TR)]
theorem S5 : Db (WG true NU [] [] []) Jae (lp f116 0) := Tc 9 (ls := TR) rfl
theorem Bac : WO C3 := Re Had func116 (Na S5 Oa)
abbrev San : La := .pu Ed Td [true] (fun x => Kn x.1)
abbrev T8 : WF := (95, San) :: C3
theorem Oak : WO T8 := Cd Bac func95
abbrev Nah : La := .pu Ed Td [true] (fun x => Dl x.1)
abbrev T3 : WF := (169, Nah) :: T8
theorem Iad : WO T3 := Cd Oak func169
abbrev Oah : La := .pu Ed Td [true] (fun x => Wl x.1)
abbrev U3 : WF := (170, Oah) :: T3
theorem Jad : WO U3 := Cd Iad func170
abbrev Hag : La := .pu WA Td [true] (fun x => Uf x.1)
abbrev D3 : WF := (117, Hag) :: U3
theorem Cac : WO D3 := Cd Jad func117
abbrev Mam : La := .pu Ed Ph [true] (fun x => Wh x.1)
abbrev A8 : WF := (46, Mam) :: D3
theorem Iaj : WO A8 := Cd Cac func46
abbrev Iag : La := .pu WA Ph [true] (fun x => Ci x.1)
abbrev E3 : WF := (118, Iag) :: A8
theorem Dac : WO E3 := Cd Iaj func118
abbrev Xam : La := .pu Ph (.p Xa Td) [true, true] (fun x => Nm x.1)
abbrev AV : WF := (61, Xam) :: E3
theorem Taj : WO AV := Cd Dac func61
abbrev Yam : La := .pu PC Td [true] (fun x => Vj x.1)
abbrev G8 : WF := (62, Yam) :: AV
def BZ : Sa := ⟨73, ⟨[(1, Lm), (3, Ta), (28, Yx), (29, Ta), (30, Ta), (40, (.data Tl)), (41, Ta), (42, Ta)], [(1, Ua, QC)]⟩, 2, ⟨[(1, Lm), (28, Yx), (29, Ta), (30, Ta)], [(1, Ua, QC)]⟩, ⟨[(2, Ul)], []⟩, Hi⟩
def AZ : Sa := ⟨73, ⟨[(1, Lm), (28, Yx), (29, Ta), (30, Ta)], [(1, Ua, QC)]⟩, 0, ⟨[], []⟩, ⟨[(2, Ul)], []⟩, Gi⟩
def Y8 : WL := [(9, BZ), (4, AZ)]
theorem Jaa : Db (WG true AV [] [] []) Y8 (lp f62 1) := Tc 9 (ls := BZ) rfl
theorem Iaa : Db (WG true AV [] [] []) Y8 (lp f62 0) := Tc 4 (ls := AZ) rfl
theorem Uaj : WO G8 := Re Taj func62 (Na Jaa (Na Iaa Oa))
abbrev Oam : La := .pu (.p (.sl .s) Ph) Ph [true] (fun x => strings_Join x.1 x.2.1)
abbrev B8 : WF := (48, Oam) :: G8
theorem Kaj : WO B8 := wc Uaj (BW Tryz.lays_strings_Join (by kernel_rfl) Tryz.extra_strings_Join)
abbrev Val : La := .pu (.p (.sl .s) Ph) Ph [true] (fun x => Dn x.1 x.2.1)
abbrev FU : WF := (15, Val) :: B8
theorem Rai : WO FU := Cd Kaj func15
abbrev Zam : La := .pu PC Ph [true] (fun x => Ll x.1)
abbrev BV : WF := (63, Zam) :: FU
def DZ : Sa := ⟨39, ⟨[(3, (.own 200101 .s true)), (6, (.own 200102 .s true)), (13, Yx), (14, Ta), (15, Ta), (19, (.data Tl)), (20, Ta), (21, Ta)], []⟩, 2, ⟨[(3, (.own 200101 .s true)), (6, (.own 200102 .s true)), (13, Yx), (14, Ta), (15, Ta)], []⟩, ⟨[], []⟩, Cj⟩
def CZ : Sa := ⟨39, ⟨[(3, VA), (13, Yx), (14, Ta), (15, Ta)], []⟩, 0, ⟨[(3, VA)], []⟩, ⟨[], []⟩, Bj⟩
def Z8 : WL := [(9, DZ), (5, CZ)]
theorem Laa : Db (WG true FU [] [] []) Z8 (lp f63 1) := Tc 9 (ls := DZ) rfl
theorem Kaa : Db (WG true FU [] [] []) Z8 (lp f63 0) := Tc 5 (ls := CZ) rfl
theorem Vaj : WO BV := Re Rai func63 (Na Laa (Na Kaa Oa))
abbrev Zal : La := .pu Ph (.p Ua Td) [true, true] (fun x => Om x.1)
abbrev J0 : WF := (24, Zal) :: BV
def MY : Sa := ⟨71, ⟨[(0, Aj), (2, Pn), (4, (.ptr 4 [])), (7, (.own 200101 Xa true)), (13, (.own 200102 .s true)), (14, Ta), (15, Ta), (20, (.own 200103 .s true)), (21, Ta), (22, Ta)], [(2, Ua, (.pr Ta (.pr (.own 200104 Tl true) .un))), (4, Ua, (.pr Ta (.pr (.own 200105 Tl true) .un)))]⟩, 2, ⟨[(0, Aj), (2, Pn), (4, (.ptr 4 [])), (7, (.own 200101 Xa true)), (13, (.own 200102 .s true)), (14, Ta), (15, Ta)], [(2, Ua, (.pr Ta (.pr (.own 200103 Tl true) .un))), (4, Ua, (.pr Ta (.pr (.own 200104 Tl true) .un)))]⟩, ⟨[(2, Pn), (3, Ul)], [(2, Ua, (.pr Ta (.pr (.own 200101 Tl true) .un)))]⟩, Rj⟩
def LY : Sa := ⟨71, ⟨[(0, Aj), (2, Pn), (4, (.ptr 4 [])), (13, VA), (14, Ta), (15, Ta)], [(2, Ua, (.pr Ta (.pr (.own 200002 Tl true) .un))), (4, Ua, (.pr Ta (.pr (.own 200003 Tl true) .un)))]⟩, 0, ⟨[(0, Aj), (2, Pn), (4, (.ptr 4 []))], [(2, Ua, KL), (4, Ua, (.pr Ta (.pr (.own 200002 Tl true) .un)))]⟩, ⟨[(2, Pn), (3, Ul)], [(2, Ua, KL)]⟩, Qj⟩
def V8 : WL := [(7, MY), (3, LY)]
theorem U9 : Db (WG true BV [] [] []) V8 (lp f24 1) := Tc 7 (ls := MY) rfl
theorem T9 : Db (WG true BV [] [] []) V8 (lp f24 0) := Tc 3 (ls := LY) rfl
theorem Vai : WO J0 := Re Vaj func24 (Na U9 (Na T9 Oa))
abbrev Jag : La := .pu PC PC [true] (fun x => Ik x.1)
abbrev WT : WF := (119, Jag) :: J0
def UR : Sa := ⟨25, ⟨[(2, Pn), (3, (.ptr 3 [])), (10, Yx), (11, Ta), (12, Ta)], [(2, Ua, NI), (3, Ua, KL)]⟩, 0, ⟨[(2, Pn), (3, (.ptr 3 []))], [(2, Ua, NI), (3, Ua, KL)]⟩, ⟨[], []⟩, Bl⟩
def Kae : WL := [(3, UR)]
theorem T5 : Db (WG true J0 [] [] []) Kae (lp f119 0) := Tc 3 (ls := UR) rfl
theorem Eac : WO WT := Re Vai func119 (Na T5 Oa)
abbrev Kag : La := .pu (.p Xq .u) (.p Xq .u) [true] (fun x => Jk x.1)
abbrev XT : WF := (120, Kag) :: WT
def VR : Sa := ⟨19, ⟨[(3, (.own 200001 Eu true)), (6, (.data Xq)), (7, Ta), (8, Ta)], []⟩, 0, ⟨[(3, (.own 200001 Eu true))], []⟩, ⟨[], []⟩, Cl⟩
def Lae : WL := [(3, VR)]
theorem U5 : Db (WG true WT [] [] []) Lae (lp f120 0) := Tc 3 (ls := VR) rfl
theorem Fac : WO XT := Re Eac func120 (Na U5 Oa)
abbrev Wag : La := .pu (.p Uq .u) Td [true] (fun x => Cw x.1)
abbrev DU : WF := (136, Wag) :: XT
def DS : Sa := ⟨46, ⟨[(3, Ta), (6, (.data Uq)), (7, Ta), (8, Ta)], []⟩, 0, ⟨[], []⟩, ⟨[(2, Ul)], []⟩, Fp⟩
def Sae : WL := [(3, DS)]
theorem B6 : Db (WG true XT [] [] []) Sae (lp f136 0) := Tc 3 (ls := DS) rfl
theorem Rac : WO DU := Re Fac func136 (Na B6 Oa)
abbrev Xah : La := .pu (.p (.sl Xg) (.p Xg .u)) Ed [true] (fun x => Ew x.1 x.2.1)
abbrev TU : WF := (183, Xah) :: DU
def RS : Sa := ⟨19, ⟨[(3, (.ptr 3 [])), (7, (.data (.sl Xg))), (8, Ta), (9, Ta)], [(3, Xg, (.data Xg))]⟩, 0, ⟨[], []⟩, ⟨[(4, Ta)], []⟩, Jp⟩
def Gaf : WL := [(2, RS)]
theorem P6 : Db (WG true DU [] [] []) Gaf (lp f183 0) := Tc 2 (ls := RS) rfl
theorem Sad : WO TU := Re Rac func183 (Na P6 Oa)
abbrev Xag : La := .pu (.p Eu .u) Td [true] (fun x => Ju x.1)
abbrev HN : WF := (137, Xag) :: TU
def ES : Sa := ⟨62, ⟨[(3, (.own 200001 Xg true)), (11, (.data Eu)), (12, Ta), (13, Ta)], []⟩, 0, ⟨[(3, (.own 200001 Xg true))], []⟩, ⟨[(2, Ul)], []⟩, Sn⟩
def Tae : WL := [(5, ES)]
theorem C6 : Db (WG true TU [] [] []) Tae (lp f137 0) := Tc 5 (ls := ES) rfl
theorem Sac : WO HN := Re Sad func137 (Na C6 Oa)
abbrev Oan : La := .pu RC Td [true] (fun x => Xh x.1)
abbrev R8 : WF := (84, Oan) :: HN
def KZ : Sa := ⟨92, ⟨[(1, Lm), (35, (.data Xq)), (36, Ta), (37, Ta)], [(1, Jb, Zx)]⟩, 0, ⟨[(1, Lm)], [(1, Jb, Zx)]⟩, ⟨[(2, Ul)], []⟩, Fi⟩
def VS : Sa := ⟨92, ⟨[(1, Lm), (5, Ta), (50, (.data Uq)), (51, Ta), (52, Ta)], [(1, Jb, Zx)]⟩, 2, ⟨[(1, Lm), (5, Ta)], [(1, Jb, Zx)]⟩, ⟨[(2, Ul)], []⟩, Th⟩
def A9 : WL := [(4, KZ), (11, VS)]
theorem Saa : Db (WG true HN [] [] []) A9 (lp f84 0) := Tc 4 (ls := KZ) rfl
theorem T6 : Db (WG true HN [] [] []) A9 (lp f84 1) := Tc 11 (ls := VS) rfl
theorem Kak : WO R8 := Re Sac func84 (Na T6 (Na Saa Oa))
abbrev Aan : La := .pu (.p Ua (.p Xq .u)) (.p Jb Td) [true, true] (fun x => Ui x.1 x.2.1)
abbrev H8 : WF := (64, Aan) :: R8
theorem Waj : WO H8 := Cd Kak func64
abbrev Qan : La := .pu RC RC [true] (fun x => Co x.1)
abbrev S8 : WF := (86, Qan) :: H8
theorem Mak : WO S8 := Cd Waj func86
abbrev Pan : La := .pu (.p Ac .u) Td [true] (fun x => Es x.1)
abbrev Y0 : WF := (85, Pan) :: S8
theorem Lak : WO Y0 := Cd Mak func85
abbrev Kam : La := .pu (.p Uq .u) Ed [true] (fun x => Is x.1)
abbrev Y7 : WF := (41, Kam) :: Y0
def RY : Sa := ⟨19, ⟨[(3, Ta), (6, (.data Uq)), (7, Ta), (8, Ta)], []⟩, 0, ⟨[(3, Ta)], []⟩, ⟨[], []⟩, Qm⟩
def Xak : WL := [(3, RY)]
theorem Z9 : Db (WG true Y0 [] [] []) Xak (lp f41 0) := Tc 3 (ls := RY) rfl
theorem Gaj : WO Y7 := Re Lak func41 (Na Z9 Oa)
abbrev Yag : La := .pu (.p Qe .u) Td [true] (fun x => Iu x.1)
abbrev EU : WF := (138, Yag) :: Y7
theorem Tac : WO EU := Cd Gaj func138
abbrev Ran : La := .pu (.p On Ed) (.p int Td) [true, true] (fun x => Dw x.1 x.2.1)
abbrev Z0 : WF := (87, Ran) :: EU
def LZ : Sa := ⟨53, ⟨[(0, (.data On)), (1, Ta), (11, (.data On)), (12, Ta), (13, Ta)], []⟩, 0, ⟨[(1, Ta)], []⟩, ⟨[(4, Ta), (5, Ul)], []⟩, Ip⟩
def Ial : WL := [(4, LZ)]
theorem Taa : Db (WG true EU [] [] []) Ial (lp f87 0) := Tc 4 (ls := LZ) rfl
theorem Nak : WO Z0 := Re Tac func87 (Na Taa Oa)
abbrev Jam : La := .pu (.p On Xg) Td [true] (fun x => Iq x.1 x.2.1 x.2.2.1)
abbrev X7 : WF := (40, Jam) :: Z0
def QY : Sa := ⟨29, ⟨[(0, (.data On)), (1, Ta), (2, Ta), (11, (.data On)), (12, Ta), (13, Ta)], []⟩, 0, ⟨[(0, (.data On)), (1, Ta)], []⟩, ⟨[(6, Ul)], []⟩, Xl⟩
def Wak : WL := [(2, QY)]
theorem Y9 : Db (WG true Z0 [] [] []) Wak (lp f40 0) := Tc 2 (ls := QY) rfl
theorem Faj : WO X7 := Re Nak func40 (Na Y9 Oa)
abbrev Iam : La := .pu (.p On Ed) Td [true] (fun x => Hq x.1 x.2.1)
abbrev W7 : WF := (38, Iam) :: X7
theorem Eaj : WO W7 := Cd Faj func38
abbrev Ham : La := .pu (.p Dd .u) Td [true] (fun x => Fq x.1)
abbrev V7 : WF := (37, Ham) :: W7
theorem Daj : WO V7 := Cd Eaj func37
abbrev Ban : La := .pu (.p Jb (.p Ac .u)) (.p Dd Td) [true, true] (fun x => Bo x.1 x.2.1)
abbrev I8 : WF := (65, Ban) :: V7
theorem Xaj : WO I8 := Cd Daj func65
abbrev Aam : La := .pu (.p Ua (.p Xq (.p Ac .u))) (.p Lf Td) [true, true] (fun x => AB x.1 x.2.1 x.2.2.1)
abbrev R7 : WF := (25, Aam) :: I8
theorem Wai : WO R7 := Cd Xaj func25
abbrev s_6 : La := .pu .u (.p Lf .u) [true] (fun x => Fk)
abbrev F_6 : WF := (6, s_6) :: R7
theorem E_6 : WO F_6 := Cd Wai func6
abbrev Cai : La := .pu (.p Xa WA) Td [true] (fun x => Wj x.1 x.2.1)
abbrev WU : WF := (204, Cai) :: F_6
theorem Xad : WO WU := Cd E_6 func204
abbrev Aai : La := .pu (.p Tl (.p Tl .u)) Td [true] (fun x => Zl x.1 x.2.1)
abbrev UU : WF := (202, Aai) :: WU
def SS : Sa := ⟨27, ⟨[(0, (.data Tl)), (1, (.data Tl)), (5, Ta)], []⟩, 0, ⟨[], []⟩, ⟨[(4, Ul)], []⟩, Qt⟩
def Haf : WL := [(4, SS)]
theorem Q6 : Db (WG true WU [] [] []) Haf (lp f202 0) := Tc 4 (ls := SS) rfl
theorem Vad : WO UU := Re Xad func202 (Na Q6 Oa)
abbrev Pah : La := .pu (.p (.sl Tl) (.p (.sl Tl) .u)) Td [true] (fun x => Ho x.1 x.2.1)
abbrev V3 : WF := (171, Pah) :: UU
def KS : Sa := ⟨27, ⟨[(0, Yx), (1, Yx), (5, Ta)], []⟩, 0, ⟨[], []⟩, ⟨[(4, Ul)], []⟩, Pr⟩
def Zae : WL := [(4, KS)]
theorem I6 : Db (WG true UU [] [] []) Zae (lp f171 0) := Tc 4 (ls := KS) rfl
theorem Kad : WO V3 := Re Vad func171 (Na I6 Oa)
abbrev Lag : La := .pu (.p Ua PC) Td [true] (fun x => Ms x.1 x.2.1)
abbrev G3 : WF := (121, Lag) :: V3
theorem Gac : WO G3 := Cd Kad func121
abbrev Bai : La := .pu (.p Ac (.p Ac .u)) Td [true] (fun x => Sr x.1 x.2.1)
abbrev VU : WF := (203, Bai) :: G3
theorem Wad : WO VU := Cd Gac func203
abbrev Qah : La := .pu (.p Eu (.p Eu .u)) Td [true] (fun x => Np x.1 x.2.1)
abbrev OU : WF := (172, Qah) :: VU
def LS : Sa := ⟨27, ⟨[(0, (.data Eu)), (1, (.data Eu)), (5, Ta)], []⟩, 0, ⟨[], []⟩, ⟨[(4, Ul)], []⟩, Iv⟩
def Aaf : WL := [(4, LS)]
theorem J6 : Db (WG true VU [] [] []) Aaf (lp f172 0) := Tc 4 (ls := LS) rfl
theorem Lad : WO OU := Re Wad func172 (Na J6 Oa)
abbrev Mag : La := .pu (.p Xq (.p Xq .u)) Td [true] (fun x => Ps x.1 x.2.1)
abbrev H3 : WF := (122, Mag) :: OU
def WR : Sa := ⟨27, ⟨[(0, (.data Xq)), (1, (.data Xq)), (5, Ta)], []⟩, 0, ⟨[], []⟩, ⟨[(4, Ul)], []⟩, Ou⟩
def Mae : WL := [(4, WR)]
theorem V5 : Db (WG true OU [] [] []) Mae (lp f122 0) := Tc 4 (ls := WR) rfl
theorem Hac : WO H3 := Re Lad func122 (Na V5 Oa)
abbrev Rah : La := .pu (.p Mg (.p Mg .u)) Td [true] (fun x => Qr x.1 x.2.1)
abbrev PU : WF := (173, Rah) :: H3
theorem Mad : WO PU := Cd Hac func173
abbrev Nag : La := .pu (.p Uq (.p Uq .u)) Td [true] (fun x => Mu x.1 x.2.1)
abbrev I3 : WF := (123, Nag) :: PU
def XR : Sa := ⟨27, ⟨[(0, (.data Uq)), (1, (.data Uq)), (5, Ta)], []⟩, 0, ⟨[], []⟩, ⟨[(4, Ul)], []⟩, Gv⟩
def Nae : WL := [(4, XR)]
theorem W5 : Db (WG true PU [] [] []) Nae (lp f123 0) := Tc 4 (ls := XR) rfl
theorem Iac : WO I3 := Re Mad func123 (Na W5 Oa)
abbrev Can : La := .pu (.p Jb RC) Td [true] (fun x => Js x.1 x.2.1)
abbrev J8 : WF := (66, Can) :: I3
theorem Yaj : WO J8 := Cd Iac func66
abbrev Dan : La := .pu (.p Ac (.p Ac .u)) Td [true] (fun x => Qs x.1 x.2.1)
abbrev K8 : WF := (67, Dan) :: J8
theorem Zaj : WO K8 := Cd Yaj func67
abbrev Oag : La := .pu Iai Td [true] (fun x => Lp x.1 x.2.1)
abbrev YT : WF := (124, Oag) :: K8
theorem Jac : WO YT := Cd Zaj func124
abbrev Ean : La := .pu (.p On (.p On .u)) Td [true] (fun x => Ks x.1 x.2.1)
abbrev L8 : WF := (68, Ean) :: YT
def EZ : Sa := ⟨27, ⟨[(0, (.data On)), (1, (.data On)), (5, Ta)], []⟩, 0, ⟨[], []⟩, ⟨[(4, Ul)], []⟩, Lu⟩
def Cal : WL := [(4, EZ)]
theorem Maa : Db (WG true YT [] [] []) Cal (lp f68 0) := Tc 4 (ls := EZ) rfl
theorem Aak : WO L8 := Re Jac func68 (Na Maa Oa)
abbrev Bam : La := .pu (.p Dd (.p Dd .u)) Td [true] (fun x => Jq x.1 x.2.1)
abbrev K0 : WF := (26, Bam) :: L8
theorem Xai : WO K0 := Cd Aak func26
abbrev Sah : La := .pu (.p (.sl int) (.p (.sl int) .u)) Td [true] (fun x => Gw x.1 x.2.1)
abbrev W3 : WF := (174, Sah) :: K0
def MS : Sa := ⟨26, ⟨[(0, (.data (.sl int))), (1, (.data (.sl int))), (5, Ta)], []⟩, 0, ⟨[], []⟩, ⟨[(4, Ul)], []⟩, Mp⟩
def Baf : WL := [(4, MS)]
theorem K6 : Db (WG true K0 [] [] []) Baf (lp f174 0) := Tc 4 (ls := MS) rfl
theorem Nad : WO W3 := Re Xai func174 (Na K6 Oa)
abbrev Pag : La := .pu (.p Vv (.p Vv .u)) Td [true] (fun x => Ns x.1 x.2.1)
abbrev J3 : WF := (125, Pag) :: W3
theorem Kac : WO J3 := Cd Nad func125
abbrev Fan : La := .pu (.p Qf (.p Qf .u)) Td [true] (fun x => Rr x.1 x.2.1)
abbrev S0 : WF := (69, Fan) :: J3
theorem Bak : WO S0 := Cd Kac func69
abbrev Cam : La := .pu (.p (.sl Qf) (.p (.sl Qf) .u)) Td [true] (fun x => Nu x.1 x.2.1)
abbrev S7 : WF := (27, Cam) :: S0
def NY : Sa := ⟨27, ⟨[(0, (.data (.sl Qf))), (1, (.data (.sl Qf))), (5, Ta)], []⟩, 0, ⟨[], []⟩, ⟨[(4, Ul)], []⟩, Hv⟩
def Tak : WL := [(4, NY)]
theorem V9 : Db (WG true S0 [] [] []) Tak (lp f27 0) := Tc 4 (ls := NY) rfl
theorem Yai : WO S7 := Re Bak func27 (Na V9 Oa)
abbrev s_7 : La := .pu (.p Lf (.p Lf .u)) Td [true] (fun x => Am x.1 x.2.1)
abbrev M8 : WF := (7, s_7) :: S7
theorem E_7 : WO M8 := Cd Yai func7
abbrev Dai : La := .io Tl Ed Ed [true] (fun x0 x => Ft x0 x.1)
abbrev XU : WF := (205, Dai) :: M8
def TS : Sa := ⟨41, ⟨[(0, (.own 500000 Xa true)), (1, Ta), (5, Ta)], []⟩, 0, ⟨[(0, (.own 500000 Xa true)), (1, Ta)], []⟩, ⟨[], []⟩, Wq⟩
def Iaf : WL := [(2, TS)]
theorem R6 : Db (WG false M8 [] [] []) Iaf (lp f205 0) := Tc 2 (ls := TS) rfl
theorem Yad : WO XU := AC E_7 func205 (Na R6 Oa)
abbrev Tah : La := .io (.sl Tl) Ed Ed [true] (fun x0 x => Dr x0 x.1)
abbrev X3 : WF := (175, Tah) :: XU
def NS : Sa := ⟨19, ⟨[(0, (.own 500000 Tl true)), (1, Ta), (5, Ta)], []⟩, 0, ⟨[(0, (.own 500000 Tl true)), (1, Ta)], []⟩, ⟨[], []⟩, Qp⟩
def Caf : WL := [(2, NS)]
theorem L6 : Db (WG false XU [(3999, 500000)] [] []) Caf (lp f175 0) := Tc 2 (ls := NS) rfl
theorem Oad : WO X3 := AC Yad func175 (Na L6 Oa)
abbrev Qag : La := .io Ua Ed Ed [true] (fun x0 x => Mo x0 x.1)
abbrev ZT : WF := (126, Qag) :: X3
theorem Lac : WO ZT := AC (L := []) (m := []) (v := []) (l := []) Oad func126 Oa
abbrev Uah : La := .io Eu Ed Ed [true] (fun x0 x => Tv x0 x.1)
abbrev QU : WF := (176, Uah) :: ZT
def OS : Sa := ⟨34, ⟨[(0, (.own 500000 Ac true)), (1, Ta), (5, Ta)], []⟩, 0, ⟨[(0, (.own 500000 Ac true)), (1, Ta)], []⟩, ⟨[], []⟩, Xt⟩
def Daf : WL := [(2, OS)]
theorem M6 : Db (WG false ZT [] [] []) Daf (lp f176 0) := Tc 2 (ls := OS) rfl
theorem Pad : WO QU := AC Lac func176 (Na M6 Oa)
abbrev Rag : La := .io Xq Ed Ed [true] (fun x0 x => Uu x0 x.1)
abbrev AU : WF := (127, Rag) :: QU
def YR : Sa := ⟨19, ⟨[(0, (.own 500000 Eu true)), (1, Ta), (5, Ta)], []⟩, 0, ⟨[(0, (.own 500000 Eu true)), (1, Ta)], []⟩, ⟨[], []⟩, Wr⟩
def Oae : WL := [(2, YR)]
theorem X5 : Db (WG false QU [(3999, 500000)] [] []) Oae (lp f127 0) := Tc 2 (ls := YR) rfl
theorem Mac : WO AU := AC Pad func127 (Na X5 Oa)
abbrev Sag : La := .io Uq Ed Ed [true] (fun x0 x => Rv x0 x.1)
abbrev K3 : WF := (128, Sag) :: AU
def ZR : Sa := ⟨52, ⟨[(0, (.own 500000 Mg true)), (1, Ta), (5, Ta)], []⟩, 0, ⟨[(0, (.own 500000 Mg true)), (1, Ta)], []⟩, ⟨[], []⟩, Vt⟩
def Pae : WL := [(2, ZR)]
theorem Y5 : Db (WG false AU [] [] []) Pae (lp f128 0) := Tc 2 (ls := ZR) rfl
theorem Nac : WO K3 := AC Mac func128 (Na Y5 Oa)
abbrev Gan : La := .io Jb Ed Ed [true] (fun x0 x => Lo x0 x.1)
abbrev T0 : WF := (70, Gan) :: K3
theorem Cak : WO T0 := AC (L := []) (m := []) (v := []) (l := []) Nac func70 Oa
abbrev Han : La := .io On Ed Ed [true] (fun x0 x => Su x0 x.1)
abbrev N8 : WF := (71, Han) :: T0
def FZ : Sa := ⟨36, ⟨[(0, (.own 500000 Qe true)), (1, Ta), (5, Ta)], []⟩, 0, ⟨[(0, (.own 500000 Qe true)), (1, Ta)], []⟩, ⟨[], []⟩, Vr⟩
def Dal : WL := [(2, FZ)]
theorem Naa : Db (WG false T0 [] [] []) Dal (lp f71 0) := Tc 2 (ls := FZ) rfl
theorem Dak : WO N8 := AC Cak func71 (Na Naa Oa)
abbrev Dam : La := .io Dd Ed Ed [true] (fun x0 x => Tm x0 x.1)
abbrev L0 : WF := (28, Dam) :: N8
theorem Zai : WO L0 := AC (L := []) (m := []) (v := []) (l := []) Dak func28 Oa
abbrev Ian : La := .io (.sl int) Ed Ed [true] (fun x0 x => Kx x0 x.1)
abbrev U0 : WF := (72, Ian) :: L0
def GZ : Sa := ⟨19, ⟨[(0, (.own 500000 int true)), (1, Ta), (5, Ta)], []⟩, 0, ⟨[(0, (.own 500000 int true)), (1, Ta)], []⟩, ⟨[], []⟩, Tu⟩
def Eal : WL := [(2, GZ)]
theorem Oaa : Db (WG false L0 [] [] []) Eal (lp f72 0) := Tc 2 (ls := GZ) rfl
theorem Eak : WO U0 := AC Zai func72 (Na Oaa Oa)
abbrev Eam : La := .io (.sl Qf) Ed Ed [true] (fun x0 x => Sv x0 x.1)
abbrev T7 : WF := (29, Eam) :: U0
def OY : Sa := ⟨36, ⟨[(0, (.own 500000 Qf true)), (1, Ta), (5, Ta)], []⟩, 0, ⟨[(0, (.own 500000 Qf true)), (1, Ta)], []⟩, ⟨[], []⟩, Wt⟩
def Uak : WL := [(2, OY)]
theorem W9 : Db (WG false U0 [(3999, 500000)] [] []) Uak (lp f29 0) := Tc 2 (ls := OY) rfl
theorem Aaj : WO T7 := AC Eak func29 (Na W9 Oa)
abbrev s_8 : La := .io Lf Ed Ed [true] (fun x0 x => Um x0 x.1)
abbrev P8 : WF := (8, s_8) :: T7
theorem E_8 : WO P8 := AC (L := []) (m := []) (v := []) (l := []) Aaj func8 Oa
abbrev Eai : La := .pu (.p Tl Ed) Ed [true] (fun x => Et x.1 x.2.1)
abbrev YU : WF := (206, Eai) :: P8
def US : Sa := ⟨49, ⟨[(0, (.data Tl)), (1, Ta), (5, Ta)], []⟩, 0, ⟨[(1, Ta)], []⟩, ⟨[(4, Ta)], []⟩, Vq⟩
def Jaf : WL := [(2, US)]
theorem S6 : Db (WG true P8 [] [] []) Jaf (lp f206 0) := Tc 2 (ls := US) rfl
theorem Zad : WO YU := Re E_8 func206 (Na S6 Oa)
abbrev Vah : La := .pu (.p (.sl Tl) Ed) Ed [true] (fun x => Cr x.1 x.2.1)
abbrev Y3 : WF := (177, Vah) :: YU
def PS : Sa := ⟨21, ⟨[(0, Yx), (1, Ta), (5, Ta)], []⟩, 0, ⟨[(1, Ta)], []⟩, ⟨[(4, Ta)], []⟩, Pp⟩
def Eaf : WL := [(2, PS)]
theorem N6 : Db (WG true YU [] [] []) Eaf (lp f177 0) := Tc 2 (ls := PS) rfl
theorem Qad : WO Y3 := Re Zad func177 (Na N6 Oa)
abbrev Tag : La := .pu (.p Ua Ed) Ed [true] (fun x => Ko x.1 x.2.1)
abbrev BU : WF := (129, Tag) :: Y3
theorem Oac : WO BU := Cd Qad func129
abbrev Wah : La := .pu (.p Eu Ed) Ed [true] (fun x => Qv x.1 x.2.1)
abbrev SU : WF := (178, Wah) :: BU
def QS : Sa := ⟨40, ⟨[(0, (.data Eu)), (1, Ta), (5, Ta)], []⟩, 0, ⟨[(1, Ta)], []⟩, ⟨[(4, Ta)], []⟩, Ut⟩
def Faf : WL := [(2, QS)]
theorem O6 : Db (WG true BU [] [] []) Faf (lp f178 0) := Tc 2 (ls := QS) rfl
theorem Rad : WO SU := Re Oac func178 (Na O6 Oa)
abbrev Uag : La := .pu (.p Xq Ed) Ed [true] (fun x => Ru x.1 x.2.1)
abbrev CU : WF := (130, Uag) :: SU
def BS : Sa := ⟨21, ⟨[(0, (.data Xq)), (1, Ta), (5, Ta)], []⟩, 0, ⟨[(1, Ta)], []⟩, ⟨[(4, Ta)], []⟩, Ur⟩
def Qae : WL := [(2, BS)]
theorem Z5 : Db (WG true SU [] [] []) Qae (lp f130 0) := Tc 2 (ls := BS) rfl
theorem Pac : WO CU := Re Rad func130 (Na Z5 Oa)
abbrev Vag : La := .pu (.p Uq Ed) Ed [true] (fun x => Ov x.1 x.2.1)
abbrev L3 : WF := (131, Vag) :: CU
def CS : Sa := ⟨62, ⟨[(0, (.data Uq)), (1, Ta), (5, Ta)], []⟩, 0, ⟨[(1, Ta)], []⟩, ⟨[(4, Ta)], []⟩, Rt⟩
def Rae : WL := [(2, CS)]
theorem A6 : Db (WG true CU [] [] []) Rae (lp f131 0) := Tc 2 (ls := CS) rfl
theorem Qac : WO L3 := Re Pac func131 (Na A6 Oa)
abbrev Jan : La := .pu (.p Jb Ed) Ed [true] (fun x => Jo x.1 x.2.1)
abbrev V0 : WF := (73, Jan) :: L3
theorem Fak : WO V0 := Cd Qac func73
abbrev Kan : La := .pu (.p On Ed) Ed [true] (fun x => Pu x.1 x.2.1)
abbrev O8 : WF := (74, Kan) :: V0
def HZ : Sa := ⟨42, ⟨[(0, (.data On)), (1, Ta), (5, Ta)], []⟩, 0, ⟨[(1, Ta)], []⟩, ⟨[(4, Ta)], []⟩, Tr⟩
def Fal : WL := [(2, HZ)]
theorem Paa : Db (WG true V0 [] [] []) Fal (lp f74 0) := Tc 2 (ls := HZ) rfl
theorem Gak : WO O8 := Re Fak func74 (Na Paa Oa)
abbrev Fam : La := .pu (.p Dd Ed) Ed [true] (fun x => Sm x.1 x.2.1)
abbrev M0 : WF := (30, Fam) :: O8
theorem Baj : WO M0 := Cd Gak func30
abbrev Lan : La := .pu (.p (.sl int) Ed) Ed [true] (fun x => Jx x.1 x.2.1)
abbrev W0 : WF := (75, Lan) :: M0
def IZ : Sa := ⟨21, ⟨[(0, (.data (.sl int))), (1, Ta), (5, Ta)], []⟩, 0, ⟨[(1, Ta)], []⟩, ⟨[(4, Ta)], []⟩, Qu⟩
def Gal : WL := [(2, IZ)]
theorem Qaa : Db (WG true M0 [] [] []) Gal (lp f75 0) := Tc 2 (ls := IZ) rfl
theorem Hak : WO W0 := Re Baj func75 (Na Qaa Oa)
abbrev Gam : La := .pu (.p (.sl Qf) Ed) Ed [true] (fun x => Pv x.1 x.2.1)
abbrev U7 : WF := (31, Gam) :: W0
def PY : Sa := ⟨42, ⟨[(0, (.data (.sl Qf))), (1, Ta), (5, Ta)], []⟩, 0, ⟨[(1, Ta)], []⟩, ⟨[(4, Ta)], []⟩, Tt⟩
def Vak : WL := [(2, PY)]
theorem X9 : Db (WG true W0 [] [] []) Vak (lp f31 0) := Tc 2 (ls := PY) rfl
theorem Caj : WO U7 := Re Hak func31 (Na X9 Oa)
abbrev s_9 : La := .pu (.p Lf Ed) Ed [true] (fun x => Fj x.1 x.2.1)
abbrev F_9 : WF := (9, s_9) :: U7
theorem E_9 : WO F_9 := Cd Caj func9
abbrev s_3 : La := .pu .u Td [true] (fun x => Ih)
abbrev F_3 : WF := (3, s_3) :: F_9
theorem E_3 : WO F_3 := Cd E_9 func3
theorem Ix : Bk Tryz.prog II 3 s_3 := Lab E_3 (by kernel_rfl)
end
end KF
