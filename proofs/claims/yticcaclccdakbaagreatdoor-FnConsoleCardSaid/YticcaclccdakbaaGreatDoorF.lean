/- An evaluator of Go functions on plain data, its soundness, and plain laws on what the functions compute, part 6 (conditions: as each lemma tells). -/
import Derived.Test.YticcaclccdakbaaGreatDoorE
import Derived.Shelf.LaysC
import Derived.Shelf.Strconv.Atoi
import Derived.Shelf.Strconv.AtoiErr
import Derived.Lib.AtoiErrMem
import Derived.WalkKit
import Derived.BigCall
import Derived.Test.YticcaclccdakbaaGreatDoorRows
set_option linter.unusedSimpArgs false
set_option linter.unusedVariables false
namespace Go.Proofs
open Go.Shelf
def Tryz.lays_strings_Split_ren : Go.Shelf.Ren := ⟨fun | 146 => 129 | 221 => 220 | 268 => 276 | 138 => 277 | 143 => 137 | 195 => 313 | 197 => 314 | 218 => 315 | 219 => 225 | 260 => 334 | 217 => 281 | 225 => 282 | 224 => 283 | 267 => 284 | 266 => 316 | 314 => 317 | n => n, fun | 9 => 9 | 31 => 48 | 3 => 3 | 4 => 4 | 0 => 0 | 105 => 327 | 21 => 21 | 5 => 5 | 46 => 258 | 119 => 362 | 139 => 365 | 138 => 364 | 146 => 330 | 51 => 329 | n => n, fun | 1 => 0 | 3 => 4 | 4 => 5 | n => n⟩
theorem Tryz.lays_strings_Split : Go.Proofs.LaysM.n146 Tryz.prog Tryz.lays_strings_Split_ren := {
 mixed := by kernel_rfl
 f138 := Tryz.func277.trans (congrArg some (by kernel_rfl))
 f143 := Tryz.func137.trans (congrArg some (by kernel_rfl))
 f146 := Tryz.func129.trans (congrArg some (by kernel_rfl))
 f195 := Tryz.func313.trans (congrArg some (by kernel_rfl))
 f197 := Tryz.func314.trans (congrArg some (by kernel_rfl))
 f217 := Tryz.func281.trans (congrArg some (by kernel_rfl))
 f218 := Tryz.func315.trans (congrArg some (by kernel_rfl))
 f219 := Tryz.func225.trans (congrArg some (by kernel_rfl))
 f221 := Tryz.func220.trans (congrArg some (by kernel_rfl))
 f224 := Tryz.func283.trans (congrArg some (by kernel_rfl))
 f225 := Tryz.func282.trans (congrArg some (by kernel_rfl))
 f260 := Tryz.func334.trans (congrArg some (by kernel_rfl))
 f266 := Tryz.func316.trans (congrArg some (by kernel_rfl))
 f267 := Tryz.func284.trans (congrArg some (by kernel_rfl))
 f268 := Tryz.func276.trans (congrArg some (by kernel_rfl))
 f314 := Tryz.func317.trans (congrArg some (by kernel_rfl))
 t0 := Tryz.underlying0
 a0 := Tryz.isAgg0
 z0 := Tryz.sizeOf0
 v0 := Tryz.zeroValue0
 t3 := Tryz.underlying3
 a3 := Tryz.isAgg3
 z3 := Tryz.sizeOf3
 v3 := Tryz.zeroValue3
 t4 := Tryz.underlying4
 a4 := Tryz.isAgg4
 z4 := Tryz.sizeOf4
 v4 := Tryz.zeroValue4
 t5 := Tryz.underlying5
 a5 := Tryz.isAgg5
 z5 := Tryz.sizeOf5
 v5 := Tryz.zeroValue5
 t9 := Tryz.underlying9
 a9 := Tryz.isAgg9
 z9 := Tryz.sizeOf9
 v9 := Tryz.zeroValue9
 t21 := Tryz.underlying21
 a21 := Tryz.isAgg21
 z21 := Tryz.sizeOf21
 v21 := Tryz.zeroValue21
 t31 := Tryz.underlying48
 a31 := Tryz.isAgg48
 z31 := Tryz.sizeOf48
 v31 := Tryz.zeroValue48
 t46 := Tryz.underlying258
 a46 := Tryz.isAgg258
 z46 := Tryz.sizeOf258
 v46 := Tryz.zeroValue258
 t51 := Tryz.underlying329
 a51 := Tryz.isAgg329
 z51 := Tryz.sizeOf329
 v51 := Tryz.zeroValue329
 t105 := Tryz.underlying327
 a105 := Tryz.isAgg327
 z105 := Tryz.sizeOf327
 v105 := Tryz.zeroValue327
 t119 := Tryz.underlying362
 a119 := Tryz.isAgg362
 z119 := Tryz.sizeOf362
 t138 := Tryz.underlying364
 a138 := Tryz.isAgg364
 z138 := Tryz.sizeOf364
 v138 := Tryz.zeroValue364
 t139 := Tryz.underlying365
 a139 := Tryz.isAgg365
 z139 := Tryz.sizeOf365
 v139 := Tryz.zeroValue365
 t146 := Tryz.underlying330
 a146 := Tryz.isAgg330
 z146 := Tryz.sizeOf330
 v146 := Tryz.zeroValue330
 g1 := by kernel_rfl
 g3 := by kernel_rfl
 g4 := by kernel_rfl
 i0 := by kernel_rfl
 i3 := by kernel_rfl
 i4 := by kernel_rfl
 i5 := by kernel_rfl
 i9 := by kernel_rfl
 i21 := by kernel_rfl
 i31 := by kernel_rfl
 i46 := by kernel_rfl
 i51 := by kernel_rfl
 i105 := by kernel_rfl
 i138 := by kernel_rfl
 i139 := by kernel_rfl
 i146 := by kernel_rfl
 m1 := by kernel_rfl
 s1_3 := fun w h => Go.Proofs.cell_of_shapedOpen_int (zero := #[.int .i64 0]) (t := 3) h (of_decide_eq_true (by kernel_rfl)) (by kernel_rfl) rfl (by kernel_rfl) (by kernel_rfl) Tryz.underlying3
 m3 := by kernel_rfl
 m4 := by kernel_rfl }
def Tryz.lays_strconv_Itoa_ren : Go.Shelf.Ren := ⟨fun | 171 => 146 | 243 => 230 | 246 => 289 | 283 => 325 | 284 => 326 | 285 => 327 | 286 => 328 | 129 => 340 | 317 => 339 | 318 => 341 | 319 => 342 | 320 => 343 | 337 => 349 | 338 => 350 | n => n, fun | 3 => 3 | 9 => 9 | 2 => 2 | 4 => 4 | 171 => 340 | 0 => 0 | 53 => 341 | 37 => 22 | 5 => 5 | 173 => 344 | 212 => 358 | 51 => 329 | 20 => 20 | 213 => 359 | 46 => 258 | 232 => 379 | 233 => 380 | n => n, fun | 17 => 3 | 18 => 6 | 19 => 7 | n => n⟩
theorem Tryz.lays_strconv_Itoa : Go.Proofs.LaysM.n171 Tryz.prog Tryz.lays_strconv_Itoa_ren := {
 mixed := by kernel_rfl
 f129 := Tryz.func340.trans (congrArg some (by kernel_rfl))
 f171 := Tryz.func146.trans (congrArg some (by kernel_rfl))
 f243 := Tryz.func230.trans (congrArg some (by kernel_rfl))
 f246 := Tryz.func289.trans (congrArg some (by kernel_rfl))
 f283 := Tryz.func325.trans (congrArg some (by kernel_rfl))
 f284 := Tryz.func326.trans (congrArg some (by kernel_rfl))
 f285 := Tryz.func327.trans (congrArg some (by kernel_rfl))
 f286 := Tryz.func328.trans (congrArg some (by kernel_rfl))
 f317 := Tryz.func339.trans (congrArg some (by kernel_rfl))
 f318 := Tryz.func341.trans (congrArg some (by kernel_rfl))
 f319 := Tryz.func342.trans (congrArg some (by kernel_rfl))
 f320 := Tryz.func343.trans (congrArg some (by kernel_rfl))
 f337 := Tryz.func349.trans (congrArg some (by kernel_rfl))
 f338 := Tryz.func350.trans (congrArg some (by kernel_rfl))
 t0 := Tryz.underlying0
 a0 := Tryz.isAgg0
 z0 := Tryz.sizeOf0
 v0 := Tryz.zeroValue0
 t2 := Tryz.underlying2
 a2 := Tryz.isAgg2
 z2 := Tryz.sizeOf2
 v2 := Tryz.zeroValue2
 t3 := Tryz.underlying3
 a3 := Tryz.isAgg3
 z3 := Tryz.sizeOf3
 v3 := Tryz.zeroValue3
 t4 := Tryz.underlying4
 a4 := Tryz.isAgg4
 z4 := Tryz.sizeOf4
 v4 := Tryz.zeroValue4
 t5 := Tryz.underlying5
 a5 := Tryz.isAgg5
 z5 := Tryz.sizeOf5
 v5 := Tryz.zeroValue5
 t9 := Tryz.underlying9
 a9 := Tryz.isAgg9
 z9 := Tryz.sizeOf9
 v9 := Tryz.zeroValue9
 t20 := Tryz.underlying20
 a20 := Tryz.isAgg20
 z20 := Tryz.sizeOf20
 v20 := Tryz.zeroValue20
 t37 := Tryz.underlying22
 a37 := Tryz.isAgg22
 z37 := Tryz.sizeOf22
 v37 := Tryz.zeroValue22
 t46 := Tryz.underlying258
 a46 := Tryz.isAgg258
 z46 := Tryz.sizeOf258
 v46 := Tryz.zeroValue258
 t51 := Tryz.underlying329
 a51 := Tryz.isAgg329
 z51 := Tryz.sizeOf329
 v51 := Tryz.zeroValue329
 t53 := Tryz.underlying341
 a53 := Tryz.isAgg341
 z53 := Tryz.sizeOf341
 v53 := Tryz.zeroValue341
 t171 := Tryz.underlying340
 a171 := Tryz.isAgg340
 z171 := Tryz.sizeOf340
 v171 := Tryz.zeroValue340
 t173 := Tryz.underlying344
 a173 := Tryz.isAgg344
 z173 := Tryz.sizeOf344
 v173 := Tryz.zeroValue344
 t212 := Tryz.underlying358
 a212 := Tryz.isAgg358
 z212 := Tryz.sizeOf358
 v212 := Tryz.zeroValue358
 t213 := Tryz.underlying359
 a213 := Tryz.isAgg359
 z213 := Tryz.sizeOf359
 t232 := Tryz.underlying379
 a232 := Tryz.isAgg379
 z232 := Tryz.sizeOf379
 v232 := Tryz.zeroValue379
 t233 := Tryz.underlying380
 a233 := Tryz.isAgg380
 z233 := Tryz.sizeOf380
 v233 := Tryz.zeroValue380
 g17 := by kernel_rfl
 g18 := by kernel_rfl
 g19 := by kernel_rfl
 i0 := by kernel_rfl
 i2 := by kernel_rfl
 i3 := by kernel_rfl
 i4 := by kernel_rfl
 i5 := by kernel_rfl
 i9 := by kernel_rfl
 i20 := by kernel_rfl
 i37 := by kernel_rfl
 i46 := by kernel_rfl
 i51 := by kernel_rfl
 i53 := by kernel_rfl
 i171 := by kernel_rfl
 i173 := by kernel_rfl
 i212 := by kernel_rfl
 i232 := by kernel_rfl
 i233 := by kernel_rfl
 m17 := by kernel_rfl
 m18 := by kernel_rfl
 m19 := by kernel_rfl }
def Tryz.lays_strconv_Atoi_ren : Go.Shelf.Ren := ⟨fun | 172 => 227 | 244 => 285 | 245 => 286 | 247 => 318 | 279 => 319 | 280 => 320 | 281 => 321 | 282 => 322 | 287 => 335 | 316 => 336 | 171 => 146 | 205 => 337 | 321 => 347 | 322 => 348 | 243 => 230 | 246 => 289 | 283 => 325 | 284 => 326 | 285 => 327 | 286 => 328 | 129 => 340 | 317 => 339 | 318 => 341 | 319 => 342 | 320 => 343 | 337 => 349 | 338 => 350 | n => n, fun | 9 => 9 | 3 => 3 | 75 => 225 | 76 => 226 | 4 => 4 | 5 => 5 | 167 => 332 | 37 => 22 | 0 => 0 | 85 => 333 | 2 => 2 | 168 => 335 | 53 => 341 | 175 => 351 | 46 => 258 | 210 => 355 | 127 => 276 | 145 => 369 | 143 => 367 | 21 => 21 | 171 => 340 | 173 => 344 | 212 => 358 | 51 => 329 | 20 => 20 | 213 => 359 | 232 => 379 | 233 => 380 | 80 => 228 | n => n, fun | 15 => 1 | 16 => 2 | 17 => 3 | 18 => 6 | 19 => 7 | n => n⟩
theorem Tryz.lays_strconv_Atoi : Go.Proofs.LaysC.n172 Tryz.prog Tryz.lays_strconv_Atoi_ren := {
 mixed := by kernel_rfl
 f129 := Tryz.func340.trans (congrArg some (by kernel_rfl))
 f171 := Tryz.func146.trans (congrArg some (by kernel_rfl))
 f172 := Tryz.func227.trans (congrArg some (by kernel_rfl))
 f205 := Tryz.func337.trans (congrArg some (by kernel_rfl))
 f243 := Tryz.func230.trans (congrArg some (by kernel_rfl))
 f244 := Tryz.func285.trans (congrArg some (by kernel_rfl))
 f245 := Tryz.func286.trans (congrArg some (by kernel_rfl))
 f246 := Tryz.func289.trans (congrArg some (by kernel_rfl))
 f247 := Tryz.func318.trans (congrArg some (by kernel_rfl))
 f279 := Tryz.func319.trans (congrArg some (by kernel_rfl))
 f280 := Tryz.func320.trans (congrArg some (by kernel_rfl))
 f281 := Tryz.func321.trans (congrArg some (by kernel_rfl))
 f282 := Tryz.func322.trans (congrArg some (by kernel_rfl))
 f283 := Tryz.func325.trans (congrArg some (by kernel_rfl))
 f284 := Tryz.func326.trans (congrArg some (by kernel_rfl))
 f285 := Tryz.func327.trans (congrArg some (by kernel_rfl))
 f286 := Tryz.func328.trans (congrArg some (by kernel_rfl))
 f287 := Tryz.func335.trans (congrArg some (by kernel_rfl))
 f316 := Tryz.func336.trans (congrArg some (by kernel_rfl))
 f317 := Tryz.func339.trans (congrArg some (by kernel_rfl))
 f318 := Tryz.func341.trans (congrArg some (by kernel_rfl))
 f319 := Tryz.func342.trans (congrArg some (by kernel_rfl))
 f320 := Tryz.func343.trans (congrArg some (by kernel_rfl))
 f321 := Tryz.func347.trans (congrArg some (by kernel_rfl))
 f322 := Tryz.func348.trans (congrArg some (by kernel_rfl))
 f337 := Tryz.func349.trans (congrArg some (by kernel_rfl))
 f338 := Tryz.func350.trans (congrArg some (by kernel_rfl))
 t0 := Tryz.underlying0
 a0 := Tryz.isAgg0
 z0 := Tryz.sizeOf0
 v0 := Tryz.zeroValue0
 t2 := Tryz.underlying2
 a2 := Tryz.isAgg2
 z2 := Tryz.sizeOf2
 v2 := Tryz.zeroValue2
 t3 := Tryz.underlying3
 a3 := Tryz.isAgg3
 z3 := Tryz.sizeOf3
 v3 := Tryz.zeroValue3
 t4 := Tryz.underlying4
 a4 := Tryz.isAgg4
 z4 := Tryz.sizeOf4
 v4 := Tryz.zeroValue4
 t5 := Tryz.underlying5
 a5 := Tryz.isAgg5
 z5 := Tryz.sizeOf5
 v5 := Tryz.zeroValue5
 t9 := Tryz.underlying9
 a9 := Tryz.isAgg9
 z9 := Tryz.sizeOf9
 v9 := Tryz.zeroValue9
 t20 := Tryz.underlying20
 a20 := Tryz.isAgg20
 z20 := Tryz.sizeOf20
 v20 := Tryz.zeroValue20
 t21 := Tryz.underlying21
 a21 := Tryz.isAgg21
 z21 := Tryz.sizeOf21
 v21 := Tryz.zeroValue21
 t37 := Tryz.underlying22
 a37 := Tryz.isAgg22
 z37 := Tryz.sizeOf22
 v37 := Tryz.zeroValue22
 t46 := Tryz.underlying258
 a46 := Tryz.isAgg258
 z46 := Tryz.sizeOf258
 v46 := Tryz.zeroValue258
 t51 := Tryz.underlying329
 a51 := Tryz.isAgg329
 z51 := Tryz.sizeOf329
 v51 := Tryz.zeroValue329
 t53 := Tryz.underlying341
 a53 := Tryz.isAgg341
 z53 := Tryz.sizeOf341
 v53 := Tryz.zeroValue341
 t75 := Tryz.underlying225
 a75 := Tryz.isAgg225
 z75 := Tryz.sizeOf225
 v75 := Tryz.zeroValue225
 t76 := Tryz.underlying226
 a76 := Tryz.isAgg226
 z76 := Tryz.sizeOf226
 v76 := Tryz.zeroValue226
 t85 := Tryz.underlying333
 a85 := Tryz.isAgg333
 z85 := Tryz.sizeOf333
 v85 := Tryz.zeroValue333
 t127 := Tryz.underlying276
 a127 := Tryz.isAgg276
 z127 := Tryz.sizeOf276
 v127 := Tryz.zeroValue276
 t143 := Tryz.underlying367
 a143 := Tryz.isAgg367
 z143 := Tryz.sizeOf367
 v143 := Tryz.zeroValue367
 t145 := Tryz.underlying369
 a145 := Tryz.isAgg369
 z145 := Tryz.sizeOf369
 v145 := Tryz.zeroValue369
 t167 := Tryz.underlying332
 a167 := Tryz.isAgg332
 z167 := Tryz.sizeOf332
 v167 := Tryz.zeroValue332
 t168 := Tryz.underlying335
 a168 := Tryz.isAgg335
 z168 := Tryz.sizeOf335
 v168 := Tryz.zeroValue335
 t171 := Tryz.underlying340
 a171 := Tryz.isAgg340
 z171 := Tryz.sizeOf340
 v171 := Tryz.zeroValue340
 t173 := Tryz.underlying344
 a173 := Tryz.isAgg344
 z173 := Tryz.sizeOf344
 v173 := Tryz.zeroValue344
 t175 := Tryz.underlying351
 a175 := Tryz.isAgg351
 z175 := Tryz.sizeOf351
 v175 := Tryz.zeroValue351
 t210 := Tryz.underlying355
 a210 := Tryz.isAgg355
 z210 := Tryz.sizeOf355
 v210 := Tryz.zeroValue355
 t212 := Tryz.underlying358
 a212 := Tryz.isAgg358
 z212 := Tryz.sizeOf358
 v212 := Tryz.zeroValue358
 t213 := Tryz.underlying359
 a213 := Tryz.isAgg359
 z213 := Tryz.sizeOf359
 t232 := Tryz.underlying379
 a232 := Tryz.isAgg379
 z232 := Tryz.sizeOf379
 v232 := Tryz.zeroValue379
 t233 := Tryz.underlying380
 a233 := Tryz.isAgg380
 z233 := Tryz.sizeOf380
 v233 := Tryz.zeroValue380
 g15 := by kernel_rfl
 g16 := by kernel_rfl
 g17 := by kernel_rfl
 g18 := by kernel_rfl
 g19 := by kernel_rfl
 t80 := Tryz.underlying228
 a80 := Tryz.isAgg228
 z80 := Tryz.sizeOf228
 v80 := Tryz.zeroValue228
 i0 := by kernel_rfl
 i2 := by kernel_rfl
 i3 := by kernel_rfl
 i4 := by kernel_rfl
 i5 := by kernel_rfl
 i9 := by kernel_rfl
 i20 := by kernel_rfl
 i21 := by kernel_rfl
 i37 := by kernel_rfl
 i46 := by kernel_rfl
 i51 := by kernel_rfl
 i53 := by kernel_rfl
 i75 := by kernel_rfl
 i76 := by kernel_rfl
 i80 := by kernel_rfl
 i85 := by kernel_rfl
 i127 := by kernel_rfl
 i143 := by kernel_rfl
 i145 := by kernel_rfl
 i167 := by kernel_rfl
 i168 := by kernel_rfl
 i171 := by kernel_rfl
 i173 := by kernel_rfl
 i175 := by kernel_rfl
 i210 := by kernel_rfl
 i212 := by kernel_rfl
 i232 := by kernel_rfl
 i233 := by kernel_rfl
 m15 := by kernel_rfl
 m16 := by kernel_rfl
 m17 := by kernel_rfl
 m18 := by kernel_rfl
 m19 := by kernel_rfl
 c0 := by kernel_rfl
 c2 := by kernel_rfl
 c3 := by kernel_rfl
 c4 := by kernel_rfl
 c5 := by kernel_rfl
 c9 := by kernel_rfl
 c20 := by kernel_rfl
 c21 := by kernel_rfl
 c37 := by kernel_rfl
 c46 := by kernel_rfl
 c51 := by kernel_rfl
 c53 := by kernel_rfl
 c75 := by kernel_rfl
 c76 := by kernel_rfl
 c80 := by kernel_rfl
 c85 := by kernel_rfl
 c127 := by kernel_rfl
 c143 := by kernel_rfl
 c145 := by kernel_rfl
 c167 := by kernel_rfl
 c168 := by kernel_rfl
 c171 := by kernel_rfl
 c173 := by kernel_rfl
 c175 := by kernel_rfl
 c210 := by kernel_rfl
 c212 := by kernel_rfl
 c213 := by kernel_rfl
 c232 := by kernel_rfl
 c233 := by kernel_rfl }
def Tryz.lays_strings_Cut_ren : Go.Shelf.Ren := ⟨fun | 145 => 136 | 220 => 224 | 219 => 225 | 217 => 281 | 225 => 282 | 224 => 283 | 267 => 284 | 266 => 316 | 314 => 317 | n => n, fun | 9 => 9 | 4 => 4 | 59 => 194 | 3 => 3 | 5 => 5 | 46 => 258 | 146 => 330 | 51 => 329 | n => n, fun | 1 => 0 | n => n⟩
theorem Tryz.lays_strings_Cut : Go.Proofs.Lays.n145 Tryz.prog Tryz.lays_strings_Cut_ren := {
 mixed := by kernel_rfl
 f145 := Tryz.func136.trans (congrArg some (by kernel_rfl))
 f217 := Tryz.func281.trans (congrArg some (by kernel_rfl))
 f219 := Tryz.func225.trans (congrArg some (by kernel_rfl))
 f220 := Tryz.func224.trans (congrArg some (by kernel_rfl))
 f224 := Tryz.func283.trans (congrArg some (by kernel_rfl))
 f225 := Tryz.func282.trans (congrArg some (by kernel_rfl))
 f266 := Tryz.func316.trans (congrArg some (by kernel_rfl))
 f267 := Tryz.func284.trans (congrArg some (by kernel_rfl))
 f314 := Tryz.func317.trans (congrArg some (by kernel_rfl))
 t3 := Tryz.underlying3
 a3 := Tryz.isAgg3
 z3 := Tryz.sizeOf3
 v3 := Tryz.zeroValue3
 t4 := Tryz.underlying4
 a4 := Tryz.isAgg4
 z4 := Tryz.sizeOf4
 v4 := Tryz.zeroValue4
 t5 := Tryz.underlying5
 a5 := Tryz.isAgg5
 z5 := Tryz.sizeOf5
 v5 := Tryz.zeroValue5
 t9 := Tryz.underlying9
 a9 := Tryz.isAgg9
 z9 := Tryz.sizeOf9
 v9 := Tryz.zeroValue9
 t46 := Tryz.underlying258
 a46 := Tryz.isAgg258
 z46 := Tryz.sizeOf258
 v46 := Tryz.zeroValue258
 t51 := Tryz.underlying329
 a51 := Tryz.isAgg329
 z51 := Tryz.sizeOf329
 v51 := Tryz.zeroValue329
 t59 := Tryz.underlying194
 a59 := Tryz.isAgg194
 z59 := Tryz.sizeOf194
 v59 := Tryz.zeroValue194
 t146 := Tryz.underlying330
 a146 := Tryz.isAgg330
 z146 := Tryz.sizeOf330
 v146 := Tryz.zeroValue330
 g1 := by kernel_rfl }
def Tryz.lays_strings_Join_ren : Go.Shelf.Ren := ⟨fun | 156 => 77 | 165 => 157 | 166 => 158 | 169 => 159 | 240 => 235 | 241 => 236 | 276 => 293 | 277 => 294 | n => n, fun | 31 => 48 | 9 => 9 | 3 => 3 | 4 => 4 | 0 => 0 | 20 => 20 | 72 => 222 | 76 => 226 | 70 => 220 | 37 => 22 | 75 => 225 | 127 => 276 | 164 => 312 | 5 => 5 | 80 => 228 | n => n, fun | n => n⟩
theorem Tryz.lays_strings_Join : Go.Proofs.Lays.n156 Tryz.prog Tryz.lays_strings_Join_ren := {
 mixed := by kernel_rfl
 f156 := Tryz.func77.trans (congrArg some (by kernel_rfl))
 f165 := Tryz.func157.trans (congrArg some (by kernel_rfl))
 f166 := Tryz.func158.trans (congrArg some (by kernel_rfl))
 f169 := Tryz.func159.trans (congrArg some (by kernel_rfl))
 f240 := Tryz.func235.trans (congrArg some (by kernel_rfl))
 f241 := Tryz.func236.trans (congrArg some (by kernel_rfl))
 f276 := Tryz.func293.trans (congrArg some (by kernel_rfl))
 f277 := Tryz.func294.trans (congrArg some (by kernel_rfl))
 t0 := Tryz.underlying0
 a0 := Tryz.isAgg0
 z0 := Tryz.sizeOf0
 v0 := Tryz.zeroValue0
 t3 := Tryz.underlying3
 a3 := Tryz.isAgg3
 z3 := Tryz.sizeOf3
 v3 := Tryz.zeroValue3
 t4 := Tryz.underlying4
 a4 := Tryz.isAgg4
 z4 := Tryz.sizeOf4
 v4 := Tryz.zeroValue4
 t9 := Tryz.underlying9
 a9 := Tryz.isAgg9
 z9 := Tryz.sizeOf9
 v9 := Tryz.zeroValue9
 t20 := Tryz.underlying20
 a20 := Tryz.isAgg20
 z20 := Tryz.sizeOf20
 v20 := Tryz.zeroValue20
 t31 := Tryz.underlying48
 a31 := Tryz.isAgg48
 z31 := Tryz.sizeOf48
 v31 := Tryz.zeroValue48
 t37 := Tryz.underlying22
 a37 := Tryz.isAgg22
 z37 := Tryz.sizeOf22
 v37 := Tryz.zeroValue22
 t70 := Tryz.underlying220
 a70 := Tryz.isAgg220
 z70 := Tryz.sizeOf220
 v70 := Tryz.zeroValue220
 t72 := Tryz.underlying222
 a72 := Tryz.isAgg222
 z72 := Tryz.sizeOf222
 v72 := Tryz.zeroValue222
 t75 := Tryz.underlying225
 a75 := Tryz.isAgg225
 z75 := Tryz.sizeOf225
 v75 := Tryz.zeroValue225
 t76 := Tryz.underlying226
 a76 := Tryz.isAgg226
 z76 := Tryz.sizeOf226
 v76 := Tryz.zeroValue226
 t127 := Tryz.underlying276
 a127 := Tryz.isAgg276
 z127 := Tryz.sizeOf276
 v127 := Tryz.zeroValue276
 t164 := Tryz.underlying312
 a164 := Tryz.isAgg312
 z164 := Tryz.sizeOf312
 v164 := Tryz.zeroValue312 }
theorem Tryz.extra_strings_Join : Builder.Extra Tryz.prog Tryz.lays_strings_Join_ren := {
 sizeBuilder := by kernel_rfl
 liesBuilder := by kernel_rfl
 t5 := by kernel_rfl
 a5 := by intro _; kernel_rfl
 z5 := by intro _; kernel_rfl
 v5 := by intro _; kernel_rfl
 infoByte := by kernel_rfl
 cellsByte := by kernel_rfl
 sizeByte := by kernel_rfl
 neB5 := by decide }
def Tryz.lays_strings_Index_ren : Go.Shelf.Ren := ⟨fun | 143 => 137 | 219 => 225 | 217 => 281 | 225 => 282 | 224 => 283 | 267 => 284 | 266 => 316 | 314 => 317 | n => n, fun | 9 => 9 | 3 => 3 | 4 => 4 | 5 => 5 | 46 => 258 | 146 => 330 | 51 => 329 | n => n, fun | 1 => 0 | n => n⟩
theorem Tryz.lays_strings_Index : Go.Proofs.Lays.n143 Tryz.prog Tryz.lays_strings_Index_ren := {
 mixed := by kernel_rfl
 f143 := Tryz.func137.trans (congrArg some (by kernel_rfl))
 f217 := Tryz.func281.trans (congrArg some (by kernel_rfl))
 f219 := Tryz.func225.trans (congrArg some (by kernel_rfl))
 f224 := Tryz.func283.trans (congrArg some (by kernel_rfl))
 f225 := Tryz.func282.trans (congrArg some (by kernel_rfl))
 f266 := Tryz.func316.trans (congrArg some (by kernel_rfl))
 f267 := Tryz.func284.trans (congrArg some (by kernel_rfl))
 f314 := Tryz.func317.trans (congrArg some (by kernel_rfl))
 t3 := Tryz.underlying3
 a3 := Tryz.isAgg3
 z3 := Tryz.sizeOf3
 v3 := Tryz.zeroValue3
 t4 := Tryz.underlying4
 a4 := Tryz.isAgg4
 z4 := Tryz.sizeOf4
 v4 := Tryz.zeroValue4
 t5 := Tryz.underlying5
 a5 := Tryz.isAgg5
 z5 := Tryz.sizeOf5
 v5 := Tryz.zeroValue5
 t9 := Tryz.underlying9
 a9 := Tryz.isAgg9
 z9 := Tryz.sizeOf9
 v9 := Tryz.zeroValue9
 t46 := Tryz.underlying258
 a46 := Tryz.isAgg258
 z46 := Tryz.sizeOf258
 v46 := Tryz.zeroValue258
 t51 := Tryz.underlying329
 a51 := Tryz.isAgg329
 z51 := Tryz.sizeOf329
 v51 := Tryz.zeroValue329
 t146 := Tryz.underlying330
 a146 := Tryz.isAgg330
 z146 := Tryz.sizeOf330
 v146 := Tryz.zeroValue330
 g1 := by kernel_rfl }
end Go.Proofs
namespace KF
open Go Go.Proofs Go.Proofs.Tryz
def GT : List (Nat × Ty) := [(3, int), (4, .b), (5, Kq), (9, .s), (22, (.sl Kq)), (24, (.sl (.sl Bc))), (26, Ua), (29, (.sl int)), (33, (.sl Sc)), (48, (.sl .s)), (50, (.sl (.sl Kd))), (51, (.sl Mj)), (53, Rc), (55, Kd), (56, (.sl Ws)), (58, Pe), (59, (.sl Sg)), (61, Qe), (109, Sc), (113, (.sl Bc)), (116, Bc), (134, (.sl Kd)), (146, Sg), (164, Wi), (198, Kd), (205, Ws), (208, (.mp int (.sl int))), (254, Mj), (268, (.sl Uf)), (270, Uf)]
def GA : List (Nat × Ty × Nat) := []
theorem Ray : ((GT.all fun x => Nd Tryz.prog x.2 x.1) && (GA.all fun x => ZR Tryz.prog x.1 x.2.1 x.2.2)) = true := by kernel_rfl
theorem JY : Tryz.prog.follows .mixedOrders = true := by kernel_rfl
noncomputable abbrev II : Yf := Yaj Tryz.prog (Tryz.lays_strings_Split_ren.g 1) (Tryz.lays_strconv_Itoa_ren.g 17) "internal/strconv.uint64pow10" .u64 Lib.pow10Tab Tryz.lays_strconv_Itoa.m17 (Tryz.lays_strconv_Atoi_ren.g 15)
noncomputable section
abbrev WP : Program := Tryz.prog
abbrev WF := List (Nat × Ra)
abbrev WL := List (Nat × Za)
abbrev WG (z : Bool) (fs : WF) (m : List (Nat × Nat)) (v l : List Nat) : Ue := ⟨GT, fs, m, z, GA, v, l⟩
def WO (fs : WF) : Prop := ∀ z m v l, Cj WP II (WG z fs m v l)
theorem CaH : WO [] := fun _ _ _ _ => UY Ray
theorem wc {f : Nat} {s : Ra} {fs : WF} (e : WO fs) (h : Gg WP II f s) : WO ((f, s) :: fs) := fun z m v l => Cj.cons h (e z m v l)
theorem Nal {f : Nat} {s : Ra} {fs : WF} (e : WO fs) (h : Jb fs f = some s) : Gg WP II f s := (e true [] [] []).fn f s h
theorem Pd {z : Bool} {fs : WF} {m : List (Nat × Nat)} {v l : List Nat} {L : WL} {fn : Func} {i : Nat} (r : Nat) {ls : Za} {R : ls.inT.X → Option (ls.inT.X ⊕ (ls.outT.X ⊕ ls.retT.X))}
 (h3 : ls.F = Gb R) (h1 : Rk (lp fn i) = some r := by kernel_rfl) (h2 : (Jb L r) = some ls := by kernel_rfl) (h4 : ∀ x, GJ (WG z fs m v l) L ls (lp fn i) x = R x := by intro _; kernel_rfl) : Kb (WG z fs m v l) L (lp fn i) := IZ h1 h2 h3 h4
theorem Lf {f : Nat} {fn : Func} {pt rt : Ty} {fr : List Bool} {F : T pt → Option (T rt)} {fs : WF} (e : WO fs) (hf : WP.funcs[f]? = some fn)
 (hb : (fn.body.isSome && !(fn.name == "runtime.NumGoroutine") && Nat.ble pt.npar fn.ntmps && Nat.beq (He (fn.body.getD .skip)).length 0) = true := by kernel_rfl)
 (hF : ∀ x, evF (WG true fs [] [] []) [] fn pt rt fr x = F x := by intro _; kernel_rfl) : WO ((f, .pu pt rt fr F) :: fs) := wc e (GP (e _ _ _ _) JY hf hb Pa hF)
theorem Mg {k : Nat} {L : WL} {m : List (Nat × Nat)} {v l : List Nat} {f : Nat} {fn : Func} {pt rt : Ty} {fr : List Bool} {F : T pt → Option (T rt)} {fs : WF} (e : WO fs) (hf : WP.funcs[f]? = some fn) (hL : ∀ i, i < k → Kb (WG true fs m v l) L (lp fn i))
 (hb : (fn.body.isSome && !(fn.name == "runtime.NumGoroutine") && Nat.ble pt.npar fn.ntmps && Nat.beq (He (fn.body.getD .skip)).length k) = true := by kernel_rfl)
 (hF : ∀ x, evF (WG true fs m v l) L fn pt rt fr x = F x := by intro _; kernel_rfl) : WO ((f, .pu pt rt fr F) :: fs) := wc e (GP (e _ _ _ _) JY hf hb hL hF)
theorem wco {k : Nat} {L : WL} {m : List (Nat × Nat)} {v l : List Nat} {f : Nat} {fn : Func} {pt rt : Ty} {fr : List Bool} {F : T pt → Option (T rt)} {fs : WF} (e : WO fs) (hf : WP.funcs[f]? = some fn) (hL : ∀ i, i < k → Kb (WG false fs m v l) L (lp fn i))
 (hb : (fn.body.isSome && !(fn.name == "runtime.NumGoroutine") && Nat.ble pt.npar fn.ntmps && Nat.beq (He (fn.body.getD .skip)).length k) = true := by kernel_rfl)
 (hF : ∀ x, Z1 (WG false fs m v l) L fn pt rt fr x = F x := by intro _; kernel_rfl) : WO ((f, .co pt rt fr F) :: fs) := wc e (Vah (e _ _ _ _) rfl JY hf hb hL hF)
theorem KW {z : Bool} {k : Nat} {L : WL} {m : List (Nat × Nat)} {v l : List Nat} {f : Nat} {fn : Func} {vw cv : Bool} {τ pt rt : Ty} {fr : List Bool} {F : T τ → T pt → Option (T τ × T rt)} {fs : WF} (e : WO fs) (hf : WP.funcs[f]? = some fn) (hL : ∀ i, i < k → Kb (WG z fs m v l) L (lp fn i))
 (hb : (fn.body.isSome && !(fn.name == "runtime.NumGoroutine") && Nat.ble (pt.npar + 1) fn.ntmps && Nat.beq (He (fn.body.getD .skip)).length k) = true := by kernel_rfl)
 (hF : ∀ x0 x, Y1 (WG z fs m v l) L fn vw cv τ pt rt fr x0 x = F x0 x := by intro _ _; kernel_rfl) (hz : (!z || ((vw && !cv) && AC m)) = true := by kernel_rfl) : WO ((f, .bx vw cv τ pt rt fr F) :: fs) := wc e (Tah (e _ _ _ _) hz JY hf hb hL hF)
theorem wnw {k : Nat} {L : WL} {m : List (Nat × Nat)} {v l : List Nat} {f : Nat} {fn : Func} {pt τ : Ty} {F : T pt → Option (T τ)} {fs : WF} (e : WO fs) (hf : WP.funcs[f]? = some fn) (hL : ∀ i, i < k → Kb (WG true fs m v l) L (lp fn i))
 (hb : (fn.body.isSome && !(fn.name == "runtime.NumGoroutine") && Nat.ble pt.npar fn.ntmps && Nat.beq (He (fn.body.getD .skip)).length k) = true := by kernel_rfl)
 (hF : ∀ x, A2 (WG true fs m v l) L fn pt τ x = F x := by intro _; kernel_rfl) : WO ((f, .nw pt τ F) :: fs) := wc e (Wah (e _ _ _ _) JY hf hb hL hF)
theorem Aaj : ∀ w, II.p w → ∃ m, w.cell? ⟨Tryz.lays_strings_Split_ren.g 1, 0, none⟩ = some (.int .i64 m) := fun _ h => h.1.1
theorem AaF : ∀ w, II.p w → Lib.TabIs Tryz.prog w "internal/strconv.uint64pow10" .u64 Lib.pow10Tab := fun _ h => h.1.2
theorem ZaE : ∀ w, II.p w → ∃ ev, w.cell? ⟨Tryz.lays_strconv_Atoi_ren.g 15, 0, none⟩ = some ev ∧ (ev = .nilIface ∨ ∃ te pe, ev = .iface te pe) := fun _ h => h.2
abbrev Ya : TD := .data int
abbrev Zs : TD := .own 200001 .s true
abbrev Ng : Ty := .p .b .u
abbrev Ah : Ty := .p .s .u
abbrev Ki : Ty := .p int .u
abbrev AG : Ty := .sl Bc
abbrev D3 : TD := .pr Ya (.pr (.own 200001 AG true) .un)
abbrev WE : TD := .own 200001 int true
abbrev Ul : TD := .ptr 2 []
abbrev Zj : TD := .data .s
abbrev XA : Ty := .p Bc .u
abbrev YA : TD := .data Ua
abbrev UJ : Ty := .p int (.p .o .u)
abbrev Hw : TD := .ptr 1 []
abbrev It : TD := .data .b
abbrev QN : Ty := .p (.sl Sc) .u
abbrev Jt : Ty := .sl Kd
abbrev Hat : TD := .pr (.pr (.pr D3 (.pr (.own 200002 Jt true) (.pr Ya (.pr (.own 200003 Mj true) (.data (.p int Ng)))))) (.pr (.data Kd) (.pr (.own 200004 Ws true) (.data Bc)))) (.pr (.own 200005 Sg true) .un)
abbrev C3 : TD := .pr Ya (.pr (.own 200002 AG true) .un)
abbrev c2_ : TD := .pr (.pr C3 (.pr (.own 200003 Jt true) (.pr Ya (.pr (.own 200004 Mj true) (.data (.p int Ng)))))) (.pr (.data Kd) (.pr (.own 200005 Ws true) (.data Bc)))
abbrev VJ : TD := .data (.sl AG)
abbrev XE : Ty := .sl Sg
abbrev Sr : Ty := .sl int
abbrev NY : TD := .pr Ya (.pr (.data Sr) .un)
abbrev MC : TD := .ptr 4 []
abbrev AM : TD := .data Sc
abbrev RW : TD := .own 200102 .s true
abbrev YE : Ty := .sl Ws
abbrev c1_ : TD := .pr (.pr (.pr Ya (.pr VJ .un)) (.pr (.data (.sl Jt)) (.pr Ya (.pr (.data (.sl Mj)) (.data (.p int Ng)))))) (.pr (.data Kd) (.pr (.data YE) (.data Bc)))
abbrev Gac : TD := .pr c1_ (.pr (.data XE) .un)
abbrev RN : Ty := .p Sc .u
abbrev Faj : TD := .pr c2_ (.pr (.own 200006 Sg true) .un)
abbrev s_9 : Ra := .pu (.p (.sl Kq) .u) Ng [true] (fun x => VC x.1)
abbrev F_9 : WF := (9, s_9) :: ([] : WF)
theorem E_9 : WO F_9 := Lf CaH func9
abbrev AaG : Ra := .nw (.p (.sl Kq) .u) Wi (fun x => PG x.1)
abbrev Cas : WF := (40, AaG) :: F_9
def Kag : Za := ⟨32, ⟨[(0, (.data (.sl Kq))), (3, Ya), (4, Ya)], []⟩, 0, ⟨[(0, (.data (.sl Kq))), (3, Ya)], []⟩, ⟨[], []⟩, Py⟩
def FaF : WL := [(3, Kag)]
theorem Aau : Kb (WG true F_9 [] [] []) FaF (lp f40 0) := Pd 3 (ls := Kag) rfl
theorem YaD : WO Cas := wnw E_9 func40 (Ta Aau Pa)
abbrev GaG : Ra := .nw (.p (.sl Kq) Ki) Wi (fun x => YD x.1 x.2.1)
abbrev Gas : WF := (49, GaG) :: Cas
theorem EaE : WO Gas := wnw (L := []) (m := []) (v := []) (l := []) YaD func49 Pa
abbrev NaA : Ra := .bx true false Wi .u Ki [true] (fun x0 x => Ym x0)
abbrev Ual : WF := (114, NaA) :: Gas
theorem Uav : WO Ual := KW (L := []) (m := []) (v := []) (l := []) (z := false) EaE func114 Pa
abbrev FaG : Ra := .bx true false Wi Ki Ki [true] (fun x0 x => Vb x0 x.1)
abbrev Oai : WF := (48, FaG) :: Ual
theorem DaE : WO Oai := KW (L := []) (m := []) (v := []) (l := []) (z := false) Uav func48 Pa
abbrev OaA : Ra := .pu Ki Ah [true] (fun x => Ug x.1)
abbrev Val : WF := (125, OaA) :: Oai
def T7 : Za := ⟨31, ⟨[(0, Ya), (3, Zj), (4, Ya)], []⟩, 0, ⟨[(0, Ya), (3, Zj)], []⟩, ⟨[], []⟩, Bh⟩
def Tay : WL := [(5, T7)]
theorem Iap : Kb (WG true Oai [] [] []) Tay (lp f125 0) := Pd 5 (ls := T7) rfl
theorem Vav : WO Val := Mg DaE func125 (Ta Iap Pa)
abbrev PaA : Ra := .bx true true Wi (.p (.sl .s) .u) Ah [true] (fun x0 x => Wu x0 x.1)
abbrev Wal : WF := (126, PaA) :: Val
theorem Wav : WO Wal := KW (L := []) (m := []) (v := []) (l := []) (z := false) Vav func126 Pa
abbrev UaB : Ra := .bx true false Wi Ki Ng [true] (fun x0 x => Vu x0 x.1)
abbrev Nam : WF := (194, UaB) :: Wal
theorem Bax : WO Nam := KW (L := []) (m := []) (v := []) (l := []) (z := false) Wav func194 Pa
abbrev EaA : Ra := .bx true false Wi Ki XA [true] (fun x0 x => ZD x0 x.1)
abbrev X0 : WF := (102, EaA) :: Nam
theorem Lav : WO X0 := KW (L := []) (m := []) (v := []) (l := []) (z := false) Bax func102 Pa
abbrev RaA : Ra := .bx true false Wi Ki (.p Ua .u) [true] (fun x0 x => Ez x0 x.1)
abbrev Yal : WF := (128, RaA) :: X0
def X7 : Za := ⟨48, ⟨[(0, (.ptr 500000 [])), (1, Ya), (4, MC), (5, Ya), (6, (.ptr 6 [])), (7, Ya), (8, (.own 200101 Bc true)), (9, Ya)], [(500000, Wi, (.data Wi)), (4, Ua, (.pr Ya (.pr (.own 200102 AG true) .un))), (6, Ua, (.pr Ya (.pr (.own 200103 AG true) .un)))]⟩, 2, ⟨[(0, (.ptr 500000 [])), (1, Ya), (4, MC), (5, Ya), (6, (.ptr 6 [])), (7, Ya), (8, (.own 200101 Bc true))], [(500000, Wi, (.data Wi)), (4, Ua, (.pr Ya (.pr (.own 200102 AG true) .un))), (6, Ua, (.pr Ya (.pr (.own 200103 AG true) .un)))]⟩, ⟨[], []⟩, Jx⟩
def W7 : Za := ⟨48, ⟨[(0, (.ptr 500000 [])), (1, Ya), (4, MC), (5, Ya), (6, (.ptr 6 [])), (7, Ya)], [(500000, Wi, (.data Wi)), (4, Ua, D3), (6, Ua, C3)]⟩, 0, ⟨[(0, (.ptr 500000 [])), (4, MC), (6, (.ptr 6 []))], [(500000, Wi, (.data Wi)), (4, Ua, D3), (6, Ua, C3)]⟩, ⟨[], []⟩, Ix⟩
def Pan : WL := [(8, X7), (4, W7)]
theorem Map : Kb (WG false X0 [] [] []) Pan (lp f128 1) := Pd 8 (ls := X7) rfl
theorem Lap : Kb (WG false X0 [] [] []) Pan (lp f128 0) := Pd 4 (ls := W7) rfl
theorem Yav : WO Yal := KW Lav func128 (Ta Map (Ta Lap Pa))
abbrev MaA : Ra := .pu Kd Ng [true] (fun x => Oc x.1 x.2.1 x.2.2.1)
abbrev Tal : WF := (113, MaA) :: Yal
theorem Tav : WO Tal := Lf Yav func113
abbrev LaA : Ra := .pu XA Ng [true] (fun x => Ii x.1)
abbrev Y0 : WF := (112, LaA) :: Tal
theorem Sav : WO Y0 := Lf Tav func112
abbrev EaG : Ra := .pu (.p Ua .u) Ng [true] (fun x => Am x.1)
abbrev Nai : WF := (47, EaG) :: Y0
def Oag : Za := ⟨74, ⟨[(1, Hw), (3, Ya), (4, Ya)], [(1, Ua, YA)]⟩, 2, ⟨[(1, Hw), (3, Ya)], [(1, Ua, YA)]⟩, ⟨[(2, It)], []⟩, Tm⟩
def Nag : Za := ⟨74, ⟨[(1, Hw), (3, Ya)], [(1, Ua, YA)]⟩, 0, ⟨[(1, Hw)], [(1, Ua, YA)]⟩, ⟨[(2, It)], []⟩, Sm⟩
def Vas : WL := [(7, Oag), (2, Nag)]
theorem Eau : Kb (WG true Y0 [] [] []) Vas (lp f47 1) := Pd 7 (ls := Oag) rfl
theorem Dau : Kb (WG true Y0 [] [] []) Vas (lp f47 0) := Pd 2 (ls := Nag) rfl
theorem CaE : WO Nai := Mg Sav func47 (Ta Eau (Ta Dau Pa))
abbrev TaC : Ra := .pu Ki Ah [true] (fun x => Rl x.1)
abbrev Gab : WF := (244, TaC) :: Nai
def Y8 : Za := ⟨25, ⟨[(0, Ya), (3, Zj), (4, Ya)], []⟩, 0, ⟨[(3, Zj)], []⟩, ⟨[], []⟩, Wq⟩
def Oaz : WL := [(3, Y8)]
theorem Naq : Kb (WG true Nai [] [] []) Oaz (lp f244 0) := Pd 3 (ls := Y8) rfl
theorem Aay : WO Gab := Mg CaE func244 (Ta Naq Pa)
abbrev ZaG : Ra := .pu (.p .s (.p Kq .u)) (.p (.sl .s) .u) [true] (fun x => ED x.1 x.2.1)
abbrev Qas : WF := (78, ZaG) :: Gab
def Yag : Za := ⟨36, ⟨[(0, Zj), (1, (.data Kq)), (5, Zs), (6, Ya), (7, Ya)], []⟩, 0, ⟨[(5, Zs)], []⟩, ⟨[], []⟩, Ss⟩
def NaF : WL := [(4, Yag)]
theorem Oau : Kb (WG true Gab [] [] []) NaF (lp f78 0) := Pd 4 (ls := Yag) rfl
theorem XaE : WO Qas := Mg Aay func78 (Ta Oau Pa)
abbrev FaD : Ra := .pu .u (.p (.sl .s) .u) [true] (fun x => VB)
abbrev Han : WF := (299, FaD) :: Qas
theorem May : WO Han := Lf XaE func299
abbrev SaC : Ra := .pu Ki Ah [true] (fun x => Zl x.1)
abbrev Can : WF := (243, SaC) :: Han
theorem Zax : WO Can := Lf May func243
abbrev HaC : Ra := .pu XA Ah [true] (fun x => Kr x.1)
abbrev Cab : WF := (219, HaC) :: Can
theorem Oax : WO Cab := Lf Zax func219
abbrev AaH : Ra := .pu (.p (.sl .s) Ah) Ah [true] (fun x => Zo x.1 x.2.1)
abbrev Qab : WF := (84, AaH) :: Cab
def Zag : Za := ⟨27, ⟨[(0, (.data (.sl .s))), (1, Zj), (5, (.own 200001 Kq true)), (6, Ya)], []⟩, 0, ⟨[(5, (.own 200001 Kq true))], []⟩, ⟨[], []⟩, Um⟩
def OaF : WL := [(3, Zag)]
theorem Pau : Kb (WG true Cab [] [] []) OaF (lp f84 0) := Pd 3 (ls := Zag) rfl
theorem YaE : WO Qab := Mg Oax func84 (Ta Pau Pa)
abbrev QaA : Ra := .pu (.p Ua .u) Ah [true] (fun x => Lr x.1)
abbrev Xal : WF := (127, QaA) :: Qab
def V7 : Za := ⟨45, ⟨[(1, Hw), (3, (.own 200101 .s true)), (4, Ya), (5, RW), (6, Ya)], [(1, Ua, YA)]⟩, 2, ⟨[(1, Hw), (3, (.own 200101 .s true)), (4, Ya), (5, RW)], [(1, Ua, YA)]⟩, ⟨[], []⟩, Lj⟩
def U7 : Za := ⟨45, ⟨[(1, Hw), (3, Zs), (4, Ya)], [(1, Ua, YA)]⟩, 0, ⟨[(3, Zs)], []⟩, ⟨[], []⟩, Ih⟩
def Oan : WL := [(7, V7), (3, U7)]
theorem Kap : Kb (WG true Qab [] [] []) Oan (lp f127 1) := Pd 7 (ls := V7) rfl
theorem Jap : Kb (WG true Qab [] [] []) Oan (lp f127 0) := Pd 3 (ls := U7) rfl
theorem Xav : WO Xal := Mg YaE func127 (Ta Kap (Ta Jap Pa))
abbrev JaG : Ra := .bx true false Wi .u Ah [true] (fun x0 x => UB x0)
abbrev Rai : WF := (61, JaG) :: Xal
theorem HaE : WO Rai := KW (L := []) (m := []) (v := []) (l := []) (z := false) Xav func61 Pa
abbrev UaF : Ra := .pu (.p (.sl Kq) .u) (.p (.sl .s) .u) [true] (fun x => Xx x.1)
abbrev Aas : WF := (26, UaF) :: Rai
def Hag : Za := ⟨22, ⟨[(3, (.ptr 7 [])), (4, Zs), (5, Ya)], [(7, Wi, (.data Wi))]⟩, 0, ⟨[(4, Zs)], []⟩, ⟨[], []⟩, Rs⟩
def BaF : WL := [(4, Hag)]
theorem Xat : Kb (WG true Rai [] [] []) BaF (lp f26 0) := Pd 4 (ls := Hag) rfl
theorem SaD : WO Aas := Mg HaE func26 (Ta Xat Pa)
abbrev SaA : Ra := .pu (.p .s Ah) (.p (.sl .s) .u) [true] (fun x => strings_Split x.1 x.2.1)
abbrev Oaa : WF := (129, SaA) :: Aas
theorem Zav : WO Oaa := wc SaD (W6 Tryz.lays_strings_Split (by kernel_rfl) Aaj)
abbrev RaG : Ra := .pu (.p .s (.p Kq .u)) (.p (.sl .s) .u) [true] (fun x => Ik x.1 x.2.1)
abbrev Las : WF := (69, RaG) :: Oaa
def Vag : Za := ⟨34, ⟨[(0, Zj), (1, (.data Kq)), (5, Zs), (6, Ya), (7, Ya)], []⟩, 0, ⟨[(0, Zj), (5, Zs), (6, Ya)], []⟩, ⟨[], []⟩, Si⟩
def KaF : WL := [(4, Vag)]
theorem Lau : Kb (WG true Oaa [] [] []) KaF (lp f69 0) := Pd 4 (ls := Vag) rfl
theorem PaE : WO Las := Mg Zav func69 (Ta Lau Pa)
abbrev XaC : Ra := .pu Ki Ah [true] (fun x => Vk x.1)
abbrev Fan : WF := (278, XaC) :: Las
theorem Eay : WO Fan := Lf PaE func278
abbrev KaC : Ra := .pu (.p .s Ah) Ng [true] (fun x => Vs x.1 x.2.1)
abbrev Zam : WF := (223, KaC) :: Fan
theorem Rax : WO Zam := Lf Eay func223
abbrev YaA : Ra := .pu (.p .s Ah) (.p .s Ng) [true, true] (fun x => Us x.1 x.2.1)
abbrev Bam : WF := (135, YaA) :: Zam
theorem Faw : WO Bam := Lf Rax func135
abbrev NaG : Ra := .pu (.p .s Ah) (.p .s Ng) [true, true] (fun x => Xh x.1 x.2.1)
abbrev Jas : WF := (65, NaG) :: Bam
theorem LaE : WO Jas := Lf Faw func65
abbrev JaB : Ra := .pu Ki Ah [true] (fun x => strconv_Itoa x.1)
abbrev Ham : WF := (146, JaB) :: Jas
theorem Qaw : WO Ham := wc LaE (Bad Tryz.lays_strconv_Itoa (by kernel_rfl) AaF)
abbrev Bav : Ra := .pu Ki Ah [true] (fun x => Fg x.1)
abbrev Nas : WF := (73, Bav) :: Ham
theorem Zar : WO Nas := Lf Qaw func73
abbrev DaB : Ra := .pu Ah (.p int Ng) [true, true] (fun x => Xo x.1)
abbrev Cam : WF := (140, DaB) :: Nas
set_option maxRecDepth 100000 in
theorem Uad {I : Yf} {F : T (.p (.i .i64) .u) → Option (T Ah)} (hS : Gg Tryz.prog I 73 (.pu (.p (.i .i64) .u) Ah [true] F)) (hF : ∀ n : Int, -999999999 ≤ n → n ≤ 999999999 → F (n, ()) = some (Lib.itoa n, ()))
 (hv : ∀ w, I.p w → ∃ ev, w.cell? ⟨Tryz.lays_strconv_Atoi_ren.g 15, 0, none⟩ = some ev ∧ (ev = .nilIface ∨ ∃ te pe, ev = .iface te pe)) :
 ∀ (s : List UInt8) (w : World), I.p w → I.base ≤ w.heap.size → Calls Tryz.prog 140 #[.string ⟨List.toArray s⟩] w fun e w' => e = .returned (.tuple #[.int .i64 (Rm s).1, .bool (Rm s).2.1]) ∧ Go.RowKit.Below w.heap.size w w' := by
 intro s w hi hb
 have hsz : (⟨List.toArray s⟩ : ByteArray).size = s.length := by show (List.toArray s).size = _; simp
 have hdl : (⟨List.toArray s⟩ : ByteArray).data.toList = s := DE s
 unfold Rm
 generalize hbs : (⟨List.toArray s⟩ : ByteArray) = bs at hsz hdl ⊢
 by_cases h1 : s.length < 1
 ·rw [show Nat.blt (List.length s) 1 = true from Nat.ble_eq_true_of_le (by omega)]
  simp only [Bool.true_or, cond_true]
  go_enter Tryz.func140, Tryz.ntmps140
  go_wp2
  all_goals (first | (exfalso; omega) | skip)
  go_ret2
  exact ⟨rfl, Go.RowKit.Below.refl _ _⟩
 rw [show Nat.blt (List.length s) 1 = false from Bool.eq_false_iff.2 fun h => absurd (Nat.le_of_ble_eq_true h) (by omega)]
 by_cases h2 : 10 < s.length
 ·rw [show Nat.blt 10 (List.length s) = true from Nat.ble_eq_true_of_le (by omega)]
  simp only [Bool.or_true, cond_true]
  go_enter Tryz.func140, Tryz.ntmps140
  go_wp2
  all_goals (first | (exfalso; omega) | skip)
  go_ret2
  exact ⟨rfl, Go.RowKit.Below.refl _ _⟩
 rw [show Nat.blt 10 (List.length s) = false from Bool.eq_false_iff.2 fun h => absurd (Nat.le_of_ble_eq_true h) (by omega)]
 simp only [Bool.or_false, cond_false]
 obtain ⟨ev, hv1, hev⟩ := hv w hi
 have hI1 : ∀ {w'}, Go.RowKit.Below w.heap.size w w' → I.p w' ∧ I.base ≤ w'.heap.size := fun hB => ⟨I.st w _ (fun b hb' => hB.block b (Nat.lt_of_lt_of_le hb' hb)) hi, Nat.le_trans hb hB.size⟩
 cases ha : Lib.atoi s with
 | none =>
  simp only []
  go_enter Tryz.func140, Tryz.ntmps140
  go_wp2_with (go_at_call 227; refine (Any.strconv_Atoi_err Tryz.lays_strconv_Atoi bs (by omega) (by rw [hdl]; exact ha) ev _ ?_ hev).mono ?_)
  all_goals (first | (exfalso; omega) | skip)
  ·exact hv1
  rintro e W1 ⟨N, rfl, -, -, hB⟩
  go_wp2
  go_ret2
  exact ⟨rfl, hB⟩
 | some n =>
  simp only []
  obtain ⟨hn1, hn2⟩ := Lib.atoi_bound ha (by omega)
  by_cases h3 : n < -999999999
  ·rw [show decide (n < -999999999) = true from decide_eq_true h3]
   simp only [Bool.true_or, cond_true]
   go_enter Tryz.func140, Tryz.ntmps140
   go_wp2_with (go_at_call 227; refine (Any.strconv_Atoi { Tryz.lays_strconv_Atoi with } bs n (by omega) (by rw [hdl]; exact ha) _).mono ?_; rintro e w' ⟨rfl, t, rfl⟩)
   all_goals (first | (exfalso; omega) | skip)
   go_ret2
   exact ⟨rfl, Lib.bytesWorld_below _ _ _⟩
  rw [show decide (n < -999999999) = false from decide_eq_false h3]
  by_cases h4 : n > 999999999
  ·rw [show decide (n > 999999999) = true from decide_eq_true h4]
   simp only [Bool.false_or, Bool.true_or, cond_true]
   go_enter Tryz.func140, Tryz.ntmps140
   go_wp2_with (go_at_call 227; refine (Any.strconv_Atoi { Tryz.lays_strconv_Atoi with } bs n (by omega) (by rw [hdl]; exact ha) _).mono ?_; rintro e w' ⟨rfl, t, rfl⟩)
   all_goals (first | (exfalso; omega) | skip)
   go_ret2
   exact ⟨rfl, Lib.bytesWorld_below _ _ _⟩
  rw [show decide (n > 999999999) = false from decide_eq_false h4]
  simp only [Bool.false_or]
  have hfi : ∀ w', Go.RowKit.Below w.heap.size w w' → Calls Tryz.prog 73 #[.int .i64 n] w' fun e w'' => e = .returned (.string ⟨List.toArray (Lib.itoa n)⟩) ∧ Go.RowKit.Below w.heap.size w w'' := fun w' hB =>
   (N0 hS (hF n (by omega) (by omega)) w' (hI1 hB).1 (hI1 hB).2).mono fun e w'' h => ⟨h.1, hB.trans (h.2.mono hB.size)⟩
  by_cases h5 : Lib.itoa n = s
  ·rw [show (Lib.itoa n != s) = false from by rw [h5]; simp]
   simp only [cond_false]
   rw [h5, hbs] at hfi
   go_enter Tryz.func140, Tryz.ntmps140
   go_wp2_with (first | (go_at_call 227; refine (Any.strconv_Atoi { Tryz.lays_strconv_Atoi with } bs n (by omega) (by rw [hdl]; exact ha) _).mono ?_; rintro e w' ⟨rfl, t, rfl⟩) | (go_at_call 73; refine (hfi _ (Lib.bytesWorld_below _ _ _)).mono ?_; rintro e w' ⟨rfl, hB⟩))
   all_goals (first | (exfalso; omega) | skip)
   go_ret2
   exact ⟨rfl, hB⟩
  ·rw [show (Lib.itoa n != s) = true from bne_iff_ne.2 h5]
   simp only [cond_true]
   have hbl : bs.toList = s := by rw [← hbs]; simp
   have hne : (⟨List.toArray (Lib.itoa n)⟩ : ByteArray) ≠ bs := fun h => h5 (by rw [← hbs] at h; simpa using h)
   go_enter Tryz.func140, Tryz.ntmps140
   go_wp2_with (first | (go_at_call 227; refine (Any.strconv_Atoi { Tryz.lays_strconv_Atoi with } bs n (by omega) (by rw [hdl]; exact ha) _).mono ?_; rintro e w' ⟨rfl, t, rfl⟩) | (go_at_call 73; refine (hfi _ (Lib.bytesWorld_below _ _ _)).mono ?_; rintro e w' ⟨rfl, hB⟩))
   all_goals (first | (exfalso; omega) | skip)
   ·go_ret2
    exact ⟨rfl, hB⟩
   ·rename_i hh
    exact absurd hh.2 (by simp [h5])
theorem Kaw : WO Cam := wc Zar (Vad ⟨_, func140, rfl, rfl⟩ (Uad (Nal (s := Bav) Zar (by kernel_rfl)) (fun n h1 h2 => by show Fg n = _; unfold Fg strconv_Itoa; rw [Jav h1 h2]; rfl) ZaE))
abbrev IaG : Ra := .pu Uf Ki [true] (fun x => Pq x.1 x.2.1)
abbrev Qai : WF := (52, IaG) :: Cam
theorem GaE : WO Qai := Lf Kaw func52
abbrev FaC : Ra := .pu Ki Ah [true] (fun x => Yh x.1)
abbrev Aab : WF := (207, FaC) :: Qai
def Q8 : Za := ⟨28, ⟨[(0, Ya), (3, Zj), (12, Zs), (13, Ya), (14, Ya)], []⟩, 0, ⟨[(3, Zj)], []⟩, ⟨[], []⟩, Mq⟩
def Gaz : WL := [(5, Q8)]
theorem Faq : Kb (WG true Qai [] [] []) Gaz (lp f207 0) := Pd 5 (ls := Q8) rfl
theorem Max : WO Aab := Mg GaE func207 (Ta Faq Pa)
abbrev YaC : Ra := .pu Ah Ki [true] (fun x => Dn x.1)
abbrev Gan : WF := (279, YaC) :: Aab
def A9 : Za := ⟨13, ⟨[(0, Zj), (3, Ya)], []⟩, 0, ⟨[], []⟩, ⟨[(2, Ya)], []⟩, Ri⟩
def Qaz : WL := [(2, A9)]
theorem Paq : Kb (WG true Aab [] [] []) Qaz (lp f279 0) := Pd 2 (ls := A9) rfl
theorem Fay : WO Gan := Mg Max func279 (Ta Paq Pa)
abbrev ZaA : Ra := .pu (.p .s Ah) (.p .s (.p .s Ng)) [true, true, true] (fun x => strings_Cut x.1 x.2.1)
abbrev Qaa : WF := (136, ZaA) :: Gan
theorem Gaw : WO Qaa := wc Fay (Jaf Tryz.lays_strings_Cut (by kernel_rfl) Aaj)
abbrev ZaC : Ra := .pu Ah Ki [true] (fun x => Lq x.1)
abbrev Jab : WF := (280, ZaC) :: Qaa
def B9 : Za := ⟨18, ⟨[(0, Zj), (5, Zs), (6, Ya), (7, Ya)], []⟩, 0, ⟨[], []⟩, ⟨[(2, Ya)], []⟩, Dl⟩
def Raz : WL := [(2, B9)]
theorem Qaq : Kb (WG true Qaa [] [] []) Raz (lp f280 0) := Pd 2 (ls := B9) rfl
theorem Gay : WO Jab := Mg Gaw func280 (Ta Qaq Pa)
abbrev IaC : Ra := .pu Ah XA [true] (fun x => Vt x.1)
abbrev Xam : WF := (221, IaC) :: Jab
def S8 : Za := ⟨98, ⟨[(0, Zj), (2, Ul), (29, WE), (30, Ya), (31, Ya)], [(2, Bc, (.data Bc))]⟩, 1, ⟨[(0, Zj), (2, Ul)], [(2, Bc, (.data Bc))]⟩, ⟨[(2, Ul)], [(2, Bc, (.data Bc))]⟩, Vo⟩
def Iaz : WL := [(9, S8)]
theorem Haq : Kb (WG true Jab [] [] []) Iaz (lp f221 0) := Pd 9 (ls := S8) rfl
theorem Pax : WO Xam := Mg Gay func221 (Ta Haq Pa)
abbrev TaB : Ra := .pu Ki Ng [true] (fun x => Vm x.1)
abbrev Mam : WF := (156, TaB) :: Xam
theorem Aax : WO Mam := Lf Pax func156
abbrev VaB : Ra := .pu Ki Ng [true] (fun x => Sq x.1)
abbrev Oam : WF := (197, VaB) :: Mam
theorem Cax : WO Oam := Lf Aax func197
abbrev WaB : Ra := .pu Ki Ng [true] (fun x => Cs x.1)
abbrev Pam : WF := (198, WaB) :: Oam
theorem Dax : WO Pam := Lf Cax func198
abbrev FaA : Ra := .pu XA Ng [true] (fun x => Jh x.1)
abbrev Pal : WF := (105, FaA) :: Pam
theorem Mav : WO Pal := Lf Dax func105
abbrev EaC : Ra := .pu Ki Ah [true] (fun x => Dc x.1)
abbrev Wam : WF := (206, EaC) :: Pal
theorem Lax : WO Wam := Lf Mav func206
abbrev JaC : Ra := .pu XA Ah [true] (fun x => Nj x.1)
abbrev Yam : WF := (222, JaC) :: Wam
theorem Qax : WO Yam := Lf Lax func222
abbrev TaA : Ra := .pu Ah (.p Bc Ng) [true, true] (fun x => Un x.1)
abbrev Z0 : WF := (130, TaA) :: Yam
theorem Aaw : WO Z0 := Lf Qax func130
abbrev BaG : Ra := .pu (.p Ua .u) Ng [true] (fun x => Rj x.1)
abbrev Das : WF := (41, BaG) :: Z0
def Mag : Za := ⟨73, ⟨[(1, Hw), (3, Ya), (28, VJ), (29, Ya), (30, Ya), (40, (.data AG)), (41, Ya), (42, Ya)], [(1, Ua, YA)]⟩, 2, ⟨[(1, Hw), (28, VJ), (29, Ya), (30, Ya)], [(1, Ua, YA)]⟩, ⟨[(2, It)], []⟩, Mm⟩
def Lag : Za := ⟨73, ⟨[(1, Hw), (28, VJ), (29, Ya), (30, Ya)], [(1, Ua, YA)]⟩, 0, ⟨[], []⟩, ⟨[(2, It)], []⟩, Lm⟩
def Uas : WL := [(9, Mag), (4, Lag)]
theorem Cau : Kb (WG true Z0 [] [] []) Uas (lp f41 1) := Pd 9 (ls := Mag) rfl
theorem Bau : Kb (WG true Z0 [] [] []) Uas (lp f41 0) := Pd 4 (ls := Lag) rfl
theorem ZaD : WO Das := Mg Aaw func41 (Ta Cau (Ta Bau Pa))
abbrev YaG : Ra := .pu (.p (.sl .s) Ah) Ah [true] (fun x => strings_Join x.1 x.2.1)
abbrev Pas : WF := (77, YaG) :: Das
theorem WaE : WO Pas := wc ZaD (Cad Tryz.lays_strings_Join (by kernel_rfl) Tryz.extra_strings_Join)
abbrev ZaF : Ra := .pu (.p (.sl .s) Ah) Ah [true] (fun x => Qf x.1 x.2.1)
abbrev Pab : WF := (31, ZaF) :: Pas
theorem XaD : WO Pab := Lf WaE func31
abbrev UaA : Ra := .pu (.p Ua .u) Ah [true] (fun x => Em x.1)
abbrev A1 : WF := (131, UaA) :: Pab
def Z7 : Za := ⟨39, ⟨[(3, (.own 200101 .s true)), (6, RW), (13, VJ), (14, Ya), (15, Ya), (19, (.data AG)), (20, Ya), (21, Ya)], []⟩, 2, ⟨[(3, (.own 200101 .s true)), (6, RW), (13, VJ), (14, Ya), (15, Ya)], []⟩, ⟨[], []⟩, Pn⟩
def Y7 : Za := ⟨39, ⟨[(3, Zs), (13, VJ), (14, Ya), (15, Ya)], []⟩, 0, ⟨[(3, Zs)], []⟩, ⟨[], []⟩, On⟩
def Qan : WL := [(9, Z7), (5, Y7)]
theorem Oap : Kb (WG true Pab [] [] []) Qan (lp f131 1) := Pd 9 (ls := Z7) rfl
theorem Nap : Kb (WG true Pab [] [] []) Qan (lp f131 0) := Pd 5 (ls := Y7) rfl
theorem Baw : WO A1 := Mg XaD func131 (Ta Oap (Ta Nap Pa))
abbrev KaG : Ra := .pu Ah (.p Ua Ng) [true, true] (fun x => Vn x.1)
abbrev Sai : WF := (62, KaG) :: A1
def Rag : Za := ⟨71, ⟨[(0, Zj), (2, Ul), (4, MC), (7, (.own 200101 Bc true)), (13, RW), (14, Ya), (15, Ya), (20, (.own 200103 .s true)), (21, Ya), (22, Ya)], [(2, Ua, (.pr Ya (.pr (.own 200104 AG true) .un))), (4, Ua, (.pr Ya (.pr (.own 200105 AG true) .un)))]⟩, 2, ⟨[(0, Zj), (2, Ul), (4, MC), (7, (.own 200101 Bc true)), (13, RW), (14, Ya), (15, Ya)], [(2, Ua, (.pr Ya (.pr (.own 200103 AG true) .un))), (4, Ua, (.pr Ya (.pr (.own 200104 AG true) .un)))]⟩, ⟨[(2, Ul), (3, It)], [(2, Ua, (.pr Ya (.pr (.own 200101 AG true) .un)))]⟩, To⟩
def Qag : Za := ⟨71, ⟨[(0, Zj), (2, Ul), (4, MC), (13, Zs), (14, Ya), (15, Ya)], [(2, Ua, C3), (4, Ua, (.pr Ya (.pr (.own 200003 AG true) .un)))]⟩, 0, ⟨[(0, Zj), (2, Ul), (4, MC)], [(2, Ua, D3), (4, Ua, C3)]⟩, ⟨[(2, Ul), (3, It)], [(2, Ua, D3)]⟩, So⟩
def Was : WL := [(7, Rag), (3, Qag)]
theorem Hau : Kb (WG true A1 [] [] []) Was (lp f62 1) := Pd 7 (ls := Rag) rfl
theorem Gau : Kb (WG true A1 [] [] []) Was (lp f62 0) := Pd 3 (ls := Qag) rfl
theorem IaE : WO Sai := Mg Baw func62 (Ta Hau (Ta Gau Pa))
abbrev HaG : Ra := .pu (.p Ua .u) (.p Ua .u) [true] (fun x => Wp x.1)
abbrev Pai : WF := (50, HaG) :: Sai
def Pag : Za := ⟨25, ⟨[(2, Ul), (3, (.ptr 3 [])), (10, VJ), (11, Ya), (12, Ya)], [(2, Ua, (.pr Ya (.pr VJ .un))), (3, Ua, D3)]⟩, 0, ⟨[(2, Ul), (3, (.ptr 3 []))], [(2, Ua, (.pr Ya (.pr VJ .un))), (3, Ua, D3)]⟩, ⟨[], []⟩, Qq⟩
def GaF : WL := [(3, Pag)]
theorem Fau : Kb (WG true Sai [] [] []) GaF (lp f50 0) := Pd 3 (ls := Pag) rfl
theorem FaE : WO Pai := Mg IaE func50 (Ta Fau Pa)
abbrev QaG : Ra := .pu (.p (.sl Jt) .u) (.p (.sl Jt) .u) [true] (fun x => Ml x.1)
abbrev Uai : WF := (68, QaG) :: Pai
def Uag : Za := ⟨19, ⟨[(3, (.own 200001 Jt true)), (6, (.data (.sl Jt))), (7, Ya), (8, Ya)], []⟩, 0, ⟨[(3, (.own 200001 Jt true))], []⟩, ⟨[], []⟩, Rq⟩
def JaF : WL := [(3, Uag)]
theorem Kau : Kb (WG true Pai [] [] []) JaF (lp f68 0) := Pd 3 (ls := Uag) rfl
theorem OaE : WO Uai := Mg FaE func68 (Ta Kau Pa)
abbrev GaC : Ra := .pu (.p (.sl Mj) .u) Ng [true] (fun x => Uk x.1)
abbrev Bab : WF := (208, GaC) :: Uai
def R8 : Za := ⟨46, ⟨[(3, Ya), (6, (.data (.sl Mj))), (7, Ya), (8, Ya)], []⟩, 0, ⟨[], []⟩, ⟨[(2, It)], []⟩, Nw⟩
def Haz : WL := [(3, R8)]
theorem Gaq : Kb (WG true Uai [] [] []) Haz (lp f208 0) := Pd 3 (ls := R8) rfl
theorem Nax : WO Bab := Mg OaE func208 (Ta Gaq Pa)
abbrev LaC : Ra := .pu (.p (.sl Uf) (.p Uf .u)) Ki [true] (fun x => Az x.1 x.2.1)
abbrev Dab : WF := (226, LaC) :: Bab
def T8 : Za := ⟨19, ⟨[(3, (.ptr 3 [])), (7, (.data (.sl Uf))), (8, Ya), (9, Ya)], [(3, Uf, (.data Uf))]⟩, 0, ⟨[], []⟩, ⟨[(4, Ya)], []⟩, Rw⟩
def Jaz : WL := [(2, T8)]
theorem Iaq : Kb (WG true Bab [] [] []) Jaz (lp f226 0) := Pd 2 (ls := T8) rfl
theorem Sax : WO Dab := Mg Nax func226 (Ta Iaq Pa)
abbrev BaB : Ra := .pu (.p Jt .u) Ng [true] (fun x => Rn x.1)
abbrev B1 : WF := (138, BaB) :: Dab
def A8 : Za := ⟨62, ⟨[(3, (.own 200001 Uf true)), (11, (.data Jt)), (12, Ya), (13, Ya)], []⟩, 0, ⟨[(3, (.own 200001 Uf true))], []⟩, ⟨[(2, It)], []⟩, Bv⟩
def Uay : WL := [(5, A8)]
theorem Pap : Kb (WG true Dab [] [] []) Uay (lp f138 0) := Pd 5 (ls := A8) rfl
theorem Iaw : WO B1 := Mg Sax func138 (Ta Pap Pa)
abbrev JaA : Ra := .pu (.p Rc .u) Ng [true] (fun x => Ou x.1)
abbrev Ral : WF := (109, JaA) :: B1
def S7 : Za := ⟨92, ⟨[(1, Hw), (35, (.data (.sl Jt))), (36, Ya), (37, Ya)], [(1, Rc, (.data Rc))]⟩, 0, ⟨[(1, Hw)], [(1, Rc, (.data Rc))]⟩, ⟨[(2, It)], []⟩, Km⟩
def S4 : Za := ⟨92, ⟨[(1, Hw), (5, Ya), (50, (.data (.sl Mj))), (51, Ya), (52, Ya)], [(1, Rc, (.data Rc))]⟩, 2, ⟨[(1, Hw), (5, Ya)], [(1, Rc, (.data Rc))]⟩, ⟨[(2, It)], []⟩, Kl⟩
def Nan : WL := [(4, S7), (11, S4)]
theorem Hap : Kb (WG true B1 [] [] []) Nan (lp f109 0) := Pd 4 (ls := S7) rfl
theorem Cak : Kb (WG true B1 [] [] []) Nan (lp f109 1) := Pd 11 (ls := S4) rfl
theorem Qav : WO Ral := Mg Iaw func109 (Ta Cak (Ta Hap Pa))
abbrev DaG : Ra := .pu (.p Ua (.p (.sl Jt) .u)) (.p Rc Ng) [true, true] (fun x => Qx x.1 x.2.1)
abbrev Fas : WF := (44, DaG) :: Ral
theorem BaE : WO Fas := Lf Qav func44
abbrev KaA : Ra := .pu (.p Rc .u) (.p Rc .u) [true] (fun x => Gj x.1)
abbrev Sal : WF := (110, KaA) :: Fas
theorem Rav : WO Sal := Lf BaE func110
abbrev PaB : Ra := .pu (.p Kd .u) Ng [true] (fun x => Pu x.1)
abbrev Yaa : WF := (152, PaB) :: Sal
theorem Waw : WO Yaa := Lf Rav func152
abbrev RaB : Ra := .pu (.p (.sl Mj) .u) Ki [true] (fun x => Yo x.1)
abbrev Kam : WF := (154, RaB) :: Yaa
def M8 : Za := ⟨19, ⟨[(3, Ya), (6, (.data (.sl Mj))), (7, Ya), (8, Ya)], []⟩, 0, ⟨[(3, Ya)], []⟩, ⟨[], []⟩, Wt⟩
def Caz : WL := [(3, M8)]
theorem Baq : Kb (WG true Yaa [] [] []) Caz (lp f154 0) := Pd 3 (ls := M8) rfl
theorem Yaw : WO Kam := Mg Waw func154 (Ta Baq Pa)
abbrev EaD : Ra := .pu (.p Ws .u) Ng [true] (fun x => Mw x.1)
abbrev Oab : WF := (292, EaD) :: Kam
theorem Lay : WO Oab := Lf Yaw func292
abbrev RaC : Ra := .pu (.p YE Ki) (.p int Ng) [true, true] (fun x => WD x.1 x.2.1)
abbrev Fab : WF := (234, RaC) :: Oab
def X8 : Za := ⟨53, ⟨[(0, (.data YE)), (1, Ya), (11, (.data YE)), (12, Ya), (13, Ya)], []⟩, 0, ⟨[(1, Ya)], []⟩, ⟨[(4, Ya), (5, It)], []⟩, Pw⟩
def Naz : WL := [(4, X8)]
theorem Maq : Kb (WG true Oab [] [] []) Naz (lp f234 0) := Pd 4 (ls := X8) rfl
theorem Yax : WO Fab := Mg Lay func234 (Ta Maq Pa)
abbrev QaB : Ra := .pu (.p YE Uf) Ng [true] (fun x => Gn x.1 x.2.1 x.2.2.1)
abbrev Jam : WF := (153, QaB) :: Fab
def L8 : Za := ⟨29, ⟨[(0, (.data YE)), (1, Ya), (2, Ya), (11, (.data YE)), (12, Ya), (13, Ya)], []⟩, 0, ⟨[(0, (.data YE)), (1, Ya)], []⟩, ⟨[(6, It)], []⟩, Es⟩
def Baz : WL := [(2, L8)]
theorem Aaq : Kb (WG true Fab [] [] []) Baz (lp f153 0) := Pd 2 (ls := L8) rfl
theorem Xaw : WO Jam := Mg Yax func153 (Ta Aaq Pa)
abbrev SaB : Ra := .pu (.p YE Ki) Ng [true] (fun x => En x.1 x.2.1)
abbrev Lam : WF := (155, SaB) :: Jam
theorem Zaw : WO Lam := Lf Xaw func155
abbrev WaG : Ra := .pu (.p Pe .u) Ng [true] (fun x => Bn x.1)
abbrev Oas : WF := (75, WaG) :: Lam
theorem UaE : WO Oas := Lf Zaw func75
abbrev VaA : Ra := .pu (.p Rc (.p Kd .u)) (.p Pe Ng) [true, true] (fun x => Ov x.1 x.2.1)
abbrev Zal : WF := (132, VaA) :: Oas
theorem Caw : WO Zal := Lf UaE func132
abbrev LaG : Ra := .pu (.p Ua (.p (.sl Jt) (.p Kd .u))) (.p Qe Ng) [true, true] (fun x => Ij x.1 x.2.1 x.2.2.1)
abbrev Has : WF := (63, LaG) :: Zal
theorem JaE : WO Has := Lf Caw func63
abbrev VaF : Ra := .pu .u (.p Qe .u) [true] (fun x => Fj)
abbrev Kai : WF := (27, VaF) :: Has
theorem TaD : WO Kai := Lf JaE func27
abbrev XaG : Ra := .pu RN Ng [true] (fun x => Wl x.1)
abbrev Yai : WF := (76, XaG) :: Kai
def Xag : Za := ⟨39, ⟨[(1, Hw), (14, (.data Sr)), (15, Ya), (16, Ya)], [(1, Sc, AM)]⟩, 0, ⟨[], []⟩, ⟨[(2, It)], []⟩, Qt⟩
def MaF : WL := [(4, Xag)]
theorem Nau : Kb (WG true Kai [] [] []) MaF (lp f76 0) := Pd 4 (ls := Xag) rfl
theorem VaE : WO Yai := Mg TaD func76 (Ta Nau Pa)
abbrev XaF : Ra := .pu (.p Qe .u) Ng [true] (fun x => Wr x.1)
abbrev Bas : WF := (29, XaF) :: Yai
def Iag : Za := ⟨37, ⟨[(16, (.data XE)), (17, Ya), (18, Ya)], []⟩, 0, ⟨[], []⟩, ⟨[(2, It)], []⟩, Xr⟩
def DaF : WL := [(4, Iag)]
theorem Yat : Kb (WG true Yai [] [] []) DaF (lp f29 0) := Pd 4 (ls := Iag) rfl
theorem VaD : WO Bas := Mg VaE func29 (Ta Yat Pa)
abbrev WaA : Ra := .pu (.p Pe .u) (.p Pe .u) [true] (fun x => Jk x.1)
abbrev Aam : WF := (133, WaA) :: Bas
theorem Daw : WO Aam := Lf VaD func133
abbrev CaG : Ra := .pu (.p Sr .u) (.p Sr .u) [true] (fun x => Hi x.1)
abbrev Eas : WF := (43, CaG) :: Aam
theorem AaE : WO Eas := Lf Daw func43
abbrev XaA : Ra := .pu RN RN [true] (fun x => Xp x.1)
abbrev Paa : WF := (134, XaA) :: Eas
theorem Eaw : WO Paa := Lf AaE func134
abbrev MaG : Ra := .pu (.p Qe .u) (.p Qe .u) [true] (fun x => Mi x.1)
abbrev Ias : WF := (64, MaG) :: Paa
def Sag : Za := ⟨30, ⟨[(2, Ul), (3, (.ptr 3 [])), (11, (.data XE)), (12, Ya), (13, Ya)], [(2, Qe, Gac), (3, Qe, Hat)]⟩, 0, ⟨[(2, Ul), (3, (.ptr 3 []))], [(2, Qe, Gac), (3, Qe, Hat)]⟩, ⟨[], []⟩, Uo⟩
def HaF : WL := [(3, Sag)]
theorem Iau : Kb (WG true Paa [] [] []) HaF (lp f64 0) := Pd 3 (ls := Sag) rfl
theorem KaE : WO Ias := Mg Eaw func64 (Ta Iau Pa)
abbrev OaG : Ra := .co (.p Qe (.p Qe Ng)) (.p Qe Ah) [true, true] (fun x => Ei x.1 x.2.1 x.2.2.1)
abbrev Kas : WF := (66, OaG) :: Ias
theorem MaE : WO Kas := wco (L := []) (m := []) (v := []) (l := []) KaE func66 Pa
abbrev AaB : Ra := .pu (.p .s Ah) Ki [true] (fun x => strings_Index x.1 x.2.1)
abbrev Raa : WF := (137, AaB) :: Kas
theorem Haw : WO Raa := wc MaE (O6 Tryz.lays_strings_Index (by kernel_rfl) Aaj)
abbrev CaB : Ra := .pu (.p Jt .u) Ah [true] (fun x => Pt x.1)
abbrev Saa : WF := (139, CaB) :: Raa
def B8 : Za := ⟨35, ⟨[(3, Zs), (9, (.data Jt)), (10, Ya), (11, Ya)], []⟩, 0, ⟨[(3, Zs)], []⟩, ⟨[], []⟩, Ro⟩
def Vay : WL := [(5, B8)]
theorem Qap : Kb (WG true Raa [] [] []) Vay (lp f139 0) := Pd 5 (ls := B8) rfl
theorem Jaw : WO Saa := Mg Haw func139 (Ta Qap Pa)
abbrev PaG : Ra := .pu Ah (.p Jt Ng) [true, true] (fun x => Pv x.1)
abbrev Tai : WF := (67, PaG) :: Saa
def Tag : Za := ⟨75, ⟨[(0, Zj), (4, (.own 200001 Kd true)), (16, (.own 200002 .s true)), (17, Ya), (18, Ya)], []⟩, 0, ⟨[(0, Zj), (4, (.own 200001 Kd true))], []⟩, ⟨[(2, (.own 200001 Kd true)), (3, It)], []⟩, Oq⟩
def IaF : WL := [(5, Tag)]
theorem Jau : Kb (WG true Saa [] [] []) IaF (lp f67 0) := Pd 5 (ls := Tag) rfl
theorem NaE : WO Tai := Mg Jaw func67 (Ta Jau Pa)
abbrev SaG : Ra := .pu (.p (.sl .s) Ki) (.p Sr Ng) [true, true] (fun x => Jf x.1 x.2.1)
abbrev Vai : WF := (70, SaG) :: Tai
def Wag : Za := ⟨36, ⟨[(6, WE), (17, (.data (.sl .s))), (18, Ya), (19, Ya)], []⟩, 0, ⟨[(6, WE)], []⟩, ⟨[(4, WE), (5, It)], []⟩, Ev⟩
def LaF : WL := [(5, Wag)]
theorem Mau : Kb (WG true Tai [] [] []) LaF (lp f70 0) := Pd 5 (ls := Wag) rfl
theorem QaE : WO Vai := Mg NaE func70 (Ta Mau Pa)
abbrev DaC : Ra := .pu (.p Rc Ki) Ki [true] (fun x => SD x.1 x.2.1)
abbrev Vam : WF := (205, DaC) :: Vai
def P8 : Za := ⟨21, ⟨[(1, Ya), (8, (.data (.sl Mj))), (9, Ya), (10, Ya)], []⟩, 0, ⟨[], []⟩, ⟨[(4, Ya)], []⟩, Lw⟩
def Faz : WL := [(2, P8)]
theorem Eaq : Kb (WG true Vai [] [] []) Faz (lp f205 0) := Pd 2 (ls := P8) rfl
theorem Kax : WO Vam := Mg QaE func205 (Ta Eaq Pa)
abbrev CaD : Ra := .io Sr .u .u [] (fun x0 _ => sort_Ints x0)
abbrev Mab : WF := (290, CaD) :: Vam
end
end KF
namespace Go.Proofs
open Go.Shelf
def Tryz.lays_sort_Ints_ren : Go.Shelf.Ren := ⟨fun | 191 => 290 | 189 => 329 | 125 => 345 | 257 => 344 | 128 => 360 | 129 => 340 | 294 => 351 | 295 => 352 | 296 => 353 | 297 => 354 | 298 => 355 | 299 => 356 | 216 => 357 | 300 => 358 | 301 => 359 | 328 => 361 | 329 => 362 | 330 => 363 | 331 => 364 | 332 => 365 | 215 => 366 | 343 => 367 | n => n, fun | 28 => 29 | 0 => 0 | 3 => 3 | 46 => 258 | 51 => 329 | 53 => 341 | 4 => 4 | 183 => 373 | 182 => 372 | 131 => 151 | 5 => 5 | 9 => 9 | 218 => 381 | 222 => 385 | 228 => 387 | 229 => 338 | n => n, fun | n => n⟩
theorem Tryz.lays_sort_Ints : Go.Proofs.Lays.n191 Tryz.prog Tryz.lays_sort_Ints_ren := {
 mixed := by kernel_rfl
 f125 := Tryz.func345.trans (congrArg some (by kernel_rfl))
 f128 := Tryz.func360.trans (congrArg some (by kernel_rfl))
 f129 := Tryz.func340.trans (congrArg some (by kernel_rfl))
 f189 := Tryz.func329.trans (congrArg some (by kernel_rfl))
 f191 := Tryz.func290.trans (congrArg some (by kernel_rfl))
 f215 := Tryz.func366.trans (congrArg some (by kernel_rfl))
 f216 := Tryz.func357.trans (congrArg some (by kernel_rfl))
 f257 := Tryz.func344.trans (congrArg some (by kernel_rfl))
 f294 := Tryz.func351.trans (congrArg some (by kernel_rfl))
 f295 := Tryz.func352.trans (congrArg some (by kernel_rfl))
 f296 := Tryz.func353.trans (congrArg some (by kernel_rfl))
 f297 := Tryz.func354.trans (congrArg some (by kernel_rfl))
 f298 := Tryz.func355.trans (congrArg some (by kernel_rfl))
 f299 := Tryz.func356.trans (congrArg some (by kernel_rfl))
 f300 := Tryz.func358.trans (congrArg some (by kernel_rfl))
 f301 := Tryz.func359.trans (congrArg some (by kernel_rfl))
 f328 := Tryz.func361.trans (congrArg some (by kernel_rfl))
 f329 := Tryz.func362.trans (congrArg some (by kernel_rfl))
 f330 := Tryz.func363.trans (congrArg some (by kernel_rfl))
 f331 := Tryz.func364.trans (congrArg some (by kernel_rfl))
 f332 := Tryz.func365.trans (congrArg some (by kernel_rfl))
 f343 := Tryz.func367.trans (congrArg some (by kernel_rfl))
 t0 := Tryz.underlying0
 a0 := Tryz.isAgg0
 z0 := Tryz.sizeOf0
 v0 := Tryz.zeroValue0
 t3 := Tryz.underlying3
 a3 := Tryz.isAgg3
 z3 := Tryz.sizeOf3
 v3 := Tryz.zeroValue3
 t4 := Tryz.underlying4
 a4 := Tryz.isAgg4
 z4 := Tryz.sizeOf4
 v4 := Tryz.zeroValue4
 t5 := Tryz.underlying5
 a5 := Tryz.isAgg5
 z5 := Tryz.sizeOf5
 v5 := Tryz.zeroValue5
 t9 := Tryz.underlying9
 a9 := Tryz.isAgg9
 z9 := Tryz.sizeOf9
 v9 := Tryz.zeroValue9
 t28 := Tryz.underlying29
 a28 := Tryz.isAgg29
 z28 := Tryz.sizeOf29
 v28 := Tryz.zeroValue29
 t46 := Tryz.underlying258
 a46 := Tryz.isAgg258
 z46 := Tryz.sizeOf258
 v46 := Tryz.zeroValue258
 t51 := Tryz.underlying329
 a51 := Tryz.isAgg329
 z51 := Tryz.sizeOf329
 v51 := Tryz.zeroValue329
 t53 := Tryz.underlying341
 a53 := Tryz.isAgg341
 z53 := Tryz.sizeOf341
 v53 := Tryz.zeroValue341
 t131 := Tryz.underlying151
 a131 := Tryz.isAgg151
 z131 := Tryz.sizeOf151
 v131 := Tryz.zeroValue151
 t182 := Tryz.underlying372
 a182 := Tryz.isAgg372
 z182 := Tryz.sizeOf372
 v182 := Tryz.zeroValue372
 t183 := Tryz.underlying373
 a183 := Tryz.isAgg373
 z183 := Tryz.sizeOf373
 v183 := Tryz.zeroValue373
 t218 := Tryz.underlying381
 a218 := Tryz.isAgg381
 z218 := Tryz.sizeOf381
 v218 := Tryz.zeroValue381
 t222 := Tryz.underlying385
 a222 := Tryz.isAgg385
 z222 := Tryz.sizeOf385
 v222 := Tryz.zeroValue385
 t228 := Tryz.underlying387
 a228 := Tryz.isAgg387
 z228 := Tryz.sizeOf387
 v228 := Tryz.zeroValue387
 t229 := Tryz.underlying338
 a229 := Tryz.isAgg338
 z229 := Tryz.sizeOf338
 v229 := Tryz.zeroValue338 }
end Go.Proofs
namespace KF
open Go Go.Proofs Go.Proofs.Tryz
noncomputable section
theorem Jay : WO Mab := wc Kax (Gae Tryz.lays_sort_Ints (by kernel_rfl))
abbrev DaD : Ra := .pu (.p Sr Ki) Ng [true] (fun x => Zy x.1 x.2.1)
abbrev Nab : WF := (291, DaD) :: Mab
def E9 : Za := ⟨17, ⟨[(1, Ya), (7, (.data Sr)), (8, Ya), (9, Ya)], []⟩, 0, ⟨[], []⟩, ⟨[(4, It)], []⟩, Qw⟩
def Taz : WL := [(2, E9)]
theorem Taq : Kb (WG true Mab [] [] []) Taz (lp f291 0) := Pd 2 (ls := E9) rfl
theorem Kay : WO Nab := Mg Jay func291 (Ta Taq Pa)
abbrev OaC : Ra := .pu (.p Sr .u) (.p Sr .u) [true] (fun x => Bs x.1)
abbrev Eab : WF := (231, OaC) :: Nab
def V8 : Za := ⟨31, ⟨[(4, WE), (11, (.own 200002 int true)), (12, Ya), (13, Ya)], []⟩, 0, ⟨[(4, WE)], []⟩, ⟨[], []⟩, Dv⟩
def Laz : WL := [(5, V8)]
theorem Kaq : Kb (WG true Nab [] [] []) Laz (lp f231 0) := Pd 5 (ls := V8) rfl
theorem Vax : WO Eab := Mg Kay func231 (Ta Kaq Pa)
abbrev LaB : Ra := .pu (.p (.sl Mj) .u) RN [true] (fun x => Cd x.1)
abbrev Vaa : WF := (148, LaB) :: Eab
def G8 : Za := ⟨45, ⟨[(2, Ul), (3, (.ptr 3 [])), (4, WE), (11, (.data (.sl Mj))), (12, Ya), (13, Ya)], [(2, Sc, NY), (3, Sc, NY)]⟩, 0, ⟨[(2, Ul), (3, (.ptr 3 [])), (4, WE)], [(2, Sc, NY), (3, Sc, NY)]⟩, ⟨[], []⟩, Tt⟩
def Yay : WL := [(6, G8)]
theorem Vap : Kb (WG true Eab [] [] []) Yay (lp f148 0) := Pd 6 (ls := G8) rfl
theorem Saw : WO Vaa := Mg Vax func148 (Ta Vap Pa)
abbrev GaD : Ra := .pu (.p Sr (.p Sr .u)) Ng [true] (fun x => Nz x.1 x.2.1)
abbrev Ian : WF := (311, GaD) :: Vaa
def F9 : Za := ⟨26, ⟨[(0, (.data Sr)), (1, (.data Sr)), (12, Ya), (13, Ya)], []⟩, 0, ⟨[], []⟩, ⟨[(4, It)], []⟩, Yt⟩
def Uaz : WL := [(4, F9)]
theorem Uaq : Kb (WG true Vaa [] [] []) Uaz (lp f311 0) := Pd 4 (ls := F9) rfl
theorem Nay : WO Ian := Mg Saw func311 (Ta Uaq Pa)
abbrev Iao : Ra := .pu (.p Sc RN) Ng [true] (fun x => Rp x.1 x.2.1)
abbrev Ean : WF := (272, Iao) :: Ian
theorem Oal : WO Ean := Lf Nay func272
abbrev CaC : Ra := .co (.p Sc QN) QN [true] (fun x => Je x.1 x.2.1)
abbrev Uam : WF := (204, CaC) :: Ean
def GTo : List (Nat × Ty) := [(3, int), (33, (.sl UJ)), (109, UJ)]
theorem Tas : ((GTo.all fun x => Nd Tryz.prog x.2 x.1) && (([] : List (Nat × Ty × Nat)).all fun x => ZR Tryz.prog x.1 x.2.1 x.2.2)) = true := by kernel_rfl
@[reducible] def Iaj (c : T Ce → T Ce → Option Bool) : Ra := .pu (.p UJ (.p (.sl UJ) .u)) (.p (.sl UJ) .u) [true] (fun x => Iac c x.1 x.2.1)
def Eaf (c : T Ce → T Ce → Option Bool) : Ue := ⟨GTo, [(272, ZX c)], [], true, [], [], []⟩
theorem Haj (I : Yf) (c : T Ce → T Ce → Option Bool) (h : Gg Tryz.prog I 272 (ZX c)) : Cj Tryz.prog I (Eaf c) := Cj.cons h (UY Tas)
def OY (c : T Ce → T Ce → Option Bool) : Za := ⟨25, ⟨[(2, Ul), (5, (.own 200001 UJ true)), (8, (.data (.sl UJ))), (9, Ya), (10, Ya)], [(2, UJ, (.data UJ))]⟩, 0, ⟨[(5, (.own 200001 UJ true))], []⟩, ⟨[], []⟩, Su c⟩
def Faf (c : T Ce → T Ce → Option Bool) : List (Nat × Za) := [(3, OY c)]
theorem Jac (c : T Ce → T Ce → Option Bool) : Kb (Eaf c) (Faf c) (lp Tryz.f204 0) := IZ (r := 3) (ls := OY c) (R := fun x => OC c x.1.1 x.1.2.1 x.1.2.2.1 x.1.2.2.2.1 x.1.2.2.2.2.1 x.2.1) (by kernel_rfl) (by kernel_rfl) rfl (fun x => by kernel_rfl)
theorem Jaj (I : Yf) (c : T Ce → T Ce → Option Bool) (h : Gg Tryz.prog I 272 (ZX c)) : Gg Tryz.prog I 204 (Iaj c) := GP (L := Faf c) (k := 1) (Haj I c h) JY Tryz.func204 (by kernel_rfl) (Ta (Jac c) Pa) (fun x => by kernel_rfl)
theorem Jax : WO Uam := wc Oal (Uah (f2 := 272) (SR := fun x => Rp x.1 x.2.1) (same := Tz) Dal (Nal (s := Iao) Oal (by kernel_rfl)) (fun I c h => ⟨_, Jaj I c h, Qao c⟩))
abbrev HaA : Ra := .pu (.p Rc Ki) (.p Rc QN) [true, true] (fun x => Sw x.1 x.2.1)
abbrev Maa : WF := (107, HaA) :: Uam
theorem Oav : WO Maa := Lf Jax func107
abbrev KaB : Ra := .pu (.p int (.p (.sl Mj) .u)) Ki [true] (fun x => Wo x.1 x.2.1)
abbrev Uaa : WF := (147, KaB) :: Maa
def F8 : Za := ⟨39, ⟨[(5, Ya), (21, (.data (.sl Mj))), (22, Ya), (23, Ya)], []⟩, 0, ⟨[(5, Ya)], []⟩, ⟨[], []⟩, Ej⟩
def Xay : WL := [(7, F8)]
theorem Uap : Kb (WG true Maa [] [] []) Xay (lp f147 0) := Pd 7 (ls := F8) rfl
theorem Raw : WO Uaa := Mg Oav func147 (Ta Uap Pa)
abbrev XaB : Ra := .pu (.p Ua Uf) Ki [true] (fun x => Ds x.1 x.2.1 x.2.2.1)
abbrev Qam : WF := (199, XaB) :: Uaa
def N8 : Za := ⟨33, ⟨[(1, Ya), (2, Ya), (3, (.ptr 3 [])), (7, Ya)], [(3, Ua, YA)]⟩, 0, ⟨[], []⟩, ⟨[(6, Ya)], []⟩, Di⟩
def Daz : WL := [(2, N8)]
theorem Caq : Kb (WG true Uaa [] [] []) Daz (lp f199 0) := Pd 2 (ls := N8) rfl
theorem Eax : WO Qam := Mg Raw func199 (Ta Caq Pa)
abbrev JaD : Ra := .pu (.p Ua Uf) Ki [true] (fun x => LH x.1 x.2.1 x.2.2.1)
abbrev Lan : WF := (338, JaD) :: Qam
theorem Qay : WO Lan := Lf Eax func338
abbrev HaD : Ra := .pu (.p Ua Uf) XA [true] (fun x => Kz x.1 x.2.1 x.2.2.1)
abbrev Jan : WF := (323, HaD) :: Lan
theorem Oay : WO Jan := Lf Qay func323
abbrev UaC : Ra := .pu XA Ng [true] (fun x => Cn x.1)
abbrev Hab : WF := (269, UaC) :: Jan
theorem Bay : WO Hab := Lf Oay func269
abbrev IaD : Ra := .pu (.p Kd (.p int (.p int (.p YE Ki)))) Uf [true, true] (fun x => Nu x.1 x.2.1 x.2.2.1 x.2.2.2.1 x.2.2.2.2.1)
abbrev Kan : WF := (324, IaD) :: Hab
def G9 : Za := ⟨102, ⟨[(1, Ya), (2, Ya), (4, Ya), (5, (.ptr 5 [])), (12, Ya), (26, (.data YE)), (27, Ya), (28, Ya)], [(5, Kd, (.data Kd))]⟩, 0, ⟨[(2, Ya), (4, Ya), (5, (.ptr 5 []))], [(5, Kd, (.data Kd))]⟩, ⟨[(10, Ya), (11, Ya)], []⟩, Lt⟩
def Vaz : WL := [(5, G9)]
theorem Vaq : Kb (WG true Hab [] [] []) Vaz (lp f324 0) := Pd 5 (ls := G9) rfl
theorem Pay : WO Kan := Mg Bay func324 (Ta Vaq Pa)
abbrev YaB : Ra := .pu XA XA [true] (fun x => UD x.1)
abbrev Ram : WF := (200, YaB) :: Kan
theorem Fax : WO Ram := Lf Pay func200
abbrev ZaB : Ra := .pu XA XA [true] (fun x => KG x.1)
abbrev Sam : WF := (201, ZaB) :: Ram
theorem Gax : WO Sam := Lf Fax func201
abbrev VaC : Ra := .pu Ki Ng [true] (fun x => Nv x.1)
abbrev Dan : WF := (270, VaC) :: Sam
theorem Cay : WO Dan := Lf Gax func270
abbrev AaC : Ra := .bx false false Rc XA XA [true] (fun x0 x => Tq x0 x.1)
abbrev Zaa : WF := (202, AaC) :: Dan
theorem Hax : WO Zaa := KW (L := []) (m := []) (v := []) (l := []) (z := false) Cay func202 Pa
abbrev WaC : Ra := .pu (.p Sc (.p (.sl Uf) .u)) RN [true] (fun x => Ff x.1 x.2.1)
abbrev Iab : WF := (271, WaC) :: Zaa
def Z8 : Za := ⟨37, ⟨[(4, MC), (5, (.ptr 5 [])), (6, WE), (15, (.data (.sl Uf))), (16, Ya), (17, Ya)], [(4, Sc, NY), (5, Sc, NY)]⟩, 0, ⟨[(4, MC), (5, (.ptr 5 [])), (6, WE)], [(4, Sc, NY), (5, Sc, NY)]⟩, ⟨[], []⟩, Hs⟩
def Paz : WL := [(4, Z8)]
theorem Oaq : Kb (WG true Zaa [] [] []) Paz (lp f271 0) := Pd 4 (ls := Z8) rfl
theorem Day : WO Iab := Mg Hax func271 (Ta Oaq Pa)
abbrev BaC : Ra := .pu (.p (.sl Mj) (.p Jt .u)) QN [true] (fun x => Oj x.1 x.2.1)
abbrev Tam : WF := (203, BaC) :: Iab
def O8 : Za := ⟨74, ⟨[(5, (.ptr 5 [])), (6, (.own 200001 Sc true)), (7, (.own 200002 Uf true)), (22, (.data Jt)), (23, Ya), (24, Ya)], [(5, Sc, (.pr Ya (.pr (.own 200003 int true) .un)))]⟩, 0, ⟨[(6, (.own 200001 Sc true))], []⟩, ⟨[], []⟩, Tn⟩
def Eaz : WL := [(7, O8)]
theorem Daq : Kb (WG true Iab [] [] []) Eaz (lp f203 0) := Pd 7 (ls := O8) rfl
theorem Iax : WO Tam := Mg Day func203 (Ta Daq Pa)
abbrev GaA : Ra := .pu (.p Rc (.p int Ng)) (.p Rc QN) [true, true] (fun x => Th x.1 x.2.1 x.2.2.1)
abbrev Qal : WF := (106, GaA) :: Tam
theorem Nav : WO Qal := Lf Iax func106
abbrev AaD : Ra := .bx false false Pe .u (.p (.sl Sc) Ng) [true, true] (fun x0 x => Rh x0)
abbrev Kab : WF := (287, AaD) :: Qal
theorem Hay : WO Kab := KW (L := []) (m := []) (v := []) (l := []) (z := false) Nav func287 Pa
abbrev BaD : Ra := .co (.p XE (.p int QN)) (.p XE .u) [true] (fun x => JE x.1 x.2.1 x.2.2.1)
abbrev Lab : WF := (288, BaD) :: Kab
def C9 : Za := ⟨23, ⟨[(0, (.own 200001 Sg true)), (1, Ya), (9, (.mov 200002 Sc)), (10, Ya), (11, Ya)], []⟩, 0, ⟨[(0, (.own 200001 Sg true))], []⟩, ⟨[], []⟩, BA⟩
def Saz : WL := [(2, C9)]
theorem Raq : Kb (WG false Kab [] [] [14]) Saz (lp f288 0) := Pd 2 (ls := C9) rfl
theorem Iay : WO Lab := wco Hay func288 (Ta Raq Pa)
abbrev MaC : Ra := .pu (.p Pe (.p YE Ki)) (.p Pe (.p XE Ng)) [true, true, true] (fun x => Pp x.1 x.2.1 x.2.2.1)
abbrev Aan : WF := (228, MaC) :: Lab
def U8 : Za := ⟨86, ⟨[(6, (.ptr 6 [])), (9, (.ptr 9 [])), (10, (.own 200001 Sg true))], [(6, Pe, c1_), (9, Pe, c2_)]⟩, 0, ⟨[(6, (.ptr 6 [])), (9, (.ptr 9 [])), (10, (.own 200001 Sg true))], [(6, Pe, c1_), (9, Pe, c2_)]⟩, ⟨[], []⟩, Wf⟩
def Kaz : WL := [(9, U8)]
theorem Jaq : Kb (WG true Lab [] [] []) Kaz (lp f228 0) := Pd 9 (ls := U8) rfl
theorem Tax : WO Aan := Mg Iay func228 (Ta Jaq Pa)
abbrev EaB : Ra := .pu (.p Pe Ki) (.p Pe (.p XE Ng)) [true, true, true] (fun x => Tx x.1 x.2.1)
abbrev Dam : WF := (141, EaB) :: Aan
theorem Law : WO Dam := Lf Tax func141
abbrev FaB : Ra := .pu (.p Pe (.p Ws .u)) (.p Pe (.p XE Ng)) [true, true, true] (fun x => Ox x.1 x.2.1)
abbrev Taa : WF := (142, FaB) :: Dam
theorem Maw : WO Taa := Lf Law func142
abbrev IaA : Ra := .pu RN Ah [true] (fun x => Fm x.1)
abbrev Naa : WF := (108, IaA) :: Taa
def R7 : Za := ⟨29, ⟨[(1, Hw), (3, Zs), (10, (.data Sr)), (11, Ya), (12, Ya)], [(1, Sc, AM)]⟩, 0, ⟨[(1, Hw), (3, Zs)], [(1, Sc, AM)]⟩, ⟨[], []⟩, Qn⟩
def Say : WL := [(5, R7)]
theorem Gap : Kb (WG true Taa [] [] []) Say (lp f108 0) := Pd 5 (ls := R7) rfl
theorem Pav : WO Naa := Mg Maw func108 (Ta Gap Pa)
abbrev GaB : Ra := .pu (.p XE .u) Ah [true] (fun x => Jl x.1)
abbrev Eam : WF := (143, GaB) :: Naa
def C8 : Za := ⟨29, ⟨[(3, Zs), (9, (.data XE)), (10, Ya), (11, Ya)], []⟩, 0, ⟨[(3, Zs)], []⟩, ⟨[], []⟩, Nq⟩
def Way : WL := [(5, C8)]
theorem Rap : Kb (WG true Naa [] [] []) Way (lp f143 0) := Pd 5 (ls := C8) rfl
theorem Naw : WO Eam := Mg Pav func143 (Ta Rap Pa)
abbrev TaG : Ra := .co (.p Qe (.p .s (.p Sr .u))) (.p Qe Ah) [true, true] (fun x => Hj x.1 x.2.1 x.2.2.1)
abbrev Mas : WF := (71, TaG) :: Eam
theorem RaE : WO Mas := wco (L := []) (m := []) (v := []) (l := []) Naw func71 Pa
abbrev HaB : Ra := .pu (.p Ua Ki) Ng [true] (fun x => Pg x.1 x.2.1)
abbrev Fam : WF := (144, HaB) :: Mas
theorem Oaw : WO Fam := Lf RaE func144
abbrev NaC : Ra := .pu (.p Ua Uf) Ki [true] (fun x => Yp x.1 x.2.1 x.2.2.1)
abbrev C1 : WF := (229, NaC) :: Fam
theorem Uax : WO C1 := Lf Oaw func229
abbrev IaB : Ra := .pu (.p Ua Ki) (.p (.mp int Sr) .u) [true] (fun x => ZI x.1 x.2.1)
abbrev Gam : WF := (145, IaB) :: C1
def E8 : Za := ⟨57, ⟨[(2, Ul), (5, (.mqo 200101 .i64 int)), (6, (.own 200102 int true)), (7, Ya), (26, Ya), (27, Ya)], [(2, Ua, YA)]⟩, 2, ⟨[(2, Ul), (5, (.mqo 200101 .i64 int)), (6, (.own 200102 int true))], [(2, Ua, YA)]⟩, ⟨[], []⟩, Zt⟩
def D8 : Za := ⟨57, ⟨[(2, Ul), (5, (.mqo 200001 .i64 int)), (6, (.own 200002 int true))], [(2, Ua, YA)]⟩, 0, ⟨[(5, (.mqo 200001 .i64 int))], []⟩, ⟨[], []⟩, Xn⟩
def Ran : WL := [(7, E8), (3, D8)]
theorem Tap : Kb (WG true C1 [] [12, 24] []) Ran (lp f145 1) := Pd 7 (ls := E8) rfl
theorem Sap : Kb (WG true C1 [] [12, 24] []) Ran (lp f145 0) := Pd 3 (ls := D8) rfl
theorem Paw : WO Gam := Mg Uax func145 (Ta Tap (Ta Sap Pa))
abbrev UaG : Ra := .pu (.p Ua Uf) (.p Sr Ng) [true, true] (fun x => Gi x.1 x.2.1 x.2.2.1)
abbrev Wai : WF := (72, UaG) :: Gam
theorem SaE : WO Wai := Mg (L := []) (m := []) (v := []) (l := [25]) Paw func72 Pa
abbrev OaB : Ra := .pu (.p XE .u) QN [true] (fun x => Rx x.1)
abbrev Xaa : WF := (151, OaB) :: Wai
def K8 : Za := ⟨20, ⟨[(3, (.own 200001 Sc true)), (6, (.data XE)), (7, Ya), (8, Ya)], []⟩, 0, ⟨[(3, (.own 200001 Sc true))], []⟩, ⟨[], []⟩, Yr⟩
def Aaz : WL := [(3, K8)]
theorem Zap : Kb (WG true Wai [] [] []) Aaz (lp f151 0) := Pd 3 (ls := K8) rfl
theorem Vaw : WO Xaa := Mg SaE func151 (Ta Zap Pa)
abbrev PaC : Ra := .pu (.p Sc RN) (.p Sr .u) [true] (fun x => EB x.1 x.2.1)
abbrev Ban : WF := (232, PaC) :: Xaa
def W8 : Za := ⟨34, ⟨[(2, Ul), (5, WE), (17, (.data Sr)), (18, Ya), (19, Ya)], [(2, Sc, AM)]⟩, 0, ⟨[(5, WE)], []⟩, ⟨[], []⟩, Cv⟩
def Maz : WL := [(5, W8)]
theorem Laq : Kb (WG true Xaa [] [] []) Maz (lp f232 0) := Pd 5 (ls := W8) rfl
theorem Wax : WO Ban := Mg Vaw func232 (Ta Laq Pa)
abbrev QaC : Ra := .pu Uf Ah [true] (fun x => Tk x.1 x.2.1)
abbrev D1 : WF := (233, QaC) :: Ban
theorem Xax : WO D1 := Lf Wax func233
abbrev NaB : Ra := .pu (.p Sc QN) Ah [true] (fun x => Sx x.1 x.2.1)
abbrev Waa : WF := (150, NaB) :: D1
def J8 : Za := ⟨34, ⟨[(2, Ul), (5, Zj), (7, (.ptr 7 [])), (10, (.data (.sl Sc))), (11, Ya), (12, Ya), (18, (.own 200101 int true)), (19, Ya), (20, Ya)], [(2, Sc, AM), (7, Sc, AM)]⟩, 2, ⟨[(2, Ul), (5, Zj), (7, (.ptr 7 [])), (10, (.data (.sl Sc))), (11, Ya), (12, Ya)], [(2, Sc, AM), (7, Sc, AM)]⟩, ⟨[], []⟩, As⟩
def I8 : Za := ⟨34, ⟨[(2, Ul), (5, Zj), (10, (.data (.sl Sc))), (11, Ya), (12, Ya)], [(2, Sc, AM)]⟩, 0, ⟨[(5, Zj)], []⟩, ⟨[], []⟩, Zr⟩
def San : WL := [(6, J8), (3, I8)]
theorem Yap : Kb (WG true D1 [] [] []) San (lp f150 1) := Pd 6 (ls := J8) rfl
theorem Xap : Kb (WG true D1 [] [] []) San (lp f150 0) := Pd 3 (ls := I8) rfl
theorem Uaw : WO Waa := Mg Xax func150 (Ta Yap (Ta Xap Pa))
abbrev MaB : Ra := .pu (.p (.sl Kq) .u) Ah [true] (fun x => An x.1)
abbrev Iam : WF := (149, MaB) :: Waa
def H8 : Za := ⟨27, ⟨[(3, (.own 200001 Kq true)), (9, (.data (.sl Kq))), (10, Ya), (11, Ya)], []⟩, 0, ⟨[(3, (.own 200001 Kq true))], []⟩, ⟨[], []⟩, Vr⟩
def Zay : WL := [(5, H8)]
theorem Wap : Kb (WG true Waa [] [] []) Zay (lp f149 0) := Pd 5 (ls := H8) rfl
theorem Taw : WO Iam := Mg Uaw func149 (Ta Wap Pa)
abbrev VaG : Ra := .pu (.p Qe Ah) Ah [true] (fun x => Kh x.1 x.2.1)
abbrev Xai : WF := (74, VaG) :: Iam
theorem TaE : WO Xai := Lf Taw func74
abbrev WaF : Ra := .pu (.p Qe Ah) (.p Qe Ah) [true, true] (fun x => Yy x.1 x.2.1)
abbrev Lai : WF := (28, WaF) :: Xai
def D9 : Za := ⟨236, ⟨[(2, Ul), (4, MC), (32, Zs), (211, (.own 200002 int true)), (212, Ya), (213, Ya)], [(2, Qe, (.pr (.pr (.pr (.pr Ya (.pr (.own 200003 AG true) .un)) (.pr (.own 200004 Jt true) (.pr Ya (.pr (.own 200005 Mj true) (.data (.p int Ng)))))) (.pr (.data Kd) (.pr (.own 200006 Ws true) (.data Bc)))) (.pr (.own 200007 Sg true) .un))), (4, Qe, Gac)]⟩, 1, ⟨[(2, Ul), (4, MC), (32, Zs)], [(2, Qe, Faj), (4, Qe, Gac)]⟩, ⟨[], []⟩, Ci⟩
def CaF : WL := [(41, D9)]
theorem Saq : Kb (WG true Xai [] [] []) CaF (lp f28 0) := Pd 41 (ls := D9) rfl
theorem UaD : WO Lai := Mg TaE func28 (Ta Saq Pa)
abbrev YaF : Ra := .pu Ah (.p .s Ki) [true, true] (fun x => Lz x.1)
abbrev Mai : WF := (30, YaF) :: Lai
def Jag : Za := ⟨52, ⟨[(4, Zs), (5, (.ptr 5 [])), (6, Zj), (29, Zs), (30, Ya), (31, Ya)], [(5, Qe, Faj)]⟩, 0, ⟨[(4, Zs), (6, Zj)], []⟩, ⟨[], []⟩, Sh⟩
def EaF : WL := [(9, Jag)]
theorem Zat : Kb (WG true Lai [] [24] []) EaF (lp f30 0) := Pd 9 (ls := Jag) rfl
theorem WaD : WO Mai := Mg UaD func30 (Ta Zat Pa)
abbrev s_6 : Ra := .pu (.p (.sl Kq) .u) Ng [true] (fun x => Js x.1)
abbrev F_6 : WF := (6, s_6) :: Mai
def Dao : Za := ⟨57, ⟨[(3, Zs), (4, MC), (5, Zj), (6, Ya)], [(4, Qe, Faj)]⟩, 0, ⟨[(3, Zs), (5, Zj)], []⟩, ⟨[(2, It)], []⟩, Nl⟩
def L_6 : WL := [(7, Dao)]
theorem AaA : Kb (WG true Mai [] [] []) L_6 (lp f6 0) := Pd 7 (ls := Dao) rfl
theorem E_6 : WO F_6 := Mg WaD func6 (Ta AaA Pa)
theorem NO : Gg Tryz.prog II 6 s_6 := Nal E_6 (by kernel_rfl)
end
end KF
