/- An evaluator of Go functions on plain data, its soundness, and plain laws on what the functions compute, part 7 (conditions: as each lemma tells). -/
import Derived.Test.YteooipbgmfmhfaaGreatDoorF
import Derived.Shelf.LaysC
import Derived.Shelf.Strconv.Atoi
import Derived.Shelf.Strconv.AtoiErr
import Derived.Lib.AtoiErrMem
import Derived.WalkKit
import Derived.BigCall
import Derived.Test.YteooipbgmfmhfaaGreatDoorRows
set_option linter.unusedSimpArgs false
set_option linter.unusedVariables false
namespace Go.Proofs
open Go.Shelf
def Tryz.lays_strings_Split_ren:Go.Shelf.Ren:=⟨fun|146=>150|221=>237|268=>281|138=>282|143=>155|195=>309|197=>310|218=>311|219=>241|260=>331|217=>286|225=>287|224=>288|267=>289|266=>312|314=>313|n=>n,fun|9=>9|31=>120|3=>3|4=>4|0=>0|105=>325|21=>21|5=>5|46=>242|119=>359|139=>362|138=>361|146=>328|51=>327|n=>n,fun|1=>0|3=>4|4=>5|n=>n⟩
theorem Tryz.lays_strings_Split:Go.Proofs.LaysM.n146 Tryz.prog Tryz.lays_strings_Split_ren:={
 mixed:=by kernel_rfl
 f138:=Tryz.func282.trans (congrArg some (by kernel_rfl))
 f143:=Tryz.func155.trans (congrArg some (by kernel_rfl))
 f146:=Tryz.func150.trans (congrArg some (by kernel_rfl))
 f195:=Tryz.func309.trans (congrArg some (by kernel_rfl))
 f197:=Tryz.func310.trans (congrArg some (by kernel_rfl))
 f217:=Tryz.func286.trans (congrArg some (by kernel_rfl))
 f218:=Tryz.func311.trans (congrArg some (by kernel_rfl))
 f219:=Tryz.func241.trans (congrArg some (by kernel_rfl))
 f221:=Tryz.func237.trans (congrArg some (by kernel_rfl))
 f224:=Tryz.func288.trans (congrArg some (by kernel_rfl))
 f225:=Tryz.func287.trans (congrArg some (by kernel_rfl))
 f260:=Tryz.func331.trans (congrArg some (by kernel_rfl))
 f266:=Tryz.func312.trans (congrArg some (by kernel_rfl))
 f267:=Tryz.func289.trans (congrArg some (by kernel_rfl))
 f268:=Tryz.func281.trans (congrArg some (by kernel_rfl))
 f314:=Tryz.func313.trans (congrArg some (by kernel_rfl))
 t0:=Tryz.underlying0
 a0:=Tryz.isAgg0
 z0:=Tryz.sizeOf0
 v0:=Tryz.zeroValue0
 t3:=Tryz.underlying3
 a3:=Tryz.isAgg3
 z3:=Tryz.sizeOf3
 v3:=Tryz.zeroValue3
 t4:=Tryz.underlying4
 a4:=Tryz.isAgg4
 z4:=Tryz.sizeOf4
 v4:=Tryz.zeroValue4
 t5:=Tryz.underlying5
 a5:=Tryz.isAgg5
 z5:=Tryz.sizeOf5
 v5:=Tryz.zeroValue5
 t9:=Tryz.underlying9
 a9:=Tryz.isAgg9
 z9:=Tryz.sizeOf9
 v9:=Tryz.zeroValue9
 t21:=Tryz.underlying21
 a21:=Tryz.isAgg21
 z21:=Tryz.sizeOf21
 v21:=Tryz.zeroValue21
 t31:=Tryz.underlying120
 a31:=Tryz.isAgg120
 z31:=Tryz.sizeOf120
 v31:=Tryz.zeroValue120
 t46:=Tryz.underlying242
 a46:=Tryz.isAgg242
 z46:=Tryz.sizeOf242
 v46:=Tryz.zeroValue242
 t51:=Tryz.underlying327
 a51:=Tryz.isAgg327
 z51:=Tryz.sizeOf327
 v51:=Tryz.zeroValue327
 t105:=Tryz.underlying325
 a105:=Tryz.isAgg325
 z105:=Tryz.sizeOf325
 v105:=Tryz.zeroValue325
 t119:=Tryz.underlying359
 a119:=Tryz.isAgg359
 z119:=Tryz.sizeOf359
 t138:=Tryz.underlying361
 a138:=Tryz.isAgg361
 z138:=Tryz.sizeOf361
 v138:=Tryz.zeroValue361
 t139:=Tryz.underlying362
 a139:=Tryz.isAgg362
 z139:=Tryz.sizeOf362
 v139:=Tryz.zeroValue362
 t146:=Tryz.underlying328
 a146:=Tryz.isAgg328
 z146:=Tryz.sizeOf328
 v146:=Tryz.zeroValue328
 g1:=by kernel_rfl
 g3:=by kernel_rfl
 g4:=by kernel_rfl
 i0:=by kernel_rfl
 i3:=by kernel_rfl
 i4:=by kernel_rfl
 i5:=by kernel_rfl
 i9:=by kernel_rfl
 i21:=by kernel_rfl
 i31:=by kernel_rfl
 i46:=by kernel_rfl
 i51:=by kernel_rfl
 i105:=by kernel_rfl
 i138:=by kernel_rfl
 i139:=by kernel_rfl
 i146:=by kernel_rfl
 m1:=by kernel_rfl
 s1_3:=fun w h=>Go.Proofs.cell_of_shapedOpen_int (zero:= #[.int .i64 0]) (t:=3) h (of_decide_eq_true (by kernel_rfl)) (by kernel_rfl) rfl (by kernel_rfl) (by kernel_rfl) Tryz.underlying3
 m3:=by kernel_rfl
 m4:=by kernel_rfl}
def Tryz.lays_strconv_Itoa_ren:Go.Shelf.Ren:=⟨fun|171=>164|243=>246|246=>294|283=>321|284=>322|285=>323|286=>324|129=>337|317=>336|318=>338|319=>339|320=>340|337=>345|338=>346|n=>n,fun|3=>3|9=>9|2=>2|4=>4|171=>338|0=>0|53=>339|37=>22|5=>5|173=>342|212=>355|51=>327|20=>20|213=>356|46=>242|232=>376|233=>377|n=>n,fun|17=>3|18=>6|19=>7|n=>n⟩
theorem Tryz.lays_strconv_Itoa:Go.Proofs.LaysM.n171 Tryz.prog Tryz.lays_strconv_Itoa_ren:={
 mixed:=by kernel_rfl
 f129:=Tryz.func337.trans (congrArg some (by kernel_rfl))
 f171:=Tryz.func164.trans (congrArg some (by kernel_rfl))
 f243:=Tryz.func246.trans (congrArg some (by kernel_rfl))
 f246:=Tryz.func294.trans (congrArg some (by kernel_rfl))
 f283:=Tryz.func321.trans (congrArg some (by kernel_rfl))
 f284:=Tryz.func322.trans (congrArg some (by kernel_rfl))
 f285:=Tryz.func323.trans (congrArg some (by kernel_rfl))
 f286:=Tryz.func324.trans (congrArg some (by kernel_rfl))
 f317:=Tryz.func336.trans (congrArg some (by kernel_rfl))
 f318:=Tryz.func338.trans (congrArg some (by kernel_rfl))
 f319:=Tryz.func339.trans (congrArg some (by kernel_rfl))
 f320:=Tryz.func340.trans (congrArg some (by kernel_rfl))
 f337:=Tryz.func345.trans (congrArg some (by kernel_rfl))
 f338:=Tryz.func346.trans (congrArg some (by kernel_rfl))
 t0:=Tryz.underlying0
 a0:=Tryz.isAgg0
 z0:=Tryz.sizeOf0
 v0:=Tryz.zeroValue0
 t2:=Tryz.underlying2
 a2:=Tryz.isAgg2
 z2:=Tryz.sizeOf2
 v2:=Tryz.zeroValue2
 t3:=Tryz.underlying3
 a3:=Tryz.isAgg3
 z3:=Tryz.sizeOf3
 v3:=Tryz.zeroValue3
 t4:=Tryz.underlying4
 a4:=Tryz.isAgg4
 z4:=Tryz.sizeOf4
 v4:=Tryz.zeroValue4
 t5:=Tryz.underlying5
 a5:=Tryz.isAgg5
 z5:=Tryz.sizeOf5
 v5:=Tryz.zeroValue5
 t9:=Tryz.underlying9
 a9:=Tryz.isAgg9
 z9:=Tryz.sizeOf9
 v9:=Tryz.zeroValue9
 t20:=Tryz.underlying20
 a20:=Tryz.isAgg20
 z20:=Tryz.sizeOf20
 v20:=Tryz.zeroValue20
 t37:=Tryz.underlying22
 a37:=Tryz.isAgg22
 z37:=Tryz.sizeOf22
 v37:=Tryz.zeroValue22
 t46:=Tryz.underlying242
 a46:=Tryz.isAgg242
 z46:=Tryz.sizeOf242
 v46:=Tryz.zeroValue242
 t51:=Tryz.underlying327
 a51:=Tryz.isAgg327
 z51:=Tryz.sizeOf327
 v51:=Tryz.zeroValue327
 t53:=Tryz.underlying339
 a53:=Tryz.isAgg339
 z53:=Tryz.sizeOf339
 v53:=Tryz.zeroValue339
 t171:=Tryz.underlying338
 a171:=Tryz.isAgg338
 z171:=Tryz.sizeOf338
 v171:=Tryz.zeroValue338
 t173:=Tryz.underlying342
 a173:=Tryz.isAgg342
 z173:=Tryz.sizeOf342
 v173:=Tryz.zeroValue342
 t212:=Tryz.underlying355
 a212:=Tryz.isAgg355
 z212:=Tryz.sizeOf355
 v212:=Tryz.zeroValue355
 t213:=Tryz.underlying356
 a213:=Tryz.isAgg356
 z213:=Tryz.sizeOf356
 t232:=Tryz.underlying376
 a232:=Tryz.isAgg376
 z232:=Tryz.sizeOf376
 v232:=Tryz.zeroValue376
 t233:=Tryz.underlying377
 a233:=Tryz.isAgg377
 z233:=Tryz.sizeOf377
 v233:=Tryz.zeroValue377
 g17:=by kernel_rfl
 g18:=by kernel_rfl
 g19:=by kernel_rfl
 i0:=by kernel_rfl
 i2:=by kernel_rfl
 i3:=by kernel_rfl
 i4:=by kernel_rfl
 i5:=by kernel_rfl
 i9:=by kernel_rfl
 i20:=by kernel_rfl
 i37:=by kernel_rfl
 i46:=by kernel_rfl
 i51:=by kernel_rfl
 i53:=by kernel_rfl
 i171:=by kernel_rfl
 i173:=by kernel_rfl
 i212:=by kernel_rfl
 i232:=by kernel_rfl
 i233:=by kernel_rfl
 m17:=by kernel_rfl
 m18:=by kernel_rfl
 m19:=by kernel_rfl}
def Tryz.lays_strconv_Atoi_ren:Go.Shelf.Ren:=⟨fun|172=>243|244=>290|245=>291|247=>314|279=>315|280=>316|281=>317|282=>318|287=>332|316=>333|171=>164|205=>334|321=>343|322=>344|243=>246|246=>294|283=>321|284=>322|285=>323|286=>324|129=>337|317=>336|318=>338|319=>339|320=>340|337=>345|338=>346|n=>n,fun|9=>9|3=>3|75=>282|76=>283|4=>4|5=>5|167=>330|37=>22|0=>0|85=>331|2=>2|168=>333|53=>339|175=>348|46=>242|210=>352|127=>316|145=>366|143=>364|21=>21|171=>338|173=>342|212=>355|51=>327|20=>20|213=>356|232=>376|233=>377|80=>289|n=>n,fun|15=>1|16=>2|17=>3|18=>6|19=>7|n=>n⟩
theorem Tryz.lays_strconv_Atoi:Go.Proofs.LaysC.n172 Tryz.prog Tryz.lays_strconv_Atoi_ren:={
 mixed:=by kernel_rfl
 f129:=Tryz.func337.trans (congrArg some (by kernel_rfl))
 f171:=Tryz.func164.trans (congrArg some (by kernel_rfl))
 f172:=Tryz.func243.trans (congrArg some (by kernel_rfl))
 f205:=Tryz.func334.trans (congrArg some (by kernel_rfl))
 f243:=Tryz.func246.trans (congrArg some (by kernel_rfl))
 f244:=Tryz.func290.trans (congrArg some (by kernel_rfl))
 f245:=Tryz.func291.trans (congrArg some (by kernel_rfl))
 f246:=Tryz.func294.trans (congrArg some (by kernel_rfl))
 f247:=Tryz.func314.trans (congrArg some (by kernel_rfl))
 f279:=Tryz.func315.trans (congrArg some (by kernel_rfl))
 f280:=Tryz.func316.trans (congrArg some (by kernel_rfl))
 f281:=Tryz.func317.trans (congrArg some (by kernel_rfl))
 f282:=Tryz.func318.trans (congrArg some (by kernel_rfl))
 f283:=Tryz.func321.trans (congrArg some (by kernel_rfl))
 f284:=Tryz.func322.trans (congrArg some (by kernel_rfl))
 f285:=Tryz.func323.trans (congrArg some (by kernel_rfl))
 f286:=Tryz.func324.trans (congrArg some (by kernel_rfl))
 f287:=Tryz.func332.trans (congrArg some (by kernel_rfl))
 f316:=Tryz.func333.trans (congrArg some (by kernel_rfl))
 f317:=Tryz.func336.trans (congrArg some (by kernel_rfl))
 f318:=Tryz.func338.trans (congrArg some (by kernel_rfl))
 f319:=Tryz.func339.trans (congrArg some (by kernel_rfl))
 f320:=Tryz.func340.trans (congrArg some (by kernel_rfl))
 f321:=Tryz.func343.trans (congrArg some (by kernel_rfl))
 f322:=Tryz.func344.trans (congrArg some (by kernel_rfl))
 f337:=Tryz.func345.trans (congrArg some (by kernel_rfl))
 f338:=Tryz.func346.trans (congrArg some (by kernel_rfl))
 t0:=Tryz.underlying0
 a0:=Tryz.isAgg0
 z0:=Tryz.sizeOf0
 v0:=Tryz.zeroValue0
 t2:=Tryz.underlying2
 a2:=Tryz.isAgg2
 z2:=Tryz.sizeOf2
 v2:=Tryz.zeroValue2
 t3:=Tryz.underlying3
 a3:=Tryz.isAgg3
 z3:=Tryz.sizeOf3
 v3:=Tryz.zeroValue3
 t4:=Tryz.underlying4
 a4:=Tryz.isAgg4
 z4:=Tryz.sizeOf4
 v4:=Tryz.zeroValue4
 t5:=Tryz.underlying5
 a5:=Tryz.isAgg5
 z5:=Tryz.sizeOf5
 v5:=Tryz.zeroValue5
 t9:=Tryz.underlying9
 a9:=Tryz.isAgg9
 z9:=Tryz.sizeOf9
 v9:=Tryz.zeroValue9
 t20:=Tryz.underlying20
 a20:=Tryz.isAgg20
 z20:=Tryz.sizeOf20
 v20:=Tryz.zeroValue20
 t21:=Tryz.underlying21
 a21:=Tryz.isAgg21
 z21:=Tryz.sizeOf21
 v21:=Tryz.zeroValue21
 t37:=Tryz.underlying22
 a37:=Tryz.isAgg22
 z37:=Tryz.sizeOf22
 v37:=Tryz.zeroValue22
 t46:=Tryz.underlying242
 a46:=Tryz.isAgg242
 z46:=Tryz.sizeOf242
 v46:=Tryz.zeroValue242
 t51:=Tryz.underlying327
 a51:=Tryz.isAgg327
 z51:=Tryz.sizeOf327
 v51:=Tryz.zeroValue327
 t53:=Tryz.underlying339
 a53:=Tryz.isAgg339
 z53:=Tryz.sizeOf339
 v53:=Tryz.zeroValue339
 t75:=Tryz.underlying282
 a75:=Tryz.isAgg282
 z75:=Tryz.sizeOf282
 v75:=Tryz.zeroValue282
 t76:=Tryz.underlying283
 a76:=Tryz.isAgg283
 z76:=Tryz.sizeOf283
 v76:=Tryz.zeroValue283
 t85:=Tryz.underlying331
 a85:=Tryz.isAgg331
 z85:=Tryz.sizeOf331
 v85:=Tryz.zeroValue331
 t127:=Tryz.underlying316
 a127:=Tryz.isAgg316
 z127:=Tryz.sizeOf316
 v127:=Tryz.zeroValue316
 t143:=Tryz.underlying364
 a143:=Tryz.isAgg364
 z143:=Tryz.sizeOf364
 v143:=Tryz.zeroValue364
 t145:=Tryz.underlying366
 a145:=Tryz.isAgg366
 z145:=Tryz.sizeOf366
 v145:=Tryz.zeroValue366
 t167:=Tryz.underlying330
 a167:=Tryz.isAgg330
 z167:=Tryz.sizeOf330
 v167:=Tryz.zeroValue330
 t168:=Tryz.underlying333
 a168:=Tryz.isAgg333
 z168:=Tryz.sizeOf333
 v168:=Tryz.zeroValue333
 t171:=Tryz.underlying338
 a171:=Tryz.isAgg338
 z171:=Tryz.sizeOf338
 v171:=Tryz.zeroValue338
 t173:=Tryz.underlying342
 a173:=Tryz.isAgg342
 z173:=Tryz.sizeOf342
 v173:=Tryz.zeroValue342
 t175:=Tryz.underlying348
 a175:=Tryz.isAgg348
 z175:=Tryz.sizeOf348
 v175:=Tryz.zeroValue348
 t210:=Tryz.underlying352
 a210:=Tryz.isAgg352
 z210:=Tryz.sizeOf352
 v210:=Tryz.zeroValue352
 t212:=Tryz.underlying355
 a212:=Tryz.isAgg355
 z212:=Tryz.sizeOf355
 v212:=Tryz.zeroValue355
 t213:=Tryz.underlying356
 a213:=Tryz.isAgg356
 z213:=Tryz.sizeOf356
 t232:=Tryz.underlying376
 a232:=Tryz.isAgg376
 z232:=Tryz.sizeOf376
 v232:=Tryz.zeroValue376
 t233:=Tryz.underlying377
 a233:=Tryz.isAgg377
 z233:=Tryz.sizeOf377
 v233:=Tryz.zeroValue377
 g15:=by kernel_rfl
 g16:=by kernel_rfl
 g17:=by kernel_rfl
 g18:=by kernel_rfl
 g19:=by kernel_rfl
 t80:=Tryz.underlying289
 a80:=Tryz.isAgg289
 z80:=Tryz.sizeOf289
 v80:=Tryz.zeroValue289
 i0:=by kernel_rfl
 i2:=by kernel_rfl
 i3:=by kernel_rfl
 i4:=by kernel_rfl
 i5:=by kernel_rfl
 i9:=by kernel_rfl
 i20:=by kernel_rfl
 i21:=by kernel_rfl
 i37:=by kernel_rfl
 i46:=by kernel_rfl
 i51:=by kernel_rfl
 i53:=by kernel_rfl
 i75:=by kernel_rfl
 i76:=by kernel_rfl
 i80:=by kernel_rfl
 i85:=by kernel_rfl
 i127:=by kernel_rfl
 i143:=by kernel_rfl
 i145:=by kernel_rfl
 i167:=by kernel_rfl
 i168:=by kernel_rfl
 i171:=by kernel_rfl
 i173:=by kernel_rfl
 i175:=by kernel_rfl
 i210:=by kernel_rfl
 i212:=by kernel_rfl
 i232:=by kernel_rfl
 i233:=by kernel_rfl
 m15:=by kernel_rfl
 m16:=by kernel_rfl
 m17:=by kernel_rfl
 m18:=by kernel_rfl
 m19:=by kernel_rfl
 c0:=by kernel_rfl
 c2:=by kernel_rfl
 c3:=by kernel_rfl
 c4:=by kernel_rfl
 c5:=by kernel_rfl
 c9:=by kernel_rfl
 c20:=by kernel_rfl
 c21:=by kernel_rfl
 c37:=by kernel_rfl
 c46:=by kernel_rfl
 c51:=by kernel_rfl
 c53:=by kernel_rfl
 c75:=by kernel_rfl
 c76:=by kernel_rfl
 c80:=by kernel_rfl
 c85:=by kernel_rfl
 c127:=by kernel_rfl
 c143:=by kernel_rfl
 c145:=by kernel_rfl
 c167:=by kernel_rfl
 c168:=by kernel_rfl
 c171:=by kernel_rfl
 c173:=by kernel_rfl
 c175:=by kernel_rfl
 c210:=by kernel_rfl
 c212:=by kernel_rfl
 c213:=by kernel_rfl
 c232:=by kernel_rfl
 c233:=by kernel_rfl}
def Tryz.lays_strings_Cut_ren:Go.Shelf.Ren:=⟨fun|145=>154|220=>240|219=>241|217=>286|225=>287|224=>288|267=>289|266=>312|314=>313|n=>n,fun|9=>9|4=>4|59=>217|3=>3|5=>5|46=>242|146=>328|51=>327|n=>n,fun|1=>0|n=>n⟩
theorem Tryz.lays_strings_Cut:Go.Proofs.Lays.n145 Tryz.prog Tryz.lays_strings_Cut_ren:={
 mixed:=by kernel_rfl
 f145:=Tryz.func154.trans (congrArg some (by kernel_rfl))
 f217:=Tryz.func286.trans (congrArg some (by kernel_rfl))
 f219:=Tryz.func241.trans (congrArg some (by kernel_rfl))
 f220:=Tryz.func240.trans (congrArg some (by kernel_rfl))
 f224:=Tryz.func288.trans (congrArg some (by kernel_rfl))
 f225:=Tryz.func287.trans (congrArg some (by kernel_rfl))
 f266:=Tryz.func312.trans (congrArg some (by kernel_rfl))
 f267:=Tryz.func289.trans (congrArg some (by kernel_rfl))
 f314:=Tryz.func313.trans (congrArg some (by kernel_rfl))
 t3:=Tryz.underlying3
 a3:=Tryz.isAgg3
 z3:=Tryz.sizeOf3
 v3:=Tryz.zeroValue3
 t4:=Tryz.underlying4
 a4:=Tryz.isAgg4
 z4:=Tryz.sizeOf4
 v4:=Tryz.zeroValue4
 t5:=Tryz.underlying5
 a5:=Tryz.isAgg5
 z5:=Tryz.sizeOf5
 v5:=Tryz.zeroValue5
 t9:=Tryz.underlying9
 a9:=Tryz.isAgg9
 z9:=Tryz.sizeOf9
 v9:=Tryz.zeroValue9
 t46:=Tryz.underlying242
 a46:=Tryz.isAgg242
 z46:=Tryz.sizeOf242
 v46:=Tryz.zeroValue242
 t51:=Tryz.underlying327
 a51:=Tryz.isAgg327
 z51:=Tryz.sizeOf327
 v51:=Tryz.zeroValue327
 t59:=Tryz.underlying217
 a59:=Tryz.isAgg217
 z59:=Tryz.sizeOf217
 v59:=Tryz.zeroValue217
 t146:=Tryz.underlying328
 a146:=Tryz.isAgg328
 z146:=Tryz.sizeOf328
 v146:=Tryz.zeroValue328
 g1:=by kernel_rfl}
def Tryz.lays_strings_Join_ren:Go.Shelf.Ren:=⟨fun|156=>165|165=>247|166=>248|169=>249|240=>295|241=>296|276=>325|277=>326|n=>n,fun|31=>120|9=>9|3=>3|4=>4|0=>0|20=>20|72=>287|76=>283|70=>285|37=>22|75=>282|127=>316|164=>344|5=>5|80=>289|n=>n,fun|n=>n⟩
theorem Tryz.lays_strings_Join:Go.Proofs.Lays.n156 Tryz.prog Tryz.lays_strings_Join_ren:={
 mixed:=by kernel_rfl
 f156:=Tryz.func165.trans (congrArg some (by kernel_rfl))
 f165:=Tryz.func247.trans (congrArg some (by kernel_rfl))
 f166:=Tryz.func248.trans (congrArg some (by kernel_rfl))
 f169:=Tryz.func249.trans (congrArg some (by kernel_rfl))
 f240:=Tryz.func295.trans (congrArg some (by kernel_rfl))
 f241:=Tryz.func296.trans (congrArg some (by kernel_rfl))
 f276:=Tryz.func325.trans (congrArg some (by kernel_rfl))
 f277:=Tryz.func326.trans (congrArg some (by kernel_rfl))
 t0:=Tryz.underlying0
 a0:=Tryz.isAgg0
 z0:=Tryz.sizeOf0
 v0:=Tryz.zeroValue0
 t3:=Tryz.underlying3
 a3:=Tryz.isAgg3
 z3:=Tryz.sizeOf3
 v3:=Tryz.zeroValue3
 t4:=Tryz.underlying4
 a4:=Tryz.isAgg4
 z4:=Tryz.sizeOf4
 v4:=Tryz.zeroValue4
 t9:=Tryz.underlying9
 a9:=Tryz.isAgg9
 z9:=Tryz.sizeOf9
 v9:=Tryz.zeroValue9
 t20:=Tryz.underlying20
 a20:=Tryz.isAgg20
 z20:=Tryz.sizeOf20
 v20:=Tryz.zeroValue20
 t31:=Tryz.underlying120
 a31:=Tryz.isAgg120
 z31:=Tryz.sizeOf120
 v31:=Tryz.zeroValue120
 t37:=Tryz.underlying22
 a37:=Tryz.isAgg22
 z37:=Tryz.sizeOf22
 v37:=Tryz.zeroValue22
 t70:=Tryz.underlying285
 a70:=Tryz.isAgg285
 z70:=Tryz.sizeOf285
 v70:=Tryz.zeroValue285
 t72:=Tryz.underlying287
 a72:=Tryz.isAgg287
 z72:=Tryz.sizeOf287
 v72:=Tryz.zeroValue287
 t75:=Tryz.underlying282
 a75:=Tryz.isAgg282
 z75:=Tryz.sizeOf282
 v75:=Tryz.zeroValue282
 t76:=Tryz.underlying283
 a76:=Tryz.isAgg283
 z76:=Tryz.sizeOf283
 v76:=Tryz.zeroValue283
 t127:=Tryz.underlying316
 a127:=Tryz.isAgg316
 z127:=Tryz.sizeOf316
 v127:=Tryz.zeroValue316
 t164:=Tryz.underlying344
 a164:=Tryz.isAgg344
 z164:=Tryz.sizeOf344
 v164:=Tryz.zeroValue344}
theorem Tryz.extra_strings_Join:Builder.Extra Tryz.prog Tryz.lays_strings_Join_ren:={
 sizeBuilder:=by kernel_rfl
 liesBuilder:=by kernel_rfl
 t5:=by kernel_rfl
 a5:=by intro _;kernel_rfl
 z5:=by intro _;kernel_rfl
 v5:=by intro _;kernel_rfl
 infoByte:=by kernel_rfl
 cellsByte:=by kernel_rfl
 sizeByte:=by kernel_rfl
 neB5:=by decide}
def Tryz.lays_strings_Index_ren:Go.Shelf.Ren:=⟨fun|143=>155|219=>241|217=>286|225=>287|224=>288|267=>289|266=>312|314=>313|n=>n,fun|9=>9|3=>3|4=>4|5=>5|46=>242|146=>328|51=>327|n=>n,fun|1=>0|n=>n⟩
theorem Tryz.lays_strings_Index:Go.Proofs.Lays.n143 Tryz.prog Tryz.lays_strings_Index_ren:={
 mixed:=by kernel_rfl
 f143:=Tryz.func155.trans (congrArg some (by kernel_rfl))
 f217:=Tryz.func286.trans (congrArg some (by kernel_rfl))
 f219:=Tryz.func241.trans (congrArg some (by kernel_rfl))
 f224:=Tryz.func288.trans (congrArg some (by kernel_rfl))
 f225:=Tryz.func287.trans (congrArg some (by kernel_rfl))
 f266:=Tryz.func312.trans (congrArg some (by kernel_rfl))
 f267:=Tryz.func289.trans (congrArg some (by kernel_rfl))
 f314:=Tryz.func313.trans (congrArg some (by kernel_rfl))
 t3:=Tryz.underlying3
 a3:=Tryz.isAgg3
 z3:=Tryz.sizeOf3
 v3:=Tryz.zeroValue3
 t4:=Tryz.underlying4
 a4:=Tryz.isAgg4
 z4:=Tryz.sizeOf4
 v4:=Tryz.zeroValue4
 t5:=Tryz.underlying5
 a5:=Tryz.isAgg5
 z5:=Tryz.sizeOf5
 v5:=Tryz.zeroValue5
 t9:=Tryz.underlying9
 a9:=Tryz.isAgg9
 z9:=Tryz.sizeOf9
 v9:=Tryz.zeroValue9
 t46:=Tryz.underlying242
 a46:=Tryz.isAgg242
 z46:=Tryz.sizeOf242
 v46:=Tryz.zeroValue242
 t51:=Tryz.underlying327
 a51:=Tryz.isAgg327
 z51:=Tryz.sizeOf327
 v51:=Tryz.zeroValue327
 t146:=Tryz.underlying328
 a146:=Tryz.isAgg328
 z146:=Tryz.sizeOf328
 v146:=Tryz.zeroValue328
 g1:=by kernel_rfl}
end Go.Proofs
namespace KF
open Go Go.Proofs Go.Proofs.Tryz
def GT:List (Nat×Ty):=[(3,int),(4,.b),(5,OU),(9,.s),(22,(.sl OU)),(24,(.sl (.sl Db))),(26,Xa),(29,(.sl int)),(33,(.sl Jb)),(39,(.sl (.sl Db))),(41,Xa),(51,(.sl (.sl Xb))),(52,(.sl Jf)),(54,Mb),(56,Xb),(57,(.sl De)),(59,Ac),(60,(.sl Fd)),(62,Bc),(64,(.sl (.sl Xb))),(65,(.sl Jf)),(67,Mb),(68,Xb),(69,(.sl De)),(71,Ac),(72,(.sl Fd)),(74,Bc),(104,Jb),(108,(.sl Db)),(111,Db),(120,(.sl .s)),(132,(.sl Xb)),(172,(.sl Db)),(184,Jb),(186,Fd),(188,Fd),(201,Xb),(208,De),(223,(.mp int (.sl int))),(238,Jf),(244,Db),(262,(.sl (.sl int))),(263,(.sl .b)),(269,De),(277,(.sl Zh)),(279,Zh),(298,(.sl Xb)),(308,Jf),(324,Xb)]
def GA:List (Nat×Ty×Nat):=[]
theorem Ma7:((GT.all fun x=>Qe Tryz.prog x.2 x.1)&&(GA.all fun x=>O7 Tryz.prog x.1 x.2.1 x.2.2))=true:=by kernel_rfl
theorem Iaf:Tryz.prog.follows .mixedOrders=true:=by kernel_rfl
noncomputable abbrev II:Gh:=CaJ Tryz.prog (Tryz.lays_strings_Split_ren.g 1) (Tryz.lays_strconv_Itoa_ren.g 17) "internal/strconv.uint64pow10" .u64 Lib.pow10Tab Tryz.lays_strconv_Itoa.m17 (Tryz.lays_strconv_Atoi_ren.g 15)
noncomputable section
abbrev WP:Program:=Tryz.prog
abbrev WF:=List (Nat×Ha)
abbrev WL:=List (Nat×Na)
abbrev WG(z:Bool)(fs:WF)(m:List (Nat×Nat))(v l:List Nat):Yf:=⟨GT,fs,m,z,GA,v,l⟩
def WO(fs:WF):Prop:=∀z m v l,Ll WP II (WG z fs m v l)
theorem Jbo:WO []:=fun _ _ _ _=>Vaf Ma7
theorem wc{f:Nat}{s:Ha}{fs:WF}(e:WO fs)(h:Th WP II f s):WO ((f,s)::fs):=fun z m v l=>Ll.cons h (e z m v l)
theorem YaK{f:Nat}{s:Ha}{fs:WF}(e:WO fs)(h:Dc fs f=some s):Th WP II f s:=(e true [] [] []).fn f s h
theorem Sb{z:Bool}{fs:WF}{m:List (Nat×Nat)}{v l:List Nat}{L:WL}{fn:Func}{i:Nat}(r:Nat){ls:Na}{R:ls.inT.X→Option (ls.inT.X⊕(ls.outT.X⊕ls.retT.X))}
 (h3:ls.F=Va R) (h1:Jn (lp fn i)=some r:=by kernel_rfl) (h2:(Dc L r)=some ls:=by kernel_rfl) (h4:∀x,AX (WG z fs m v l) L ls (lp fn i) x=R x:=by intro _;kernel_rfl):Ta (WG z fs m v l) L (lp fn i):=Cag h1 h2 h3 h4
theorem Oc{f:Nat}{fn:Func}{pt rt:Ty}{fr:List Bool}{F:T pt→Option (T rt)}{fs:WF}(e:WO fs)(hf:WP.funcs[f]?=some fn)
 (hb:(fn.body.isSome&&!(fn.name== "runtime.NumGoroutine")&&Nat.ble pt.npar fn.ntmps&&Nat.beq (Pf (fn.body.getD .skip)).length 0)=true:=by kernel_rfl)
 (hF:∀x,evF (WG true fs [] [] []) [] fn pt rt fr x=F x:=by intro _;kernel_rfl):WO ((f,.pu pt rt fr F)::fs):=wc e (N4 (e _ _ _ _) Iaf hf hb Ga hF)
theorem Jd{k:Nat}{L:WL}{m:List (Nat×Nat)}{v l:List Nat}{f:Nat}{fn:Func}{pt rt:Ty}{fr:List Bool}{F:T pt→Option (T rt)}{fs:WF}(e:WO fs)(hf:WP.funcs[f]?=some fn)(hL:∀i,i<k→Ta (WG true fs m v l) L (lp fn i))
 (hb:(fn.body.isSome&&!(fn.name== "runtime.NumGoroutine")&&Nat.ble pt.npar fn.ntmps&&Nat.beq (Pf (fn.body.getD .skip)).length k)=true:=by kernel_rfl)
 (hF:∀x,evF (WG true fs m v l) L fn pt rt fr x=F x:=by intro _;kernel_rfl):WO ((f,.pu pt rt fr F)::fs):=wc e (N4 (e _ _ _ _) Iaf hf hb hL hF)
theorem Y1{k:Nat}{L:WL}{m:List (Nat×Nat)}{v l:List Nat}{f:Nat}{fn:Func}{τ pt rt:Ty}{fr:List Bool}{F:T τ→T pt→Option (T τ×T rt)}{fs:WF}(e:WO fs)(hf:WP.funcs[f]?=some fn)(hL:∀i,i<k→Ta (WG false fs m v l) L (lp fn i))
 (hb:(fn.body.isSome&&!(fn.name== "runtime.NumGoroutine")&&Nat.ble (pt.npar+1) fn.ntmps&&Nat.beq (Pf (fn.body.getD .skip)).length k)=true:=by kernel_rfl)
 (hF:∀x0 x,Caj (WG false fs m v l) L fn τ pt rt fr x0 x=F x0 x:=by intro _ _;kernel_rfl):WO ((f,.io τ pt rt fr F)::fs):=wc e (JaG (e _ _ _ _) rfl Iaf hf hb hL hF)
theorem wco{z:Bool}{k:Nat}{L:WL}{m:List (Nat×Nat)}{v l:List Nat}{f:Nat}{fn:Func}{pt rt:Ty}{fr:List Bool}{F:T pt→Option (T rt)}{fs:WF}(e:WO fs)(hf:WP.funcs[f]?=some fn)(hL:∀i,i<k→Ta (WG z fs m v l) L (lp fn i))
 (hb:(fn.body.isSome&&!(fn.name== "runtime.NumGoroutine")&&Nat.ble pt.npar fn.ntmps&&Nat.beq (Pf (fn.body.getD .skip)).length k)=true:=by kernel_rfl)
 (hF:∀x,Baj (WG z fs m v l) L fn pt rt fr x=F x:=by intro _;kernel_rfl) (hz:(!z||cmB m)=true:=by kernel_rfl):WO ((f,.co pt rt fr F)::fs):=wc e (IaG (e _ _ _ _) hz Iaf hf hb hL hF)
theorem wbx{z:Bool}{k:Nat}{L:WL}{m:List (Nat×Nat)}{v l:List Nat}{f:Nat}{fn:Func}{vw cv:Bool}{τ pt rt:Ty}{fr:List Bool}{F:T τ→T pt→Option (T τ×T rt)}{fs:WF}(e:WO fs)(hf:WP.funcs[f]?=some fn)(hL:∀i,i<k→Ta (WG z fs m v l) L (lp fn i))
 (hb:(fn.body.isSome&&!(fn.name== "runtime.NumGoroutine")&&Nat.ble (pt.npar+1) fn.ntmps&&Nat.beq (Pf (fn.body.getD .skip)).length k)=true:=by kernel_rfl)
 (hF:∀x0 x,Aaj (WG z fs m v l) L fn vw cv τ pt rt fr x0 x=F x0 x:=by intro _ _;kernel_rfl) (hz:(!z||((vw&&!cv)&&DO m))=true:=by kernel_rfl):WO ((f,.bx vw cv τ pt rt fr F)::fs):=wc e (GaG (e _ _ _ _) hz Iaf hf hb hL hF)
theorem HaI:∀w,II.p w→∃m,w.cell? ⟨Tryz.lays_strings_Split_ren.g 1,0,none⟩=some (.int .i64 m):=fun _ h=>h.1.1
theorem Nbk:∀w,II.p w→Lib.TabIs Tryz.prog w "internal/strconv.uint64pow10" .u64 Lib.pow10Tab:=fun _ h=>h.1.2
theorem Mbk:∀w,II.p w→∃ev,w.cell? ⟨Tryz.lays_strconv_Atoi_ren.g 15,0,none⟩=some ev∧(ev=.nilIface∨∃te pe,ev=.iface te pe):=fun _ h=>h.2
abbrev Oa:TD:=.data int
abbrev Tc:Ty:=.p int .u
abbrev We:Ty:=.p .b .u
abbrev Jl:Ty:=.sl Db
abbrev Nh:Ty:=.p .s .u
abbrev Tn:TD:=.own 200001 .s true
abbrev Bi:Ty:=.sl Xb
abbrev Ag:TD:=.ptr 2 []
abbrev Wv:TD:=.own 200001 int true
abbrev Jm:Ty:=.p Db .u
abbrev Ch:TD:=.data .b
abbrev CP:TD:=.data (.sl Jl)
abbrev UZ:TD:=.pr Oa (.pr (.own 200001 Jl true) .un)
abbrev LH:Ty:=.sl Fd
abbrev Dk:TD:=.ptr 1 []
abbrev Ri:TD:=.data .s
abbrev MH:Ty:=.sl De
abbrev Xv:TD:=.data Jb
abbrev Kz:Ty:=.sl int
abbrev PS:Ty:=.sl Jb
abbrev Lz:Ty:=.p Jb .u
abbrev Mz:TD:=.data Xa
abbrev QX:TD:=.own 200001 Jb true
abbrev Un:TD:=.ptr 3 []
abbrev DP:Ty:=.sl Jf
abbrev Ol:TD:=.data DP
abbrev VZ:TD:=.own 200001 Fd true
abbrev RX:TD:=.pr Oa (.pr CP .un)
abbrev Yv:TD:=.ptr 4 []
abbrev QS:Ty:=.p Bc Nh
abbrev Kr:Ty:=.sl Bi
abbrev N2:TD:=.own 200001 Xb true
abbrev P7:Ty:=.p Ac (.p LH We)
abbrev SX:Ty:=.p int (.p .o .u)
abbrev RS:TD:=.data Mb
abbrev AM:Ty:=.p Xb .u
abbrev WZ:Ty:=.p Xa Zh
abbrev QU:Ty:=.p Xa .u
abbrev TX:Ty:=.p Mb .u
abbrev BM:TD:=.data MH
abbrev EP:Ty:=.p PS .u
abbrev XZ:Ty:=.p Bc .u
abbrev CM:TD:=.ptr 5 []
abbrev Yac:TD:=.own 200001 OU true
abbrev SS:Ty:=.p DP .u
abbrev TS:Ty:=.p Kz .u
abbrev NH:Ty:=.p int We
abbrev c1_:TD:=.pr (.pr RX (.pr (.data Kr) (.pr Oa (.pr Ol (.data NH))))) (.pr (.data Xb) (.pr BM (.data Db)))
abbrev c2_:TD:=.pr (.pr (.pr Oa (.pr (.own 200002 Jl true) .un)) (.pr (.own 200003 Bi true) (.pr Oa (.pr (.own 200004 Jf true) (.data NH))))) (.pr (.data Xb) (.pr (.own 200005 De true) (.data Db)))
abbrev c4_:TD:=.pr (.pr (.pr UZ (.pr (.own 200002 Bi true) (.pr Oa (.pr (.own 200003 Jf true) (.data NH))))) (.pr (.data Xb) (.pr (.own 200004 De true) (.data Db)))) (.pr (.own 200005 Fd true) .un)
abbrev c5_:TD:=.pr (.pr (.pr (.pr Oa (.pr (.own 200003 Jl true) .un)) (.pr (.own 200004 Bi true) (.pr Oa (.pr (.own 200005 Jf true) (.data NH))))) (.pr (.data Xb) (.pr (.own 200006 De true) (.data Db)))) (.pr (.own 200007 Fd true) .un)
abbrev Zac:TD:=.own 200101 int true
abbrev US:TD:=.data LH
abbrev PU:TD:=.pr c1_ (.pr US .un)
abbrev VS:TD:=.data Kz
abbrev FH:TD:=.pr Oa (.pr VS .un)
abbrev Aad:TD:=.own 200102 .s true
abbrev Wba:Ha:=.pu (.p Jl Tc) Tc [true] (fun x=>Gy x.1 x.2.1)
abbrev Nav:WF:=(109,Wba)::([]:WF)
theorem Oa0:WO Nav:=Oc Jbo func109
abbrev Sbm:Ha:=.pu (.p (.sl Jl) Tc) Tc [true] (fun x=>ID x.1 x.2.1)
abbrev EaW:WF:=(48,Sbm)::Nav
def FaE:Na:=⟨27,⟨[(0,CP),(1,Oa),(5,Oa)],[]⟩,0,⟨[(1,Oa)],[]⟩,⟨[(4,Oa)],[]⟩,TI⟩
def Ubk:WL:=[(5,FaE)]
theorem KaY:Ta (WG true Nav [] [] []) Ubk (lp f48 0):=Sb 5 (ls:=FaE) rfl
theorem Vbi:WO EaW:=Jd Oa0 func48 (Ea KaY Ga)
abbrev Ybl:Ha:=.pu (.p Xa Tc) Tc [true] (fun x=>UJ x.1 x.2.1)
abbrev RaV:WF:=(17,Ybl)::EaW
theorem Bbi:WO RaV:=Oc Vbi func17
abbrev Lbg:Ha:=.pu (.p Bi Tc) Tc [true] (fun x=>AF x.1 x.2.1)
abbrev Sax:WF:=(269,Lbg)::RaV
theorem Da6:WO Sax:=Oc Bbi func269
abbrev Lbe:Ha:=.pu (.p Kr Tc) Tc [true] (fun x=>WJ x.1 x.2.1)
abbrev VaM:WF:=(208,Lbe)::Sax
def Ias:Na:=⟨27,⟨[(0,(.data Kr)),(1,Oa),(5,Oa)],[]⟩,0,⟨[(1,Oa)],[]⟩,⟨[(4,Oa)],[]⟩,DN⟩
def Wa8:WL:=[(5,Ias)]
theorem LaS:Ta (WG true Sax [] [] []) Wa8 (lp f208 0):=Sb 5 (ls:=Ias) rfl
theorem Da4:WO VaM:=Jd Da6 func208 (Ea LaS Ga)
abbrev Mbe:Ha:=.pu (.p DP Tc) Tc [true] (fun x=>BN x.1 x.2.1)
abbrev WaM:WF:=(209,Mbe)::VaM
theorem Ea4:WO WaM:=Oc Da4 func209
abbrev Gbb:Ha:=.pu (.p Mb Tc) Tc [true] (fun x=>SJ x.1 x.2.1)
abbrev JaL:WF:=(120,Gbb)::WaM
theorem Ya0:WO JaL:=Oc Ea4 func120
abbrev Hbb:Ha:=.pu (.p MH Tc) Tc [true] (fun x=>TJ x.1 x.2.1)
abbrev KaL:WF:=(121,Hbb)::JaL
theorem Za0:WO KaL:=Oc Ya0 func121
abbrev Zbm:Ha:=.pu (.p Ac Tc) Tc [true] (fun x=>PG x.1 x.2.1)
abbrev KaW:WF:=(60,Zbm)::KaL
theorem Cbj:WO KaW:=Oc Za0 func60
abbrev Mbg:Ha:=.pu (.p Kz Tc) Tc [true] (fun x=>DR x.1 x.2.1)
abbrev GaO:WF:=(270,Mbg)::KaW
theorem Ea6:WO GaO:=Oc Cbj func270
abbrev Nbe:Ha:=.pu (.p Jb Tc) Tc [true] (fun x=>VJ x.1 x.2.1)
abbrev XaM:WF:=(210,Nbe)::GaO
theorem Fa4:WO XaM:=Oc Ea6 func210
abbrev Ibb:Ha:=.pu (.p Fd Tc) Tc [true] (fun x=>UI x.1 x.2.1)
abbrev Sav:WF:=(122,Ibb)::XaM
theorem Aa1:WO Sav:=Oc Fa4 func122
abbrev Abn:Ha:=.pu (.p LH Tc) Tc [true] (fun x=>CN x.1 x.2.1)
abbrev LaW:WF:=(61,Abn)::Sav
def LaE:Na:=⟨27,⟨[(0,US),(1,Oa),(5,Oa)],[]⟩,0,⟨[(1,Oa)],[]⟩,⟨[(4,Oa)],[]⟩,MO⟩
def Abl:WL:=[(5,LaE)]
theorem QaY:Ta (WG true Sav [] [] []) Abl (lp f61 0):=Sb 5 (ls:=LaE) rfl
theorem Dbj:WO LaW:=Jd Aa1 func61 (Ea QaY Ga)
abbrev Fbm:Ha:=.pu (.p Bc Tc) Tc [true] (fun x=>QG x.1 x.2.1)
abbrev VaV:WF:=(27,Fbm)::LaW
theorem Ibi:WO VaV:=Oc Dbj func27
abbrev Bbe:Ha:=.pu Jm Jm [true] (fun x=>Rt x.1)
abbrev Aax:WF:=(198,Bbe)::VaV
theorem Ta3:WO Aax:=Oc Ibi func198
abbrev Xba:Ha:=.pu (.p Jl .u) (.p Jl .u) [true] (fun x=>RG x.1)
abbrev Oav:WF:=(110,Xba)::Aax
def Naq:Na:=⟨23,⟨[(0,(.data Jl)),(3,(.own 200001 Db true)),(4,Oa)],[]⟩,0,⟨[(3,(.own 200001 Db true))],[]⟩,⟨[],[]⟩,PL⟩
def Oa7:WL:=[(3,Naq)]
theorem QaQ:Ta (WG true Aax [] [] []) Oa7 (lp f110 0):=Sb 3 (ls:=Naq) rfl
theorem Pa0:WO Oav:=Jd Ta3 func110 (Ea QaQ Ga)
abbrev Tbm:Ha:=.pu (.p (.sl Jl) .u) (.p (.sl Jl) .u) [true] (fun x=>EN x.1)
abbrev FaW:WF:=(49,Tbm)::Oav
def GaE:Na:=⟨23,⟨[(0,CP),(3,(.own 200001 Jl true)),(4,Oa)],[]⟩,0,⟨[(3,(.own 200001 Jl true))],[]⟩,⟨[],[]⟩,VI⟩
def Vbk:WL:=[(3,GaE)]
theorem LaY:Ta (WG true Oav [] [] []) Vbk (lp f49 0):=Sb 3 (ls:=GaE) rfl
theorem Wbi:WO FaW:=Jd Pa0 func49 (Ea LaY Ga)
abbrev Zbl:Ha:=.pu QU QU [true] (fun x=>YJ x.1)
abbrev SaV:WF:=(18,Zbl)::FaW
theorem Cbi:WO SaV:=Oc Wbi func18
abbrev Mbh:Ha:=.pu AM AM [true] (fun x=>YI x.1)
abbrev Iay:WF:=(307,Mbh)::SaV
theorem Ea7:WO Iay:=Oc Cbi func307
abbrev Tbg:Ha:=.pu (.p Bi .u) (.p Bi .u) [true] (fun x=>GN x.1)
abbrev Wax:WF:=(277,Tbg)::Iay
def Oat:Na:=⟨23,⟨[(0,(.data Bi)),(3,N2),(4,Oa)],[]⟩,0,⟨[(3,N2)],[]⟩,⟨[],[]⟩,QO⟩
def Xa9:WL:=[(3,Oat)]
theorem QaT:Ta (WG true Iay [] [] []) Xa9 (lp f277 0):=Sb 3 (ls:=Oat) rfl
theorem La6:WO Wax:=Jd Ea7 func277 (Ea QaT Ga)
abbrev Fbf:Ha:=.pu (.p Kr .u) (.p Kr .u) [true] (fun x=>FT x.1)
abbrev MaN:WF:=(228,Fbf)::Wax
def Sas:Na:=⟨23,⟨[(0,(.data Kr)),(3,(.own 200001 Bi true)),(4,Oa)],[]⟩,0,⟨[(3,(.own 200001 Bi true))],[]⟩,⟨[],[]⟩,HN⟩
def Fa9:WL:=[(3,Sas)]
theorem VaS:Ta (WG true Wax [] [] []) Fa9 (lp f228 0):=Sb 3 (ls:=Sas) rfl
theorem Xa4:WO MaN:=Jd La6 func228 (Ea VaS Ga)
abbrev Ubg:Ha:=.pu (.p Jf .u) (.p Jf .u) [true] (fun x=>WI x.1)
abbrev Xax:WF:=(278,Ubg)::MaN
theorem Ma6:WO Xax:=Oc Xa4 func278
abbrev Gbf:Ha:=.pu SS SS [true] (fun x=>HV x.1)
abbrev NaN:WF:=(229,Gbf)::Xax
def Tas:Na:=⟨23,⟨[(0,Ol),(3,(.own 200001 Jf true)),(4,Oa)],[]⟩,0,⟨[(3,(.own 200001 Jf true))],[]⟩,⟨[],[]⟩,NO⟩
def Ga9:WL:=[(3,Tas)]
theorem WaS:Ta (WG true Xax [] [] []) Ga9 (lp f229 0):=Sb 3 (ls:=Tas) rfl
theorem Ya4:WO NaN:=Jd Ma6 func229 (Ea WaS Ga)
abbrev Bbc:Ha:=.pu TX TX [true] (fun x=>XJ x.1)
abbrev PaL:WF:=(141,Bbc)::NaN
theorem Ta1:WO PaL:=Oc Ya4 func141
abbrev Cbc:Ha:=.pu AM AM [true] (fun x=>AK x.1)
abbrev QaL:WF:=(142,Cbc)::PaL
theorem Ua1:WO QaL:=Oc Ta1 func142
abbrev Hbf:Ha:=.pu (.p De .u) (.p De .u) [true] (fun x=>BF x.1)
abbrev Hax:WF:=(230,Hbf)::QaL
theorem Za4:WO Hax:=Oc Ua1 func230
abbrev Dbc:Ha:=.pu (.p MH .u) (.p MH .u) [true] (fun x=>ET x.1)
abbrev RaL:WF:=(143,Dbc)::Hax
def Har:Na:=⟨23,⟨[(0,BM),(3,(.own 200001 De true)),(4,Oa)],[]⟩,0,⟨[(3,(.own 200001 De true))],[]⟩,⟨[],[]⟩,FN⟩
def Ba8:WL:=[(3,Har)]
theorem KaR:Ta (WG true Hax [] [] []) Ba8 (lp f143 0):=Sb 3 (ls:=Har) rfl
theorem Va1:WO RaL:=Jd Za4 func143 (Ea KaR Ga)
abbrev Kbn:Ha:=.pu (.p Ac .u) (.p Ac .u) [true] (fun x=>SG x.1)
abbrev WaH:WF:=(71,Kbn)::RaL
theorem Nbj:WO WaH:=Oc Va1 func71
abbrev Vbg:Ha:=.pu TS TS [true] (fun x=>ER x.1)
abbrev JaO:WF:=(279,Vbg)::WaH
def Pat:Na:=⟨22,⟨[(0,VS),(3,Wv),(4,Oa)],[]⟩,0,⟨[(3,Wv)],[]⟩,⟨[],[]⟩,CF⟩
def Ya9:WL:=[(3,Pat)]
theorem RaT:Ta (WG true WaH [] [] []) Ya9 (lp f279 0):=Sb 3 (ls:=Pat) rfl
theorem Na6:WO JaO:=Jd Nbj func279 (Ea RaT Ga)
abbrev Ibf:Ha:=.pu Lz Lz [true] (fun x=>ZJ x.1)
abbrev OaN:WF:=(231,Ibf)::JaO
theorem Aa5:WO OaN:=Oc Na6 func231
abbrev Ebc:Ha:=.pu (.p Fd .u) (.p Fd .u) [true] (fun x=>XI x.1)
abbrev Faw:WF:=(144,Ebc)::OaN
theorem Wa1:WO Faw:=Oc Aa5 func144
abbrev Lbn:Ha:=.pu (.p LH .u) (.p LH .u) [true] (fun x=>IV x.1)
abbrev NaW:WF:=(72,Lbn)::Faw
def SaE:Na:=⟨23,⟨[(0,US),(3,VZ),(4,Oa)],[]⟩,0,⟨[(3,VZ)],[]⟩,⟨[],[]⟩,PO⟩
def Ibl:WL:=[(3,SaE)]
theorem XaY:Ta (WG true Faw [] [] []) Ibl (lp f72 0):=Sb 3 (ls:=SaE) rfl
theorem Pbj:WO NaW:=Jd Wa1 func72 (Ea XaY Ga)
abbrev Hbm:Ha:=.pu XZ XZ [true] (fun x=>Xm x.1)
abbrev XaV:WF:=(29,Hbm)::NaW
theorem Kbi:WO XaV:=Oc Pbj func29
abbrev Vba:Ha:=.pu Xb We [true] (fun x=>Yc x.1 x.2.1 x.2.2.1)
abbrev Mav:WF:=(107,Vba)::XaV
theorem Na0:WO Mav:=Oc Kbi func107
abbrev Jbb:Ha:=.pu Lz We [true] (fun x=>Ip x.1)
abbrev LaL:WF:=(123,Jbb)::Mav
def Uaq:Na:=⟨39,⟨[(1,Dk),(3,Oa)],[(1,Jb,Xv)]⟩,0,⟨[(1,Dk)],[(1,Jb,Xv)]⟩,⟨[(2,Ch)],[]⟩,VA⟩
def Ta7:WL:=[(2,Uaq)]
theorem XaQ:Ta (WG true Mav [] [] []) Ta7 (lp f123 0):=Sb 2 (ls:=Uaq) rfl
theorem Ba1:WO LaL:=Jd Na0 func123 (Ea XaQ Ga)
abbrev Uba:Ha:=.pu Jm We [true] (fun x=>Nk x.1)
abbrev Cai:WF:=(106,Uba)::LaL
theorem Ma0:WO Cai:=Oc Ba1 func106
abbrev Pbm:Ha:=.pu QU We [true] (fun x=>Cm x.1)
abbrev DaW:WF:=(42,Pbm)::Cai
def DaE:Na:=⟨74,⟨[(1,Dk),(3,Oa),(4,Oa)],[(1,Xa,Mz)]⟩,2,⟨[(1,Dk),(3,Oa)],[(1,Xa,Mz)]⟩,⟨[(2,Ch)],[]⟩,Oq⟩
def CaE:Na:=⟨74,⟨[(1,Dk),(3,Oa)],[(1,Xa,Mz)]⟩,0,⟨[(1,Dk)],[(1,Xa,Mz)]⟩,⟨[(2,Ch)],[]⟩,Nq⟩
def DaX:WL:=[(7,DaE),(2,CaE)]
theorem IaY:Ta (WG true Cai [] [] []) DaX (lp f42 1):=Sb 7 (ls:=DaE) rfl
theorem HaY:Ta (WG true Cai [] [] []) DaX (lp f42 0):=Sb 2 (ls:=CaE) rfl
theorem Sbi:WO DaW:=Jd Ma0 func42 (Ea IaY (Ea HaY Ga))
abbrev Nbd:Ha:=.pu Jm We [true] (fun x=>Dn x.1)
abbrev Waw:WF:=(184,Nbd)::DaW
theorem Fa3:WO Waw:=Oc Sbi func184
abbrev Dbe:Ha:=.pu SS We [true] (fun x=>Pw x.1)
abbrev Cax:WF:=(200,Dbe)::Waw
def Eas:Na:=⟨57,⟨[(0,Ol),(3,Oa),(4,Oa)],[]⟩,0,⟨[],[]⟩,⟨[(2,Ch)],[]⟩,SF⟩
def Sa8:WL:=[(3,Eas)]
theorem HaS:Ta (WG true Waw [] [] []) Sa8 (lp f200 0):=Sb 3 (ls:=Eas) rfl
theorem Va3:WO Cax:=Jd Fa3 func200 (Ea HaS Ga)
abbrev Zbe:Ha:=.pu (.p DP AM) Tc [true] (fun x=>Vq x.1 x.2.1)
abbrev GaN:WF:=(222,Zbe)::Cax
def Pas:Na:=⟨33,⟨[(0,Ol),(3,Un),(5,Oa)],[(3,Xb,(.data Xb))]⟩,0,⟨[],[]⟩,⟨[(4,Oa)],[]⟩,ZF⟩
def Da9:WL:=[(2,Pas)]
theorem SaS:Ta (WG true Cax [] [] []) Da9 (lp f222 0):=Sb 2 (ls:=Pas) rfl
theorem Ra4:WO GaN:=Jd Va3 func222 (Ea SaS Ga)
abbrev Abf:Ha:=.pu AM Jm [true] (fun x=>Xt x.1)
abbrev HaN:WF:=(223,Abf)::GaN
theorem Sa4:WO HaN:=Oc Ra4 func223
abbrev Kbe:Ha:=.pu (.p DP Tc) SS [true] (fun x=>Yg x.1 x.2.1)
abbrev Fax:WF:=(207,Kbe)::HaN
theorem Ca4:WO Fax:=Oc Sa4 func207
abbrev Wbb:Ha:=.pu (.p Bi .u) We [true] (fun x=>Ny x.1)
abbrev Eai:WF:=(136,Wbb)::Fax
def Gar:Na:=⟨62,⟨[(0,(.data Bi)),(3,(.own 200001 Jf true)),(4,Oa)],[]⟩,0,⟨[(0,(.data Bi)),(3,(.own 200001 Jf true))],[]⟩,⟨[(2,Ch)],[]⟩,GC⟩
def Aa8:WL:=[(3,Gar)]
theorem JaR:Ta (WG true Fax [] [] []) Aa8 (lp f136 0):=Sb 3 (ls:=Gar) rfl
theorem Oa1:WO Eai:=Jd Ca4 func136 (Ea JaR Ga)
abbrev Zba:Ha:=.pu TX We [true] (fun x=>Hp x.1)
abbrev FaL:WF:=(112,Zba)::Eai
def Paq:Na:=⟨96,⟨[(1,Dk),(3,Oa)],[(1,Mb,RS)]⟩,0,⟨[(1,Dk)],[(1,Mb,RS)]⟩,⟨[(2,Ch)],[]⟩,Lq⟩
def Qaq:Na:=⟨96,⟨[(1,Dk),(4,Oa)],[(1,Mb,RS)]⟩,2,⟨[(1,Dk)],[(1,Mb,RS)]⟩,⟨[(2,Ch)],[]⟩,Mq⟩
def VaO:WL:=[(4,Paq),(9,Qaq)]
theorem SaQ:Ta (WG true Eai [] [] []) VaO (lp f112 0):=Sb 4 (ls:=Paq) rfl
theorem TaQ:Ta (WG true Eai [] [] []) VaO (lp f112 1):=Sb 9 (ls:=Qaq) rfl
theorem Ra0:WO FaL:=Jd Oa1 func112 (Ea TaQ (Ea SaQ Ga))
abbrev Obe:Ha:=.pu AM We [true] (fun x=>MB x.1)
abbrev YaM:WF:=(211,Obe)::FaL
theorem Ga4:WO YaM:=Oc Ra0 func211
abbrev Obg:Ha:=.pu Tc Tc [true] (fun x=>CY x.1)
abbrev Uax:WF:=(272,Obg)::YaM
theorem Ga6:WO Uax:=Oc Ga4 func272
abbrev Qbe:Ha:=.pu TX Tc [true] (fun x=>UF x.1)
abbrev AaN:WF:=(213,Qbe)::Uax
def Kas:Na:=⟨22,⟨[(1,Dk),(3,Oa),(4,Oa)],[(1,Mb,RS)]⟩,0,⟨[(3,Oa)],[]⟩,⟨[],[]⟩,IC⟩
def Ya8:WL:=[(3,Kas)]
theorem NaS:Ta (WG true Uax [] [] []) Ya8 (lp f213 0):=Sb 3 (ls:=Kas) rfl
theorem Ia4:WO AaN:=Jd Ga6 func213 (Ea NaS Ga)
abbrev Nbg:Ha:=.pu (.p De .u) We [true] (fun x=>RF x.1)
abbrev Tax:WF:=(271,Nbg)::AaN
theorem Fa6:WO Tax:=Oc Ia4 func271
abbrev Pbe:Ha:=.pu (.p MH Xb) We [true] (fun x=>Nv x.1 x.2.1 x.2.2.1 x.2.2.2.1)
abbrev ZaM:WF:=(212,Pbe)::Tax
def Jas:Na:=⟨73,⟨[(0,BM),(1,Oa),(2,Oa),(3,Oa),(9,Oa)],[]⟩,0,⟨[(0,BM)],[]⟩,⟨[(8,Ch)],[]⟩,Rw⟩
def Xa8:WL:=[(2,Jas)]
theorem MaS:Ta (WG true Tax [] [] []) Xa8 (lp f212 0):=Sb 2 (ls:=Jas) rfl
theorem Ha4:WO ZaM:=Jd Fa6 func212 (Ea MaS Ga)
abbrev Kbb:Ha:=.pu (.p Ac .u) We [true] (fun x=>Gr x.1)
abbrev Tav:WF:=(124,Kbb)::ZaM
theorem Ca1:WO Tav:=Oc Ha4 func124
abbrev Bbn:Ha:=.pu XZ We [true] (fun x=>ZG x.1)
abbrev OaH:WF:=(62,Bbn)::Tav
def MaE:Na:=⟨38,⟨[(1,Dk),(3,Oa)],[(1,Bc,(.data Bc))]⟩,0,⟨[(1,Dk)],[(1,Bc,(.data Bc))]⟩,⟨[(2,Ch)],[]⟩,Oy⟩
def Bbl:WL:=[(2,MaE)]
theorem RaY:Ta (WG true Tav [] [] []) Bbl (lp f62 0):=Sb 2 (ls:=MaE) rfl
theorem Ebj:WO OaH:=Jd Ca1 func62 (Ea RaY Ga)
abbrev Fbo:Ha:=.pu QU QU [true] (fun x=>KR x.1)
abbrev FaI:WF:=(94,Fbo)::OaH
def DaF:Na:=⟨28,⟨[(1,Dk),(2,Ag),(3,Un),(4,Oa)],[(1,Xa,Mz),(2,Xa,RX),(3,Xa,UZ)]⟩,0,⟨[(2,Ag),(3,Un)],[(2,Xa,RX),(3,Xa,UZ)]⟩,⟨[],[]⟩,YF⟩
def Rbl:WL:=[(3,DaF)]
theorem IaZ:Ta (WG true OaH [] [] []) Rbl (lp f94 0):=Sb 3 (ls:=DaF) rfl
theorem Jbk:WO FaI:=Jd Ebj func94 (Ea IaZ Ga)
abbrev Abb:Ha:=.pu TX TX [true] (fun x=>Kl x.1)
abbrev GaL:WF:=(113,Abb)::FaI
def Raq:Na:=⟨37,⟨[(1,Dk),(2,Ag),(3,Un),(4,Oa)],[(1,Mb,RS),(2,Mb,(.pr RX (.pr (.data Kr) (.pr Oa (.pr Ol (.data NH)))))),(3,Mb,(.pr UZ (.pr (.own 200002 Bi true) (.data (.p int (.p DP NH))))))]⟩,0,⟨[(1,Dk),(2,Ag),(3,Un)],[(1,Mb,RS),(2,Mb,(.pr RX (.pr (.data Kr) (.pr Oa (.pr Ol (.data NH)))))),(3,Mb,(.pr UZ (.pr (.own 200002 Bi true) (.data (.p int (.p DP NH))))))]⟩,⟨[],[]⟩,AG⟩
def Qa7:WL:=[(5,Raq)]
theorem UaQ:Ta (WG true FaI [] [] []) Qa7 (lp f113 0):=Sb 5 (ls:=Raq) rfl
theorem Sa0:WO GaL:=Jd Jbk func113 (Ea UaQ Ga)
abbrev Lbb:Ha:=.pu Lz Lz [true] (fun x=>XB x.1)
abbrev Uav:WF:=(125,Lbb)::GaL
theorem Da1:WO Uav:=Oc Sa0 func125
abbrev Cbn:Ha:=.pu XZ XZ [true] (fun x=>UN x.1)
abbrev PaH:WF:=(63,Cbn)::Uav
def NaE:Na:=⟨51,⟨[(1,Dk),(2,Ag),(3,Un),(5,Oa)],[(1,Bc,(.data Bc)),(2,Bc,PU),(3,Bc,c4_)]⟩,0,⟨[(2,Ag),(3,Un)],[(2,Bc,PU),(3,Bc,c4_)]⟩,⟨[],[]⟩,JC⟩
def Cbl:WL:=[(6,NaE)]
theorem SaY:Ta (WG true Uav [] [] []) Cbl (lp f63 0):=Sb 6 (ls:=NaE) rfl
theorem Fbj:WO PaH:=Jd Da1 func63 (Ea SaY Ga)
abbrev Xbm:Ha:=.pu (.p .s (.p OU .u)) (.p (.sl .s) .u) [true] (fun x=>Rh x.1 x.2.1)
abbrev NaH:WF:=(56,Xbm)::PaH
def JaE:Na:=⟨36,⟨[(0,Ri),(1,(.data OU)),(5,Tn),(6,Oa),(7,Oa)],[]⟩,0,⟨[(5,Tn)],[]⟩,⟨[],[]⟩,Ti⟩
def Ybk:WL:=[(4,JaE)]
theorem OaY:Ta (WG true PaH [] [] []) Ybk (lp f56 0):=Sb 4 (ls:=JaE) rfl
theorem Abj:WO NaH:=Jd Fbj func56 (Ea OaY Ga)
abbrev Dbn:Ha:=.pu (.p (.sl .s) Nh) Nh [true] (fun x=>Vd x.1 x.2.1)
abbrev QaH:WF:=(64,Dbn)::NaH
def OaE:Na:=⟨27,⟨[(0,(.data (.sl .s))),(1,Ri),(5,Yac),(6,Oa)],[]⟩,0,⟨[(5,Yac)],[]⟩,⟨[],[]⟩,Pq⟩
def Dbl:WL:=[(3,OaE)]
theorem TaY:Ta (WG true NaH [] [] []) Dbl (lp f64 0):=Sb 3 (ls:=OaE) rfl
theorem Gbj:WO QaH:=Jd Abj func64 (Ea TaY Ga)
abbrev Nbb:Ha:=.pu Tc Nh [true] (fun x=>Yd x.1)
abbrev Wav:WF:=(127,Nbb)::QaH
def Xaq:Na:=⟨31,⟨[(0,Oa),(3,Ri),(4,Oa)],[]⟩,0,⟨[(0,Oa),(3,Ri)],[]⟩,⟨[],[]⟩,Si⟩
def Ua7:WL:=[(5,Xaq)]
theorem AaR:Ta (WG true QaH [] [] []) Ua7 (lp f127 0):=Sb 5 (ls:=Xaq) rfl
theorem Fa1:WO Wav:=Jd Gbj func127 (Ea AaR Ga)
abbrev Tbe:Ha:=.pu Tc Nh [true] (fun x=>Wj x.1)
abbrev CaN:WF:=(216,Tbe)::Wav
def Las:Na:=⟨25,⟨[(0,Oa),(3,Ri),(4,Oa)],[]⟩,0,⟨[(3,Ri)],[]⟩,⟨[],[]⟩,Nw⟩
def Za8:WL:=[(3,Las)]
theorem OaS:Ta (WG true Wav [] [] []) Za8 (lp f216 0):=Sb 3 (ls:=Las) rfl
theorem La4:WO CaN:=Jd Fa1 func216 (Ea OaS Ga)
abbrev Pbg:Ha:=.pu .u (.p (.sl .s) .u) [true] (fun x=>VN)
abbrev HaO:WF:=(273,Pbg)::CaN
theorem Ha6:WO HaO:=Oc La4 func273
abbrev Sbe:Ha:=.pu Tc Nh [true] (fun x=>Wg x.1)
abbrev BaN:WF:=(215,Sbe)::HaO
theorem Ka4:WO BaN:=Oc Ha6 func215
abbrev Rbe:Ha:=.pu Jm Nh [true] (fun x=>Kf x.1)
abbrev Hai:WF:=(214,Rbe)::BaN
theorem Ja4:WO Hai:=Oc Ka4 func214
abbrev Mbb:Ha:=.pu QU Nh [true] (fun x=>Cx x.1)
abbrev Vav:WF:=(126,Mbb)::Hai
def Waq:Na:=⟨45,⟨[(1,Dk),(3,(.own 200101 .s true)),(4,Oa),(5,Aad),(6,Oa)],[(1,Xa,Mz)]⟩,2,⟨[(1,Dk),(3,(.own 200101 .s true)),(4,Oa),(5,Aad)],[(1,Xa,Mz)]⟩,⟨[],[]⟩,Vl⟩
def Vaq:Na:=⟨45,⟨[(1,Dk),(3,Tn),(4,Oa)],[(1,Xa,Mz)]⟩,0,⟨[(3,Tn)],[]⟩,⟨[],[]⟩,Aj⟩
def WaO:WL:=[(7,Waq),(3,Vaq)]
theorem ZaQ:Ta (WG true Hai [] [] []) WaO (lp f126 1):=Sb 7 (ls:=Waq) rfl
theorem YaQ:Ta (WG true Hai [] [] []) WaO (lp f126 0):=Sb 3 (ls:=Vaq) rfl
theorem Ea1:WO Vav:=Jd Ja4 func126 (Ea ZaQ (Ea YaQ Ga))
abbrev Obb:Ha:=.pu (.p int SS) Tc [true] (fun x=>Ut x.1 x.2.1)
abbrev T9:WF:=(128,Obb)::Vav
def Yaq:Na:=⟨38,⟨[(1,Ol),(5,Oa),(6,Oa)],[]⟩,0,⟨[(5,Oa)],[]⟩,⟨[],[]⟩,Qq⟩
def Va7:WL:=[(5,Yaq)]
theorem BaR:Ta (WG true Vav [] [] []) Va7 (lp f128 0):=Sb 5 (ls:=Yaq) rfl
theorem Ga1:WO T9:=Jd Ea1 func128 (Ea BaR Ga)
abbrev Qbb:Ha:=.pu SS Lz [true] (fun x=>Le x.1)
abbrev Yav:WF:=(130,Qbb)::T9
def Aar:Na:=⟨70,⟨[(0,Ol),(2,Ag),(3,Un),(4,Oa)],[(2,Jb,FH),(3,Jb,(.pr Oa (.pr Wv .un)))]⟩,0,⟨[(0,Ol),(2,Ag),(3,Un)],[(2,Jb,FH),(3,Jb,(.pr Oa (.pr Wv .un)))]⟩,⟨[],[]⟩,XA⟩
def Sal:Na:=⟨70,⟨[(0,Ol),(2,Ag),(3,Un),(5,Oa),(6,Oa)],[(2,Jb,FH),(3,Jb,(.pr Oa (.pr (.own 200201 int true) .un)))]⟩,4,⟨[(0,Ol),(2,Ag),(3,Un),(5,Oa)],[(2,Jb,FH),(3,Jb,(.pr Oa (.pr (.own 200201 int true) .un)))]⟩,⟨[],[]⟩,Yo⟩
def Ral:Na:=⟨70,⟨[(0,Ol),(2,Ag),(3,Un),(5,Oa)],[(2,Jb,FH),(3,Jb,(.pr Oa (.pr Zac .un)))]⟩,2,⟨[(2,Ag),(3,Un)],[(2,Jb,FH),(3,Jb,(.pr Oa (.pr Zac .un)))]⟩,⟨[],[]⟩,Py⟩
def Pay:WL:=[(5,Aar),(13,Sal),(10,Ral)]
theorem DaR:Ta (WG true T9 [] [] []) Pay (lp f130 0):=Sb 5 (ls:=Aar) rfl
theorem HaJ:Ta (WG true T9 [] [] []) Pay (lp f130 2):=Sb 13 (ls:=Sal) rfl
theorem GaJ:Ta (WG true T9 [] [] []) Pay (lp f130 1):=Sb 10 (ls:=Ral) rfl
theorem Ia1:WO Yav:=Jd Ga1 func130 (Ea HaJ (Ea GaJ (Ea DaR Ga)))
abbrev Pbb:Ha:=.pu Lz Nh [true] (fun x=>Sp x.1)
abbrev Xav:WF:=(129,Pbb)::Yav
def Zaq:Na:=⟨32,⟨[(1,Dk),(3,Tn),(4,Oa)],[(1,Jb,Xv)]⟩,0,⟨[(1,Dk),(3,Tn)],[(1,Jb,Xv)]⟩,⟨[],[]⟩,Cs⟩
def Wa7:WL:=[(5,Zaq)]
theorem CaR:Ta (WG true Yav [] [] []) Wa7 (lp f129 0):=Sb 5 (ls:=Zaq) rfl
theorem Ha1:WO Xav:=Jd Ia1 func129 (Ea CaR Ga)
abbrev Tbb:Ha:=.pu (.p LH .u) EP [true] (fun x=>BH x.1)
abbrev Aaw:WF:=(133,Tbb)::Xav
def Ear:Na:=⟨22,⟨[(0,US),(3,QX),(4,Oa)],[]⟩,0,⟨[(3,QX)],[]⟩,⟨[],[]⟩,Qy⟩
def Ya7:WL:=[(3,Ear)]
theorem HaR:Ta (WG true Xav [] [] []) Ya7 (lp f133 0):=Sb 3 (ls:=Ear) rfl
theorem La1:WO Aaw:=Jd Ha1 func133 (Ea HaR Ga)
abbrev Qbg:Ha:=.pu (.p Kz Tc) We [true] (fun x=>IR x.1 x.2.1)
abbrev Vax:WF:=(274,Qbg)::Aaw
def Lat:Na:=⟨18,⟨[(0,VS),(1,Oa),(5,Oa)],[]⟩,0,⟨[],[]⟩,⟨[(4,Ch)],[]⟩,VF⟩
def Wa9:WL:=[(2,Lat)]
theorem OaT:Ta (WG true Aaw [] [] []) Wa9 (lp f274 0):=Sb 2 (ls:=Lat) rfl
theorem Ia6:WO Vax:=Jd La1 func274 (Ea OaT Ga)
abbrev Ube:Ha:=.pu (.p Jb Lz) TS [true] (fun x=>SN x.1 x.2.1)
abbrev DaN:WF:=(217,Ube)::Vax
def Mas:Na:=⟨41,⟨[(2,Ag),(3,Un),(5,Wv),(6,Oa)],[(2,Jb,Xv),(3,Jb,Xv)]⟩,0,⟨[(5,Wv)],[]⟩,⟨[],[]⟩,HC⟩
def Aa9:WL:=[(3,Mas)]
theorem PaS:Ta (WG true Vax [] [] []) Aa9 (lp f217 0):=Sb 3 (ls:=Mas) rfl
theorem Ma4:WO DaN:=Jd Ia6 func217 (Ea PaS Ga)
abbrev Vbe:Ha:=.pu Zh Nh [true] (fun x=>Pn x.1 x.2.1)
abbrev Iai:WF:=(218,Vbe)::DaN
theorem Na4:WO Iai:=Oc Ma4 func218
abbrev Sbb:Ha:=.pu (.p Jb EP) Nh [true] (fun x=>DH x.1 x.2.1)
abbrev Zav:WF:=(132,Sbb)::Iai
def Dar:Na:=⟨44,⟨[(1,(.data PS)),(2,Ag),(5,Ri),(6,Oa),(7,Zac),(8,Oa)],[(2,Jb,Xv)]⟩,2,⟨[(1,(.data PS)),(2,Ag),(5,Ri),(6,Oa)],[(2,Jb,Xv)]⟩,⟨[],[]⟩,Sy⟩
def Car:Na:=⟨44,⟨[(1,(.data PS)),(2,Ag),(5,Ri),(6,Oa)],[(2,Jb,Xv)]⟩,0,⟨[(5,Ri)],[]⟩,⟨[],[]⟩,Ry⟩
def XaO:WL:=[(7,Dar),(3,Car)]
theorem GaR:Ta (WG true Iai [] [] []) XaO (lp f132 1):=Sb 7 (ls:=Dar) rfl
theorem FaR:Ta (WG true Iai [] [] []) XaO (lp f132 0):=Sb 3 (ls:=Car) rfl
theorem Ka1:WO Zav:=Jd Na4 func132 (Ea GaR (Ea FaR Ga))
abbrev Rbb:Ha:=.pu (.p (.sl OU) .u) Nh [true] (fun x=>My x.1)
abbrev MaL:WF:=(131,Rbb)::Zav
def Bar:Na:=⟨36,⟨[(0,(.data (.sl OU))),(3,Yac),(4,Oa)],[]⟩,0,⟨[(3,Yac)],[]⟩,⟨[],[]⟩,Uo⟩
def Xa7:WL:=[(3,Bar)]
theorem EaR:Ta (WG true Zav [] [] []) Xa7 (lp f131 0):=Sb 3 (ls:=Bar) rfl
theorem Ja1:WO MaL:=Jd Ka1 func131 (Ea EaR Ga)
abbrev Ebn:Ha:=.pu QS Nh [true] (fun x=>TN x.1 x.2.1)
abbrev RaH:WF:=(65,Ebn)::MaL
theorem Hbj:WO RaH:=Oc Ja1 func65
abbrev Wbe:Ha:=.pu Nh Tc [true] (fun x=>Mw x.1)
abbrev Gax:WF:=(219,Wbe)::RaH
def Nas:Na:=⟨13,⟨[(0,Ri),(3,Oa)],[]⟩,0,⟨[],[]⟩,⟨[(2,Oa)],[]⟩,Ao⟩
def Ba9:WL:=[(2,Nas)]
theorem QaS:Ta (WG true RaH [] [] []) Ba9 (lp f219 0):=Sb 2 (ls:=Nas) rfl
theorem Oa4:WO Gax:=Jd Hbj func219 (Ea QaS Ga)
abbrev Ibn:Ha:=.pu Nh NH [true,true] (fun x=>Vt x.1)
abbrev UaH:WF:=(69,Ibn)::Gax
def RaE:Na:=⟨62,⟨[(0,Ri),(4,Ri),(5,Oa),(6,Oa)],[]⟩,0,⟨[(0,Ri),(4,Ri),(5,Oa)],[]⟩,⟨[(2,Oa),(3,Ch)],[]⟩,Ah⟩
def Gbl:WL:=[(8,RaE)]
theorem WaY:Ta (WG true Gax [] [] []) Gbl (lp f69 0):=Sb 8 (ls:=RaE) rfl
theorem Lbj:WO UaH:=Jd Oa4 func69 (Ea WaY Ga)
abbrev Ybe:Ha:=.pu Nh Tc [true] (fun x=>Hr x.1)
abbrev FaN:WF:=(221,Ybe)::UaH
def Oas:Na:=⟨13,⟨[(0,Ri),(3,Oa)],[]⟩,0,⟨[],[]⟩,⟨[(2,Oa)],[]⟩,Bl⟩
def Ca9:WL:=[(2,Oas)]
theorem RaS:Ta (WG true UaH [] [] []) Ca9 (lp f221 0):=Sb 2 (ls:=Oas) rfl
theorem Qa4:WO FaN:=Jd Lbj func221 (Ea RaS Ga)
abbrev Xbe:Ha:=.pu (.p int (.p .s Nh)) Jm [true] (fun x=>JR x.1 x.2.1 x.2.2.1)
abbrev EaN:WF:=(220,Xbe)::FaN
theorem Pa4:WO EaN:=Oc Qa4 func220
abbrev Ubb:Ha:=.pu Nh (.p Db We) [true,true] (fun x=>Js x.1)
abbrev Baw:WF:=(134,Ubb)::EaN
theorem Ma1:WO Baw:=Oc Pa4 func134
abbrev Fbn:Ha:=.pu Nh (.p Xa We) [false,true] (fun x=>WA x.1)
abbrev MaW:WF:=(66,Fbn)::Baw
def PaE:Na:=⟨57,⟨[(2,Ag),(4,Yv),(5,(.own 200001 Db true)),(6,(.own 200002 .s true)),(7,Oa)],[(2,Xa,RX),(4,Xa,(.pr Oa (.pr (.own 200003 Jl false) .un)))]⟩,0,⟨[(2,Ag),(4,Yv)],[(2,Xa,RX),(4,Xa,(.pr Oa (.pr (.own 200001 Jl false) .un)))]⟩,⟨[(2,Ag),(3,Ch)],[(2,Xa,RX)]⟩,Lt⟩
def Ebl:WL:=[(5,PaE)]
theorem UaY:Ta (WG true Baw [(8004,1000200001),(17999,1000200001)] [] []) Ebl (lp f66 0):=Sb 5 (ls:=PaE) rfl
theorem Ibj:WO MaW:=Jd Ma1 func66 (Ea UaY Ga)
abbrev Vbm:Ha:=.pu (.p Xa (.p Kr .u)) (.p Mb We) [true,true] (fun x=>AH x.1 x.2.1)
abbrev HaW:WF:=(51,Vbm)::MaW
theorem Ybi:WO HaW:=Oc Ibj func51
abbrev Fbb:Ha:=.pu (.p Mb AM) (.p Ac We) [true,true] (fun x=>WD x.1 x.2.1)
abbrev IaL:WF:=(119,Fbb)::HaW
theorem Xa0:WO IaL:=Oc Ybi func119
abbrev Gbn:Ha:=.pu (.p Bc (.p Xa (.p Kr AM))) QS [false,true] (fun x=>Xg x.1 x.2.1 x.2.2.1 x.2.2.2.1)
abbrev SaH:WF:=(67,Gbn)::IaL
theorem Jbj:WO SaH:=Jd (L:=[]) (m:=[(5999,1000101472),(5999,1000101473),(5999,1000101474),(5999,1000101475),(5999,1000000034)]) (v:=[]) (l:=[]) Xa0 func67 Ga
abbrev Vbb:Ha:=.pu Nh (.p Xb We) [true,true] (fun x=>WN x.1)
abbrev Caw:WF:=(135,Vbb)::SaH
def Far:Na:=⟨44,⟨[(0,Ri),(2,Ag),(4,Oa)],[(2,Xb,(.data Xb))]⟩,0,⟨[(2,Ag)],[(2,Xb,(.data Xb))]⟩,⟨[(2,Ag),(3,Ch)],[(2,Xb,(.data Xb))]⟩,KC⟩
def Za7:WL:=[(4,Far)]
theorem IaR:Ta (WG true SaH [] [] []) Za7 (lp f135 0):=Sb 4 (ls:=Far) rfl
theorem Na1:WO Caw:=Jd Jbj func135 (Ea IaR Ga)
abbrev Hbn:Ha:=.pu Nh (.p Bi We) [true,true] (fun x=>XD x.1)
abbrev TaH:WF:=(68,Hbn)::Caw
def QaE:Na:=⟨51,⟨[(4,N2),(5,(.own 200002 .s true)),(6,Oa)],[]⟩,0,⟨[(4,N2),(5,(.own 200002 .s true))],[]⟩,⟨[(2,N2),(3,Ch)],[]⟩,Gk⟩
def Fbl:WL:=[(6,QaE)]
theorem VaY:Ta (WG true Caw [] [] []) Fbl (lp f68 0):=Sb 6 (ls:=QaE) rfl
theorem Kbj:WO TaH:=Jd Na1 func68 (Ea VaY Ga)
abbrev Ibg:Ha:=.pu WZ Tc [true] (fun x=>RN x.1 x.2.1 x.2.2.1)
abbrev EaO:WF:=(266,Ibg)::TaH
def Iat:Na:=⟨45,⟨[(1,Oa),(2,Oa),(3,Un),(7,Oa)],[(3,Xa,Mz)]⟩,0,⟨[],[]⟩,⟨[(6,Oa)],[]⟩,Bk⟩
def Va9:WL:=[(4,Iat)]
theorem LaT:Ta (WG true TaH [] [] []) Va9 (lp f266 0):=Sb 4 (ls:=Iat) rfl
theorem Aa6:WO EaO:=Jd Kbj func266 (Ea LaT Ga)
abbrev Fbe:Ha:=.pu WZ Jm [true] (fun x=>Tt x.1 x.2.1 x.2.2.1)
abbrev Dax:WF:=(202,Fbe)::EaO
theorem Xa3:WO Dax:=Oc Aa6 func202
abbrev Sbh:Ha:=.pu (.p Xb (.p int (.p int (.p MH Tc)))) Zh [true,true] (fun x=>DK x.1 x.2.1 x.2.2.1 x.2.2.2.1 x.2.2.2.2.1)
abbrev May:WF:=(330,Sbh)::Dax
def Eau:Na:=⟨101,⟨[(1,Oa),(3,BM),(4,Oa),(5,CM),(12,Oa),(13,Oa),(14,Oa)],[(5,Xb,(.data Xb))]⟩,0,⟨[(4,Oa),(12,Oa)],[]⟩,⟨[(10,Oa),(11,Oa)],[]⟩,SA⟩
def Lba:WL:=[(6,Eau)]
theorem GaU:Ta (WG true Dax [] [] []) Lba (lp f330 0):=Sb 6 (ls:=Eau) rfl
theorem Ka7:WO May:=Jd Xa3 func330 (Ea GaU Ga)
abbrev Ebe:Ha:=.pu (.p Mb Tc) Tc [true] (fun x=>BJ x.1 x.2.1)
abbrev SaM:WF:=(201,Ebe)::May
def Fas:Na:=⟨22,⟨[(1,Oa),(2,Ag),(5,Oa)],[(2,Mb,RS)]⟩,0,⟨[],[]⟩,⟨[(4,Oa)],[]⟩,QF⟩
def Ta8:WL:=[(2,Fas)]
theorem IaS:Ta (WG true May [] [] []) Ta8 (lp f201 0):=Sb 2 (ls:=Fas) rfl
theorem Wa3:WO SaM:=Jd Ka7 func201 (Ea IaS Ga)
abbrev Gbe:Ha:=.pu Jm Jm [true] (fun x=>HR x.1)
abbrev TaM:WF:=(203,Gbe)::SaM
theorem Ya3:WO TaM:=Oc Wa3 func203
abbrev Gbo:Ha:=.pu Jm Jm [true] (fun x=>BU x.1)
abbrev ZaW:WF:=(98,Gbo)::TaM
theorem Kbk:WO ZaW:=Oc Ya3 func98
abbrev Kbh:Ha:=.pu Tc We [true] (fun x=>VD x.1)
abbrev OaO:WF:=(305,Kbh)::ZaW
theorem Ca7:WO OaO:=Oc Kbk func305
abbrev Jbg:Ha:=.bx false false Mb Jm Jm [true] (fun x0 x=>D1 x0 x.1)
abbrev FaO:WF:=(267,Jbg)::OaO
theorem Ba6:WO FaO:=wbx (L:=[]) (m:=[]) (v:=[]) (l:=[]) (z:=false) Ca7 func267 Ga
abbrev Hbe:Ha:=.bx false false Mb Jm Jm [true] (fun x0 x=>Jp x0 x.1)
abbrev A5:WF:=(204,Hbe)::FaO
theorem Za3:WO A5:=wbx (L:=[]) (m:=[]) (v:=[]) (l:=[]) (z:=false) Ba6 func204 Ga
abbrev Kbg:Ha:=.pu (.p DP SS) Lz [true] (fun x=>Ej x.1 x.2.1)
abbrev Rax:WF:=(268,Kbg)::A5
def Jat:Na:=⟨77,⟨[(1,Ol),(4,Yv),(5,CM),(6,Oa)],[(4,Jb,FH),(5,Jb,(.pr Oa (.pr Wv .un)))]⟩,0,⟨[(1,Ol),(4,Yv),(5,CM)],[(4,Jb,FH),(5,Jb,(.pr Oa (.pr Wv .un)))]⟩,⟨[],[]⟩,BB⟩
def Ual:Na:=⟨77,⟨[(1,Ol),(4,Yv),(5,CM),(7,(.own 200201 int true)),(8,Oa),(9,Ch),(10,Oa)],[(4,Jb,FH),(5,Jb,(.pr Oa (.pr (.own 200202 int true) .un)))]⟩,4,⟨[(1,Ol),(4,Yv),(5,CM),(7,(.own 200201 int true)),(8,Oa),(9,Ch)],[(4,Jb,FH),(5,Jb,(.pr Oa (.pr (.own 200202 int true) .un)))]⟩,⟨[],[]⟩,Zo⟩
def Val:Na:=⟨77,⟨[(1,Ol),(4,Yv),(5,CM),(7,(.own 200301 int true)),(8,Oa),(9,Ch),(11,Oa)],[(4,Jb,FH),(5,Jb,(.pr Oa (.pr (.own 200302 int true) .un)))]⟩,6,⟨[(1,Ol),(4,Yv),(5,CM),(7,(.own 200301 int true)),(8,Oa),(9,Ch)],[(4,Jb,FH),(5,Jb,(.pr Oa (.pr (.own 200302 int true) .un)))]⟩,⟨[],[]⟩,Ap⟩
def Kat:Na:=⟨77,⟨[(1,Ol),(4,Yv),(5,CM),(7,Zac),(8,Oa)],[(4,Jb,FH),(5,Jb,(.pr Oa (.pr (.own 200102 int true) .un)))]⟩,2,⟨[(4,Yv),(5,CM),(7,Zac)],[(4,Jb,FH),(5,Jb,(.pr Oa (.pr (.own 200102 int true) .un)))]⟩,⟨[],[]⟩,CB⟩
def Mai:WL:=[(3,Jat),(12,Ual),(16,Val),(8,Kat)]
theorem MaT:Ta (WG true A5 [] [] []) Mai (lp f268 0):=Sb 3 (ls:=Jat) rfl
theorem JaJ:Ta (WG true A5 [] [] []) Mai (lp f268 2):=Sb 12 (ls:=Ual) rfl
theorem KaJ:Ta (WG true A5 [] [] []) Mai (lp f268 3):=Sb 16 (ls:=Val) rfl
theorem NaT:Ta (WG true A5 [] [] []) Mai (lp f268 1):=Sb 8 (ls:=Kat) rfl
theorem Ca6:WO Rax:=Jd Za3 func268 (Ea KaJ (Ea JaJ (Ea NaT (Ea MaT Ga))))
abbrev Ibe:Ha:=.pu (.p DP (.p Bi .u)) EP [true] (fun x=>Yl x.1 x.2.1)
abbrev Eax:WF:=(205,Ibe)::Rax
def Gas:Na:=⟨60,⟨[(0,Ol),(1,(.data Bi)),(5,QX),(6,(.own 200002 Jf true)),(7,Oa)],[]⟩,0,⟨[(5,QX)],[]⟩,⟨[],[]⟩,Hs⟩
def Ua8:WL:=[(6,Gas)]
theorem JaS:Ta (WG true Rax [] [] []) Ua8 (lp f205 0):=Sb 6 (ls:=Gas) rfl
theorem Aa4:WO Eax:=Jd Ca6 func205 (Ea JaS Ga)
abbrev Dbb:Ha:=.pu (.p Jb Lz) We [true] (fun x=>YD x.1 x.2.1)
abbrev Qav:WF:=(116,Dbb)::Eax
def Saq:Na:=⟨38,⟨[(2,Ag),(3,Un),(5,Oa)],[(2,Jb,Xv),(3,Jb,Xv)]⟩,0,⟨[],[]⟩,⟨[(4,Ch)],[]⟩,Qw⟩
def Ra7:WL:=[(4,Saq)]
theorem VaQ:Ta (WG true Eax [] [] []) Ra7 (lp f116 0):=Sb 4 (ls:=Saq) rfl
theorem Va0:WO Qav:=Jd Aa4 func116 (Ea VaQ Ga)
abbrev Jbe:Ha:=.pu (.p Jb EP) EP [true] (fun x=>Sh x.1 x.2.1)
abbrev UaM:WF:=(206,Jbe)::Qav
def Has:Na:=⟨34,⟨[(1,(.data PS)),(2,Ag),(5,QX),(6,Oa)],[(2,Jb,Xv)]⟩,0,⟨[(5,QX)],[]⟩,⟨[],[]⟩,Vy⟩
def Va8:WL:=[(3,Has)]
theorem KaS:Ta (WG true Qav [] [] []) Va8 (lp f206 0):=Sb 3 (ls:=Has) rfl
theorem Ba4:WO UaM:=Jd Va0 func206 (Ea KaS Ga)
abbrev Bbb:Ha:=.pu (.p Mb NH) (.p Mb (.p PS We)) [true,true,true] (fun x=>Qn x.1 x.2.1 x.2.2.1)
abbrev HaL:WF:=(114,Bbb)::UaM
theorem Ta0:WO HaL:=Oc Ba4 func114
abbrev Lbh:Ha:=.bx false false Ac (.p De Tc) (.p PS NH) [true,true,true] (fun x0 x=>Uy x0 x.1 x.2.1)
abbrev PaO:WF:=(306,Lbh)::HaL
theorem Da7:WO PaO:=wbx (L:=[]) (m:=[]) (v:=[]) (l:=[]) (z:=false) Ta0 func306 Ga
abbrev Cbb:Ha:=.pu (.p Mb Tc) (.p Mb (.p PS We)) [true,true,true] (fun x=>TF x.1 x.2.1)
abbrev Dai:WF:=(115,Cbb)::PaO
theorem Ua0:WO Dai:=Oc Da7 func115
abbrev Rbg:Ha:=.bx false false Ac .u (.p LH .u) [true] (fun x0 x=>WB x0)
abbrev IaO:WF:=(275,Rbg)::Dai
def Wal:Na:=⟨109,⟨[(0,(.ptr 500000 [])),(3,(.own 200101 Fd true)),(5,Oa),(6,(.mov 200102 Jb)),(13,Oa)],[(500000,Ac,(.pr (.pr (.pr Oa (.pr (.own 200103 Jl true) .un)) (.pr (.own 200104 Bi true) (.pr Oa (.pr (.own 200105 Jf true) (.data NH))))) (.pr (.data Xb) (.pr (.own 200106 De true) (.data Db)))))]⟩,2,⟨[(0,(.ptr 500000 [])),(3,(.own 200101 Fd true)),(5,Oa)],[(500000,Ac,(.pr (.pr (.pr Oa (.pr (.own 200102 Jl true) .un)) (.pr (.own 200103 Bi true) (.pr Oa (.pr (.own 200104 Jf true) (.data NH))))) (.pr (.data Xb) (.pr (.own 200105 De true) (.data Db)))))]⟩,⟨[],[]⟩,Ck⟩
def Mat:Na:=⟨109,⟨[(0,(.ptr 500000 [])),(3,VZ)],[(500000,Ac,c2_)]⟩,0,⟨[(0,(.ptr 500000 [])),(3,VZ)],[(500000,Ac,c2_)]⟩,⟨[(0,(.ptr 500000 [])),(2,VZ)],[(500000,Ac,c2_)]⟩,Cl⟩
def CaP:WL:=[(18,Wal),(2,Mat)]
theorem LaJ:Ta (WG false Dai [] [] [90]) CaP (lp f275 1):=Sb 18 (ls:=Wal) rfl
theorem PaT:Ta (WG false Dai [] [] [90]) CaP (lp f275 0):=Sb 2 (ls:=Mat) rfl
theorem Ja6:WO IaO:=wbx Ua0 func275 (Ea LaJ (Ea PaT Ga))
abbrev Bbf:Ha:=.pu (.p Ac (.p MH Tc)) P7 [true,true,true] (fun x=>Hv x.1 x.2.1 x.2.2.1)
abbrev IaN:WF:=(224,Bbf)::IaO
theorem Ta4:WO IaN:=Oc Ja6 func224
abbrev Xbb:Ha:=.pu (.p Ac (.p De .u)) P7 [true,true,true] (fun x=>Er x.1 x.2.1)
abbrev Daw:WF:=(137,Xbb)::IaN
theorem Pa1:WO Daw:=Oc Ta4 func137
abbrev Cbf:Ha:=.pu (.p LH .u) Nh [true] (fun x=>RD x.1)
abbrev JaN:WF:=(225,Cbf)::Daw
def Qas:Na:=⟨34,⟨[(0,US),(3,Tn),(4,Oa)],[]⟩,0,⟨[(3,Tn)],[]⟩,⟨[],[]⟩,Ow⟩
def Ea9:WL:=[(3,Qas)]
theorem TaS:Ta (WG true Daw [] [] []) Ea9 (lp f225 0):=Sb 3 (ls:=Qas) rfl
theorem Ua4:WO JaN:=Jd Pa1 func225 (Ea TaS Ga)
abbrev Ybb:Ha:=.co (.p Bc P7) QS [false,true] (fun x=>Hk x.1 x.2.1 x.2.2.1 x.2.2.2.1)
abbrev NaL:WF:=(138,Ybb)::JaN
theorem Qa1:WO NaL:=wco (L:=[]) (m:=[(999999998,0),(2999,1000400000),(2999,1000400001),(2999,1000400002),(2999,1000400003),(2999,1000400004),(4004,1000400009),(4004,2000400004),(5999,1000400005),(5999,1000400006),(5999,1000400007),(5999,1000400008),(5999,1000000027)]) (v:=[]) (l:=[]) (z:=true) Ua4 func138 Ga
abbrev Zbb:Ha:=.pu (.p Ac Tc) P7 [true,true,true] (fun x=>En x.1 x.2.1)
abbrev OaL:WF:=(139,Zbb)::NaL
theorem Ra1:WO OaL:=Oc Qa1 func139
abbrev Dbf:Ha:=.pu (.p Xa Tc) We [true] (fun x=>Bo x.1 x.2.1)
abbrev KaN:WF:=(226,Dbf)::OaL
theorem Va4:WO KaN:=Oc Ra1 func226
abbrev Sbg:Ha:=.pu WZ Tc [true] (fun x=>QD x.1 x.2.1 x.2.2.1)
abbrev Lai:WF:=(276,Sbg)::KaN
theorem Ka6:WO Lai:=Oc Va4 func276
abbrev Ebf:Ha:=.pu (.p Xa Tc) (.p (.sl Kz) (.p (.sl .b) .u)) [true,true] (fun x=>EH x.1 x.2.1)
abbrev LaN:WF:=(227,Ebf)::Lai
def Tal:Na:=⟨70,⟨[(2,Ag),(6,(.own 200101 Kz true)),(7,(.own 200102 .b true)),(8,(.own 200103 int true)),(9,Oa),(10,Oa),(11,Oa)],[(2,Xa,Mz)]⟩,2,⟨[(2,Ag),(6,(.own 200101 Kz true)),(7,(.own 200102 .b true)),(8,(.own 200103 int true)),(9,Oa)],[(2,Xa,Mz)]⟩,⟨[],[]⟩,Rn⟩
def Ras:Na:=⟨70,⟨[(2,Ag),(6,(.own 200001 Kz true)),(7,(.own 200002 .b true)),(8,(.own 200003 int true)),(9,Oa)],[(2,Xa,Mz)]⟩,0,⟨[(6,(.own 200001 Kz true)),(7,(.own 200002 .b true))],[]⟩,⟨[],[]⟩,Dl⟩
def BaP:WL:=[(10,Tal),(6,Ras)]
theorem IaJ:Ta (WG true Lai [(15013,200101)] [] []) BaP (lp f227 1):=Sb 10 (ls:=Tal) rfl
theorem UaS:Ta (WG true Lai [(15013,200101)] [] []) BaP (lp f227 0):=Sb 6 (ls:=Ras) rfl
theorem Wa4:WO LaN:=Jd Ka6 func227 (Ea IaJ (Ea UaS Ga))
abbrev Abc:Ha:=.pu WZ (.p Kz We) [true,true] (fun x=>Fg x.1 x.2.1 x.2.2.1)
abbrev Eaw:WF:=(140,Abc)::LaN
theorem Sa1:WO Eaw:=Oc Wa4 func140
abbrev Jbn:Ha:=.co (.p Bc (.p .s TS)) QS [false,true] (fun x=>AE x.1 x.2.1 x.2.2.1)
abbrev VaH:WF:=(70,Jbn)::Eaw
def Fau:Na:=⟨166,⟨[(3,Un),(6,(.ptr 6 [])),(21,Wv),(23,(.own 200002 .s true)),(24,Oa)],[(3,Bc,c5_),(6,Bc,PU)]⟩,1,⟨[(3,Un),(6,(.ptr 6 [])),(23,Tn)],[(3,Bc,(.pr c2_ (.pr (.own 200006 Fd true) .un))),(6,Bc,PU)]⟩,⟨[],[]⟩,Cd⟩
def Hbl:WL:=[(19,Fau)]
theorem HaU:Ta (WG true Eaw [(999999998,0),(11000,1000400000),(11000,1000400001),(11000,1000400002),(11000,1000400003),(11000,1000400004),(16999,1000400000),(16999,1000400001),(16999,1000400002),(16999,1000400003),(16999,1000400004),(22999,1000200002),(22999,1000200003),(22999,1000200004),(22999,1000200005),(22999,1000200006),(23999,1000400000),(23999,1000400001),(23999,1000400002),(23999,1000400003),(23999,1000400004)] [] []) Hbl (lp f70 0):=Sb 19 (ls:=Fau) rfl
theorem Mbj:WO VaH:=wco Sa1 func70 (Ea HaU Ga)
abbrev Gbm:Ha:=.pu QS QS [false,true] (fun x=>VB x.1 x.2.1)
abbrev WaV:WF:=(28,Gbm)::VaH
def Tat:Na:=⟨139,⟨[(4,Yv),(6,(.ptr 6 [])),(7,Tn),(18,(.own 200002 int true)),(19,Oa)],[(4,Bc,PU),(6,Bc,c5_)]⟩,1,⟨[(4,Yv),(6,(.ptr 6 [])),(7,Tn),(18,(.own 200002 int true))],[(4,Bc,PU),(6,Bc,c5_)]⟩,⟨[(4,Yv),(5,Ri)],[(4,Bc,PU)]⟩,Ys⟩
def Rbk:WL:=[(26,Tat)]
theorem VaT:Ta (WG true VaH [(8999,1000101856),(8999,1000101857),(8999,1000101858),(8999,1000101859),(8999,1000101860),(10999,1000101856),(10999,1000101857),(10999,1000101858),(10999,1000101859),(10999,1000101860),(15999,1000101856),(15999,1000101857),(15999,1000101858),(15999,1000101859),(15999,1000101860),(16000,1000101856),(16000,1000101857),(16000,1000101858),(16000,1000101859),(16000,1000101860),(21999,1000101856),(21999,1000101857),(21999,1000101858),(21999,1000101859),(21999,1000101860),(30999,1000200003),(30999,1000200004),(30999,1000200005),(30999,1000200006),(30999,1000200007)] [] [97]) Rbk (lp f28 0):=Sb 26 (ls:=Tat) rfl
theorem Jbi:WO WaV:=Jd Mbj func28 (Ea VaT Ga)
abbrev Obd:Ha:=.pu Tc We [true] (fun x=>Tq x.1)
abbrev IaM:WF:=(185,Obd)::WaV
theorem Ga3:WO IaM:=Oc Jbi func185
abbrev Pbd:Ha:=.pu Tc We [true] (fun x=>Hw x.1)
abbrev JaM:WF:=(186,Pbd)::IaM
theorem Ha3:WO JaM:=Oc Ga3 func186
abbrev Qbd:Ha:=.pu Tc We [true] (fun x=>Wx x.1)
abbrev KaM:WF:=(187,Qbd)::JaM
theorem Ia3:WO KaM:=Oc Ha3 func187
abbrev Hbo:Ha:=.pu Jm We [true] (fun x=>Cj x.1)
abbrev Oay:WF:=(99,Hbo)::KaM
theorem Lbk:WO Oay:=Oc Ia3 func99
abbrev Mbm:Ha:=.pu QU We [true] (fun x=>Am x.1)
abbrev AaW:WF:=(36,Mbm)::Oay
def BaE:Na:=⟨73,⟨[(1,Dk),(3,Oa),(28,CP),(29,Oa),(30,Oa),(40,(.data Jl)),(41,Oa),(42,Oa)],[(1,Xa,Mz)]⟩,2,⟨[(1,Dk),(28,CP),(29,Oa),(30,Oa)],[(1,Xa,Mz)]⟩,⟨[(2,Ch)],[]⟩,Aq⟩
def AaE:Na:=⟨73,⟨[(1,Dk),(28,CP),(29,Oa),(30,Oa)],[(1,Xa,Mz)]⟩,0,⟨[],[]⟩,⟨[(2,Ch)],[]⟩,Zp⟩
def CaX:WL:=[(9,BaE),(4,AaE)]
theorem GaY:Ta (WG true Oay [] [] []) CaX (lp f36 1):=Sb 9 (ls:=BaE) rfl
theorem FaY:Ta (WG true Oay [] [] []) CaX (lp f36 0):=Sb 4 (ls:=AaE) rfl
theorem Pbi:WO AaW:=Jd Lbk func36 (Ea GaY (Ea FaY Ga))
abbrev Rbm:Ha:=.pu Zh Tc [true] (fun x=>Ew x.1 x.2.1)
abbrev MaH:WF:=(47,Rbm)::AaW
theorem Ubi:WO MaH:=Oc Pbi func47
abbrev Abe:Ha:=.pu SS We [true] (fun x=>Ln x.1)
abbrev Zaw:WF:=(197,Abe)::MaH
def Das:Na:=⟨46,⟨[(3,Oa),(6,Ol),(7,Oa),(8,Oa)],[]⟩,0,⟨[],[]⟩,⟨[(2,Ch)],[]⟩,PE⟩
def Ra8:WL:=[(3,Das)]
theorem GaS:Ta (WG true MaH [] [] []) Ra8 (lp f197 0):=Sb 3 (ls:=Das) rfl
theorem Sa3:WO Zaw:=Jd Ubi func197 (Ea GaS Ga)
abbrev Qbf:Ha:=.pu (.p (.sl Zh) (.p Zh .u)) Tc [true] (fun x=>KI x.1 x.2.1)
abbrev Jax:WF:=(242,Qbf)::Zaw
def Xas:Na:=⟨19,⟨[(3,Un),(7,(.data (.sl Zh))),(8,Oa),(9,Oa)],[(3,Zh,(.data Zh))]⟩,0,⟨[],[]⟩,⟨[(4,Oa)],[]⟩,TE⟩
def Ka9:WL:=[(2,Xas)]
theorem AaT:Ta (WG true Zaw [] [] []) Ka9 (lp f242 0):=Sb 2 (ls:=Xas) rfl
theorem Ia5:WO Jax:=Jd Sa3 func242 (Ea AaT Ga)
abbrev Qbc:Ha:=.pu (.p Bi .u) We [true] (fun x=>Qr x.1)
abbrev Gai:WF:=(156,Qbc)::Jax
def Lar:Na:=⟨62,⟨[(3,(.own 200001 Zh true)),(11,(.data Bi)),(12,Oa),(13,Oa)],[]⟩,0,⟨[(3,(.own 200001 Zh true))],[]⟩,⟨[(2,Ch)],[]⟩,BC⟩
def Da8:WL:=[(5,Lar)]
theorem OaR:Ta (WG true Jax [] [] []) Da8 (lp f156 0):=Sb 5 (ls:=Lar) rfl
theorem Ia2:WO Gai:=Jd Ia5 func156 (Ea OaR Ga)
abbrev Sba:Ha:=.pu TX We [true] (fun x=>JB x.1)
abbrev DaL:WF:=(103,Sba)::Gai
def Maq:Na:=⟨92,⟨[(1,Dk),(35,(.data Kr)),(36,Oa),(37,Oa)],[(1,Mb,RS)]⟩,0,⟨[(1,Dk)],[(1,Mb,RS)]⟩,⟨[(2,Ch)],[]⟩,Yp⟩
def Qal:Na:=⟨92,⟨[(1,Dk),(5,Oa),(50,Ol),(51,Oa),(52,Oa)],[(1,Mb,RS)]⟩,2,⟨[(1,Dk),(5,Oa)],[(1,Mb,RS)]⟩,⟨[(2,Ch)],[]⟩,No⟩
def UaO:WL:=[(4,Maq),(11,Qal)]
theorem PaQ:Ta (WG true Gai [] [] []) UaO (lp f103 0):=Sb 4 (ls:=Maq) rfl
theorem FaJ:Ta (WG true Gai [] [] []) UaO (lp f103 1):=Sb 11 (ls:=Qal) rfl
theorem Ka0:WO DaL:=Jd Ia2 func103 (Ea FaJ (Ea PaQ Ga))
abbrev Jbf:Ha:=.pu AM We [true] (fun x=>KB x.1)
abbrev Iax:WF:=(232,Jbf)::DaL
theorem Ba5:WO Iax:=Oc Ka0 func232
abbrev Lbf:Ha:=.pu SS Tc [true] (fun x=>Pt x.1)
abbrev QaN:WF:=(234,Lbf)::Iax
def Vas:Na:=⟨19,⟨[(3,Oa),(6,Ol),(7,Oa),(8,Oa)],[]⟩,0,⟨[(3,Oa)],[]⟩,⟨[],[]⟩,EA⟩
def Ia9:WL:=[(3,Vas)]
theorem YaS:Ta (WG true Iax [] [] []) Ia9 (lp f234 0):=Sb 3 (ls:=Vas) rfl
theorem Da5:WO QaN:=Jd Ba5 func234 (Ea YaS Ga)
abbrev Nbh:Ha:=.pu (.p De .u) We [true] (fun x=>OE x.1)
abbrev Jay:WF:=(308,Nbh)::QaN
theorem Fa7:WO Jay:=Oc Da5 func308
abbrev Wbg:Ha:=.pu (.p MH Tc) NH [true,true] (fun x=>AR x.1 x.2.1)
abbrev Yax:WF:=(280,Wbg)::Jay
def Qat:Na:=⟨53,⟨[(0,BM),(1,Oa),(11,BM),(12,Oa),(13,Oa)],[]⟩,0,⟨[(1,Oa)],[]⟩,⟨[(4,Oa),(5,Ch)],[]⟩,RE⟩
def Za9:WL:=[(4,Qat)]
theorem SaT:Ta (WG true Jay [] [] []) Za9 (lp f280 0):=Sb 4 (ls:=Qat) rfl
theorem Oa6:WO Yax:=Jd Fa7 func280 (Ea SaT Ga)
abbrev Kbf:Ha:=.pu (.p MH Zh) We [true] (fun x=>Dr x.1 x.2.1 x.2.2.1)
abbrev PaN:WF:=(233,Kbf)::Yax
def Uas:Na:=⟨29,⟨[(0,BM),(1,Oa),(2,Oa),(11,BM),(12,Oa),(13,Oa)],[]⟩,0,⟨[(0,BM),(1,Oa)],[]⟩,⟨[(6,Ch)],[]⟩,Yx⟩
def Ha9:WL:=[(2,Uas)]
theorem XaS:Ta (WG true Yax [] [] []) Ha9 (lp f233 0):=Sb 2 (ls:=Uas) rfl
theorem Ca5:WO PaN:=Jd Oa6 func233 (Ea XaS Ga)
abbrev Mbf:Ha:=.pu (.p MH Tc) We [true] (fun x=>Cr x.1 x.2.1)
abbrev RaN:WF:=(235,Mbf)::PaN
theorem Ea5:WO RaN:=Oc Ca5 func235
abbrev Fbc:Ha:=.pu (.p Ac .u) We [true] (fun x=>Yq x.1)
abbrev Gaw:WF:=(145,Fbc)::RaN
theorem Xa1:WO Gaw:=Oc Ea5 func145
abbrev Gbc:Ha:=.pu Lz We [true] (fun x=>Ep x.1)
abbrev Haw:WF:=(146,Gbc)::Gaw
def Iar:Na:=⟨39,⟨[(1,Dk),(14,VS),(15,Oa),(16,Oa)],[(1,Jb,Xv)]⟩,0,⟨[],[]⟩,⟨[(2,Ch)],[]⟩,Xz⟩
def Ca8:WL:=[(4,Iar)]
theorem LaR:Ta (WG true Gaw [] [] []) Ca8 (lp f146 0):=Sb 4 (ls:=Iar) rfl
theorem Ya1:WO Haw:=Jd Xa1 func146 (Ea LaR Ga)
abbrev Mbn:Ha:=.pu XZ We [true] (fun x=>IG x.1)
abbrev XaH:WF:=(73,Mbn)::Haw
def TaE:Na:=⟨37,⟨[(16,US),(17,Oa),(18,Oa)],[]⟩,0,⟨[],[]⟩,⟨[(2,Ch)],[]⟩,Rx⟩
def Jbl:WL:=[(4,TaE)]
theorem YaY:Ta (WG true Haw [] [] []) Jbl (lp f73 0):=Sb 4 (ls:=TaE) rfl
theorem Qbj:WO XaH:=Jd Ya1 func73 (Ea YaY Ga)
abbrev Qbm:Ha:=.pu QU QU [true] (fun x=>Ou x.1)
abbrev LaH:WF:=(45,Qbm)::XaH
def EaE:Na:=⟨25,⟨[(2,Ag),(3,Un),(10,CP),(11,Oa),(12,Oa)],[(2,Xa,RX),(3,Xa,UZ)]⟩,0,⟨[(2,Ag),(3,Un)],[(2,Xa,RX),(3,Xa,UZ)]⟩,⟨[],[]⟩,Fw⟩
def Tbk:WL:=[(3,EaE)]
theorem JaY:Ta (WG true XaH [] [] []) Tbk (lp f45 0):=Sb 3 (ls:=EaE) rfl
theorem Tbi:WO LaH:=Jd Qbj func45 (Ea JaY Ga)
abbrev Tbn:Ha:=.pu (.p Kr .u) (.p Kr .u) [true] (fun x=>Po x.1)
abbrev TaW:WF:=(80,Tbn)::LaH
def YaE:Na:=⟨19,⟨[(3,(.own 200001 Bi true)),(6,(.data Kr)),(7,Oa),(8,Oa)],[]⟩,0,⟨[(3,(.own 200001 Bi true))],[]⟩,⟨[],[]⟩,Gw⟩
def Mbl:WL:=[(3,YaE)]
theorem DaZ:Ta (WG true LaH [] [] []) Mbl (lp f80 0):=Sb 3 (ls:=YaE) rfl
theorem Xbj:WO TaW:=Jd Tbi func80 (Ea DaZ Ga)
abbrev Tba:Ha:=.pu TX TX [true] (fun x=>Rl x.1)
abbrev EaL:WF:=(104,Tba)::TaW
theorem La0:WO EaL:=Oc Xbj func104
abbrev Hbc:Ha:=.pu (.p Ac .u) (.p Ac .u) [true] (fun x=>Tm x.1)
abbrev SaL:WF:=(147,Hbc)::EaL
theorem Za1:WO SaL:=Oc La0 func147
abbrev Nbm:Ha:=.pu TS TS [true] (fun x=>Lk x.1)
abbrev BaW:WF:=(38,Nbm)::SaL
theorem Qbi:WO BaW:=Oc Za1 func38
abbrev Ibc:Ha:=.pu Lz Lz [true] (fun x=>Pu x.1)
abbrev Iaw:WF:=(148,Ibc)::BaW
theorem Aa2:WO Iaw:=Oc Qbi func148
abbrev Nbn:Ha:=.pu XZ XZ [true] (fun x=>Rk x.1)
abbrev OaW:WF:=(74,Nbn)::Iaw
def UaE:Na:=⟨30,⟨[(2,Ag),(3,Un),(11,US),(12,Oa),(13,Oa)],[(2,Bc,PU),(3,Bc,c4_)]⟩,0,⟨[(2,Ag),(3,Un)],[(2,Bc,PU),(3,Bc,c4_)]⟩,⟨[],[]⟩,It⟩
def Kbl:WL:=[(3,UaE)]
theorem ZaY:Ta (WG true Iaw [] [] []) Kbl (lp f74 0):=Sb 3 (ls:=UaE) rfl
theorem Rbj:WO OaW:=Jd Aa2 func74 (Ea ZaY Ga)
abbrev Nbf:Ha:=.pu (.p .s Nh) We [true] (fun x=>Xy x.1 x.2.1)
abbrev SaN:WF:=(236,Nbf)::OaW
theorem Fa5:WO SaN:=Oc Rbj func236
abbrev Jbc:Ha:=.pu (.p .s Nh) (.p .s We) [true,true] (fun x=>Wy x.1 x.2.1)
abbrev TaL:WF:=(149,Jbc)::SaN
theorem Ba2:WO TaL:=Oc Fa5 func149
abbrev Obn:Ha:=.pu (.p .s Nh) (.p .s We) [true,true] (fun x=>Rj x.1 x.2.1)
abbrev PaW:WF:=(75,Obn)::TaL
theorem Sbj:WO PaW:=Oc Ba2 func75
abbrev Kbc:Ha:=.pu (.p .s Nh) (.p (.sl .s) .u) [true] (fun x=>strings_Split x.1 x.2.1)
abbrev Jaw:WF:=(150,Kbc)::PaW
theorem Ca2:WO Jaw:=wc Sbj (Aap Tryz.lays_strings_Split (by kernel_rfl) HaI)
abbrev Ybm:Ha:=.pu (.p .s (.p OU .u)) (.p (.sl .s) .u) [true] (fun x=>Br x.1 x.2.1)
abbrev JaW:WF:=(58,Ybm)::Jaw
def KaE:Na:=⟨34,⟨[(0,Ri),(1,(.data OU)),(5,Tn),(6,Oa),(7,Oa)],[]⟩,0,⟨[(0,Ri),(5,Tn),(6,Oa)],[]⟩,⟨[],[]⟩,Xk⟩
def Zbk:WL:=[(4,KaE)]
theorem PaY:Ta (WG true Jaw [] [] []) Zbk (lp f58 0):=Sb 4 (ls:=KaE) rfl
theorem Bbj:WO JaW:=Jd Ca2 func58 (Ea PaY Ga)
abbrev Xbg:Ha:=.pu Tc Nh [true] (fun x=>Nn x.1)
abbrev KaO:WF:=(283,Xbg)::JaW
theorem Pa6:WO KaO:=Oc Bbj func283
abbrev Ybc:Ha:=.pu Tc Nh [true] (fun x=>strconv_Itoa x.1)
abbrev AaM:WF:=(164,Ybc)::KaO
theorem Qa2:WO AaM:=wc Pa6 (Yaz Tryz.lays_strconv_Itoa (by kernel_rfl) Nbk)
abbrev VaZ:Ha:=.pu Tc Nh [true] (fun x=>Qh x.1)
abbrev VaW:WF:=(84,VaZ)::AaM
theorem QaV:WO VaW:=Oc Qa2 func84
abbrev Sbc:Ha:=.pu Nh NH [true,true] (fun x=>Ot x.1)
abbrev Naw:WF:=(158,Sbc)::VaW
set_option maxRecDepth 100000 in
theorem SaA{I:Gh}{F:T (.p (.i .i64) .u)→Option (T Nh)}(hS:Th Tryz.prog I 84 (.pu (.p (.i .i64) .u) Nh [true] F))(hF:∀n:Int,-999999999≤n→n≤999999999→F (n,())=some (Lib.itoa n,()))
 (hv:∀w,I.p w→∃ev,w.cell? ⟨Tryz.lays_strconv_Atoi_ren.g 15,0,none⟩=some ev∧(ev=.nilIface∨∃te pe,ev=.iface te pe)):
 ∀(s:List UInt8) (w:World),I.p w→I.base≤w.heap.size→Calls Tryz.prog 158 #[.string ⟨List.toArray s⟩] w fun e w'=>e=.returned (.tuple #[.int .i64 (Oj s).1,.bool (Oj s).2.1])∧Go.RowKit.Below w.heap.size w w':=by
 intro s w hi hb
 have hsz:(⟨List.toArray s⟩:ByteArray).size=s.length:=by show(List.toArray s).size=_;simp
 have hdl:(⟨List.toArray s⟩:ByteArray).data.toList=s:=RR s
 unfold Oj
 generalize hbs:(⟨List.toArray s⟩:ByteArray)=bs at hsz hdl⊢
 by_cases h1:s.length<1
 ·rw[show Nat.blt (List.length s) 1=true from Nat.ble_eq_true_of_le (by omega)]
  simp only[Bool.true_or,cond_true]
  go_enter Tryz.func158,Tryz.ntmps158
  go_wp2
  all_goals(first|(exfalso;omega)|skip)
  go_ret2
  exact⟨rfl,Go.RowKit.Below.refl _ _⟩
 rw[show Nat.blt (List.length s) 1=false from Bool.eq_false_iff.2 fun h=>absurd (Nat.le_of_ble_eq_true h) (by omega)]
 by_cases h2:10<s.length
 ·rw[show Nat.blt 10 (List.length s)=true from Nat.ble_eq_true_of_le (by omega)]
  simp only[Bool.or_true,cond_true]
  go_enter Tryz.func158,Tryz.ntmps158
  go_wp2
  all_goals(first|(exfalso;omega)|skip)
  go_ret2
  exact⟨rfl,Go.RowKit.Below.refl _ _⟩
 rw[show Nat.blt 10 (List.length s)=false from Bool.eq_false_iff.2 fun h=>absurd (Nat.le_of_ble_eq_true h) (by omega)]
 simp only[Bool.or_false,cond_false]
 obtain⟨ev,hv1,hev⟩:=hv w hi
 have hI1:∀{w'},Go.RowKit.Below w.heap.size w w'→I.p w'∧I.base≤w'.heap.size:=fun hB=>⟨I.st w _ (fun b hb'=>hB.block b (Nat.lt_of_lt_of_le hb' hb)) hi,Nat.le_trans hb hB.size⟩
 cases ha:Lib.atoi s with
 |none=>
  simp only[]
  go_enter Tryz.func158,Tryz.ntmps158
  go_wp2_with (go_at_call 243;refine(Any.strconv_Atoi_err Tryz.lays_strconv_Atoi bs (by omega) (by rw[hdl];exact ha) ev _ ?_ hev).mono ?_)
  all_goals(first|(exfalso;omega)|skip)
  ·exact hv1
  rintro e W1 ⟨N,rfl,-,-,hB⟩
  go_wp2
  go_ret2
  exact⟨rfl,hB⟩
 |some n=>
  simp only[]
  obtain⟨hn1,hn2⟩:=Lib.atoi_bound ha (by omega)
  by_cases h3:n< -999999999
  ·rw[show decide (n< -999999999)=true from decide_eq_true h3]
   simp only[Bool.true_or,cond_true]
   go_enter Tryz.func158,Tryz.ntmps158
   go_wp2_with (go_at_call 243;refine(Any.strconv_Atoi {Tryz.lays_strconv_Atoi with} bs n (by omega) (by rw[hdl];exact ha) _).mono ?_;rintro e w' ⟨rfl,t,rfl⟩)
   all_goals(first|(exfalso;omega)|skip)
   go_ret2
   exact⟨rfl,Lib.bytesWorld_below _ _ _⟩
  rw[show decide (n< -999999999)=false from decide_eq_false h3]
  by_cases h4:n>999999999
  ·rw[show decide (n>999999999)=true from decide_eq_true h4]
   simp only[Bool.false_or,Bool.true_or,cond_true]
   go_enter Tryz.func158,Tryz.ntmps158
   go_wp2_with (go_at_call 243;refine(Any.strconv_Atoi {Tryz.lays_strconv_Atoi with} bs n (by omega) (by rw[hdl];exact ha) _).mono ?_;rintro e w' ⟨rfl,t,rfl⟩)
   all_goals(first|(exfalso;omega)|skip)
   go_ret2
   exact⟨rfl,Lib.bytesWorld_below _ _ _⟩
  rw[show decide (n>999999999)=false from decide_eq_false h4]
  simp only[Bool.false_or]
  have hfi:∀w',Go.RowKit.Below w.heap.size w w'→Calls Tryz.prog 84 #[.int .i64 n] w' fun e w''=>e=.returned (.string ⟨List.toArray (Lib.itoa n)⟩)∧Go.RowKit.Below w.heap.size w w'':=fun w' hB=>
   (Pah hS (hF n (by omega) (by omega)) w' (hI1 hB).1 (hI1 hB).2).mono fun e w'' h=>⟨h.1,hB.trans (h.2.mono hB.size)⟩
  by_cases h5:Lib.itoa n=s
  ·rw[show(Lib.itoa n !=s)=false from by rw[h5];simp]
   simp only[cond_false]
   rw[h5,hbs]at hfi
   go_enter Tryz.func158,Tryz.ntmps158
   go_wp2_with (first|(go_at_call 243;refine(Any.strconv_Atoi {Tryz.lays_strconv_Atoi with} bs n (by omega) (by rw[hdl];exact ha) _).mono ?_;rintro e w' ⟨rfl,t,rfl⟩)|(go_at_call 84;refine(hfi _ (Lib.bytesWorld_below _ _ _)).mono ?_;rintro e w' ⟨rfl,hB⟩))
   all_goals(first|(exfalso;omega)|skip)
   go_ret2
   exact⟨rfl,hB⟩
  ·rw[show(Lib.itoa n !=s)=true from bne_iff_ne.2 h5]
   simp only[cond_true]
   have hbl:bs.toList=s:=by rw[←hbs];simp
   have hne:(⟨List.toArray (Lib.itoa n)⟩:ByteArray)≠bs:=fun h=>h5 (by rw[←hbs]at h;simpa using h)
   go_enter Tryz.func158,Tryz.ntmps158
   go_wp2_with (first|(go_at_call 243;refine(Any.strconv_Atoi {Tryz.lays_strconv_Atoi with} bs n (by omega) (by rw[hdl];exact ha) _).mono ?_;rintro e w' ⟨rfl,t,rfl⟩)|(go_at_call 84;refine(hfi _ (Lib.bytesWorld_below _ _ _)).mono ?_;rintro e w' ⟨rfl,hB⟩))
   all_goals(first|(exfalso;omega)|skip)
   ·go_ret2
    exact⟨rfl,hB⟩
   ·rename_i hh
    exact absurd hh.2 (by simp[h5])
theorem Ka2:WO Naw:=wc QaV (TaA ⟨_,func158,rfl,rfl⟩ (SaA (YaK (s:=VaZ) QaV (by kernel_rfl)) (fun n h1 h2=>by show Qh n=_;unfold Qh strconv_Itoa;rw[Ea0 h1 h2];rfl) Mbk))
abbrev Zbd:Ha:=.pu Tc Nh [true] (fun x=>Sj x.1)
abbrev Yaw:WF:=(196,Zbd)::Naw
def Cas:Na:=⟨28,⟨[(0,Oa),(3,Ri),(12,Tn),(13,Oa),(14,Oa)],[]⟩,0,⟨[(3,Ri)],[]⟩,⟨[],[]⟩,Bw⟩
def Qa8:WL:=[(5,Cas)]
theorem FaS:Ta (WG true Naw [] [] []) Qa8 (lp f196 0):=Sb 5 (ls:=Cas) rfl
theorem Ra3:WO Yaw:=Jd Ka2 func196 (Ea FaS Ga)
abbrev Ybg:Ha:=.pu Nh Tc [true] (fun x=>Ar x.1)
abbrev LaO:WF:=(284,Ybg)::Yaw
def Rat:Na:=⟨13,⟨[(0,Ri),(3,Oa)],[]⟩,0,⟨[],[]⟩,⟨[(2,Oa)],[]⟩,Wk⟩
def Aba:WL:=[(2,Rat)]
theorem TaT:Ta (WG true Yaw [] [] []) Aba (lp f284 0):=Sb 2 (ls:=Rat) rfl
theorem Qa6:WO LaO:=Jd Ra3 func284 (Ea TaT Ga)
abbrev Obc:Ha:=.pu (.p .s Nh) (.p .s (.p .s We)) [true,true,true] (fun x=>strings_Cut x.1 x.2.1)
abbrev Kaw:WF:=(154,Obc)::LaO
theorem Ga2:WO Kaw:=wc Qa6 (YaC Tryz.lays_strings_Cut (by kernel_rfl) HaI)
abbrev Zbg:Ha:=.pu Nh Tc [true] (fun x=>Zv x.1)
abbrev Zax:WF:=(285,Zbg)::Kaw
def Sat:Na:=⟨18,⟨[(0,Ri),(5,Tn),(6,Oa),(7,Oa)],[]⟩,0,⟨[],[]⟩,⟨[(2,Oa)],[]⟩,Yn⟩
def Bba:WL:=[(2,Sat)]
theorem UaT:Ta (WG true Kaw [] [] []) Bba (lp f285 0):=Sb 2 (ls:=Sat) rfl
theorem Ra6:WO Zax:=Jd Ga2 func285 (Ea UaT Ga)
abbrev Obf:Ha:=.pu Nh Jm [true] (fun x=>DA x.1)
abbrev TaN:WF:=(238,Obf)::Zax
def Was:Na:=⟨98,⟨[(0,Ri),(2,Ag),(29,Wv),(30,Oa),(31,Oa)],[(2,Db,(.data Db))]⟩,1,⟨[(0,Ri),(2,Ag)],[(2,Db,(.data Db))]⟩,⟨[(2,Ag)],[(2,Db,(.data Db))]⟩,Jt⟩
def Ja9:WL:=[(9,Was)]
theorem ZaS:Ta (WG true Zax [] [] []) Ja9 (lp f238 0):=Sb 9 (ls:=Was) rfl
theorem Ga5:WO TaN:=Jd Ra6 func238 (Ea ZaS Ga)
abbrev Ybd:Ha:=.pu Tc Nh [true] (fun x=>Zc x.1)
abbrev RaM:WF:=(195,Ybd)::TaN
theorem Qa3:WO RaM:=Oc Ga5 func195
abbrev Pbf:Ha:=.pu Jm Nh [true] (fun x=>Wl x.1)
abbrev UaN:WF:=(239,Pbf)::RaM
theorem Ha5:WO UaN:=Oc Qa3 func239
abbrev Lbc:Ha:=.pu Nh (.p Db We) [true,true] (fun x=>Tr x.1)
abbrev UaL:WF:=(151,Lbc)::UaN
theorem Da2:WO UaL:=Oc Ha5 func151
abbrev Zbc:Ha:=.pu (.p (.sl .s) Nh) Nh [true] (fun x=>strings_Join x.1 x.2.1)
abbrev BaM:WF:=(165,Zbc)::UaL
theorem Ra2:WO BaM:=wc Da2 (Zaz Tryz.lays_strings_Join (by kernel_rfl) Tryz.extra_strings_Join)
abbrev Xbn:Ha:=.pu (.p (.sl .s) Nh) Nh [true] (fun x=>Mh x.1 x.2.1)
abbrev Nay:WF:=(85,Xbn)::BaM
theorem Bbk:WO Nay:=Oc Ra2 func85
abbrev Mbc:Ha:=.pu QU Nh [true] (fun x=>Np x.1)
abbrev Fai:WF:=(152,Mbc)::Nay
def Kar:Na:=⟨39,⟨[(3,(.own 200101 .s true)),(6,Aad),(13,CP),(14,Oa),(15,Oa),(19,(.data Jl)),(20,Oa),(21,Oa)],[]⟩,2,⟨[(3,(.own 200101 .s true)),(6,Aad),(13,CP),(14,Oa),(15,Oa)],[]⟩,⟨[],[]⟩,Nr⟩
def Jar:Na:=⟨39,⟨[(3,Tn),(13,CP),(14,Oa),(15,Oa)],[]⟩,0,⟨[(3,Tn)],[]⟩,⟨[],[]⟩,Mr⟩
def YaO:WL:=[(9,Kar),(5,Jar)]
theorem NaR:Ta (WG true Nay [] [] []) YaO (lp f152 1):=Sb 9 (ls:=Kar) rfl
theorem MaR:Ta (WG true Nay [] [] []) YaO (lp f152 0):=Sb 5 (ls:=Jar) rfl
theorem Ea2:WO Fai:=Jd Bbk func152 (Ea NaR (Ea MaR Ga))
abbrev Pbn:Ha:=.pu Nh (.p Xa We) [true,true] (fun x=>AA x.1)
abbrev QaW:WF:=(76,Pbn)::Fai
def WaE:Na:=⟨71,⟨[(0,Ri),(2,Ag),(4,Yv),(7,(.own 200101 Db true)),(13,Aad),(14,Oa),(15,Oa),(20,(.own 200103 .s true)),(21,Oa),(22,Oa)],[(2,Xa,(.pr Oa (.pr (.own 200104 Jl true) .un))),(4,Xa,(.pr Oa (.pr (.own 200105 Jl true) .un)))]⟩,2,⟨[(0,Ri),(2,Ag),(4,Yv),(7,(.own 200101 Db true)),(13,Aad),(14,Oa),(15,Oa)],[(2,Xa,(.pr Oa (.pr (.own 200103 Jl true) .un))),(4,Xa,(.pr Oa (.pr (.own 200104 Jl true) .un)))]⟩,⟨[(2,Ag),(3,Ch)],[(2,Xa,(.pr Oa (.pr (.own 200101 Jl true) .un)))]⟩,Ht⟩
def VaE:Na:=⟨71,⟨[(0,Ri),(2,Ag),(4,Yv),(13,Tn),(14,Oa),(15,Oa)],[(2,Xa,(.pr Oa (.pr (.own 200002 Jl true) .un))),(4,Xa,(.pr Oa (.pr (.own 200003 Jl true) .un)))]⟩,0,⟨[(0,Ri),(2,Ag),(4,Yv)],[(2,Xa,UZ),(4,Xa,(.pr Oa (.pr (.own 200002 Jl true) .un)))]⟩,⟨[(2,Ag),(3,Ch)],[(2,Xa,UZ)]⟩,Gt⟩
def EaX:WL:=[(7,WaE),(3,VaE)]
theorem BaZ:Ta (WG true Fai [] [] []) EaX (lp f76 1):=Sb 7 (ls:=WaE) rfl
theorem AaZ:Ta (WG true Fai [] [] []) EaX (lp f76 0):=Sb 3 (ls:=VaE) rfl
theorem Tbj:WO QaW:=Jd Ea2 func76 (Ea BaZ (Ea AaZ Ga))
abbrev Obm:Ha:=.pu (.p Xa (.p Kr .u)) (.p Mb We) [true,true] (fun x=>JG x.1 x.2.1)
abbrev CaW:WF:=(39,Obm)::QaW
theorem Rbi:WO CaW:=Oc Tbj func39
abbrev Nbc:Ha:=.pu (.p Mb AM) (.p Ac We) [true,true] (fun x=>XC x.1 x.2.1)
abbrev VaL:WF:=(153,Nbc)::CaW
theorem Fa2:WO VaL:=Oc Rbi func153
abbrev Qbn:Ha:=.pu (.p Xa (.p Kr AM)) (.p Bc We) [true,true] (fun x=>Mn x.1 x.2.1 x.2.2.1)
abbrev RaW:WF:=(77,Qbn)::VaL
theorem Ubj:WO RaW:=Oc Fa2 func77
abbrev Rbn:Ha:=.co (.p Bc (.p Bc We)) QS [true,true] (fun x=>Ek x.1 x.2.1 x.2.2.1)
abbrev SaW:WF:=(78,Rbn)::RaW
theorem Vbj:WO SaW:=wco (L:=[]) (m:=[]) (v:=[]) (l:=[]) (z:=false) Ubj func78 Ga
abbrev Pbc:Ha:=.pu (.p .s Nh) Tc [true] (fun x=>strings_Index x.1 x.2.1)
abbrev Law:WF:=(155,Pbc)::SaW
theorem Ha2:WO Law:=wc Vbj (Pao Tryz.lays_strings_Index (by kernel_rfl) HaI)
abbrev Rbc:Ha:=.pu (.p Bi .u) Nh [true] (fun x=>Wz x.1)
abbrev Maw:WF:=(157,Rbc)::Law
def Mar:Na:=⟨35,⟨[(3,Tn),(9,(.data Bi)),(10,Oa),(11,Oa)],[]⟩,0,⟨[(3,Tn)],[]⟩,⟨[],[]⟩,Ft⟩
def Ea8:WL:=[(5,Mar)]
theorem PaR:Ta (WG true Law [] [] []) Ea8 (lp f157 0):=Sb 5 (ls:=Mar) rfl
theorem Ja2:WO Maw:=Jd Ha2 func157 (Ea PaR Ga)
abbrev Sbn:Ha:=.pu Nh (.p Bi We) [true,true] (fun x=>YC x.1)
abbrev YaH:WF:=(79,Sbn)::Maw
def XaE:Na:=⟨75,⟨[(0,Ri),(4,N2),(16,(.own 200002 .s true)),(17,Oa),(18,Oa)],[]⟩,0,⟨[(0,Ri),(4,N2)],[]⟩,⟨[(2,N2),(3,Ch)],[]⟩,Dw⟩
def Lbl:WL:=[(5,XaE)]
theorem CaZ:Ta (WG true Maw [] [] []) Lbl (lp f79 0):=Sb 5 (ls:=XaE) rfl
theorem Wbj:WO YaH:=Jd Ja2 func79 (Ea CaZ Ga)
abbrev Ubn:Ha:=.pu (.p (.sl .s) Tc) (.p Kz We) [true,true] (fun x=>Sg x.1 x.2.1)
abbrev ZaH:WF:=(81,Ubn)::YaH
def ZaE:Na:=⟨36,⟨[(6,Wv),(17,(.data (.sl .s))),(18,Oa),(19,Oa)],[]⟩,0,⟨[(6,Wv)],[]⟩,⟨[(4,Wv),(5,Ch)],[]⟩,EC⟩
def Nbl:WL:=[(5,ZaE)]
theorem EaZ:Ta (WG true YaH [] [] []) Nbl (lp f81 0):=Sb 5 (ls:=ZaE) rfl
theorem Ybj:WO ZaH:=Jd Wbj func81 (Ea EaZ Ga)
abbrev Xbd:Ha:=.pu (.p Mb Tc) Tc [true] (fun x=>XQ x.1 x.2.1)
abbrev QaM:WF:=(194,Xbd)::ZaH
def Bas:Na:=⟨21,⟨[(1,Oa),(8,Ol),(9,Oa),(10,Oa)],[]⟩,0,⟨[],[]⟩,⟨[(4,Oa)],[]⟩,NE⟩
def Pa8:WL:=[(2,Bas)]
theorem EaS:Ta (WG true ZaH [] [] []) Pa8 (lp f194 0):=Sb 2 (ls:=Bas) rfl
theorem Pa3:WO QaM:=Jd Ybj func194 (Ea EaS Ga)
abbrev Cbh:Ha:=.io Kz .u .u [] (fun x0 _=>sort_Ints x0)
abbrev Cay:WF:=(297,Cbh)::QaM
end
end KF
namespace Go.Proofs
open Go.Shelf
def Tryz.lays_sort_Ints_ren:Go.Shelf.Ren:=⟨fun|191=>297|189=>327|125=>342|257=>341|128=>356|129=>337|294=>347|295=>348|296=>349|297=>350|298=>351|299=>352|216=>353|300=>354|301=>355|328=>357|329=>358|330=>359|331=>360|332=>361|215=>362|343=>363|n=>n,fun|28=>29|0=>0|3=>3|46=>242|51=>327|53=>339|4=>4|183=>370|182=>369|131=>135|5=>5|9=>9|218=>378|222=>382|228=>384|229=>336|n=>n,fun|n=>n⟩
theorem Tryz.lays_sort_Ints:Go.Proofs.Lays.n191 Tryz.prog Tryz.lays_sort_Ints_ren:={
 mixed:=by kernel_rfl
 f125:=Tryz.func342.trans (congrArg some (by kernel_rfl))
 f128:=Tryz.func356.trans (congrArg some (by kernel_rfl))
 f129:=Tryz.func337.trans (congrArg some (by kernel_rfl))
 f189:=Tryz.func327.trans (congrArg some (by kernel_rfl))
 f191:=Tryz.func297.trans (congrArg some (by kernel_rfl))
 f215:=Tryz.func362.trans (congrArg some (by kernel_rfl))
 f216:=Tryz.func353.trans (congrArg some (by kernel_rfl))
 f257:=Tryz.func341.trans (congrArg some (by kernel_rfl))
 f294:=Tryz.func347.trans (congrArg some (by kernel_rfl))
 f295:=Tryz.func348.trans (congrArg some (by kernel_rfl))
 f296:=Tryz.func349.trans (congrArg some (by kernel_rfl))
 f297:=Tryz.func350.trans (congrArg some (by kernel_rfl))
 f298:=Tryz.func351.trans (congrArg some (by kernel_rfl))
 f299:=Tryz.func352.trans (congrArg some (by kernel_rfl))
 f300:=Tryz.func354.trans (congrArg some (by kernel_rfl))
 f301:=Tryz.func355.trans (congrArg some (by kernel_rfl))
 f328:=Tryz.func357.trans (congrArg some (by kernel_rfl))
 f329:=Tryz.func358.trans (congrArg some (by kernel_rfl))
 f330:=Tryz.func359.trans (congrArg some (by kernel_rfl))
 f331:=Tryz.func360.trans (congrArg some (by kernel_rfl))
 f332:=Tryz.func361.trans (congrArg some (by kernel_rfl))
 f343:=Tryz.func363.trans (congrArg some (by kernel_rfl))
 t0:=Tryz.underlying0
 a0:=Tryz.isAgg0
 z0:=Tryz.sizeOf0
 v0:=Tryz.zeroValue0
 t3:=Tryz.underlying3
 a3:=Tryz.isAgg3
 z3:=Tryz.sizeOf3
 v3:=Tryz.zeroValue3
 t4:=Tryz.underlying4
 a4:=Tryz.isAgg4
 z4:=Tryz.sizeOf4
 v4:=Tryz.zeroValue4
 t5:=Tryz.underlying5
 a5:=Tryz.isAgg5
 z5:=Tryz.sizeOf5
 v5:=Tryz.zeroValue5
 t9:=Tryz.underlying9
 a9:=Tryz.isAgg9
 z9:=Tryz.sizeOf9
 v9:=Tryz.zeroValue9
 t28:=Tryz.underlying29
 a28:=Tryz.isAgg29
 z28:=Tryz.sizeOf29
 v28:=Tryz.zeroValue29
 t46:=Tryz.underlying242
 a46:=Tryz.isAgg242
 z46:=Tryz.sizeOf242
 v46:=Tryz.zeroValue242
 t51:=Tryz.underlying327
 a51:=Tryz.isAgg327
 z51:=Tryz.sizeOf327
 v51:=Tryz.zeroValue327
 t53:=Tryz.underlying339
 a53:=Tryz.isAgg339
 z53:=Tryz.sizeOf339
 v53:=Tryz.zeroValue339
 t131:=Tryz.underlying135
 a131:=Tryz.isAgg135
 z131:=Tryz.sizeOf135
 v131:=Tryz.zeroValue135
 t182:=Tryz.underlying369
 a182:=Tryz.isAgg369
 z182:=Tryz.sizeOf369
 v182:=Tryz.zeroValue369
 t183:=Tryz.underlying370
 a183:=Tryz.isAgg370
 z183:=Tryz.sizeOf370
 v183:=Tryz.zeroValue370
 t218:=Tryz.underlying378
 a218:=Tryz.isAgg378
 z218:=Tryz.sizeOf378
 v218:=Tryz.zeroValue378
 t222:=Tryz.underlying382
 a222:=Tryz.isAgg382
 z222:=Tryz.sizeOf382
 v222:=Tryz.zeroValue382
 t228:=Tryz.underlying384
 a228:=Tryz.isAgg384
 z228:=Tryz.sizeOf384
 v228:=Tryz.zeroValue384
 t229:=Tryz.underlying336
 a229:=Tryz.isAgg336
 z229:=Tryz.sizeOf336
 v229:=Tryz.zeroValue336}
end Go.Proofs
namespace KF
open Go Go.Proofs Go.Proofs.Tryz
noncomputable section
theorem Ua6:WO Cay:=wc Pa3 (CaB Tryz.lays_sort_Ints (by kernel_rfl))
abbrev Dbh:Ha:=.pu (.p Kz Tc) We [true] (fun x=>JI x.1 x.2.1)
abbrev Day:WF:=(298,Dbh)::Cay
def Vat:Na:=⟨17,⟨[(1,Oa),(7,VS),(8,Oa),(9,Oa)],[]⟩,0,⟨[],[]⟩,⟨[(4,Ch)],[]⟩,SE⟩
def Dba:WL:=[(2,Vat)]
theorem XaT:Ta (WG true Cay [] [] []) Dba (lp f298 0):=Sb 2 (ls:=Vat) rfl
theorem Va6:WO Day:=Jd Ua6 func298 (Ea XaT Ga)
abbrev Tbf:Ha:=.pu TS TS [true] (fun x=>Vx x.1)
abbrev Kax:WF:=(250,Tbf)::Day
def Zas:Na:=⟨31,⟨[(4,Wv),(11,(.own 200002 int true)),(12,Oa),(13,Oa)],[]⟩,0,⟨[(4,Wv)],[]⟩,⟨[],[]⟩,DC⟩
def Ma9:WL:=[(5,Zas)]
theorem CaT:Ta (WG true Day [] [] []) Ma9 (lp f250 0):=Sb 5 (ls:=Zas) rfl
theorem La5:WO Kax:=Jd Va6 func250 (Ea CaT Ga)
abbrev Bbd:Ha:=.pu SS Lz [true] (fun x=>Ee x.1)
abbrev Qaw:WF:=(167,Bbd)::Kax
def Rar:Na:=⟨45,⟨[(2,Ag),(3,Un),(4,Wv),(11,Ol),(12,Oa),(13,Oa)],[(2,Jb,FH),(3,Jb,FH)]⟩,0,⟨[(2,Ag),(3,Un),(4,Wv)],[(2,Jb,FH),(3,Jb,FH)]⟩,⟨[],[]⟩,BA⟩
def Ha8:WL:=[(6,Rar)]
theorem UaR:Ta (WG true Kax [] [] []) Ha8 (lp f167 0):=Sb 6 (ls:=Rar) rfl
theorem Ta2:WO Qaw:=Jd La5 func167 (Ea UaR Ga)
abbrev Jbh:Ha:=.pu (.p Kz TS) We [true] (fun x=>IJ x.1 x.2.1)
abbrev NaO:WF:=(304,Jbh)::Qaw
def Aau:Na:=⟨26,⟨[(0,VS),(1,VS),(12,Oa),(13,Oa)],[]⟩,0,⟨[],[]⟩,⟨[(4,Ch)],[]⟩,HA⟩
def Iba:WL:=[(4,Aau)]
theorem CaU:Ta (WG true Qaw [] [] []) Iba (lp f304 0):=Sb 4 (ls:=Aau) rfl
theorem Ba7:WO NaO:=Jd Ta2 func304 (Ea CaU Ga)
abbrev PaP:Ha:=.pu (.p Jb Lz) We [true] (fun x=>Ju x.1 x.2.1)
abbrev DaO:WF:=(265,PaP)::NaO
theorem BaL:WO DaO:=Oc Ba7 func265
abbrev Wbd:Ha:=.co (.p Jb EP) EP [true] (fun x=>Sf x.1 x.2.1)
abbrev PaM:WF:=(193,Wbd)::DaO
def GTo:List (Nat×Ty):=[(3,int),(33,(.sl SX)),(104,SX)]
theorem BaX:((GTo.all fun x=>Qe Tryz.prog x.2 x.1)&&(([]:List (Nat×Ty×Nat)).all fun x=>O7 Tryz.prog x.1 x.2.1 x.2.2))=true:=by kernel_rfl
@[reducible]def MaI(c:T Lf→T Lf→Option Bool):Ha:=.pu (.p SX (.p (.sl SX) .u)) (.p (.sl SX) .u) [true] (fun x=>Gaz c x.1 x.2.1)
def RaC(c:T Lf→T Lf→Option Bool):Yf:=⟨GTo,[(265,Oae c)],[],true,[],[],[]⟩
theorem LaI(I:Gh)(c:T Lf→T Lf→Option Bool)(h:Th Tryz.prog I 265 (Oae c)):Ll Tryz.prog I (RaC c):=Ll.cons h (Vaf BaX)
def Laf(c:T Lf→T Lf→Option Bool):Na:=⟨25,⟨[(2,Ag),(5,(.own 200001 SX true)),(8,(.data (.sl SX))),(9,Oa),(10,Oa)],[(2,SX,(.data SX))]⟩,0,⟨[(5,(.own 200001 SX true))],[]⟩,⟨[],[]⟩,SB c⟩
def SaC(c:T Lf→T Lf→Option Bool):List (Nat×Na):=[(3,Laf c)]
theorem Haz(c:T Lf→T Lf→Option Bool):Ta (RaC c) (SaC c) (lp Tryz.f193 0):=Cag (r:=3) (ls:=Laf c) (R:=fun x=>HP c x.1.1 x.1.2.1 x.1.2.2.1 x.1.2.2.2.1 x.1.2.2.2.2.1 x.2.1) (by kernel_rfl) (by kernel_rfl) rfl (fun x=>by kernel_rfl)
theorem NaI(I:Gh)(c:T Lf→T Lf→Option Bool)(h:Th Tryz.prog I 265 (Oae c)):Th Tryz.prog I 193 (MaI c):=N4 (L:=SaC c) (k:=1) (LaI I c h) Iaf Tryz.func193 (by kernel_rfl) (Ea (Haz c) Ga) (fun x=>by kernel_rfl)
theorem Oa3:WO PaM:=wc BaL (HaG (f2:=265) (SR:=fun x=>Ju x.1 x.2.1) (same:=Mm) PaK (YaK (s:=PaP) BaL (by kernel_rfl)) (fun I c h=>⟨_,NaI I c h,XaP c⟩))
abbrev Qba:Ha:=.pu (.p Mb Tc) (.p Mb EP) [true,true] (fun x=>UE x.1 x.2.1)
abbrev Kav:WF:=(101,Qba)::PaM
theorem Ia0:WO Kav:=Oc Oa3 func101
abbrev Abd:Ha:=.pu (.p int SS) Tc [true] (fun x=>Nt x.1 x.2.1)
abbrev Paw:WF:=(166,Abd)::Kav
def Qar:Na:=⟨39,⟨[(5,Oa),(21,Ol),(22,Oa),(23,Oa)],[]⟩,0,⟨[(5,Oa)],[]⟩,⟨[],[]⟩,Ql⟩
def Ga8:WL:=[(7,Qar)]
theorem TaR:Ta (WG true Kav [] [] []) Ga8 (lp f166 0):=Sb 7 (ls:=Qar) rfl
theorem Sa2:WO Paw:=Jd Ia0 func166 (Ea TaR Ga)
abbrev Rbd:Ha:=.pu WZ Tc [true] (fun x=>Xx x.1 x.2.1 x.2.2.1)
abbrev LaM:WF:=(188,Rbd)::Paw
def Zar:Na:=⟨33,⟨[(1,Oa),(2,Oa),(3,Un),(7,Oa)],[(3,Xa,Mz)]⟩,0,⟨[],[]⟩,⟨[(6,Oa)],[]⟩,Ak⟩
def Na8:WL:=[(2,Zar)]
theorem CaS:Ta (WG true Paw [] [] []) Na8 (lp f188 0):=Sb 2 (ls:=Zar) rfl
theorem Ja3:WO LaM:=Jd Sa2 func188 (Ea CaS Ga)
abbrev Tbh:Ha:=.pu WZ Tc [true] (fun x=>BV x.1 x.2.1 x.2.2.1)
abbrev SaO:WF:=(335,Tbh)::LaM
theorem La7:WO SaO:=Oc Ja3 func335
abbrev Obh:Ha:=.pu WZ Jm [true] (fun x=>HJ x.1 x.2.1 x.2.2.1)
abbrev QaO:WF:=(319,Obh)::SaO
theorem Ga7:WO QaO:=Oc La7 func319
abbrev Fbg:Ha:=.pu Jm We [true] (fun x=>Zq x.1)
abbrev Pax:WF:=(262,Fbg)::QaO
theorem Xa5:WO Pax:=Oc Ga7 func262
abbrev Pbh:Ha:=.pu (.p Xb (.p int (.p int (.p MH Tc)))) Zh [true,true] (fun x=>IB x.1 x.2.1 x.2.2.1 x.2.2.2.1 x.2.2.2.2.1)
abbrev RaO:WF:=(320,Pbh)::Pax
def Cau:Na:=⟨102,⟨[(1,Oa),(2,Oa),(4,Oa),(5,CM),(12,Oa),(26,BM),(27,Oa),(28,Oa)],[(5,Xb,(.data Xb))]⟩,0,⟨[(2,Oa),(4,Oa),(5,CM)],[(5,Xb,(.data Xb))]⟩,⟨[(10,Oa),(11,Oa)],[]⟩,Sz⟩
def Jba:WL:=[(5,Cau)]
theorem EaU:Ta (WG true Pax [] [] []) Jba (lp f320 0):=Sb 5 (ls:=Cau) rfl
theorem Ha7:WO RaO:=Jd Xa5 func320 (Ea EaU Ga)
abbrev Sbd:Ha:=.pu Jm Jm [true] (fun x=>YQ x.1)
abbrev MaM:WF:=(189,Sbd)::RaO
theorem Ka3:WO MaM:=Oc Ha7 func189
abbrev Tbd:Ha:=.pu Jm Jm [true] (fun x=>WT x.1)
abbrev NaM:WF:=(190,Tbd)::MaM
theorem La3:WO NaM:=Oc Ka3 func190
abbrev Gbg:Ha:=.pu Tc We [true] (fun x=>WC x.1)
abbrev CaO:WF:=(263,Gbg)::NaM
theorem Ya5:WO CaO:=Oc La3 func263
abbrev Ubd:Ha:=.bx false false Mb Jm Jm [true] (fun x0 x=>Iw x0 x.1)
abbrev Xaw:WF:=(191,Ubd)::CaO
theorem Ma3:WO Xaw:=wbx (L:=[]) (m:=[]) (v:=[]) (l:=[]) (z:=false) Ya5 func191 Ga
abbrev Hbg:Ha:=.pu (.p Jb (.p (.sl Zh) .u)) Lz [true] (fun x=>Og x.1 x.2.1)
abbrev Qax:WF:=(264,Hbg)::Xaw
def Hat:Na:=⟨37,⟨[(4,Yv),(5,CM),(6,Wv),(15,(.data (.sl Zh))),(16,Oa),(17,Oa)],[(4,Jb,FH),(5,Jb,FH)]⟩,0,⟨[(4,Yv),(5,CM),(6,Wv)],[(4,Jb,FH),(5,Jb,FH)]⟩,⟨[],[]⟩,Zx⟩
def Ua9:WL:=[(4,Hat)]
theorem KaT:Ta (WG true Xaw [] [] []) Ua9 (lp f264 0):=Sb 4 (ls:=Hat) rfl
theorem Za5:WO Qax:=Jd Ma3 func264 (Ea KaT Ga)
abbrev Vbd:Ha:=.pu (.p DP (.p Bi .u)) EP [true] (fun x=>Xl x.1 x.2.1)
abbrev OaM:WF:=(192,Vbd)::Qax
def Aas:Na:=⟨74,⟨[(5,CM),(6,QX),(7,(.own 200002 Zh true)),(22,(.data Bi)),(23,Oa),(24,Oa)],[(5,Jb,(.pr Oa (.pr (.own 200003 int true) .un)))]⟩,0,⟨[(6,QX)],[]⟩,⟨[],[]⟩,Sr⟩
def Oa8:WL:=[(7,Aas)]
theorem DaS:Ta (WG true Qax [] [] []) Oa8 (lp f192 0):=Sb 7 (ls:=Aas) rfl
theorem Na3:WO OaM:=Jd Za5 func192 (Ea DaS Ga)
abbrev Pba:Ha:=.pu (.p Mb NH) (.p Mb EP) [true,true] (fun x=>Mj x.1 x.2.1 x.2.2.1)
abbrev CaL:WF:=(100,Pba)::OaM
theorem Ha0:WO CaL:=Oc Na3 func100
abbrev Abh:Ha:=.bx false false Ac .u (.p PS We) [true,true] (fun x0 x=>Lj x0)
abbrev Aay:WF:=(292,Abh)::CaL
theorem Sa6:WO Aay:=wbx (L:=[]) (m:=[]) (v:=[]) (l:=[]) (z:=false) Ha0 func292 Ga
abbrev Bbh:Ha:=.co (.p LH (.p int EP)) (.p LH .u) [true] (fun x=>ZR x.1 x.2.1 x.2.2.1)
abbrev Bay:WF:=(293,Bbh)::Aay
def Uat:Na:=⟨23,⟨[(0,VZ),(1,Oa),(9,(.mov 200002 Jb)),(10,Oa),(11,Oa)],[]⟩,0,⟨[(0,VZ)],[]⟩,⟨[],[]⟩,LK⟩
def Cba:WL:=[(2,Uat)]
theorem WaT:Ta (WG false Aay [] [] [14]) Cba (lp f293 0):=Sb 2 (ls:=Uat) rfl
theorem Ta6:WO Bay:=wco Sa6 func293 (Ea WaT Ga)
abbrev Rbf:Ha:=.pu (.p Ac (.p MH Tc)) P7 [true,true,true] (fun x=>Hu x.1 x.2.1 x.2.2.1)
abbrev VaN:WF:=(244,Rbf)::Bay
def Yas:Na:=⟨86,⟨[(6,(.ptr 6 [])),(9,(.ptr 9 [])),(10,VZ)],[(6,Ac,c1_),(9,Ac,c2_)]⟩,0,⟨[(6,(.ptr 6 [])),(9,(.ptr 9 [])),(10,VZ)],[(6,Ac,c1_),(9,Ac,c2_)]⟩,⟨[],[]⟩,Eh⟩
def La9:WL:=[(9,Yas)]
theorem BaT:Ta (WG true Bay [] [] []) La9 (lp f244 0):=Sb 9 (ls:=Yas) rfl
theorem Ja5:WO VaN:=Jd Ta6 func244 (Ea BaT Ga)
abbrev Tbc:Ha:=.pu (.p Ac Tc) P7 [true,true,true] (fun x=>MG x.1 x.2.1)
abbrev WaL:WF:=(159,Tbc)::VaN
theorem La2:WO WaL:=Oc Ja5 func159
abbrev Ubc:Ha:=.pu (.p Ac (.p De .u)) P7 [true,true,true] (fun x=>GG x.1 x.2.1)
abbrev Oaw:WF:=(160,Ubc)::WaL
theorem Ma2:WO Oaw:=Oc La2 func160
abbrev Rba:Ha:=.pu Lz Nh [true] (fun x=>Pp x.1)
abbrev Lav:WF:=(102,Rba)::Oaw
def Laq:Na:=⟨29,⟨[(1,Dk),(3,Tn),(10,VS),(11,Oa),(12,Oa)],[(1,Jb,Xv)]⟩,0,⟨[(1,Dk),(3,Tn)],[(1,Jb,Xv)]⟩,⟨[],[]⟩,Pr⟩
def Na7:WL:=[(5,Laq)]
theorem OaQ:Ta (WG true Oaw [] [] []) Na7 (lp f102 0):=Sb 5 (ls:=Laq) rfl
theorem Ja0:WO Lav:=Jd Ma2 func102 (Ea OaQ Ga)
abbrev Vbc:Ha:=.pu (.p LH .u) Nh [true] (fun x=>Mo x.1)
abbrev XaL:WF:=(161,Vbc)::Lav
def Nar:Na:=⟨29,⟨[(3,Tn),(9,US),(10,Oa),(11,Oa)],[]⟩,0,⟨[(3,Tn)],[]⟩,⟨[],[]⟩,Cw⟩
def Fa8:WL:=[(5,Nar)]
theorem QaR:Ta (WG true Lav [] [] []) Fa8 (lp f161 0):=Sb 5 (ls:=Nar) rfl
theorem Na2:WO XaL:=Jd Ja0 func161 (Ea QaR Ga)
abbrev Vbn:Ha:=.co (.p Bc (.p .s TS)) QS [true,true] (fun x=>Sl x.1 x.2.1 x.2.2.1)
abbrev UaW:WF:=(82,Vbn)::XaL
theorem Zbj:WO UaW:=wco (L:=[]) (m:=[]) (v:=[]) (l:=[]) (z:=false) Na2 func82 Ga
abbrev Wbc:Ha:=.pu (.p Xa Tc) We [true] (fun x=>Ei x.1 x.2.1)
abbrev YaL:WF:=(162,Wbc)::UaW
theorem Oa2:WO YaL:=Oc Zbj func162
abbrev Sbf:Ha:=.pu WZ Tc [true] (fun x=>Qu x.1 x.2.1 x.2.2.1)
abbrev Jai:WF:=(245,Sbf)::YaL
theorem Ka5:WO Jai:=Oc Oa2 func245
abbrev Xbc:Ha:=.pu (.p Xa Tc) (.p (.mp int Kz) .u) [true] (fun x=>OW x.1 x.2.1)
abbrev ZaL:WF:=(163,Xbc)::Jai
def Par:Na:=⟨57,⟨[(2,Ag),(5,(.mqo 200101 .i64 int)),(6,(.own 200102 int true)),(7,Oa),(26,Oa),(27,Oa)],[(2,Xa,Mz)]⟩,2,⟨[(2,Ag),(5,(.mqo 200101 .i64 int)),(6,(.own 200102 int true))],[(2,Xa,Mz)]⟩,⟨[],[]⟩,IA⟩
def Oar:Na:=⟨57,⟨[(2,Ag),(5,(.mqo 200001 .i64 int)),(6,(.own 200002 int true))],[(2,Xa,Mz)]⟩,0,⟨[(5,(.mqo 200001 .i64 int))],[]⟩,⟨[],[]⟩,Vr⟩
def ZaO:WL:=[(7,Par),(3,Oar)]
theorem SaR:Ta (WG true Jai [] [12,24] []) ZaO (lp f163 1):=Sb 7 (ls:=Par) rfl
theorem RaR:Ta (WG true Jai [] [12,24] []) ZaO (lp f163 0):=Sb 3 (ls:=Oar) rfl
theorem Pa2:WO ZaL:=Jd Ka5 func163 (Ea SaR (Ea RaR Ga))
abbrev Wbn:Ha:=.pu WZ (.p Kz We) [true,true] (fun x=>Kk x.1 x.2.1 x.2.2.1)
abbrev AaI:WF:=(83,Wbn)::ZaL
theorem Abk:WO AaI:=Jd (L:=[]) (m:=[]) (v:=[]) (l:=[25]) Pa2 func83 Ga
abbrev Ebd:Ha:=.pu (.p LH .u) EP [true] (fun x=>KG x.1)
abbrev Saw:WF:=(170,Ebd)::AaI
def Var:Na:=⟨20,⟨[(3,QX),(6,US),(7,Oa),(8,Oa)],[]⟩,0,⟨[(3,QX)],[]⟩,⟨[],[]⟩,Sx⟩
def Ja8:WL:=[(3,Var)]
theorem YaR:Ta (WG true AaI [] [] []) Ja8 (lp f170 0):=Sb 3 (ls:=Var) rfl
theorem Wa2:WO Saw:=Jd Abk func170 (Ea YaR Ga)
abbrev Ubf:Ha:=.pu (.p Jb Lz) TS [true] (fun x=>KM x.1 x.2.1)
abbrev WaN:WF:=(251,Ubf)::Saw
def Aat:Na:=⟨34,⟨[(2,Ag),(5,Wv),(17,VS),(18,Oa),(19,Oa)],[(2,Jb,Xv)]⟩,0,⟨[(5,Wv)],[]⟩,⟨[],[]⟩,CC⟩
def Na9:WL:=[(5,Aat)]
theorem DaT:Ta (WG true Saw [] [] []) Na9 (lp f251 0):=Sb 5 (ls:=Aat) rfl
theorem Ma5:WO WaN:=Jd Wa2 func251 (Ea DaT Ga)
abbrev Vbf:Ha:=.pu Zh Nh [true] (fun x=>Kn x.1 x.2.1)
abbrev Kai:WF:=(252,Vbf)::WaN
theorem Na5:WO Kai:=Oc Ma5 func252
abbrev Dbd:Ha:=.pu (.p Jb EP) Nh [true] (fun x=>LG x.1 x.2.1)
abbrev Raw:WF:=(169,Dbd)::Kai
def Uar:Na:=⟨34,⟨[(2,Ag),(5,Ri),(7,(.ptr 7 [])),(10,(.data PS)),(11,Oa),(12,Oa),(18,Zac),(19,Oa),(20,Oa)],[(2,Jb,Xv),(7,Jb,Xv)]⟩,2,⟨[(2,Ag),(5,Ri),(7,(.ptr 7 [])),(10,(.data PS)),(11,Oa),(12,Oa)],[(2,Jb,Xv),(7,Jb,Xv)]⟩,⟨[],[]⟩,Ux⟩
def Tar:Na:=⟨34,⟨[(2,Ag),(5,Ri),(10,(.data PS)),(11,Oa),(12,Oa)],[(2,Jb,Xv)]⟩,0,⟨[(5,Ri)],[]⟩,⟨[],[]⟩,Tx⟩
def AaP:WL:=[(6,Uar),(3,Tar)]
theorem XaR:Ta (WG true Kai [] [] []) AaP (lp f169 1):=Sb 6 (ls:=Uar) rfl
theorem WaR:Ta (WG true Kai [] [] []) AaP (lp f169 0):=Sb 3 (ls:=Tar) rfl
theorem Va2:WO Raw:=Jd Na5 func169 (Ea XaR (Ea WaR Ga))
abbrev Cbd:Ha:=.pu (.p (.sl OU) .u) Nh [true] (fun x=>Xq x.1)
abbrev CaM:WF:=(168,Cbd)::Raw
def Sar:Na:=⟨27,⟨[(3,Yac),(9,(.data (.sl OU))),(10,Oa),(11,Oa)],[]⟩,0,⟨[(3,Yac)],[]⟩,⟨[],[]⟩,Qx⟩
def Ia8:WL:=[(5,Sar)]
theorem VaR:Ta (WG true Raw [] [] []) Ia8 (lp f168 0):=Sb 5 (ls:=Sar) rfl
theorem Ua2:WO CaM:=Jd Va2 func168 (Ea VaR Ga)
abbrev Ybn:Ha:=.pu QS Nh [true] (fun x=>Dj x.1 x.2.1)
abbrev BaI:WF:=(86,Ybn)::CaM
theorem Cbk:WO BaI:=Oc Ua2 func86
abbrev Ibm:Ha:=.pu QS QS [true,true] (fun x=>Aw x.1 x.2.1)
abbrev YaV:WF:=(30,Ibm)::BaI
def Bau:Na:=⟨236,⟨[(2,Ag),(4,Yv),(32,Tn),(211,(.own 200002 int true)),(212,Oa),(213,Oa)],[(2,Bc,c5_),(4,Bc,PU)]⟩,1,⟨[(2,Ag),(4,Yv),(32,Tn)],[(2,Bc,(.pr c2_ (.pr (.own 200006 Fd true) .un))),(4,Bc,PU)]⟩,⟨[],[]⟩,Zj⟩
def Sbk:WL:=[(41,Bau)]
theorem DaU:Ta (WG true BaI [] [] []) Sbk (lp f30 0):=Sb 41 (ls:=Bau) rfl
theorem Lbi:WO YaV:=Jd Cbk func30 (Ea DaU Ga)
abbrev Cbe:Ha:=.pu (.p Db Jm) We [true] (fun x=>Qt x.1 x.2.1)
abbrev Bax:WF:=(199,Cbe)::YaV
theorem Ua3:WO Bax:=Oc Lbi func199
abbrev Yba:Ha:=.pu (.p Jl (.p Jl .u)) We [true] (fun x=>Ey x.1 x.2.1)
abbrev Pav:WF:=(111,Yba)::Bax
def Oaq:Na:=⟨27,⟨[(0,(.data Jl)),(1,(.data Jl)),(5,Oa)],[]⟩,0,⟨[],[]⟩,⟨[(4,Ch)],[]⟩,HL⟩
def Pa7:WL:=[(4,Oaq)]
theorem RaQ:Ta (WG true Bax [] [] []) Pa7 (lp f111 0):=Sb 4 (ls:=Oaq) rfl
theorem Qa0:WO Pav:=Jd Ua3 func111 (Ea RaQ Ga)
abbrev Ubm:Ha:=.pu (.p (.sl Jl) (.p (.sl Jl) .u)) We [true] (fun x=>CD x.1 x.2.1)
abbrev GaW:WF:=(50,Ubm)::Pav
def HaE:Na:=⟨27,⟨[(0,CP),(1,CP),(5,Oa)],[]⟩,0,⟨[],[]⟩,⟨[(4,Ch)],[]⟩,LI⟩
def Wbk:WL:=[(4,HaE)]
theorem MaY:Ta (WG true Pav [] [] []) Wbk (lp f50 0):=Sb 4 (ls:=HaE) rfl
theorem Xbi:WO GaW:=Jd Qa0 func50 (Ea MaY Ga)
abbrev Abm:Ha:=.pu (.p Xa QU) We [true] (fun x=>OJ x.1 x.2.1)
abbrev TaV:WF:=(19,Abm)::GaW
theorem Dbi:WO TaV:=Oc Xbi func19
abbrev Qbh:Ha:=.pu (.p Xb AM) We [true] (fun x=>OI x.1 x.2.1)
abbrev Kay:WF:=(328,Qbh)::TaV
theorem Ia7:WO Kay:=Oc Dbi func328
abbrev Ebh:Ha:=.pu (.p Bi (.p Bi .u)) We [true] (fun x=>XE x.1 x.2.1)
abbrev Eay:WF:=(299,Ebh)::Kay
def Wat:Na:=⟨27,⟨[(0,(.data Bi)),(1,(.data Bi)),(5,Oa)],[]⟩,0,⟨[],[]⟩,⟨[(4,Ch)],[]⟩,LO⟩
def Eba:WL:=[(4,Wat)]
theorem YaT:Ta (WG true Kay [] [] []) Eba (lp f299 0):=Sb 4 (ls:=Wat) rfl
theorem Wa6:WO Eay:=Jd Ia7 func299 (Ea YaT Ga)
abbrev Wbf:Ha:=.pu (.p Kr (.p Kr .u)) We [true] (fun x=>QJ x.1 x.2.1)
abbrev XaN:WF:=(253,Wbf)::Eay
def Bat:Na:=⟨27,⟨[(0,(.data Kr)),(1,(.data Kr)),(5,Oa)],[]⟩,0,⟨[],[]⟩,⟨[(4,Ch)],[]⟩,UM⟩
def Oa9:WL:=[(4,Bat)]
theorem EaT:Ta (WG true Eay [] [] []) Oa9 (lp f253 0):=Sb 4 (ls:=Bat) rfl
theorem Oa5:WO XaN:=Jd Wa6 func253 (Ea EaT Ga)
abbrev Fbh:Ha:=.pu (.p Jf (.p Jf .u)) We [true] (fun x=>MI x.1 x.2.1)
abbrev Fay:WF:=(300,Fbh)::XaN
theorem Xa6:WO Fay:=Oc Oa5 func300
abbrev Xbf:Ha:=.pu (.p DP SS) We [true] (fun x=>SM x.1 x.2.1)
abbrev YaN:WF:=(254,Xbf)::Fay
def Cat:Na:=⟨27,⟨[(0,Ol),(1,Ol),(5,Oa)],[]⟩,0,⟨[],[]⟩,⟨[(4,Ch)],[]⟩,JO⟩
def Pa9:WL:=[(4,Cat)]
theorem FaT:Ta (WG true Fay [] [] []) Pa9 (lp f254 0):=Sb 4 (ls:=Cat) rfl
theorem Pa5:WO YaN:=Jd Xa6 func254 (Ea FaT Ga)
abbrev Fbd:Ha:=.pu (.p Mb TX) We [true] (fun x=>MJ x.1 x.2.1)
abbrev DaM:WF:=(171,Fbd)::YaN
theorem Xa2:WO DaM:=Oc Pa5 func171
abbrev Gbd:Ha:=.pu (.p Xb AM) We [true] (fun x=>RJ x.1 x.2.1)
abbrev EaM:WF:=(172,Gbd)::DaM
theorem Ya2:WO EaM:=Oc Xa2 func172
abbrev Ybf:Ha:=.pu Vbh We [true] (fun x=>VE x.1 x.2.1)
abbrev Lax:WF:=(255,Ybf)::EaM
theorem Qa5:WO Lax:=Oc Ya2 func255
abbrev Hbd:Ha:=.pu (.p MH (.p MH .u)) We [true] (fun x=>NJ x.1 x.2.1)
abbrev FaM:WF:=(173,Hbd)::Lax
def War:Na:=⟨27,⟨[(0,BM),(1,BM),(5,Oa)],[]⟩,0,⟨[],[]⟩,⟨[(4,Ch)],[]⟩,QM⟩
def Ka8:WL:=[(4,War)]
theorem ZaR:Ta (WG true Lax [] [] []) Ka8 (lp f173 0):=Sb 4 (ls:=War) rfl
theorem Za2:WO FaM:=Jd Qa5 func173 (Ea ZaR Ga)
abbrev Zbn:Ha:=.pu (.p Ac (.p Ac .u)) We [true] (fun x=>OG x.1 x.2.1)
abbrev CaI:WF:=(87,Zbn)::FaM
theorem Dbk:WO CaI:=Oc Za2 func87
abbrev Bbm:Ha:=.pu (.p Kz TS) We [true] (fun x=>CR x.1 x.2.1)
abbrev UaV:WF:=(21,Bbm)::CaI
def XaD:Na:=⟨26,⟨[(0,VS),(1,VS),(5,Oa)],[]⟩,0,⟨[],[]⟩,⟨[(4,Ch)],[]⟩,WE⟩
def Obk:WL:=[(4,XaD)]
theorem CaY:Ta (WG true CaI [] [] []) Obk (lp f21 0):=Sb 4 (ls:=XaD) rfl
theorem Ebi:WO UaV:=Jd Dbk func21 (Ea CaY Ga)
abbrev Zbf:Ha:=.pu (.p Jb Lz) We [true] (fun x=>PJ x.1 x.2.1)
abbrev ZaN:WF:=(256,Zbf)::UaV
theorem Ra5:WO ZaN:=Oc Ebi func256
abbrev Ibd:Ha:=.pu (.p Fd (.p Fd .u)) We [true] (fun x=>NI x.1 x.2.1)
abbrev Taw:WF:=(174,Ibd)::ZaN
theorem Aa3:WO Taw:=Oc Ra5 func174
abbrev Abo:Ha:=.pu (.p LH (.p LH .u)) We [true] (fun x=>TM x.1 x.2.1)
abbrev WaW:WF:=(88,Abo)::Taw
def AaF:Na:=⟨27,⟨[(0,US),(1,US),(5,Oa)],[]⟩,0,⟨[],[]⟩,⟨[(4,Ch)],[]⟩,KO⟩
def Obl:WL:=[(4,AaF)]
theorem FaZ:Ta (WG true Taw [] [] []) Obl (lp f88 0):=Sb 4 (ls:=AaF) rfl
theorem Ebk:WO WaW:=Jd Aa3 func88 (Ea FaZ Ga)
abbrev Jbm:Ha:=.pu (.p Bc XZ) We [true] (fun x=>Wm x.1 x.2.1)
abbrev JaH:WF:=(31,Jbm)::WaW
theorem Mbi:WO JaH:=Oc Ebk func31
abbrev Ebb:Ha:=.io Jl Tc Tc [true] (fun x0 x=>QK x0 x.1)
abbrev Rav:WF:=(118,Ebb)::JaH
def Taq:Na:=⟨41,⟨[(0,(.own 500000 Db true)),(1,Oa),(5,Oa)],[]⟩,0,⟨[(0,(.own 500000 Db true)),(1,Oa)],[]⟩,⟨[],[]⟩,HH⟩
def Sa7:WL:=[(2,Taq)]
theorem WaQ:Ta (WG false JaH [] [] []) Sa7 (lp f118 0):=Sb 2 (ls:=Taq) rfl
theorem Wa0:WO Rav:=Y1 Mbi func118 (Ea WaQ Ga)
abbrev Wbm:Ha:=.io (.sl Jl) Tc Tc [true] (fun x0 x=>WH x0 x.1)
abbrev IaW:WF:=(55,Wbm)::Rav
def IaE:Na:=⟨19,⟨[(0,(.own 500000 Jl true)),(1,Oa),(5,Oa)],[]⟩,0,⟨[(0,(.own 500000 Jl true)),(1,Oa)],[]⟩,⟨[],[]⟩,ZE⟩
def Xbk:WL:=[(2,IaE)]
theorem NaY:Ta (WG false Rav [(3999,500000)] [] []) Xbk (lp f55 0):=Sb 2 (ls:=IaE) rfl
theorem Zbi:WO IaW:=Y1 Wa0 func55 (Ea NaY Ga)
abbrev Cbm:Ha:=.io Xa Tc Tc [true] (fun x0 x=>HD x0 x.1)
abbrev GaH:WF:=(22,Cbm)::IaW
theorem Fbi:WO GaH:=Y1 (L:=[]) (m:=[]) (v:=[]) (l:=[]) Zbi func22 Ga
abbrev Gbh:Ha:=.io Bi Tc Tc [true] (fun x0 x=>UP x0 x.1)
abbrev Gay:WF:=(301,Gbh)::GaH
def Xat:Na:=⟨34,⟨[(0,(.own 500000 Xb true)),(1,Oa),(5,Oa)],[]⟩,0,⟨[(0,(.own 500000 Xb true)),(1,Oa)],[]⟩,⟨[],[]⟩,NL⟩
def Fba:WL:=[(2,Xat)]
theorem ZaT:Ta (WG false GaH [] [] []) Fba (lp f301 0):=Sb 2 (ls:=Xat) rfl
theorem Ya6:WO Gay:=Y1 Fbi func301 (Ea ZaT Ga)
abbrev Abg:Ha:=.io Kr Tc Tc [true] (fun x0 x=>AN x0 x.1)
abbrev Max:WF:=(257,Abg)::Gay
def Dat:Na:=⟨19,⟨[(0,(.own 500000 Bi true)),(1,Oa),(5,Oa)],[]⟩,0,⟨[(0,(.own 500000 Bi true)),(1,Oa)],[]⟩,⟨[],[]⟩,SI⟩
def Qa9:WL:=[(2,Dat)]
theorem GaT:Ta (WG false Gay [(3999,500000)] [] []) Qa9 (lp f257 0):=Sb 2 (ls:=Dat) rfl
theorem Sa5:WO Max:=Y1 Ya6 func257 (Ea GaT Ga)
abbrev Bbg:Ha:=.io DP Tc Tc [true] (fun x0 x=>SP x0 x.1)
abbrev AaO:WF:=(258,Bbg)::Max
def Eat:Na:=⟨52,⟨[(0,(.own 500000 Jf true)),(1,Oa),(5,Oa)],[]⟩,0,⟨[(0,(.own 500000 Jf true)),(1,Oa)],[]⟩,⟨[],[]⟩,LL⟩
def Ra9:WL:=[(2,Eat)]
theorem HaT:Ta (WG false Max [] [] []) Ra9 (lp f258 0):=Sb 2 (ls:=Eat) rfl
theorem Ta5:WO AaO:=Y1 Sa5 func258 (Ea HaT Ga)
abbrev Jbd:Ha:=.io Mb Tc Tc [true] (fun x0 x=>GD x0 x.1)
abbrev Uaw:WF:=(175,Jbd)::AaO
theorem Ba3:WO Uaw:=Y1 (L:=[]) (m:=[]) (v:=[]) (l:=[]) Ta5 func175 Ga
abbrev Kbd:Ha:=.io MH Tc Tc [true] (fun x0 x=>YM x0 x.1)
abbrev GaM:WF:=(176,Kbd)::Uaw
def Xar:Na:=⟨36,⟨[(0,(.own 500000 De true)),(1,Oa),(5,Oa)],[]⟩,0,⟨[(0,(.own 500000 De true)),(1,Oa)],[]⟩,⟨[],[]⟩,RI⟩
def La8:WL:=[(2,Xar)]
theorem AaS:Ta (WG false Uaw [] [] []) La8 (lp f176 0):=Sb 2 (ls:=Xar) rfl
theorem Ca3:WO GaM:=Y1 Ba3 func176 (Ea AaS Ga)
abbrev Bbo:Ha:=.io Ac Tc Tc [true] (fun x0 x=>MA x0 x.1)
abbrev DaI:WF:=(89,Bbo)::GaM
theorem Fbk:WO DaI:=Y1 (L:=[]) (m:=[]) (v:=[]) (l:=[]) Ca3 func89 Ga
abbrev Dbm:Ha:=.io Kz Tc Tc [true] (fun x0 x=>DT x0 x.1)
abbrev HaH:WF:=(23,Dbm)::DaI
def YaD:Na:=⟨19,⟨[(0,(.own 500000 int true)),(1,Oa),(5,Oa)],[]⟩,0,⟨[(0,(.own 500000 int true)),(1,Oa)],[]⟩,⟨[],[]⟩,ZM⟩
def Pbk:WL:=[(2,YaD)]
theorem DaY:Ta (WG false DaI [] [] []) Pbk (lp f23 0):=Sb 2 (ls:=YaD) rfl
theorem Gbi:WO HaH:=Y1 Fbk func23 (Ea DaY Ga)
abbrev Cbo:Ha:=.io LH Tc Tc [true] (fun x0 x=>TP x0 x.1)
abbrev XaW:WF:=(90,Cbo)::HaH
def BaF:Na:=⟨36,⟨[(0,(.own 500000 Fd true)),(1,Oa),(5,Oa)],[]⟩,0,⟨[(0,(.own 500000 Fd true)),(1,Oa)],[]⟩,⟨[],[]⟩,ML⟩
def Pbl:WL:=[(2,BaF)]
theorem GaZ:Ta (WG false HaH [(3999,500000)] [] []) Pbl (lp f90 0):=Sb 2 (ls:=BaF) rfl
theorem Gbk:WO XaW:=Y1 Gbi func90 (Ea GaZ Ga)
abbrev Kbm:Ha:=.io Bc Tc Tc [true] (fun x0 x=>Xr x0 x.1)
abbrev KaH:WF:=(32,Kbm)::XaW
theorem Nbi:WO KaH:=Y1 (L:=[]) (m:=[]) (v:=[]) (l:=[]) Gbk func32 Ga
abbrev Rbh:Ha:=.pu (.p Jl Tc) Tc [true] (fun x=>PK x.1 x.2.1)
abbrev Lay:WF:=(329,Rbh)::KaH
def Dau:Na:=⟨49,⟨[(0,(.data Jl)),(1,Oa),(5,Oa)],[]⟩,0,⟨[(1,Oa)],[]⟩,⟨[(4,Oa)],[]⟩,GH⟩
def Kba:WL:=[(2,Dau)]
theorem FaU:Ta (WG true KaH [] [] []) Kba (lp f329 0):=Sb 2 (ls:=Dau) rfl
theorem Ja7:WO Lay:=Jd Nbi func329 (Ea FaU Ga)
abbrev Hbh:Ha:=.pu (.p (.sl Jl) Tc) Tc [true] (fun x=>VH x.1 x.2.1)
abbrev MaO:WF:=(302,Hbh)::Lay
def Yat:Na:=⟨21,⟨[(0,CP),(1,Oa),(5,Oa)],[]⟩,0,⟨[(1,Oa)],[]⟩,⟨[(4,Oa)],[]⟩,YE⟩
def Gba:WL:=[(2,Yat)]
theorem AaU:Ta (WG true Lay [] [] []) Gba (lp f302 0):=Sb 2 (ls:=Yat) rfl
theorem Za6:WO MaO:=Jd Ja7 func302 (Ea AaU Ga)
abbrev Cbg:Ha:=.pu (.p Xa Tc) Tc [true] (fun x=>FD x.1 x.2.1)
abbrev Nax:WF:=(259,Cbg)::MaO
theorem Ua5:WO Nax:=Oc Za6 func259
abbrev Ibh:Ha:=.pu (.p Bi Tc) Tc [true] (fun x=>RP x.1 x.2.1)
abbrev Hay:WF:=(303,Ibh)::Nax
def Zat:Na:=⟨40,⟨[(0,(.data Bi)),(1,Oa),(5,Oa)],[]⟩,0,⟨[(1,Oa)],[]⟩,⟨[(4,Oa)],[]⟩,KL⟩
def Hba:WL:=[(2,Zat)]
theorem BaU:Ta (WG true Nax [] [] []) Hba (lp f303 0):=Sb 2 (ls:=Zat) rfl
theorem Aa7:WO Hay:=Jd Ua5 func303 (Ea BaU Ga)
abbrev Dbg:Ha:=.pu (.p Kr Tc) Tc [true] (fun x=>XM x.1 x.2.1)
abbrev Oax:WF:=(260,Dbg)::Hay
def Fat:Na:=⟨21,⟨[(0,(.data Kr)),(1,Oa),(5,Oa)],[]⟩,0,⟨[(1,Oa)],[]⟩,⟨[(4,Oa)],[]⟩,QI⟩
def Sa9:WL:=[(2,Fat)]
theorem IaT:Ta (WG true Hay [] [] []) Sa9 (lp f260 0):=Sb 2 (ls:=Fat) rfl
theorem Va5:WO Oax:=Jd Aa7 func260 (Ea IaT Ga)
abbrev Ebg:Ha:=.pu (.p DP Tc) Tc [true] (fun x=>PP x.1 x.2.1)
abbrev BaO:WF:=(261,Ebg)::Oax
def Gat:Na:=⟨62,⟨[(0,Ol),(1,Oa),(5,Oa)],[]⟩,0,⟨[(1,Oa)],[]⟩,⟨[(4,Oa)],[]⟩,IL⟩
def Ta9:WL:=[(2,Gat)]
theorem JaT:Ta (WG true Oax [] [] []) Ta9 (lp f261 0):=Sb 2 (ls:=Gat) rfl
theorem Wa5:WO BaO:=Jd Va5 func261 (Ea JaT Ga)
abbrev Lbd:Ha:=.pu (.p Mb Tc) Tc [true] (fun x=>ED x.1 x.2.1)
abbrev Vaw:WF:=(177,Lbd)::BaO
theorem Da3:WO Vaw:=Oc Wa5 func177
abbrev Mbd:Ha:=.pu (.p MH Tc) Tc [true] (fun x=>VM x.1 x.2.1)
abbrev HaM:WF:=(178,Mbd)::Vaw
def Yar:Na:=⟨42,⟨[(0,BM),(1,Oa),(5,Oa)],[]⟩,0,⟨[(1,Oa)],[]⟩,⟨[(4,Oa)],[]⟩,PI⟩
def Ma8:WL:=[(2,Yar)]
theorem BaS:Ta (WG true Vaw [] [] []) Ma8 (lp f178 0):=Sb 2 (ls:=Yar) rfl
theorem Ea3:WO HaM:=Jd Da3 func178 (Ea BaS Ga)
abbrev Dbo:Ha:=.pu (.p Ac Tc) Tc [true] (fun x=>LA x.1 x.2.1)
abbrev EaI:WF:=(91,Dbo)::HaM
theorem Hbk:WO EaI:=Oc Ea3 func91
abbrev Ebm:Ha:=.pu (.p Kz Tc) Tc [true] (fun x=>CT x.1 x.2.1)
abbrev IaH:WF:=(24,Ebm)::EaI
def ZaD:Na:=⟨21,⟨[(0,VS),(1,Oa),(5,Oa)],[]⟩,0,⟨[(1,Oa)],[]⟩,⟨[(4,Oa)],[]⟩,WM⟩
def Qbk:WL:=[(2,ZaD)]
theorem EaY:Ta (WG true EaI [] [] []) Qbk (lp f24 0):=Sb 2 (ls:=ZaD) rfl
theorem Hbi:WO IaH:=Jd Hbk func24 (Ea EaY Ga)
abbrev Ebo:Ha:=.pu (.p LH Tc) Tc [true] (fun x=>QP x.1 x.2.1)
abbrev YaW:WF:=(92,Ebo)::IaH
def CaF:Na:=⟨42,⟨[(0,US),(1,Oa),(5,Oa)],[]⟩,0,⟨[(1,Oa)],[]⟩,⟨[(4,Oa)],[]⟩,JL⟩
def Qbl:WL:=[(2,CaF)]
theorem HaZ:Ta (WG true IaH [] [] []) Qbl (lp f92 0):=Sb 2 (ls:=CaF) rfl
theorem Ibk:WO YaW:=Jd Hbi func92 (Ea HaZ Ga)
abbrev Lbm:Ha:=.pu (.p Bc Tc) Tc [true] (fun x=>Wr x.1 x.2.1)
abbrev ZaV:WF:=(33,Lbm)::YaW
theorem Obi:WO ZaV:=Oc Ibk func33
abbrev s_7:Ha:=.pu QS We [true] (fun x=>Uu x.1 x.2.1)
abbrev F_7:WF:=(7,s_7)::ZaV
theorem E_7:WO F_7:=Oc Obi func7
theorem YX:Th Tryz.prog II 7 s_7:=YaK E_7 (by kernel_rfl)
end
end KF
