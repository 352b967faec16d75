/- An evaluator of Go functions on plain data, its soundness, and plain laws on what the functions compute, part 7 (conditions: as each lemma tells). -/
import Derived.Test.YteooipbgmfmhfaaGreatDoorF
import Derived.Shelf.LaysC
import Derived.Shelf.Strconv.Atoi
import Derived.Shelf.Strconv.AtoiErr
import Derived.Lib.AtoiErrMem
import Derived.WalkKit
import Derived.BigCall
import Derived.Test.YteooipbgmfmhfaaGreatDoorRows
set_option linter.unusedSimpArgs false
set_option linter.unusedVariables false
namespace Go.Proofs
open Go.Shelf
def Tryz.lays_strings_Split_ren:Go.Shelf.Ren:=⟨fun|146=>150|221=>237|268=>281|138=>282|143=>155|195=>309|197=>310|218=>311|219=>241|260=>331|217=>286|225=>287|224=>288|267=>289|266=>312|314=>313|n=>n,fun|9=>9|31=>120|3=>3|4=>4|0=>0|105=>325|21=>21|5=>5|46=>242|119=>359|139=>362|138=>361|146=>328|51=>327|n=>n,fun|1=>0|3=>4|4=>5|n=>n⟩
theorem Tryz.lays_strings_Split:Go.Proofs.LaysM.n146 Tryz.prog Tryz.lays_strings_Split_ren:={
 mixed:=by kernel_rfl
 f138:=Tryz.func282.trans (congrArg some (by kernel_rfl))
 f143:=Tryz.func155.trans (congrArg some (by kernel_rfl))
 f146:=Tryz.func150.trans (congrArg some (by kernel_rfl))
 f195:=Tryz.func309.trans (congrArg some (by kernel_rfl))
 f197:=Tryz.func310.trans (congrArg some (by kernel_rfl))
 f217:=Tryz.func286.trans (congrArg some (by kernel_rfl))
 f218:=Tryz.func311.trans (congrArg some (by kernel_rfl))
 f219:=Tryz.func241.trans (congrArg some (by kernel_rfl))
 f221:=Tryz.func237.trans (congrArg some (by kernel_rfl))
 f224:=Tryz.func288.trans (congrArg some (by kernel_rfl))
 f225:=Tryz.func287.trans (congrArg some (by kernel_rfl))
 f260:=Tryz.func331.trans (congrArg some (by kernel_rfl))
 f266:=Tryz.func312.trans (congrArg some (by kernel_rfl))
 f267:=Tryz.func289.trans (congrArg some (by kernel_rfl))
 f268:=Tryz.func281.trans (congrArg some (by kernel_rfl))
 f314:=Tryz.func313.trans (congrArg some (by kernel_rfl))
 t0:=Tryz.underlying0
 a0:=Tryz.isAgg0
 z0:=Tryz.sizeOf0
 v0:=Tryz.zeroValue0
 t3:=Tryz.underlying3
 a3:=Tryz.isAgg3
 z3:=Tryz.sizeOf3
 v3:=Tryz.zeroValue3
 t4:=Tryz.underlying4
 a4:=Tryz.isAgg4
 z4:=Tryz.sizeOf4
 v4:=Tryz.zeroValue4
 t5:=Tryz.underlying5
 a5:=Tryz.isAgg5
 z5:=Tryz.sizeOf5
 v5:=Tryz.zeroValue5
 t9:=Tryz.underlying9
 a9:=Tryz.isAgg9
 z9:=Tryz.sizeOf9
 v9:=Tryz.zeroValue9
 t21:=Tryz.underlying21
 a21:=Tryz.isAgg21
 z21:=Tryz.sizeOf21
 v21:=Tryz.zeroValue21
 t31:=Tryz.underlying120
 a31:=Tryz.isAgg120
 z31:=Tryz.sizeOf120
 v31:=Tryz.zeroValue120
 t46:=Tryz.underlying242
 a46:=Tryz.isAgg242
 z46:=Tryz.sizeOf242
 v46:=Tryz.zeroValue242
 t51:=Tryz.underlying327
 a51:=Tryz.isAgg327
 z51:=Tryz.sizeOf327
 v51:=Tryz.zeroValue327
 t105:=Tryz.underlying325
 a105:=Tryz.isAgg325
 z105:=Tryz.sizeOf325
 v105:=Tryz.zeroValue325
 t119:=Tryz.underlying359
 a119:=Tryz.isAgg359
 z119:=Tryz.sizeOf359
 t138:=Tryz.underlying361
 a138:=Tryz.isAgg361
 z138:=Tryz.sizeOf361
 v138:=Tryz.zeroValue361
 t139:=Tryz.underlying362
 a139:=Tryz.isAgg362
 z139:=Tryz.sizeOf362
 v139:=Tryz.zeroValue362
 t146:=Tryz.underlying328
 a146:=Tryz.isAgg328
 z146:=Tryz.sizeOf328
 v146:=Tryz.zeroValue328
 g1:=by kernel_rfl
 g3:=by kernel_rfl
 g4:=by kernel_rfl
 i0:=by kernel_rfl
 i3:=by kernel_rfl
 i4:=by kernel_rfl
 i5:=by kernel_rfl
 i9:=by kernel_rfl
 i21:=by kernel_rfl
 i31:=by kernel_rfl
 i46:=by kernel_rfl
 i51:=by kernel_rfl
 i105:=by kernel_rfl
 i138:=by kernel_rfl
 i139:=by kernel_rfl
 i146:=by kernel_rfl
 m1:=by kernel_rfl
 s1_3:=fun w h=>Go.Proofs.cell_of_shapedOpen_int (zero:= #[.int .i64 0]) (t:=3) h (of_decide_eq_true (by kernel_rfl)) (by kernel_rfl) rfl (by kernel_rfl) (by kernel_rfl) Tryz.underlying3
 m3:=by kernel_rfl
 m4:=by kernel_rfl}
def Tryz.lays_strconv_Itoa_ren:Go.Shelf.Ren:=⟨fun|171=>164|243=>246|246=>294|283=>321|284=>322|285=>323|286=>324|129=>337|317=>336|318=>338|319=>339|320=>340|337=>345|338=>346|n=>n,fun|3=>3|9=>9|2=>2|4=>4|171=>338|0=>0|53=>339|37=>22|5=>5|173=>342|212=>355|51=>327|20=>20|213=>356|46=>242|232=>376|233=>377|n=>n,fun|17=>3|18=>6|19=>7|n=>n⟩
theorem Tryz.lays_strconv_Itoa:Go.Proofs.LaysM.n171 Tryz.prog Tryz.lays_strconv_Itoa_ren:={
 mixed:=by kernel_rfl
 f129:=Tryz.func337.trans (congrArg some (by kernel_rfl))
 f171:=Tryz.func164.trans (congrArg some (by kernel_rfl))
 f243:=Tryz.func246.trans (congrArg some (by kernel_rfl))
 f246:=Tryz.func294.trans (congrArg some (by kernel_rfl))
 f283:=Tryz.func321.trans (congrArg some (by kernel_rfl))
 f284:=Tryz.func322.trans (congrArg some (by kernel_rfl))
 f285:=Tryz.func323.trans (congrArg some (by kernel_rfl))
 f286:=Tryz.func324.trans (congrArg some (by kernel_rfl))
 f317:=Tryz.func336.trans (congrArg some (by kernel_rfl))
 f318:=Tryz.func338.trans (congrArg some (by kernel_rfl))
 f319:=Tryz.func339.trans (congrArg some (by kernel_rfl))
 f320:=Tryz.func340.trans (congrArg some (by kernel_rfl))
 f337:=Tryz.func345.trans (congrArg some (by kernel_rfl))
 f338:=Tryz.func346.trans (congrArg some (by kernel_rfl))
 t0:=Tryz.underlying0
 a0:=Tryz.isAgg0
 z0:=Tryz.sizeOf0
 v0:=Tryz.zeroValue0
 t2:=Tryz.underlying2
 a2:=Tryz.isAgg2
 z2:=Tryz.sizeOf2
 v2:=Tryz.zeroValue2
 t3:=Tryz.underlying3
 a3:=Tryz.isAgg3
 z3:=Tryz.sizeOf3
 v3:=Tryz.zeroValue3
 t4:=Tryz.underlying4
 a4:=Tryz.isAgg4
 z4:=Tryz.sizeOf4
 v4:=Tryz.zeroValue4
 t5:=Tryz.underlying5
 a5:=Tryz.isAgg5
 z5:=Tryz.sizeOf5
 v5:=Tryz.zeroValue5
 t9:=Tryz.underlying9
 a9:=Tryz.isAgg9
 z9:=Tryz.sizeOf9
 v9:=Tryz.zeroValue9
 t20:=Tryz.underlying20
 a20:=Tryz.isAgg20
 z20:=Tryz.sizeOf20
 v20:=Tryz.zeroValue20
 t37:=Tryz.underlying22
 a37:=Tryz.isAgg22
 z37:=Tryz.sizeOf22
 v37:=Tryz.zeroValue22
 t46:=Tryz.underlying242
 a46:=Tryz.isAgg242
 z46:=Tryz.sizeOf242
 v46:=Tryz.zeroValue242
 t51:=Tryz.underlying327
 a51:=Tryz.isAgg327
 z51:=Tryz.sizeOf327
 v51:=Tryz.zeroValue327
 t53:=Tryz.underlying339
 a53:=Tryz.isAgg339
 z53:=Tryz.sizeOf339
 v53:=Tryz.zeroValue339
 t171:=Tryz.underlying338
 a171:=Tryz.isAgg338
 z171:=Tryz.sizeOf338
 v171:=Tryz.zeroValue338
 t173:=Tryz.underlying342
 a173:=Tryz.isAgg342
 z173:=Tryz.sizeOf342
 v173:=Tryz.zeroValue342
 t212:=Tryz.underlying355
 a212:=Tryz.isAgg355
 z212:=Tryz.sizeOf355
 v212:=Tryz.zeroValue355
 t213:=Tryz.underlying356
 a213:=Tryz.isAgg356
 z213:=Tryz.sizeOf356
 t232:=Tryz.underlying376
 a232:=Tryz.isAgg376
 z232:=Tryz.sizeOf376
 v232:=Tryz.zeroValue376
 t233:=Tryz.underlying377
 a233:=Tryz.isAgg377
 z233:=Tryz.sizeOf377
 v233:=Tryz.zeroValue377
 g17:=by kernel_rfl
 g18:=by kernel_rfl
 g19:=by kernel_rfl
 i0:=by kernel_rfl
 i2:=by kernel_rfl
 i3:=by kernel_rfl
 i4:=by kernel_rfl
 i5:=by kernel_rfl
 i9:=by kernel_rfl
 i20:=by kernel_rfl
 i37:=by kernel_rfl
 i46:=by kernel_rfl
 i51:=by kernel_rfl
 i53:=by kernel_rfl
 i171:=by kernel_rfl
 i173:=by kernel_rfl
 i212:=by kernel_rfl
 i232:=by kernel_rfl
 i233:=by kernel_rfl
 m17:=by kernel_rfl
 m18:=by kernel_rfl
 m19:=by kernel_rfl}
def Tryz.lays_strconv_Atoi_ren:Go.Shelf.Ren:=⟨fun|172=>243|244=>290|245=>291|247=>314|279=>315|280=>316|281=>317|282=>318|287=>332|316=>333|171=>164|205=>334|321=>343|322=>344|243=>246|246=>294|283=>321|284=>322|285=>323|286=>324|129=>337|317=>336|318=>338|319=>339|320=>340|337=>345|338=>346|n=>n,fun|9=>9|3=>3|75=>282|76=>283|4=>4|5=>5|167=>330|37=>22|0=>0|85=>331|2=>2|168=>333|53=>339|175=>348|46=>242|210=>352|127=>316|145=>366|143=>364|21=>21|171=>338|173=>342|212=>355|51=>327|20=>20|213=>356|232=>376|233=>377|80=>289|n=>n,fun|15=>1|16=>2|17=>3|18=>6|19=>7|n=>n⟩
theorem Tryz.lays_strconv_Atoi:Go.Proofs.LaysC.n172 Tryz.prog Tryz.lays_strconv_Atoi_ren:={
 mixed:=by kernel_rfl
 f129:=Tryz.func337.trans (congrArg some (by kernel_rfl))
 f171:=Tryz.func164.trans (congrArg some (by kernel_rfl))
 f172:=Tryz.func243.trans (congrArg some (by kernel_rfl))
 f205:=Tryz.func334.trans (congrArg some (by kernel_rfl))
 f243:=Tryz.func246.trans (congrArg some (by kernel_rfl))
 f244:=Tryz.func290.trans (congrArg some (by kernel_rfl))
 f245:=Tryz.func291.trans (congrArg some (by kernel_rfl))
 f246:=Tryz.func294.trans (congrArg some (by kernel_rfl))
 f247:=Tryz.func314.trans (congrArg some (by kernel_rfl))
 f279:=Tryz.func315.trans (congrArg some (by kernel_rfl))
 f280:=Tryz.func316.trans (congrArg some (by kernel_rfl))
 f281:=Tryz.func317.trans (congrArg some (by kernel_rfl))
 f282:=Tryz.func318.trans (congrArg some (by kernel_rfl))
 f283:=Tryz.func321.trans (congrArg some (by kernel_rfl))
 f284:=Tryz.func322.trans (congrArg some (by kernel_rfl))
 f285:=Tryz.func323.trans (congrArg some (by kernel_rfl))
 f286:=Tryz.func324.trans (congrArg some (by kernel_rfl))
 f287:=Tryz.func332.trans (congrArg some (by kernel_rfl))
 f316:=Tryz.func333.trans (congrArg some (by kernel_rfl))
 f317:=Tryz.func336.trans (congrArg some (by kernel_rfl))
 f318:=Tryz.func338.trans (congrArg some (by kernel_rfl))
 f319:=Tryz.func339.trans (congrArg some (by kernel_rfl))
 f320:=Tryz.func340.trans (congrArg some (by kernel_rfl))
 f321:=Tryz.func343.trans (congrArg some (by kernel_rfl))
 f322:=Tryz.func344.trans (congrArg some (by kernel_rfl))
 f337:=Tryz.func345.trans (congrArg some (by kernel_rfl))
 f338:=Tryz.func346.trans (congrArg some (by kernel_rfl))
 t0:=Tryz.underlying0
 a0:=Tryz.isAgg0
 z0:=Tryz.sizeOf0
 v0:=Tryz.zeroValue0
 t2:=Tryz.underlying2
 a2:=Tryz.isAgg2
 z2:=Tryz.sizeOf2
 v2:=Tryz.zeroValue2
 t3:=Tryz.underlying3
 a3:=Tryz.isAgg3
 z3:=Tryz.sizeOf3
 v3:=Tryz.zeroValue3
 t4:=Tryz.underlying4
 a4:=Tryz.isAgg4
 z4:=Tryz.sizeOf4
 v4:=Tryz.zeroValue4
 t5:=Tryz.underlying5
 a5:=Tryz.isAgg5
 z5:=Tryz.sizeOf5
 v5:=Tryz.zeroValue5
 t9:=Tryz.underlying9
 a9:=Tryz.isAgg9
 z9:=Tryz.sizeOf9
 v9:=Tryz.zeroValue9
 t20:=Tryz.underlying20
 a20:=Tryz.isAgg20
 z20:=Tryz.sizeOf20
 v20:=Tryz.zeroValue20
 t21:=Tryz.underlying21
 a21:=Tryz.isAgg21
 z21:=Tryz.sizeOf21
 v21:=Tryz.zeroValue21
 t37:=Tryz.underlying22
 a37:=Tryz.isAgg22
 z37:=Tryz.sizeOf22
 v37:=Tryz.zeroValue22
 t46:=Tryz.underlying242
 a46:=Tryz.isAgg242
 z46:=Tryz.sizeOf242
 v46:=Tryz.zeroValue242
 t51:=Tryz.underlying327
 a51:=Tryz.isAgg327
 z51:=Tryz.sizeOf327
 v51:=Tryz.zeroValue327
 t53:=Tryz.underlying339
 a53:=Tryz.isAgg339
 z53:=Tryz.sizeOf339
 v53:=Tryz.zeroValue339
 t75:=Tryz.underlying282
 a75:=Tryz.isAgg282
 z75:=Tryz.sizeOf282
 v75:=Tryz.zeroValue282
 t76:=Tryz.underlying283
 a76:=Tryz.isAgg283
 z76:=Tryz.sizeOf283
 v76:=Tryz.zeroValue283
 t85:=Tryz.underlying331
 a85:=Tryz.isAgg331
 z85:=Tryz.sizeOf331
 v85:=Tryz.zeroValue331
 t127:=Tryz.underlying316
 a127:=Tryz.isAgg316
 z127:=Tryz.sizeOf316
 v127:=Tryz.zeroValue316
 t143:=Tryz.underlying364
 a143:=Tryz.isAgg364
 z143:=Tryz.sizeOf364
 v143:=Tryz.zeroValue364
 t145:=Tryz.underlying366
 a145:=Tryz.isAgg366
 z145:=Tryz.sizeOf366
 v145:=Tryz.zeroValue366
 t167:=Tryz.underlying330
 a167:=Tryz.isAgg330
 z167:=Tryz.sizeOf330
 v167:=Tryz.zeroValue330
 t168:=Tryz.underlying333
 a168:=Tryz.isAgg333
 z168:=Tryz.sizeOf333
 v168:=Tryz.zeroValue333
 t171:=Tryz.underlying338
 a171:=Tryz.isAgg338
 z171:=Tryz.sizeOf338
 v171:=Tryz.zeroValue338
 t173:=Tryz.underlying342
 a173:=Tryz.isAgg342
 z173:=Tryz.sizeOf342
 v173:=Tryz.zeroValue342
 t175:=Tryz.underlying348
 a175:=Tryz.isAgg348
 z175:=Tryz.sizeOf348
 v175:=Tryz.zeroValue348
 t210:=Tryz.underlying352
 a210:=Tryz.isAgg352
 z210:=Tryz.sizeOf352
 v210:=Tryz.zeroValue352
 t212:=Tryz.underlying355
 a212:=Tryz.isAgg355
 z212:=Tryz.sizeOf355
 v212:=Tryz.zeroValue355
 t213:=Tryz.underlying356
 a213:=Tryz.isAgg356
 z213:=Tryz.sizeOf356
 t232:=Tryz.underlying376
 a232:=Tryz.isAgg376
 z232:=Tryz.sizeOf376
 v232:=Tryz.zeroValue376
 t233:=Tryz.underlying377
 a233:=Tryz.isAgg377
 z233:=Tryz.sizeOf377
 v233:=Tryz.zeroValue377
 g15:=by kernel_rfl
 g16:=by kernel_rfl
 g17:=by kernel_rfl
 g18:=by kernel_rfl
 g19:=by kernel_rfl
 t80:=Tryz.underlying289
 a80:=Tryz.isAgg289
 z80:=Tryz.sizeOf289
 v80:=Tryz.zeroValue289
 i0:=by kernel_rfl
 i2:=by kernel_rfl
 i3:=by kernel_rfl
 i4:=by kernel_rfl
 i5:=by kernel_rfl
 i9:=by kernel_rfl
 i20:=by kernel_rfl
 i21:=by kernel_rfl
 i37:=by kernel_rfl
 i46:=by kernel_rfl
 i51:=by kernel_rfl
 i53:=by kernel_rfl
 i75:=by kernel_rfl
 i76:=by kernel_rfl
 i80:=by kernel_rfl
 i85:=by kernel_rfl
 i127:=by kernel_rfl
 i143:=by kernel_rfl
 i145:=by kernel_rfl
 i167:=by kernel_rfl
 i168:=by kernel_rfl
 i171:=by kernel_rfl
 i173:=by kernel_rfl
 i175:=by kernel_rfl
 i210:=by kernel_rfl
 i212:=by kernel_rfl
 i232:=by kernel_rfl
 i233:=by kernel_rfl
 m15:=by kernel_rfl
 m16:=by kernel_rfl
 m17:=by kernel_rfl
 m18:=by kernel_rfl
 m19:=by kernel_rfl
 c0:=by kernel_rfl
 c2:=by kernel_rfl
 c3:=by kernel_rfl
 c4:=by kernel_rfl
 c5:=by kernel_rfl
 c9:=by kernel_rfl
 c20:=by kernel_rfl
 c21:=by kernel_rfl
 c37:=by kernel_rfl
 c46:=by kernel_rfl
 c51:=by kernel_rfl
 c53:=by kernel_rfl
 c75:=by kernel_rfl
 c76:=by kernel_rfl
 c80:=by kernel_rfl
 c85:=by kernel_rfl
 c127:=by kernel_rfl
 c143:=by kernel_rfl
 c145:=by kernel_rfl
 c167:=by kernel_rfl
 c168:=by kernel_rfl
 c171:=by kernel_rfl
 c173:=by kernel_rfl
 c175:=by kernel_rfl
 c210:=by kernel_rfl
 c212:=by kernel_rfl
 c213:=by kernel_rfl
 c232:=by kernel_rfl
 c233:=by kernel_rfl}
def Tryz.lays_strings_Cut_ren:Go.Shelf.Ren:=⟨fun|145=>154|220=>240|219=>241|217=>286|225=>287|224=>288|267=>289|266=>312|314=>313|n=>n,fun|9=>9|4=>4|59=>217|3=>3|5=>5|46=>242|146=>328|51=>327|n=>n,fun|1=>0|n=>n⟩
theorem Tryz.lays_strings_Cut:Go.Proofs.Lays.n145 Tryz.prog Tryz.lays_strings_Cut_ren:={
 mixed:=by kernel_rfl
 f145:=Tryz.func154.trans (congrArg some (by kernel_rfl))
 f217:=Tryz.func286.trans (congrArg some (by kernel_rfl))
 f219:=Tryz.func241.trans (congrArg some (by kernel_rfl))
 f220:=Tryz.func240.trans (congrArg some (by kernel_rfl))
 f224:=Tryz.func288.trans (congrArg some (by kernel_rfl))
 f225:=Tryz.func287.trans (congrArg some (by kernel_rfl))
 f266:=Tryz.func312.trans (congrArg some (by kernel_rfl))
 f267:=Tryz.func289.trans (congrArg some (by kernel_rfl))
 f314:=Tryz.func313.trans (congrArg some (by kernel_rfl))
 t3:=Tryz.underlying3
 a3:=Tryz.isAgg3
 z3:=Tryz.sizeOf3
 v3:=Tryz.zeroValue3
 t4:=Tryz.underlying4
 a4:=Tryz.isAgg4
 z4:=Tryz.sizeOf4
 v4:=Tryz.zeroValue4
 t5:=Tryz.underlying5
 a5:=Tryz.isAgg5
 z5:=Tryz.sizeOf5
 v5:=Tryz.zeroValue5
 t9:=Tryz.underlying9
 a9:=Tryz.isAgg9
 z9:=Tryz.sizeOf9
 v9:=Tryz.zeroValue9
 t46:=Tryz.underlying242
 a46:=Tryz.isAgg242
 z46:=Tryz.sizeOf242
 v46:=Tryz.zeroValue242
 t51:=Tryz.underlying327
 a51:=Tryz.isAgg327
 z51:=Tryz.sizeOf327
 v51:=Tryz.zeroValue327
 t59:=Tryz.underlying217
 a59:=Tryz.isAgg217
 z59:=Tryz.sizeOf217
 v59:=Tryz.zeroValue217
 t146:=Tryz.underlying328
 a146:=Tryz.isAgg328
 z146:=Tryz.sizeOf328
 v146:=Tryz.zeroValue328
 g1:=by kernel_rfl}
def Tryz.lays_strings_Join_ren:Go.Shelf.Ren:=⟨fun|156=>165|165=>247|166=>248|169=>249|240=>295|241=>296|276=>325|277=>326|n=>n,fun|31=>120|9=>9|3=>3|4=>4|0=>0|20=>20|72=>287|76=>283|70=>285|37=>22|75=>282|127=>316|164=>344|5=>5|80=>289|n=>n,fun|n=>n⟩
theorem Tryz.lays_strings_Join:Go.Proofs.Lays.n156 Tryz.prog Tryz.lays_strings_Join_ren:={
 mixed:=by kernel_rfl
 f156:=Tryz.func165.trans (congrArg some (by kernel_rfl))
 f165:=Tryz.func247.trans (congrArg some (by kernel_rfl))
 f166:=Tryz.func248.trans (congrArg some (by kernel_rfl))
 f169:=Tryz.func249.trans (congrArg some (by kernel_rfl))
 f240:=Tryz.func295.trans (congrArg some (by kernel_rfl))
 f241:=Tryz.func296.trans (congrArg some (by kernel_rfl))
 f276:=Tryz.func325.trans (congrArg some (by kernel_rfl))
 f277:=Tryz.func326.trans (congrArg some (by kernel_rfl))
 t0:=Tryz.underlying0
 a0:=Tryz.isAgg0
 z0:=Tryz.sizeOf0
 v0:=Tryz.zeroValue0
 t3:=Tryz.underlying3
 a3:=Tryz.isAgg3
 z3:=Tryz.sizeOf3
 v3:=Tryz.zeroValue3
 t4:=Tryz.underlying4
 a4:=Tryz.isAgg4
 z4:=Tryz.sizeOf4
 v4:=Tryz.zeroValue4
 t9:=Tryz.underlying9
 a9:=Tryz.isAgg9
 z9:=Tryz.sizeOf9
 v9:=Tryz.zeroValue9
 t20:=Tryz.underlying20
 a20:=Tryz.isAgg20
 z20:=Tryz.sizeOf20
 v20:=Tryz.zeroValue20
 t31:=Tryz.underlying120
 a31:=Tryz.isAgg120
 z31:=Tryz.sizeOf120
 v31:=Tryz.zeroValue120
 t37:=Tryz.underlying22
 a37:=Tryz.isAgg22
 z37:=Tryz.sizeOf22
 v37:=Tryz.zeroValue22
 t70:=Tryz.underlying285
 a70:=Tryz.isAgg285
 z70:=Tryz.sizeOf285
 v70:=Tryz.zeroValue285
 t72:=Tryz.underlying287
 a72:=Tryz.isAgg287
 z72:=Tryz.sizeOf287
 v72:=Tryz.zeroValue287
 t75:=Tryz.underlying282
 a75:=Tryz.isAgg282
 z75:=Tryz.sizeOf282
 v75:=Tryz.zeroValue282
 t76:=Tryz.underlying283
 a76:=Tryz.isAgg283
 z76:=Tryz.sizeOf283
 v76:=Tryz.zeroValue283
 t127:=Tryz.underlying316
 a127:=Tryz.isAgg316
 z127:=Tryz.sizeOf316
 v127:=Tryz.zeroValue316
 t164:=Tryz.underlying344
 a164:=Tryz.isAgg344
 z164:=Tryz.sizeOf344
 v164:=Tryz.zeroValue344}
theorem Tryz.extra_strings_Join:Builder.Extra Tryz.prog Tryz.lays_strings_Join_ren:={
 sizeBuilder:=by kernel_rfl
 liesBuilder:=by kernel_rfl
 t5:=by kernel_rfl
 a5:=by intro _;kernel_rfl
 z5:=by intro _;kernel_rfl
 v5:=by intro _;kernel_rfl
 infoByte:=by kernel_rfl
 cellsByte:=by kernel_rfl
 sizeByte:=by kernel_rfl
 neB5:=by decide}
def Tryz.lays_strings_Index_ren:Go.Shelf.Ren:=⟨fun|143=>155|219=>241|217=>286|225=>287|224=>288|267=>289|266=>312|314=>313|n=>n,fun|9=>9|3=>3|4=>4|5=>5|46=>242|146=>328|51=>327|n=>n,fun|1=>0|n=>n⟩
theorem Tryz.lays_strings_Index:Go.Proofs.Lays.n143 Tryz.prog Tryz.lays_strings_Index_ren:={
 mixed:=by kernel_rfl
 f143:=Tryz.func155.trans (congrArg some (by kernel_rfl))
 f217:=Tryz.func286.trans (congrArg some (by kernel_rfl))
 f219:=Tryz.func241.trans (congrArg some (by kernel_rfl))
 f224:=Tryz.func288.trans (congrArg some (by kernel_rfl))
 f225:=Tryz.func287.trans (congrArg some (by kernel_rfl))
 f266:=Tryz.func312.trans (congrArg some (by kernel_rfl))
 f267:=Tryz.func289.trans (congrArg some (by kernel_rfl))
 f314:=Tryz.func313.trans (congrArg some (by kernel_rfl))
 t3:=Tryz.underlying3
 a3:=Tryz.isAgg3
 z3:=Tryz.sizeOf3
 v3:=Tryz.zeroValue3
 t4:=Tryz.underlying4
 a4:=Tryz.isAgg4
 z4:=Tryz.sizeOf4
 v4:=Tryz.zeroValue4
 t5:=Tryz.underlying5
 a5:=Tryz.isAgg5
 z5:=Tryz.sizeOf5
 v5:=Tryz.zeroValue5
 t9:=Tryz.underlying9
 a9:=Tryz.isAgg9
 z9:=Tryz.sizeOf9
 v9:=Tryz.zeroValue9
 t46:=Tryz.underlying242
 a46:=Tryz.isAgg242
 z46:=Tryz.sizeOf242
 v46:=Tryz.zeroValue242
 t51:=Tryz.underlying327
 a51:=Tryz.isAgg327
 z51:=Tryz.sizeOf327
 v51:=Tryz.zeroValue327
 t146:=Tryz.underlying328
 a146:=Tryz.isAgg328
 z146:=Tryz.sizeOf328
 v146:=Tryz.zeroValue328
 g1:=by kernel_rfl}
end Go.Proofs
namespace KF
open Go Go.Proofs Go.Proofs.Tryz
def GT:List (Nat×Ty):=[(3,int),(4,.b),(5,ZO),(9,.s),(22,(.sl ZO)),(24,(.sl (.sl Bc))),(26,Bb),(29,(.sl int)),(33,(.sl Lb)),(64,(.sl (.sl Qd))),(65,(.sl Gl)),(67,Rb),(68,Qd),(69,(.sl Pm)),(71,Cd),(72,(.sl Wg)),(74,Zc),(104,Lb),(108,(.sl Bc)),(111,Bc),(120,(.sl .s)),(132,(.sl Qd)),(188,Wg),(201,Qd),(208,Pm),(223,(.mp int (.sl int))),(238,Gl),(262,(.sl (.sl int))),(263,(.sl .b)),(277,(.sl Sh)),(279,Sh)]
def GA:List (Nat×Ty×Nat):=[]
theorem PaR:((GT.all fun x=>Ie Tryz.prog x.2 x.1)&&(GA.all fun x=>B1 Tryz.prog x.1 x.2.1 x.2.2))=true:=by kernel_rfl
theorem Yag:Tryz.prog.follows .mixedOrders=true:=by kernel_rfl
noncomputable abbrev II:Bh:=Bay Tryz.prog (Tryz.lays_strings_Split_ren.g 1) (Tryz.lays_strconv_Itoa_ren.g 17) "internal/strconv.uint64pow10" .u64 Lib.pow10Tab Tryz.lays_strconv_Itoa.m17 (Tryz.lays_strconv_Atoi_ren.g 15)
noncomputable section
abbrev WP:Program:=Tryz.prog
abbrev WF:=List (Nat×Pa)
abbrev WL:=List (Nat×Qa)
abbrev WG(z:Bool)(fs:WF)(m:List (Nat×Nat))(v l:List Nat):Sf:=⟨GT,fs,m,z,GA,v,l⟩
def WO(fs:WF):Prop:=∀z m v l,Kn WP II (WG z fs m v l)
theorem Qa3:WO []:=fun _ _ _ _=>M9 PaR
theorem wc{f:Nat}{s:Pa}{fs:WF}(e:WO fs)(h:Zh WP II f s):WO ((f,s)::fs):=fun z m v l=>Kn.cons h (e z m v l)
theorem Vaz{f:Nat}{s:Pa}{fs:WF}(e:WO fs)(h:Xb fs f=some s):Zh WP II f s:=(e true [] [] []).fn f s h
theorem Mc{z:Bool}{fs:WF}{m:List (Nat×Nat)}{v l:List Nat}{L:WL}{fn:Func}{i:Nat}(r:Nat){ls:Qa}{R:ls.inT.X→Option (ls.inT.X⊕(ls.outT.X⊕ls.retT.X))}
 (h3:ls.F=Eb R) (h1:Ln (lp fn i)=some r:=by kernel_rfl) (h2:(Xb L r)=some ls:=by kernel_rfl) (h4:∀x,JR (WG z fs m v l) L ls (lp fn i) x=R x:=by intro _;kernel_rfl):Ab (WG z fs m v l) L (lp fn i):=U9 h1 h2 h3 h4
theorem Md{f:Nat}{fn:Func}{pt rt:Ty}{fr:List Bool}{F:T pt→Option (T rt)}{fs:WF}(e:WO fs)(hf:WP.funcs[f]?=some fn)
 (hb:(fn.body.isSome&&!(fn.name== "runtime.NumGoroutine")&&Nat.ble pt.npar fn.ntmps&&Nat.beq (Uf (fn.body.getD .skip)).length 0)=true:=by kernel_rfl)
 (hF:∀x,evF (WG true fs [] [] []) [] fn pt rt fr x=F x:=by intro _;kernel_rfl):WO ((f,.pu pt rt fr F)::fs):=wc e (ZX (e _ _ _ _) Yag hf hb Ma hF)
theorem Je{k:Nat}{L:WL}{m:List (Nat×Nat)}{v l:List Nat}{f:Nat}{fn:Func}{pt rt:Ty}{fr:List Bool}{F:T pt→Option (T rt)}{fs:WF}(e:WO fs)(hf:WP.funcs[f]?=some fn)(hL:∀i,i<k→Ab (WG true fs m v l) L (lp fn i))
 (hb:(fn.body.isSome&&!(fn.name== "runtime.NumGoroutine")&&Nat.ble pt.npar fn.ntmps&&Nat.beq (Uf (fn.body.getD .skip)).length k)=true:=by kernel_rfl)
 (hF:∀x,evF (WG true fs m v l) L fn pt rt fr x=F x:=by intro _;kernel_rfl):WO ((f,.pu pt rt fr F)::fs):=wc e (ZX (e _ _ _ _) Yag hf hb hL hF)
theorem wco{z:Bool}{k:Nat}{L:WL}{m:List (Nat×Nat)}{v l:List Nat}{f:Nat}{fn:Func}{pt rt:Ty}{fr:List Bool}{F:T pt→Option (T rt)}{fs:WF}(e:WO fs)(hf:WP.funcs[f]?=some fn)(hL:∀i,i<k→Ab (WG z fs m v l) L (lp fn i))
 (hb:(fn.body.isSome&&!(fn.name== "runtime.NumGoroutine")&&Nat.ble pt.npar fn.ntmps&&Nat.beq (Uf (fn.body.getD .skip)).length k)=true:=by kernel_rfl)
 (hF:∀x,Jac (WG z fs m v l) L fn pt rt fr x=F x:=by intro _;kernel_rfl) (hz:(!z||cmB m)=true:=by kernel_rfl):WO ((f,.co pt rt fr F)::fs):=wc e (Vav (e _ _ _ _) hz Yag hf hb hL hF)
theorem wbx{z:Bool}{k:Nat}{L:WL}{m:List (Nat×Nat)}{v l:List Nat}{f:Nat}{fn:Func}{vw cv:Bool}{τ pt rt:Ty}{fr:List Bool}{F:T τ→T pt→Option (T τ×T rt)}{fs:WF}(e:WO fs)(hf:WP.funcs[f]?=some fn)(hL:∀i,i<k→Ab (WG z fs m v l) L (lp fn i))
 (hb:(fn.body.isSome&&!(fn.name== "runtime.NumGoroutine")&&Nat.ble (pt.npar+1) fn.ntmps&&Nat.beq (Uf (fn.body.getD .skip)).length k)=true:=by kernel_rfl)
 (hF:∀x0 x,Iac (WG z fs m v l) L fn vw cv τ pt rt fr x0 x=F x0 x:=by intro _ _;kernel_rfl) (hz:(!z||((vw&&!cv)&&OJ m))=true:=by kernel_rfl):WO ((f,.bx vw cv τ pt rt fr F)::fs):=wc e (Tav (e _ _ _ _) hz Yag hf hb hL hF)
theorem Gax:∀w,II.p w→∃m,w.cell? ⟨Tryz.lays_strings_Split_ren.g 1,0,none⟩=some (.int .i64 m):=fun _ h=>h.1.1
theorem Aa1:∀w,II.p w→Lib.TabIs Tryz.prog w "internal/strconv.uint64pow10" .u64 Lib.pow10Tab:=fun _ h=>h.1.2
theorem Za0:∀w,II.p w→∃ev,w.cell? ⟨Tryz.lays_strconv_Atoi_ren.g 15,0,none⟩=some ev∧(ev=.nilIface∨∃te pe,ev=.iface te pe):=fun _ h=>h.2
abbrev Ra:TD:=.data int
abbrev Cf:Ty:=.p .b .u
abbrev Lr:TD:=.own 200001 .s true
abbrev Xg:Ty:=.p .s .u
abbrev Ch:Ty:=.p int .u
abbrev Of:TD:=.ptr 2 []
abbrev Kr:TD:=.data (.sl Gl)
abbrev Ry:TD:=.own 200001 int true
abbrev Bp:Ty:=.p Bc .u
abbrev Ph:TD:=.data .s
abbrev Yj:TD:=.ptr 1 []
abbrev Hv:TD:=.data Lb
abbrev Ii:TD:=.data .b
abbrev Il:Ty:=.sl Qd
abbrev CN:Ty:=.sl Lb
abbrev Sy:TD:=.data Bb
abbrev BS:TD:=.own 200001 Lb true
abbrev Xn:TD:=.ptr 3 []
abbrev JF:Ty:=.p Lb .u
abbrev Jl:Ty:=.sl int
abbrev GF:TD:=.pr Ra (.pr (.data Jl) .un)
abbrev Iv:TD:=.ptr 4 []
abbrev Uy:Ty:=.sl Pm
abbrev DS:Ty:=.p int (.p .o .u)
abbrev BP:Ty:=.p Zc Xg
abbrev DN:TD:=.data Rb
abbrev HB:Ty:=.sl Bc
abbrev BU:TD:=.data (.sl HB)
abbrev DW:TD:=.pr Ra (.pr (.own 200001 HB true) .un)
abbrev CS:TD:=.pr Ra (.pr BU .un)
abbrev CU:Ty:=.p (.sl Gl) .u
abbrev DU:Ty:=.p Bb Sh
abbrev Map:TD:=.pr (.data (.sl Il)) (.pr Ra (.pr Kr (.data (.p int Cf))))
abbrev D1:TD:=.own 200001 Wg true
abbrev LF:TD:=.ptr 5 []
abbrev CK:Ty:=.p CN .u
abbrev Q6:TD:=.own 200001 Qd true
abbrev NF:Ty:=.sl Wg
abbrev C1:Ty:=.p Cd (.p NF Cf)
abbrev R6:TD:=.own 200001 ZO true
abbrev S6:TD:=.own 200101 int true
abbrev EW:Ty:=.p Zc .u
abbrev KI:TD:=.data Qd
abbrev c1_:TD:=.pr (.pr CS Map) (.pr KI (.pr (.data Uy) (.data Bc)))
abbrev c2_:TD:=.pr (.pr (.pr Ra (.pr (.own 200002 HB true) .un)) (.pr (.own 200003 Il true) (.pr Ra (.pr (.own 200004 Gl true) (.data (.p int Cf)))))) (.pr KI (.pr (.own 200005 Pm true) (.data Bc)))
abbrev c3_:TD:=.pr (.pr (.pr DW (.pr (.own 200002 Il true) (.pr Ra (.pr (.own 200003 Gl true) (.data (.p int Cf)))))) (.pr KI (.pr (.own 200004 Pm true) (.data Bc)))) (.pr (.own 200005 Wg true) .un)
abbrev c4_:TD:=.pr (.pr (.pr (.pr Ra (.pr (.own 200003 HB true) .un)) (.pr (.own 200004 Il true) (.pr Ra (.pr (.own 200005 Gl true) (.data (.p int Cf)))))) (.pr KI (.pr (.own 200006 Pm true) (.data Bc)))) (.pr (.own 200007 Wg true) .un)
abbrev AP:TD:=.pr c1_ (.pr (.data NF) .un)
abbrev T6:TD:=.own 200102 .s true
abbrev FW:Ty:=.p Bb .u
abbrev DaK:TD:=.pr DW (.pr (.own 200002 Il true) (.data (.p int (.p (.sl Gl) (.p int Cf)))))
abbrev Kax:TD:=.pr c2_ (.pr (.own 200006 Wg true) .un)
abbrev Ma2:Pa:=.pu (.p .s (.p ZO .u)) (.p (.sl .s) .u) [true] (fun x=>Og x.1 x.2.1)
abbrev AaJ:WF:=(56,Ma2)::([]:WF)
def Aau:Qa:=⟨36,⟨[(0,Ph),(1,(.data ZO)),(5,Lr),(6,Ra),(7,Ra)],[]⟩,0,⟨[(5,Lr)],[]⟩,⟨[],[]⟩,Gi⟩
def Ga1:WL:=[(4,Aau)]
theorem VaK:Ab (WG true ([]:WF) [] [] []) Ga1 (lp f56 0):=Mc 4 (ls:=Aau) rfl
theorem WaZ:WO AaJ:=Je Qa3 func56 (Ja VaK Ma)
abbrev DaU:Pa:=.pu Qd Cf [true] (fun x=>Sc x.1 x.2.1 x.2.2.1)
abbrev CaA:WF:=(107,DaU)::AaJ
theorem OaM:WO CaA:=Md WaZ func107
abbrev KaY:Pa:=.pu .u (.p (.sl .s) .u) [true] (fun x=>HJ)
abbrev JaC:WF:=(273,KaY)::CaA
theorem VaQ:WO JaC:=Md OaM func273
abbrev CaX:Pa:=.pu Ch Xg [true] (fun x=>Ng x.1)
abbrev Bao:WF:=(215,CaX)::JaC
theorem NaP:WO Bao:=Md VaQ func215
abbrev GaX:Pa:=.pu Xg Ch [true] (fun x=>Vv x.1)
abbrev Dao:WF:=(219,GaX)::Bao
def Lak:Qa:=⟨13,⟨[(0,Ph),(3,Ra)],[]⟩,0,⟨[],[]⟩,⟨[(2,Ra)],[]⟩,Eo⟩
def WaS:WL:=[(2,Lak)]
theorem KaG:Ab (WG true Bao [] [] []) WaS (lp f219 0):=Mc 2 (ls:=Lak) rfl
theorem RaP:WO Dao:=Je NaP func219 (Ja KaG Ma)
abbrev OaU:Pa:=.pu Ch Xg [true] (fun x=>Sd x.1)
abbrev Ban:WF:=(127,OaU)::Dao
def Aaj:Qa:=⟨31,⟨[(0,Ra),(3,Ph),(4,Ra)],[]⟩,0,⟨[(0,Ra),(3,Ph)],[]⟩,⟨[],[]⟩,Fi⟩
def UaR:WL:=[(5,Aaj)]
theorem ZaE:Ab (WG true Dao [] [] []) UaR (lp f127 0):=Mc 5 (ls:=Aaj) rfl
theorem ZaM:WO Ban:=Je RaP func127 (Ja ZaE Ma)
abbrev Xa2:Pa:=.pu Xg (.p int Cf) [true,true] (fun x=>Ot x.1)
abbrev Waw:WF:=(69,Xa2)::Ban
def Hau:Qa:=⟨62,⟨[(0,Ph),(4,Ph),(5,Ra),(6,Ra)],[]⟩,0,⟨[(0,Ph),(4,Ph),(5,Ra)],[]⟩,⟨[(2,Ra),(3,Ii)],[]⟩,Vg⟩
def Na1:WL:=[(8,Hau)]
theorem CaL:Ab (WG true Ban [] [] []) Na1 (lp f69 0):=Mc 8 (ls:=Hau) rfl
theorem Ha0:WO Waw:=Je ZaM func69 (Ja CaL Ma)
abbrev DaX:Pa:=.pu Ch Xg [true] (fun x=>Rj x.1)
abbrev Cao:WF:=(216,DaX)::Waw
def Jak:Qa:=⟨25,⟨[(0,Ra),(3,Ph),(4,Ra)],[]⟩,0,⟨[(3,Ph)],[]⟩,⟨[],[]⟩,Wv⟩
def UaS:WL:=[(3,Jak)]
theorem IaG:Ab (WG true Waw [] [] []) UaS (lp f216 0):=Mc 3 (ls:=Jak) rfl
theorem OaP:WO Cao:=Je Ha0 func216 (Ja IaG Ma)
abbrev IaX:Pa:=.pu Xg Ch [true] (fun x=>Ir x.1)
abbrev QaB:WF:=(221,IaX)::Cao
def Mak:Qa:=⟨13,⟨[(0,Ph),(3,Ra)],[]⟩,0,⟨[],[]⟩,⟨[(2,Ra)],[]⟩,Zk⟩
def XaS:WL:=[(2,Mak)]
theorem LaG:Ab (WG true Cao [] [] []) XaS (lp f221 0):=Mc 2 (ls:=Mak) rfl
theorem TaP:WO QaB:=Je OaP func221 (Ja LaG Ma)
abbrev HaX:Pa:=.pu (.p int (.p .s Xg)) Bp [true] (fun x=>CM x.1 x.2.1 x.2.2.1)
abbrev PaB:WF:=(220,HaX)::QaB
theorem SaP:WO PaB:=Md TaP func220
abbrev CaU:Pa:=.pu Bp Cf [true] (fun x=>Ik x.1)
abbrev BaA:WF:=(106,CaU)::PaB
theorem NaM:WO BaA:=Md SaP func106
abbrev BaX:Pa:=.pu Bp Xg [true] (fun x=>Xe x.1)
abbrev NaB:WF:=(214,BaX)::BaA
theorem MaP:WO NaB:=Md NaM func214
abbrev VaU:Pa:=.pu Xg (.p Bc Cf) [true,true] (fun x=>Is x.1)
abbrev Pab:WF:=(134,VaU)::NaB
theorem GaN:WO Pab:=Md MaP func134
abbrev Ia2:Pa:=.pu FW Cf [true] (fun x=>Cm x.1)
abbrev Oaw:WF:=(42,Ia2)::Pab
def Yat:Qa:=⟨74,⟨[(1,Yj),(3,Ra),(4,Ra)],[(1,Bb,Sy)]⟩,2,⟨[(1,Yj),(3,Ra)],[(1,Bb,Sy)]⟩,⟨[(2,Ii)],[]⟩,Oq⟩
def Xat:Qa:=⟨74,⟨[(1,Yj),(3,Ra)],[(1,Bb,Sy)]⟩,0,⟨[(1,Yj)],[(1,Bb,Sy)]⟩,⟨[(2,Ii)],[]⟩,Nq⟩
def RaJ:WL:=[(7,Yat),(2,Xat)]
theorem TaK:Ab (WG true Pab [] [] []) RaJ (lp f42 1):=Mc 7 (ls:=Yat) rfl
theorem SaK:Ab (WG true Pab [] [] []) RaJ (lp f42 0):=Mc 2 (ls:=Xat) rfl
theorem SaZ:WO Oaw:=Je GaN func42 (Ja TaK (Ja SaK Ma))
abbrev Ua2:Pa:=.pu Xg (.p Bb Cf) [false,true] (fun x=>Js x.1)
abbrev EaJ:WF:=(66,Ua2)::Oaw
def Fau:Qa:=⟨57,⟨[(2,Of),(4,Iv),(5,(.own 200001 Bc true)),(6,(.own 200002 .s true)),(7,Ra)],[(2,Bb,CS),(4,Bb,(.pr Ra (.pr (.own 200003 HB false) .un)))]⟩,0,⟨[(2,Of),(4,Iv)],[(2,Bb,CS),(4,Bb,(.pr Ra (.pr (.own 200001 HB false) .un)))]⟩,⟨[(2,Of),(3,Ii)],[(2,Bb,CS)]⟩,Gt⟩
def La1:WL:=[(5,Fau)]
theorem AaL:Ab (WG true Oaw [(8004,1000200001),(17999,1000200001)] [] []) La1 (lp f66 0):=Mc 5 (ls:=Fau) rfl
theorem Ea0:WO EaJ:=Je SaZ func66 (Ja AaL Ma)
abbrev CaW:Pa:=.pu Bp Cf [true] (fun x=>Cn x.1)
abbrev Tan:WF:=(184,CaW)::EaJ
theorem NaO:WO Tan:=Md Ea0 func184
abbrev QaW:Pa:=.pu CU Cf [true] (fun x=>Yv x.1)
abbrev Xan:WF:=(200,QaW)::Tan
def Dak:Qa:=⟨57,⟨[(0,Kr),(3,Ra),(4,Ra)],[]⟩,0,⟨[],[]⟩,⟨[(2,Ii)],[]⟩,EE⟩
def OaS:WL:=[(3,Dak)]
theorem CaG:Ab (WG true Tan [] [] []) OaS (lp f200 0):=Mc 3 (ls:=Dak) rfl
theorem BaP:WO Xan:=Je NaO func200 (Ja CaG Ma)
abbrev JaX:Pa:=.pu (.p (.sl Gl) (.p Qd .u)) Ch [true] (fun x=>Vq x.1 x.2.1)
abbrev RaB:WF:=(222,JaX)::Xan
def Nak:Qa:=⟨33,⟨[(0,Kr),(3,Xn),(5,Ra)],[(3,Qd,KI)]⟩,0,⟨[],[]⟩,⟨[(4,Ra)],[]⟩,KE⟩
def YaS:WL:=[(2,Nak)]
theorem MaG:Ab (WG true Xan [] [] []) YaS (lp f222 0):=Mc 2 (ls:=Nak) rfl
theorem UaP:WO RaB:=Je BaP func222 (Ja MaG Ma)
abbrev KaX:Pa:=.pu (.p Qd .u) Bp [true] (fun x=>Pt x.1)
abbrev SaB:WF:=(223,KaX)::RaB
theorem VaP:WO SaB:=Md UaP func223
abbrev XaW:Pa:=.pu (.p (.sl Gl) Ch) CU [true] (fun x=>Qg x.1 x.2.1)
abbrev Aao:WF:=(207,XaW)::SaB
theorem IaP:WO Aao:=Md VaP func207
abbrev XaU:Pa:=.pu (.p Il .u) Cf [true] (fun x=>Ux x.1)
abbrev Qab:WF:=(136,XaU)::Aao
def Jaj:Qa:=⟨62,⟨[(0,(.data Il)),(3,(.own 200001 Gl true)),(4,Ra)],[]⟩,0,⟨[(0,(.data Il)),(3,(.own 200001 Gl true))],[]⟩,⟨[(2,Ii)],[]⟩,OB⟩
def AaS:WL:=[(3,Jaj)]
theorem IaF:Ab (WG true Aao [] [] []) AaS (lp f136 0):=Mc 3 (ls:=Jaj) rfl
theorem IaN:WO Qab:=Je IaP func136 (Ja IaF Ma)
abbrev EaU:Pa:=.pu (.p Rb .u) Cf [true] (fun x=>Bm x.1)
abbrev Wam:WF:=(112,EaU)::Qab
def Tai:Qa:=⟨96,⟨[(1,Yj),(3,Ra)],[(1,Rb,DN)]⟩,0,⟨[(1,Yj)],[(1,Rb,DN)]⟩,⟨[(2,Ii)],[]⟩,Lq⟩
def Uai:Qa:=⟨96,⟨[(1,Yj),(4,Ra)],[(1,Rb,DN)]⟩,2,⟨[(1,Yj)],[(1,Rb,DN)]⟩,⟨[(2,Ii)],[]⟩,Mq⟩
def VaC:WL:=[(4,Tai),(9,Uai)]
theorem SaE:Ab (WG true Qab [] [] []) VaC (lp f112 0):=Mc 4 (ls:=Tai) rfl
theorem TaE:Ab (WG true Qab [] [] []) VaC (lp f112 1):=Mc 9 (ls:=Uai) rfl
theorem PaM:WO Wam:=Je IaN func112 (Ja TaE (Ja SaE Ma))
abbrev Ma3:Pa:=.pu FW FW [true] (fun x=>DM x.1)
abbrev Eax:WF:=(94,Ma3)::Wam
def Pau:Qa:=⟨28,⟨[(1,Yj),(2,Of),(3,Xn),(4,Ra)],[(1,Bb,Sy),(2,Bb,CS),(3,Bb,DW)]⟩,0,⟨[(2,Of),(3,Xn)],[(2,Bb,CS),(3,Bb,DW)]⟩,⟨[],[]⟩,JE⟩
def Ua1:WL:=[(3,Pau)]
theorem KaL:Ab (WG true Wam [] [] []) Ua1 (lp f94 0):=Mc 3 (ls:=Pau) rfl
theorem Wa0:WO Eax:=Je PaM func94 (Ja KaL Ma)
abbrev FaU:Pa:=.pu (.p Rb .u) (.p Rb .u) [true] (fun x=>Ml x.1)
abbrev DaA:WF:=(113,FaU)::Eax
def Vai:Qa:=⟨37,⟨[(1,Yj),(2,Of),(3,Xn),(4,Ra)],[(1,Rb,DN),(2,Rb,(.pr CS Map)),(3,Rb,DaK)]⟩,0,⟨[(1,Yj),(2,Of),(3,Xn)],[(1,Rb,DN),(2,Rb,(.pr CS Map)),(3,Rb,DaK)]⟩,⟨[],[]⟩,LE⟩
def RaR:WL:=[(5,Vai)]
theorem UaE:Ab (WG true Eax [] [] []) RaR (lp f113 0):=Mc 5 (ls:=Vai) rfl
theorem QaM:WO DaA:=Je Wa0 func113 (Ja UaE Ma)
abbrev La2:Pa:=.pu (.p Bb (.p (.sl Il) .u)) (.p Rb Cf) [true,true] (fun x=>Dn x.1 x.2.1)
abbrev ZaI:WF:=(51,La2)::DaA
theorem VaZ:WO ZaI:=Md QaM func51
abbrev YaW:Pa:=.pu (.p Qd .u) Cf [true] (fun x=>RA x.1)
abbrev KaB:WF:=(211,YaW)::ZaI
theorem JaP:WO KaB:=Md VaZ func211
abbrev JaY:Pa:=.pu Ch Ch [true] (fun x=>KS x.1)
abbrev Lao:WF:=(272,JaY)::KaB
theorem UaQ:WO Lao:=Md JaP func272
abbrev AaX:Pa:=.pu (.p Rb .u) Ch [true] (fun x=>GE x.1)
abbrev MaB:WF:=(213,AaX)::Lao
def Iak:Qa:=⟨22,⟨[(1,Yj),(3,Ra),(4,Ra)],[(1,Rb,DN)]⟩,0,⟨[(3,Ra)],[]⟩,⟨[],[]⟩,RB⟩
def TaS:WL:=[(3,Iak)]
theorem HaG:Ab (WG true Lao [] [] []) TaS (lp f213 0):=Mc 3 (ls:=Iak) rfl
theorem LaP:WO MaB:=Je UaQ func213 (Ja HaG Ma)
abbrev IaY:Pa:=.pu (.p Pm .u) Cf [true] (fun x=>DE x.1)
abbrev Kao:WF:=(271,IaY)::MaB
theorem TaQ:WO Kao:=Md LaP func271
abbrev ZaW:Pa:=.pu (.p Uy Qd) Cf [true] (fun x=>Zu x.1 x.2.1 x.2.2.1 x.2.2.2.1)
abbrev LaB:WF:=(212,ZaW)::Kao
def Hak:Qa:=⟨73,⟨[(0,(.data Uy)),(1,Ra),(2,Ra),(3,Ra),(9,Ra)],[]⟩,0,⟨[(0,(.data Uy))],[]⟩,⟨[(8,Ii)],[]⟩,Aw⟩
def SaS:WL:=[(2,Hak)]
theorem GaG:Ab (WG true Kao [] [] []) SaS (lp f212 0):=Mc 2 (ls:=Hak) rfl
theorem KaP:WO LaB:=Je TaQ func212 (Ja GaG Ma)
abbrev LaU:Pa:=.pu (.p Cd .u) Cf [true] (fun x=>Hr x.1)
abbrev GaA:WF:=(124,LaU)::LaB
theorem WaM:WO GaA:=Md KaP func124
abbrev JaU:Pa:=.pu (.p Rb (.p Qd .u)) (.p Cd Cf) [true,true] (fun x=>Ru x.1 x.2.1)
abbrev FaA:WF:=(119,JaU)::GaA
theorem UaM:WO FaA:=Md WaM func119
abbrev Na2:Pa:=.pu .u EW [true] (fun x=>Ul)
abbrev Raw:WF:=(57,Na2)::FaA
theorem XaZ:WO Raw:=Md UaM func57
abbrev KaU:Pa:=.pu JF Cf [true] (fun x=>Ip x.1)
abbrev Yam:WF:=(123,KaU)::Raw
def Xai:Qa:=⟨39,⟨[(1,Yj),(3,Ra)],[(1,Lb,Hv)]⟩,0,⟨[(1,Yj)],[(1,Lb,Hv)]⟩,⟨[(2,Ii)],[]⟩,BA⟩
def TaR:WL:=[(2,Xai)]
theorem WaE:Ab (WG true Raw [] [] []) TaR (lp f123 0):=Mc 2 (ls:=Xai) rfl
theorem VaM:WO Yam:=Je XaZ func123 (Ja WaE Ma)
abbrev Qa2:Pa:=.pu EW Cf [true] (fun x=>BF x.1)
abbrev CaJ:WF:=(62,Qa2)::Yam
def Cau:Qa:=⟨38,⟨[(1,Yj),(3,Ra)],[(1,Zc,(.data Zc))]⟩,0,⟨[(1,Yj)],[(1,Zc,(.data Zc))]⟩,⟨[(2,Ii)],[]⟩,Vx⟩
def Ia1:WL:=[(2,Cau)]
theorem XaK:Ab (WG true Yam [] [] []) Ia1 (lp f62 0):=Mc 2 (ls:=Cau) rfl
theorem Aa0:WO CaJ:=Je VaM func62 (Ja XaK Ma)
abbrev MaU:Pa:=.pu JF JF [true] (fun x=>EB x.1)
abbrev Zam:WF:=(125,MaU)::CaJ
theorem XaM:WO Zam:=Md Aa0 func125
abbrev Ra2:Pa:=.pu EW EW [true] (fun x=>GJ x.1)
abbrev Taw:WF:=(63,Ra2)::Zam
def Dau:Qa:=⟨51,⟨[(1,Yj),(2,Of),(3,Xn),(5,Ra)],[(1,Zc,(.data Zc)),(2,Zc,AP),(3,Zc,c3_)]⟩,0,⟨[(2,Of),(3,Xn)],[(2,Zc,AP),(3,Zc,c3_)]⟩,⟨[],[]⟩,SB⟩
def Ja1:WL:=[(6,Dau)]
theorem YaK:Ab (WG true Zam [] [] []) Ja1 (lp f63 0):=Mc 6 (ls:=Dau) rfl
theorem Ba0:WO Taw:=Je XaM func63 (Ja YaK Ma)
abbrev Sa2:Pa:=.pu (.p (.sl .s) Xg) Xg [true] (fun x=>Nd x.1 x.2.1)
abbrev Vao:WF:=(64,Sa2)::Taw
def Eau:Qa:=⟨27,⟨[(0,(.data (.sl .s))),(1,Ph),(5,R6),(6,Ra)],[]⟩,0,⟨[(5,R6)],[]⟩,⟨[],[]⟩,Pq⟩
def Ka1:WL:=[(3,Eau)]
theorem ZaK:Ab (WG true Taw [] [] []) Ka1 (lp f64 0):=Mc 3 (ls:=Eau) rfl
theorem Ca0:WO Vao:=Je Ba0 func64 (Ja ZaK Ma)
abbrev NaU:Pa:=.pu FW Xg [true] (fun x=>Nw x.1)
abbrev Aan:WF:=(126,NaU)::Vao
def Zai:Qa:=⟨45,⟨[(1,Yj),(3,(.own 200101 .s true)),(4,Ra),(5,T6),(6,Ra)],[(1,Bb,Sy)]⟩,2,⟨[(1,Yj),(3,(.own 200101 .s true)),(4,Ra),(5,T6)],[(1,Bb,Sy)]⟩,⟨[],[]⟩,Tl⟩
def Yai:Qa:=⟨45,⟨[(1,Yj),(3,Lr),(4,Ra)],[(1,Bb,Sy)]⟩,0,⟨[(3,Lr)],[]⟩,⟨[],[]⟩,Pi⟩
def WaC:WL:=[(7,Zai),(3,Yai)]
theorem YaE:Ab (WG true Vao [] [] []) WaC (lp f126 1):=Mc 7 (ls:=Zai) rfl
theorem XaE:Ab (WG true Vao [] [] []) WaC (lp f126 0):=Mc 3 (ls:=Yai) rfl
theorem YaM:WO Aan:=Je Ca0 func126 (Ja YaE (Ja XaE Ma))
abbrev PaU:Pa:=.pu (.p int CU) Ch [true] (fun x=>Nt x.1 x.2.1)
abbrev Q3:WF:=(128,PaU)::Aan
def Baj:Qa:=⟨38,⟨[(1,Kr),(5,Ra),(6,Ra)],[]⟩,0,⟨[(5,Ra)],[]⟩,⟨[],[]⟩,Qq⟩
def VaR:WL:=[(5,Baj)]
theorem AaF:Ab (WG true Aan [] [] []) VaR (lp f128 0):=Mc 5 (ls:=Baj) rfl
theorem AaN:WO Q3:=Je YaM func128 (Ja AaF Ma)
abbrev RaU:Pa:=.pu CU JF [true] (fun x=>Ce x.1)
abbrev Dan:WF:=(130,RaU)::Q3
def Daj:Qa:=⟨70,⟨[(0,Kr),(2,Of),(3,Xn),(4,Ra)],[(2,Lb,GF),(3,Lb,(.pr Ra (.pr Ry .un)))]⟩,0,⟨[(0,Kr),(2,Of),(3,Xn)],[(2,Lb,GF),(3,Lb,(.pr Ra (.pr Ry .un)))]⟩,⟨[],[]⟩,CA⟩
def Wae:Qa:=⟨70,⟨[(0,Kr),(2,Of),(3,Xn),(5,Ra),(6,Ra)],[(2,Lb,GF),(3,Lb,(.pr Ra (.pr (.own 200201 int true) .un)))]⟩,4,⟨[(0,Kr),(2,Of),(3,Xn),(5,Ra)],[(2,Lb,GF),(3,Lb,(.pr Ra (.pr (.own 200201 int true) .un)))]⟩,⟨[],[]⟩,Wo⟩
def Vae:Qa:=⟨70,⟨[(0,Kr),(2,Of),(3,Xn),(5,Ra)],[(2,Lb,GF),(3,Lb,(.pr Ra (.pr S6 .un)))]⟩,2,⟨[(2,Of),(3,Xn)],[(2,Lb,GF),(3,Lb,(.pr Ra (.pr S6 .un)))]⟩,⟨[],[]⟩,Wx⟩
def Xao:WL:=[(5,Daj),(13,Wae),(10,Vae)]
theorem CaF:Ab (WG true Q3 [] [] []) Xao (lp f130 0):=Mc 5 (ls:=Daj) rfl
theorem Gay:Ab (WG true Q3 [] [] []) Xao (lp f130 2):=Mc 13 (ls:=Wae) rfl
theorem Fay:Ab (WG true Q3 [] [] []) Xao (lp f130 1):=Mc 10 (ls:=Vae) rfl
theorem CaN:WO Dan:=Je AaN func130 (Ja Gay (Ja Fay (Ja CaF Ma)))
abbrev QaU:Pa:=.pu JF Xg [true] (fun x=>Tp x.1)
abbrev Can:WF:=(129,QaU)::Dan
def Caj:Qa:=⟨32,⟨[(1,Yj),(3,Lr),(4,Ra)],[(1,Lb,Hv)]⟩,0,⟨[(1,Yj),(3,Lr)],[(1,Lb,Hv)]⟩,⟨[],[]⟩,As⟩
def WaR:WL:=[(5,Caj)]
theorem BaF:Ab (WG true Dan [] [] []) WaR (lp f129 0):=Mc 5 (ls:=Caj) rfl
theorem BaN:WO Can:=Je CaN func129 (Ja BaF Ma)
abbrev UaU:Pa:=.pu (.p NF .u) CK [true] (fun x=>CF x.1)
abbrev Fan:WF:=(133,UaU)::Can
def Haj:Qa:=⟨22,⟨[(0,(.data NF)),(3,BS),(4,Ra)],[]⟩,0,⟨[(3,BS)],[]⟩,⟨[],[]⟩,Xx⟩
def YaR:WL:=[(3,Haj)]
theorem GaF:Ab (WG true Can [] [] []) YaR (lp f133 0):=Mc 3 (ls:=Haj) rfl
theorem FaN:WO Fan:=Je BaN func133 (Ja GaF Ma)
abbrev LaY:Pa:=.pu (.p Jl Ch) Cf [true] (fun x=>BM x.1 x.2.1)
abbrev Mao:WF:=(274,LaY)::Fan
def Bal:Qa:=⟨18,⟨[(0,(.data Jl)),(1,Ra),(5,Ra)],[]⟩,0,⟨[],[]⟩,⟨[(4,Ii)],[]⟩,HE⟩
def JaT:WL:=[(2,Bal)]
theorem AaH:Ab (WG true Fan [] [] []) JaT (lp f274 0):=Mc 2 (ls:=Bal) rfl
theorem WaQ:WO Mao:=Je FaN func274 (Ja AaH Ma)
abbrev EaX:Pa:=.pu (.p Lb JF) (.p Jl .u) [true] (fun x=>EJ x.1 x.2.1)
abbrev OaB:WF:=(217,EaX)::Mao
def Kak:Qa:=⟨41,⟨[(2,Of),(3,Xn),(5,Ry),(6,Ra)],[(2,Lb,Hv),(3,Lb,Hv)]⟩,0,⟨[(5,Ry)],[]⟩,⟨[],[]⟩,QB⟩
def VaS:WL:=[(3,Kak)]
theorem JaG:Ab (WG true Mao [] [] []) VaS (lp f217 0):=Mc 3 (ls:=Kak) rfl
theorem PaP:WO OaB:=Je WaQ func217 (Ja JaG Ma)
abbrev FaX:Pa:=.pu Sh Xg [true] (fun x=>Qn x.1 x.2.1)
abbrev Uab:WF:=(218,FaX)::OaB
theorem QaP:WO Uab:=Md PaP func218
abbrev TaU:Pa:=.pu (.p Lb CK) Xg [true] (fun x=>DF x.1 x.2.1)
abbrev Ean:WF:=(132,TaU)::Uab
def Gaj:Qa:=⟨44,⟨[(1,(.data CN)),(2,Of),(5,Ph),(6,Ra),(7,S6),(8,Ra)],[(2,Lb,Hv)]⟩,2,⟨[(1,(.data CN)),(2,Of),(5,Ph),(6,Ra)],[(2,Lb,Hv)]⟩,⟨[],[]⟩,Zx⟩
def Faj:Qa:=⟨44,⟨[(1,(.data CN)),(2,Of),(5,Ph),(6,Ra)],[(2,Lb,Hv)]⟩,0,⟨[(5,Ph)],[]⟩,⟨[],[]⟩,Yx⟩
def XaC:WL:=[(7,Gaj),(3,Faj)]
theorem FaF:Ab (WG true Uab [] [] []) XaC (lp f132 1):=Mc 7 (ls:=Gaj) rfl
theorem EaF:Ab (WG true Uab [] [] []) XaC (lp f132 0):=Mc 3 (ls:=Faj) rfl
theorem EaN:WO Ean:=Je QaP func132 (Ja FaF (Ja EaF Ma))
abbrev SaU:Pa:=.pu (.p (.sl ZO) .u) Xg [true] (fun x=>Tx x.1)
abbrev HaA:WF:=(131,SaU)::Ean
def Eaj:Qa:=⟨36,⟨[(0,(.data (.sl ZO))),(3,R6),(4,Ra)],[]⟩,0,⟨[(3,R6)],[]⟩,⟨[],[]⟩,So⟩
def XaR:WL:=[(3,Eaj)]
theorem DaF:Ab (WG true Ean [] [] []) XaR (lp f131 0):=Mc 3 (ls:=Eaj) rfl
theorem DaN:WO HaA:=Je EaN func131 (Ja DaF Ma)
abbrev Ta2:Pa:=.pu BP Xg [true] (fun x=>FJ x.1 x.2.1)
abbrev DaJ:WF:=(65,Ta2)::HaA
theorem Da0:WO DaJ:=Md DaN func65
abbrev Va2:Pa:=.pu (.p Zc (.p Bb (.p (.sl Il) (.p Qd .u)))) BP [false,true] (fun x=>Pg x.1 x.2.1 x.2.2.1 x.2.2.2.1)
abbrev Uaw:WF:=(67,Va2)::DaJ
theorem Fa0:WO Uaw:=Je (L:=[]) (m:=[(5999,1000101472),(5999,1000101473),(5999,1000101474),(5999,1000101475),(5999,1000000034)]) (v:=[]) (l:=[]) Da0 func67 Ma
abbrev WaU:Pa:=.pu Xg (.p Qd Cf) [true,true] (fun x=>IJ x.1)
abbrev Gan:WF:=(135,WaU)::Uaw
def Iaj:Qa:=⟨44,⟨[(0,Ph),(2,Of),(4,Ra)],[(2,Qd,KI)]⟩,0,⟨[(2,Of)],[(2,Qd,KI)]⟩,⟨[(2,Of),(3,Ii)],[(2,Qd,KI)]⟩,TB⟩
def ZaR:WL:=[(4,Iaj)]
theorem HaF:Ab (WG true Uaw [] [] []) ZaR (lp f135 0):=Mc 4 (ls:=Iaj) rfl
theorem HaN:WO Gan:=Je Fa0 func135 (Ja HaF Ma)
abbrev Wa2:Pa:=.pu Xg (.p Il Cf) [true,true] (fun x=>SC x.1)
abbrev Vaw:WF:=(68,Wa2)::Gan
def Gau:Qa:=⟨51,⟨[(4,Q6),(5,(.own 200002 .s true)),(6,Ra)],[]⟩,0,⟨[(4,Q6),(5,(.own 200002 .s true))],[]⟩,⟨[(2,Q6),(3,Ii)],[]⟩,Bk⟩
def Ma1:WL:=[(6,Gau)]
theorem BaL:Ab (WG true Gan [] [] []) Ma1 (lp f68 0):=Mc 6 (ls:=Gau) rfl
theorem Ga0:WO Vaw:=Je HaN func68 (Ja BaL Ma)
abbrev FaY:Pa:=.pu DU Ch [true] (fun x=>DJ x.1 x.2.1 x.2.2.1)
abbrev HaC:WF:=(266,FaY)::Vaw
def Yak:Qa:=⟨45,⟨[(1,Ra),(2,Ra),(3,Xn),(7,Ra)],[(3,Bb,Sy)]⟩,0,⟨[],[]⟩,⟨[(6,Ra)],[]⟩,Wj⟩
def IaT:WL:=[(4,Yak)]
theorem XaG:Ab (WG true Vaw [] [] []) IaT (lp f266 0):=Mc 4 (ls:=Yak) rfl
theorem QaQ:WO HaC:=Je Ga0 func266 (Ja XaG Ma)
abbrev SaW:Pa:=.pu DU Bp [true] (fun x=>Mt x.1 x.2.1 x.2.2.1)
abbrev Yan:WF:=(202,SaW)::HaC
theorem DaP:WO Yan:=Md QaQ func202
abbrev CaZ:Pa:=.pu (.p Qd (.p int (.p int (.p Uy Ch)))) Sh [true,true] (fun x=>EH x.1 x.2.1 x.2.2.1 x.2.2.2.1 x.2.2.2.2.1)
abbrev Uao:WF:=(330,CaZ)::Yan
def Mal:Qa:=⟨101,⟨[(1,Ra),(3,(.data Uy)),(4,Ra),(5,LF),(12,Ra),(13,Ra),(14,Ra)],[(5,Qd,KI)]⟩,0,⟨[(4,Ra),(12,Ra)],[]⟩,⟨[(10,Ra),(11,Ra)],[]⟩,Zz⟩
def RaT:WL:=[(6,Mal)]
theorem LaH:Ab (WG true Yan [] [] []) RaT (lp f330 0):=Mc 6 (ls:=Mal) rfl
theorem NaR:WO Uao:=Je DaP func330 (Ja LaH Ma)
abbrev RaW:Pa:=.pu (.p Rb Ch) Ch [true] (fun x=>MG x.1 x.2.1)
abbrev HaB:WF:=(201,RaW)::Uao
def Eak:Qa:=⟨22,⟨[(1,Ra),(2,Of),(5,Ra)],[(2,Rb,DN)]⟩,0,⟨[],[]⟩,⟨[(4,Ra)],[]⟩,CE⟩
def PaS:WL:=[(2,Eak)]
theorem DaG:Ab (WG true Uao [] [] []) PaS (lp f201 0):=Mc 2 (ls:=Eak) rfl
theorem CaP:WO HaB:=Je NaR func201 (Ja DaG Ma)
abbrev TaW:Pa:=.pu Bp Bp [true] (fun x=>AM x.1)
abbrev IaB:WF:=(203,TaW)::HaB
theorem EaP:WO IaB:=Md CaP func203
abbrev Na3:Pa:=.pu Bp Bp [true] (fun x=>JO x.1)
abbrev MaJ:WF:=(98,Na3)::IaB
theorem Xa0:WO MaJ:=Md EaP func98
abbrev XaY:Pa:=.pu Ch Cf [true] (fun x=>RC x.1)
abbrev OaC:WF:=(305,XaY)::MaJ
theorem IaR:WO OaC:=Md Xa0 func305
abbrev GaY:Pa:=.bx false false Rb Bp Bp [true] (fun x0 x=>GV x0 x.1)
abbrev IaC:WF:=(267,GaY)::OaC
theorem RaQ:WO IaC:=wbx (L:=[]) (m:=[]) (v:=[]) (l:=[]) (z:=false) IaR func267 Ma
abbrev UaW:Pa:=.bx false false Rb Bp Bp [true] (fun x0 x=>Kp x0 x.1)
abbrev PY:WF:=(204,UaW)::IaC
theorem FaP:WO PY:=wbx (L:=[]) (m:=[]) (v:=[]) (l:=[]) (z:=false) RaQ func204 Ma
abbrev HaY:Pa:=.pu (.p (.sl Gl) CU) JF [true] (fun x=>Ti x.1 x.2.1)
abbrev Jao:WF:=(268,HaY)::PY
def Zak:Qa:=⟨77,⟨[(1,Kr),(4,Iv),(5,LF),(6,Ra)],[(4,Lb,GF),(5,Lb,(.pr Ra (.pr Ry .un)))]⟩,0,⟨[(1,Kr),(4,Iv),(5,LF)],[(4,Lb,GF),(5,Lb,(.pr Ra (.pr Ry .un)))]⟩,⟨[],[]⟩,HA⟩
def Yae:Qa:=⟨77,⟨[(1,Kr),(4,Iv),(5,LF),(7,(.own 200201 int true)),(8,Ra),(9,Ii),(10,Ra)],[(4,Lb,GF),(5,Lb,(.pr Ra (.pr (.own 200202 int true) .un)))]⟩,4,⟨[(1,Kr),(4,Iv),(5,LF),(7,(.own 200201 int true)),(8,Ra),(9,Ii)],[(4,Lb,GF),(5,Lb,(.pr Ra (.pr (.own 200202 int true) .un)))]⟩,⟨[],[]⟩,Xo⟩
def Zae:Qa:=⟨77,⟨[(1,Kr),(4,Iv),(5,LF),(7,(.own 200301 int true)),(8,Ra),(9,Ii),(11,Ra)],[(4,Lb,GF),(5,Lb,(.pr Ra (.pr (.own 200302 int true) .un)))]⟩,6,⟨[(1,Kr),(4,Iv),(5,LF),(7,(.own 200301 int true)),(8,Ra),(9,Ii)],[(4,Lb,GF),(5,Lb,(.pr Ra (.pr (.own 200302 int true) .un)))]⟩,⟨[],[]⟩,Yo⟩
def Aal:Qa:=⟨77,⟨[(1,Kr),(4,Iv),(5,LF),(7,S6),(8,Ra)],[(4,Lb,GF),(5,Lb,(.pr Ra (.pr (.own 200102 int true) .un)))]⟩,2,⟨[(4,Iv),(5,LF),(7,S6)],[(4,Lb,GF),(5,Lb,(.pr Ra (.pr (.own 200102 int true) .un)))]⟩,⟨[],[]⟩,IA⟩
def Yab:WL:=[(3,Zak),(12,Yae),(16,Zae),(8,Aal)]
theorem YaG:Ab (WG true PY [] [] []) Yab (lp f268 0):=Mc 3 (ls:=Zak) rfl
theorem Iay:Ab (WG true PY [] [] []) Yab (lp f268 2):=Mc 12 (ls:=Yae) rfl
theorem Jay:Ab (WG true PY [] [] []) Yab (lp f268 3):=Mc 16 (ls:=Zae) rfl
theorem ZaG:Ab (WG true PY [] [] []) Yab (lp f268 1):=Mc 8 (ls:=Aal) rfl
theorem SaQ:WO Jao:=Je FaP func268 (Ja Jay (Ja Iay (Ja ZaG (Ja YaG Ma))))
abbrev VaW:Pa:=.pu (.p (.sl Gl) (.p Il .u)) CK [true] (fun x=>Xl x.1 x.2.1)
abbrev Zan:WF:=(205,VaW)::Jao
def Fak:Qa:=⟨60,⟨[(0,Kr),(1,(.data Il)),(5,BS),(6,(.own 200002 Gl true)),(7,Ra)],[]⟩,0,⟨[(5,BS)],[]⟩,⟨[],[]⟩,Es⟩
def QaS:WL:=[(6,Fak)]
theorem EaG:Ab (WG true Jao [] [] []) QaS (lp f205 0):=Mc 6 (ls:=Fak) rfl
theorem GaP:WO Zan:=Je SaQ func205 (Ja EaG Ma)
abbrev IaU:Pa:=.pu (.p Lb JF) Cf [true] (fun x=>TC x.1 x.2.1)
abbrev Xam:WF:=(116,IaU)::Zan
def Wai:Qa:=⟨38,⟨[(2,Of),(3,Xn),(5,Ra)],[(2,Lb,Hv),(3,Lb,Hv)]⟩,0,⟨[],[]⟩,⟨[(4,Ii)],[]⟩,Zv⟩
def SaR:WL:=[(4,Wai)]
theorem VaE:Ab (WG true Zan [] [] []) SaR (lp f116 0):=Mc 4 (ls:=Wai) rfl
theorem TaM:WO Xam:=Je GaP func116 (Ja VaE Ma)
abbrev WaW:Pa:=.pu (.p Lb CK) CK [true] (fun x=>Lh x.1 x.2.1)
abbrev JaB:WF:=(206,WaW)::Xam
def Gak:Qa:=⟨34,⟨[(1,(.data CN)),(2,Of),(5,BS),(6,Ra)],[(2,Lb,Hv)]⟩,0,⟨[(5,BS)],[]⟩,⟨[],[]⟩,Cy⟩
def RaS:WL:=[(3,Gak)]
theorem FaG:Ab (WG true Xam [] [] []) RaS (lp f206 0):=Mc 3 (ls:=Gak) rfl
theorem HaP:WO JaB:=Je TaM func206 (Ja FaG Ma)
abbrev GaU:Pa:=.pu (.p Rb (.p int Cf)) (.p Rb (.p CN Cf)) [true,true,true] (fun x=>Rn x.1 x.2.1 x.2.2.1)
abbrev EaA:WF:=(114,GaU)::JaB
theorem RaM:WO EaA:=Md HaP func114
abbrev YaY:Pa:=.bx false false Cd (.p Pm Ch) (.p CN (.p int Cf)) [true,true,true] (fun x0 x=>Ay x0 x.1 x.2.1)
abbrev PaC:WF:=(306,YaY)::EaA
theorem JaR:WO PaC:=wbx (L:=[]) (m:=[]) (v:=[]) (l:=[]) (z:=false) RaM func306 Ma
abbrev HaU:Pa:=.pu (.p Rb Ch) (.p Rb (.p CN Cf)) [true,true,true] (fun x=>FE x.1 x.2.1)
abbrev Oab:WF:=(115,HaU)::PaC
theorem SaM:WO Oab:=Md JaR func115
abbrev MaY:Pa:=.bx false false Cd .u (.p NF .u) [true] (fun x0 x=>DB x0)
abbrev KaC:WF:=(275,MaY)::Oab
def Aaf:Qa:=⟨109,⟨[(0,(.ptr 500000 [])),(3,(.own 200101 Wg true)),(5,Ra),(6,(.mov 200102 Lb)),(13,Ra)],[(500000,Cd,(.pr (.pr (.pr Ra (.pr (.own 200103 HB true) .un)) (.pr (.own 200104 Il true) (.pr Ra (.pr (.own 200105 Gl true) (.data (.p int Cf)))))) (.pr KI (.pr (.own 200106 Pm true) (.data Bc)))))]⟩,2,⟨[(0,(.ptr 500000 [])),(3,(.own 200101 Wg true)),(5,Ra)],[(500000,Cd,(.pr (.pr (.pr Ra (.pr (.own 200102 HB true) .un)) (.pr (.own 200103 Il true) (.pr Ra (.pr (.own 200104 Gl true) (.data (.p int Cf)))))) (.pr KI (.pr (.own 200105 Pm true) (.data Bc)))))]⟩,⟨[],[]⟩,Xj⟩
def Cal:Qa:=⟨109,⟨[(0,(.ptr 500000 [])),(3,D1)],[(500000,Cd,c2_)]⟩,0,⟨[(0,(.ptr 500000 [])),(3,D1)],[(500000,Cd,c2_)]⟩,⟨[(0,(.ptr 500000 [])),(2,D1)],[(500000,Cd,c2_)]⟩,Al⟩
def CaD:WL:=[(18,Aaf),(2,Cal)]
theorem Kay:Ab (WG false Oab [] [] [90]) CaD (lp f275 1):=Mc 18 (ls:=Aaf) rfl
theorem BaH:Ab (WG false Oab [] [] [90]) CaD (lp f275 0):=Mc 2 (ls:=Cal) rfl
theorem XaQ:WO KaC:=wbx SaM func275 (Ja Kay (Ja BaH Ma))
abbrev LaX:Pa:=.pu (.p Cd (.p Uy Ch)) C1 [true,true,true] (fun x=>Tu x.1 x.2.1 x.2.2.1)
abbrev TaB:WF:=(224,LaX)::KaC
theorem WaP:WO TaB:=Md XaQ func224
abbrev YaU:Pa:=.pu (.p Cd (.p Pm .u)) C1 [true,true,true] (fun x=>Gr x.1 x.2.1)
abbrev Han:WF:=(137,YaU)::TaB
theorem JaN:WO Han:=Md WaP func137
abbrev MaX:Pa:=.pu (.p NF .u) Xg [true] (fun x=>OC x.1)
abbrev UaB:WF:=(225,MaX)::Han
def Oak:Qa:=⟨34,⟨[(0,(.data NF)),(3,Lr),(4,Ra)],[]⟩,0,⟨[(3,Lr)],[]⟩,⟨[],[]⟩,Xv⟩
def ZaS:WL:=[(3,Oak)]
theorem NaG:Ab (WG true Han [] [] []) ZaS (lp f225 0):=Mc 3 (ls:=Oak) rfl
theorem XaP:WO UaB:=Je JaN func225 (Ja NaG Ma)
abbrev ZaU:Pa:=.co (.p Zc C1) BP [false,true] (fun x=>Ck x.1 x.2.1 x.2.2.1 x.2.2.2.1)
abbrev IaA:WF:=(138,ZaU)::UaB
theorem KaN:WO IaA:=wco (L:=[]) (m:=[(999999998,0),(2999,1000400000),(2999,1000400001),(2999,1000400002),(2999,1000400003),(2999,1000400004),(4004,1000400009),(4004,2000400004),(5999,1000400005),(5999,1000400006),(5999,1000400007),(5999,1000400008),(5999,1000000027)]) (v:=[]) (l:=[]) (z:=true) XaP func138 Ma
abbrev AaV:Pa:=.pu (.p Cd Ch) C1 [true,true,true] (fun x=>En x.1 x.2.1)
abbrev JaA:WF:=(139,AaV)::IaA
theorem LaN:WO JaA:=Md KaN func139
abbrev NaX:Pa:=.pu (.p Bb Ch) Cf [true] (fun x=>Fo x.1 x.2.1)
abbrev VaB:WF:=(226,NaX)::JaA
theorem YaP:WO VaB:=Md LaN func226
abbrev NaY:Pa:=.pu DU Ch [true] (fun x=>NC x.1 x.2.1 x.2.2.1)
abbrev Xab:WF:=(276,NaY)::VaB
theorem YaQ:WO Xab:=Md YaP func276
abbrev OaX:Pa:=.pu (.p Bb Ch) (.p (.sl Jl) (.p (.sl .b) .u)) [true,true] (fun x=>EF x.1 x.2.1)
abbrev WaB:WF:=(227,OaX)::Xab
def Xae:Qa:=⟨70,⟨[(2,Of),(6,(.own 200101 Jl true)),(7,(.own 200102 .b true)),(8,(.own 200103 int true)),(9,Ra),(10,Ra),(11,Ra)],[(2,Bb,Sy)]⟩,2,⟨[(2,Of),(6,(.own 200101 Jl true)),(7,(.own 200102 .b true)),(8,(.own 200103 int true)),(9,Ra)],[(2,Bb,Sy)]⟩,⟨[],[]⟩,Sn⟩
def Pak:Qa:=⟨70,⟨[(2,Of),(6,(.own 200001 Jl true)),(7,(.own 200002 .b true)),(8,(.own 200003 int true)),(9,Ra)],[(2,Bb,Sy)]⟩,0,⟨[(6,(.own 200001 Jl true)),(7,(.own 200002 .b true))],[]⟩,⟨[],[]⟩,Bl⟩
def BaD:WL:=[(10,Xae),(6,Pak)]
theorem Hay:Ab (WG true Xab [(15013,200101)] [] []) BaD (lp f227 1):=Mc 10 (ls:=Xae) rfl
theorem OaG:Ab (WG true Xab [(15013,200101)] [] []) BaD (lp f227 0):=Mc 6 (ls:=Pak) rfl
theorem ZaP:WO WaB:=Je YaQ func227 (Ja Hay (Ja OaG Ma))
abbrev BaV:Pa:=.pu DU (.p Jl Cf) [true,true] (fun x=>Vf x.1 x.2.1 x.2.2.1)
abbrev Ian:WF:=(140,BaV)::WaB
theorem MaN:WO Ian:=Md ZaP func140
abbrev Ya2:Pa:=.co (.p Zc (.p .s (.p Jl .u))) BP [false,true] (fun x=>VC x.1 x.2.1 x.2.2.1)
abbrev Xaw:WF:=(70,Ya2)::Ian
def Nal:Qa:=⟨166,⟨[(3,Xn),(6,(.ptr 6 [])),(21,Ry),(23,(.own 200002 .s true)),(24,Ra)],[(3,Zc,c4_),(6,Zc,AP)]⟩,1,⟨[(3,Xn),(6,(.ptr 6 [])),(23,Lr)],[(3,Zc,Kax),(6,Zc,AP)]⟩,⟨[],[]⟩,Xc⟩
def Oa1:WL:=[(19,Nal)]
theorem MaH:Ab (WG true Ian [(999999998,0),(11000,1000400000),(11000,1000400001),(11000,1000400002),(11000,1000400003),(11000,1000400004),(16999,1000400000),(16999,1000400001),(16999,1000400002),(16999,1000400003),(16999,1000400004),(22999,1000200002),(22999,1000200003),(22999,1000200004),(22999,1000200005),(22999,1000200006),(23999,1000400000),(23999,1000400001),(23999,1000400002),(23999,1000400003),(23999,1000400004)] [] []) Oa1 (lp f70 0):=Mc 19 (ls:=Nal) rfl
theorem Ia0:WO Xaw:=wco MaN func70 (Ja MaH Ma)
abbrev Da2:Pa:=.pu BP BP [false,true] (fun x=>ZL x.1 x.2.1)
abbrev Maw:WF:=(28,Da2)::Xaw
def Gal:Qa:=⟨139,⟨[(4,Iv),(6,(.ptr 6 [])),(7,Lr),(18,(.own 200002 int true)),(19,Ra)],[(4,Zc,AP),(6,Zc,c4_)]⟩,1,⟨[(4,Iv),(6,(.ptr 6 [])),(7,Lr),(18,(.own 200002 int true))],[(4,Zc,AP),(6,Zc,c4_)]⟩,⟨[(4,Iv),(5,Ph)],[(4,Zc,AP)]⟩,Us⟩
def Da1:WL:=[(26,Gal)]
theorem FaH:Ab (WG true Xaw [(8999,1000101856),(8999,1000101857),(8999,1000101858),(8999,1000101859),(8999,1000101860),(10999,1000101856),(10999,1000101857),(10999,1000101858),(10999,1000101859),(10999,1000101860),(15999,1000101856),(15999,1000101857),(15999,1000101858),(15999,1000101859),(15999,1000101860),(16000,1000101856),(16000,1000101857),(16000,1000101858),(16000,1000101859),(16000,1000101860),(21999,1000101856),(21999,1000101857),(21999,1000101858),(21999,1000101859),(21999,1000101860),(30999,1000200003),(30999,1000200004),(30999,1000200005),(30999,1000200006),(30999,1000200007)] [] [97]) Da1 (lp f28 0):=Mc 26 (ls:=Gal) rfl
theorem NaZ:WO Maw:=Je Ia0 func28 (Ja FaH Ma)
abbrev Ba2:Pa:=.pu Xg (.p .s Ch) [true,true] (fun x=>SA x.1)
abbrev Law:WF:=(25,Ba2)::Maw
def Tat:Qa:=⟨53,⟨[(4,Lr),(5,LF),(6,Ph),(7,Ra)],[(5,Zc,(.pr (.pr (.pr (.pr Ra (.pr BU (.data .u))) Map) (.pr KI (.pr (.data Uy) (.data Bc)))) (.pr (.data NF) (.data .u))))]⟩,0,⟨[(4,Lr),(6,Ph)],[]⟩,⟨[],[]⟩,Gj⟩
def Ba1:WL:=[(9,Tat)]
theorem OaK:Ab (WG true Maw [(8999,1000101728),(8999,1000101729),(8999,1000101730),(8999,1000101731),(8999,1000101732)] [23] []) Ba1 (lp f25 0):=Mc 9 (ls:=Tat) rfl
theorem LaZ:WO Law:=Je NaZ func25 (Ja OaK Ma)
abbrev Oa2:Pa:=.pu (.p .s (.p ZO .u)) (.p (.sl .s) .u) [true] (fun x=>Tm x.1 x.2.1)
abbrev BaJ:WF:=(58,Oa2)::Law
def Bau:Qa:=⟨34,⟨[(0,Ph),(1,(.data ZO)),(5,Lr),(6,Ra),(7,Ra)],[]⟩,0,⟨[(0,Ph),(5,Lr),(6,Ra)],[]⟩,⟨[],[]⟩,Vk⟩
def Ha1:WL:=[(4,Bau)]
theorem WaK:Ab (WG true Law [] [] []) Ha1 (lp f58 0):=Mc 4 (ls:=Bau) rfl
theorem YaZ:WO BaJ:=Je LaZ func58 (Ja WaK Ma)
abbrev HaV:Pa:=.pu (.p .s Xg) (.p (.sl .s) .u) [true] (fun x=>strings_Split x.1 x.2.1)
abbrev NaA:WF:=(150,HaV)::BaJ
theorem SaN:WO NaA:=wc YaZ (Rah Tryz.lays_strings_Split (by kernel_rfl) Gax)
abbrev PaY:Pa:=.pu Ch Xg [true] (fun x=>On x.1)
abbrev LaC:WF:=(283,PaY)::NaA
theorem AaR:WO LaC:=Md SaN func283
abbrev TaX:Pa:=.pu (.p .s Xg) Cf [true] (fun x=>Ey x.1 x.2.1)
abbrev AaC:WF:=(236,TaX)::LaC
theorem EaQ:WO AaC:=Md AaR func236
abbrev GaV:Pa:=.pu (.p .s Xg) (.p .s Cf) [true,true] (fun x=>Dy x.1 x.2.1)
abbrev MaA:WF:=(149,GaV)::AaC
theorem RaN:WO MaA:=Md EaQ func149
abbrev Ba3:Pa:=.pu (.p .s Xg) (.p .s Cf) [true,true] (fun x=>Jj x.1 x.2.1)
abbrev HaJ:WF:=(75,Ba3)::MaA
theorem La0:WO HaJ:=Md RaN func75
abbrev VaV:Pa:=.pu Ch Xg [true] (fun x=>strconv_Itoa x.1)
abbrev UaA:WF:=(164,VaV)::HaJ
theorem GaO:WO UaA:=wc La0 (Eaq Tryz.lays_strconv_Itoa (by kernel_rfl) Aa1)
abbrev XaL:Pa:=.pu Ch Xg [true] (fun x=>Kh x.1)
abbrev LaJ:WF:=(84,XaL)::UaA
theorem UaI:WO LaJ:=Md GaO func84
abbrev PaV:Pa:=.pu Xg (.p int Cf) [true,true] (fun x=>Jt x.1)
abbrev PaA:WF:=(158,PaV)::LaJ
set_option maxRecDepth 100000 in
theorem Yaq{I:Bh}{F:T (.p (.i .i64) .u)→Option (T Xg)}(hS:Zh Tryz.prog I 84 (.pu (.p (.i .i64) .u) Xg [true] F))(hF:∀n:Int,-999999999≤n→n≤999999999→F (n,())=some (Lib.itoa n,()))
 (hv:∀w,I.p w→∃ev,w.cell? ⟨Tryz.lays_strconv_Atoi_ren.g 15,0,none⟩=some ev∧(ev=.nilIface∨∃te pe,ev=.iface te pe)):
 ∀(s:List UInt8) (w:World),I.p w→I.base≤w.heap.size→Calls Tryz.prog 158 #[.string ⟨List.toArray s⟩] w fun e w'=>e=.returned (.tuple #[.int .i64 (Fj s).1,.bool (Fj s).2.1])∧Go.RowKit.Below w.heap.size w w':=by
 intro s w hi hb
 have hsz:(⟨List.toArray s⟩:ByteArray).size=s.length:=by show(List.toArray s).size=_;simp
 have hdl:(⟨List.toArray s⟩:ByteArray).data.toList=s:=HM s
 unfold Fj
 generalize hbs:(⟨List.toArray s⟩:ByteArray)=bs at hsz hdl⊢
 by_cases h1:s.length<1
 ·rw[show Nat.blt (List.length s) 1=true from Nat.ble_eq_true_of_le (by omega)]
  simp only[Bool.true_or,cond_true]
  go_enter Tryz.func158,Tryz.ntmps158
  go_wp2
  all_goals(first|(exfalso;omega)|skip)
  go_ret2
  exact⟨rfl,Go.RowKit.Below.refl _ _⟩
 rw[show Nat.blt (List.length s) 1=false from Bool.eq_false_iff.2 fun h=>absurd (Nat.le_of_ble_eq_true h) (by omega)]
 by_cases h2:10<s.length
 ·rw[show Nat.blt 10 (List.length s)=true from Nat.ble_eq_true_of_le (by omega)]
  simp only[Bool.or_true,cond_true]
  go_enter Tryz.func158,Tryz.ntmps158
  go_wp2
  all_goals(first|(exfalso;omega)|skip)
  go_ret2
  exact⟨rfl,Go.RowKit.Below.refl _ _⟩
 rw[show Nat.blt 10 (List.length s)=false from Bool.eq_false_iff.2 fun h=>absurd (Nat.le_of_ble_eq_true h) (by omega)]
 simp only[Bool.or_false,cond_false]
 obtain⟨ev,hv1,hev⟩:=hv w hi
 have hI1:∀{w'},Go.RowKit.Below w.heap.size w w'→I.p w'∧I.base≤w'.heap.size:=fun hB=>⟨I.st w _ (fun b hb'=>hB.block b (Nat.lt_of_lt_of_le hb' hb)) hi,Nat.le_trans hb hB.size⟩
 cases ha:Lib.atoi s with
 |none=>
  simp only[]
  go_enter Tryz.func158,Tryz.ntmps158
  go_wp2_with (go_at_call 243;refine(Any.strconv_Atoi_err Tryz.lays_strconv_Atoi bs (by omega) (by rw[hdl];exact ha) ev _ ?_ hev).mono ?_)
  all_goals(first|(exfalso;omega)|skip)
  ·exact hv1
  rintro e W1 ⟨N,rfl,-,-,hB⟩
  go_wp2
  go_ret2
  exact⟨rfl,hB⟩
 |some n=>
  simp only[]
  obtain⟨hn1,hn2⟩:=Lib.atoi_bound ha (by omega)
  by_cases h3:n< -999999999
  ·rw[show decide (n< -999999999)=true from decide_eq_true h3]
   simp only[Bool.true_or,cond_true]
   go_enter Tryz.func158,Tryz.ntmps158
   go_wp2_with (go_at_call 243;refine(Any.strconv_Atoi {Tryz.lays_strconv_Atoi with} bs n (by omega) (by rw[hdl];exact ha) _).mono ?_;rintro e w' ⟨rfl,t,rfl⟩)
   all_goals(first|(exfalso;omega)|skip)
   go_ret2
   exact⟨rfl,Lib.bytesWorld_below _ _ _⟩
  rw[show decide (n< -999999999)=false from decide_eq_false h3]
  by_cases h4:n>999999999
  ·rw[show decide (n>999999999)=true from decide_eq_true h4]
   simp only[Bool.false_or,Bool.true_or,cond_true]
   go_enter Tryz.func158,Tryz.ntmps158
   go_wp2_with (go_at_call 243;refine(Any.strconv_Atoi {Tryz.lays_strconv_Atoi with} bs n (by omega) (by rw[hdl];exact ha) _).mono ?_;rintro e w' ⟨rfl,t,rfl⟩)
   all_goals(first|(exfalso;omega)|skip)
   go_ret2
   exact⟨rfl,Lib.bytesWorld_below _ _ _⟩
  rw[show decide (n>999999999)=false from decide_eq_false h4]
  simp only[Bool.false_or]
  have hfi:∀w',Go.RowKit.Below w.heap.size w w'→Calls Tryz.prog 84 #[.int .i64 n] w' fun e w''=>e=.returned (.string ⟨List.toArray (Lib.itoa n)⟩)∧Go.RowKit.Below w.heap.size w w'':=fun w' hB=>
   (Dab hS (hF n (by omega) (by omega)) w' (hI1 hB).1 (hI1 hB).2).mono fun e w'' h=>⟨h.1,hB.trans (h.2.mono hB.size)⟩
  by_cases h5:Lib.itoa n=s
  ·rw[show(Lib.itoa n !=s)=false from by rw[h5];simp]
   simp only[cond_false]
   rw[h5,hbs]at hfi
   go_enter Tryz.func158,Tryz.ntmps158
   go_wp2_with (first|(go_at_call 243;refine(Any.strconv_Atoi {Tryz.lays_strconv_Atoi with} bs n (by omega) (by rw[hdl];exact ha) _).mono ?_;rintro e w' ⟨rfl,t,rfl⟩)|(go_at_call 84;refine(hfi _ (Lib.bytesWorld_below _ _ _)).mono ?_;rintro e w' ⟨rfl,hB⟩))
   all_goals(first|(exfalso;omega)|skip)
   go_ret2
   exact⟨rfl,hB⟩
  ·rw[show(Lib.itoa n !=s)=true from bne_iff_ne.2 h5]
   simp only[cond_true]
   have hbl:bs.toList=s:=by rw[←hbs];simp
   have hne:(⟨List.toArray (Lib.itoa n)⟩:ByteArray)≠bs:=fun h=>h5 (by rw[←hbs]at h;simpa using h)
   go_enter Tryz.func158,Tryz.ntmps158
   go_wp2_with (first|(go_at_call 243;refine(Any.strconv_Atoi {Tryz.lays_strconv_Atoi with} bs n (by omega) (by rw[hdl];exact ha) _).mono ?_;rintro e w' ⟨rfl,t,rfl⟩)|(go_at_call 84;refine(hfi _ (Lib.bytesWorld_below _ _ _)).mono ?_;rintro e w' ⟨rfl,hB⟩))
   all_goals(first|(exfalso;omega)|skip)
   ·go_ret2
    exact⟨rfl,hB⟩
   ·rename_i hh
    exact absurd hh.2 (by simp[h5])
theorem AaO:WO PaA:=wc UaI (Zaq ⟨_,func158,rfl,rfl⟩ (Yaq (Vaz (s:=XaL) UaI (by kernel_rfl)) (fun n h1 h2=>by show Kh n=_;unfold Kh strconv_Itoa;rw[FaM h1 h2];rfl) Za0))
abbrev Ka2:Pa:=.pu Sh Ch [true] (fun x=>Nv x.1 x.2.1)
abbrev Qaw:WF:=(47,Ka2)::PaA
theorem UaZ:WO Qaw:=Md AaO func47
abbrev OaW:Pa:=.pu Ch Xg [true] (fun x=>Kj x.1)
abbrev Van:WF:=(196,OaW)::Qaw
def Bak:Qa:=⟨28,⟨[(0,Ra),(3,Ph),(12,Lr),(13,Ra),(14,Ra)],[]⟩,0,⟨[(3,Ph)],[]⟩,⟨[],[]⟩,Kv⟩
def MaS:WL:=[(5,Bak)]
theorem AaG:Ab (WG true Qaw [] [] []) MaS (lp f196 0):=Mc 5 (ls:=Bak) rfl
theorem ZaO:WO Van:=Je UaZ func196 (Ja AaG Ma)
abbrev QaY:Pa:=.pu Xg Ch [true] (fun x=>Br x.1)
abbrev MaC:WF:=(284,QaY)::Van
def Eal:Qa:=⟨13,⟨[(0,Ph),(3,Ra)],[]⟩,0,⟨[],[]⟩,⟨[(2,Ra)],[]⟩,Uk⟩
def LaT:WL:=[(2,Eal)]
theorem DaH:Ab (WG true Van [] [] []) LaT (lp f284 0):=Mc 2 (ls:=Eal) rfl
theorem BaR:WO MaC:=Je ZaO func284 (Ja DaH Ma)
abbrev LaV:Pa:=.pu (.p .s Xg) (.p .s (.p .s Cf)) [true,true,true] (fun x=>strings_Cut x.1 x.2.1)
abbrev Lan:WF:=(154,LaV)::MaC
theorem WaN:WO Lan:=wc BaR (Was Tryz.lays_strings_Cut (by kernel_rfl) Gax)
abbrev RaY:Pa:=.pu Xg Ch [true] (fun x=>Jv x.1)
abbrev Oao:WF:=(285,RaY)::Lan
def Fal:Qa:=⟨18,⟨[(0,Ph),(5,Lr),(6,Ra),(7,Ra)],[]⟩,0,⟨[],[]⟩,⟨[(2,Ra)],[]⟩,Ao⟩
def MaT:WL:=[(2,Fal)]
theorem EaH:Ab (WG true Lan [] [] []) MaT (lp f285 0):=Mc 2 (ls:=Fal) rfl
theorem CaR:WO Oao:=Je WaN func285 (Ja EaH Ma)
abbrev UaX:Pa:=.pu Xg Bp [true] (fun x=>Mz x.1)
abbrev BaC:WF:=(238,UaX)::Oao
def Sak:Qa:=⟨98,⟨[(0,Ph),(2,Of),(29,Ry),(30,Ra),(31,Ra)],[(2,Bc,(.data Bc))]⟩,1,⟨[(0,Ph),(2,Of)],[(2,Bc,(.data Bc))]⟩,⟨[(2,Of)],[(2,Bc,(.data Bc))]⟩,Et⟩
def CaT:WL:=[(9,Sak)]
theorem RaG:Ab (WG true Oao [] [] []) CaT (lp f238 0):=Mc 9 (ls:=Sak) rfl
theorem FaQ:WO BaC:=Je CaR func238 (Ja RaG Ma)
abbrev DaW:Pa:=.pu Ch Cf [true] (fun x=>Tq x.1)
abbrev XaA:WF:=(185,DaW)::BaC
theorem OaO:WO XaA:=Md FaQ func185
abbrev EaW:Pa:=.pu Ch Cf [true] (fun x=>Qv x.1)
abbrev YaA:WF:=(186,EaW)::XaA
theorem PaO:WO YaA:=Md OaO func186
abbrev FaW:Pa:=.pu Ch Cf [true] (fun x=>Hx x.1)
abbrev ZaA:WF:=(187,FaW)::YaA
theorem QaO:WO ZaA:=Md PaO func187
abbrev Oa3:Pa:=.pu Bp Cf [true] (fun x=>Ri x.1)
abbrev NaJ:WF:=(99,Oa3)::ZaA
theorem Ya0:WO NaJ:=Md QaO func99
abbrev NaW:Pa:=.pu Ch Xg [true] (fun x=>Tc x.1)
abbrev GaB:WF:=(195,NaW)::NaJ
theorem YaO:WO GaB:=Md Ya0 func195
abbrev VaX:Pa:=.pu Bp Xg [true] (fun x=>Vl x.1)
abbrev CaC:WF:=(239,VaX)::GaB
theorem GaQ:WO CaC:=Md YaO func239
abbrev IaV:Pa:=.pu Xg (.p Bc Cf) [true,true] (fun x=>Ur x.1)
abbrev Rab:WF:=(151,IaV)::CaC
theorem TaN:WO Rab:=Md GaQ func151
abbrev Fa2:Pa:=.pu FW Cf [true] (fun x=>Zl x.1)
abbrev WaI:WF:=(36,Fa2)::Rab
def Wat:Qa:=⟨73,⟨[(1,Yj),(3,Ra),(28,BU),(29,Ra),(30,Ra),(40,(.data HB)),(41,Ra),(42,Ra)],[(1,Bb,Sy)]⟩,2,⟨[(1,Yj),(28,BU),(29,Ra),(30,Ra)],[(1,Bb,Sy)]⟩,⟨[(2,Ii)],[]⟩,Bq⟩
def Vat:Qa:=⟨73,⟨[(1,Yj),(28,BU),(29,Ra),(30,Ra)],[(1,Bb,Sy)]⟩,0,⟨[],[]⟩,⟨[(2,Ii)],[]⟩,Aq⟩
def QaJ:WL:=[(9,Wat),(4,Vat)]
theorem RaK:Ab (WG true Rab [] [] []) QaJ (lp f36 1):=Mc 9 (ls:=Wat) rfl
theorem QaK:Ab (WG true Rab [] [] []) QaJ (lp f36 0):=Mc 4 (ls:=Vat) rfl
theorem PaZ:WO WaI:=Je TaN func36 (Ja RaK (Ja QaK Ma))
abbrev WaV:Pa:=.pu (.p (.sl .s) Xg) Xg [true] (fun x=>strings_Join x.1 x.2.1)
abbrev VaA:WF:=(165,WaV)::WaI
theorem HaO:WO VaA:=wc PaZ (Faq Tryz.lays_strings_Join (by kernel_rfl) Tryz.extra_strings_Join)
abbrev Ka3:Pa:=.pu (.p (.sl .s) Xg) Xg [true] (fun x=>Hh x.1 x.2.1)
abbrev Wao:WF:=(85,Ka3)::VaA
theorem Ua0:WO Wao:=Md HaO func85
abbrev JaV:Pa:=.pu FW Xg [true] (fun x=>Pp x.1)
abbrev Sab:WF:=(152,JaV)::Wao
def Maj:Qa:=⟨39,⟨[(3,(.own 200101 .s true)),(6,T6),(13,BU),(14,Ra),(15,Ra),(19,(.data HB)),(20,Ra),(21,Ra)],[]⟩,2,⟨[(3,(.own 200101 .s true)),(6,T6),(13,BU),(14,Ra),(15,Ra)],[]⟩,⟨[],[]⟩,Pr⟩
def Laj:Qa:=⟨39,⟨[(3,Lr),(13,BU),(14,Ra),(15,Ra)],[]⟩,0,⟨[(3,Lr)],[]⟩,⟨[],[]⟩,Nr⟩
def YaC:WL:=[(9,Maj),(5,Laj)]
theorem LaF:Ab (WG true Wao [] [] []) YaC (lp f152 1):=Mc 9 (ls:=Maj) rfl
theorem KaF:Ab (WG true Wao [] [] []) YaC (lp f152 0):=Mc 5 (ls:=Laj) rfl
theorem UaN:WO Sab:=Je Ua0 func152 (Ja LaF (Ja KaF Ma))
abbrev Ca3:Pa:=.pu Xg (.p Bb Cf) [true,true] (fun x=>Vr x.1)
abbrev Yaw:WF:=(76,Ca3)::Sab
def Lau:Qa:=⟨71,⟨[(0,Ph),(2,Of),(4,Iv),(7,(.own 200101 Bc true)),(13,T6),(14,Ra),(15,Ra),(20,(.own 200103 .s true)),(21,Ra),(22,Ra)],[(2,Bb,(.pr Ra (.pr (.own 200104 HB true) .un))),(4,Bb,(.pr Ra (.pr (.own 200105 HB true) .un)))]⟩,2,⟨[(0,Ph),(2,Of),(4,Iv),(7,(.own 200101 Bc true)),(13,T6),(14,Ra),(15,Ra)],[(2,Bb,(.pr Ra (.pr (.own 200103 HB true) .un))),(4,Bb,(.pr Ra (.pr (.own 200104 HB true) .un)))]⟩,⟨[(2,Of),(3,Ii)],[(2,Bb,(.pr Ra (.pr (.own 200101 HB true) .un)))]⟩,Ct⟩
def Kau:Qa:=⟨71,⟨[(0,Ph),(2,Of),(4,Iv),(13,Lr),(14,Ra),(15,Ra)],[(2,Bb,(.pr Ra (.pr (.own 200002 HB true) .un))),(4,Bb,(.pr Ra (.pr (.own 200003 HB true) .un)))]⟩,0,⟨[(0,Ph),(2,Of),(4,Iv)],[(2,Bb,DW),(4,Bb,(.pr Ra (.pr (.own 200002 HB true) .un)))]⟩,⟨[(2,Of),(3,Ii)],[(2,Bb,DW)]⟩,Bt⟩
def SaJ:WL:=[(7,Lau),(3,Kau)]
theorem GaL:Ab (WG true Sab [] [] []) SaJ (lp f76 1):=Mc 7 (ls:=Lau) rfl
theorem FaL:Ab (WG true Sab [] [] []) SaJ (lp f76 0):=Mc 3 (ls:=Kau) rfl
theorem Ma0:WO Yaw:=Je UaN func76 (Ja GaL (Ja FaL Ma))
abbrev Ja2:Pa:=.pu FW FW [true] (fun x=>Fu x.1)
abbrev Paw:WF:=(45,Ja2)::Yaw
def Zat:Qa:=⟨25,⟨[(2,Of),(3,Xn),(10,BU),(11,Ra),(12,Ra)],[(2,Bb,CS),(3,Bb,DW)]⟩,0,⟨[(2,Of),(3,Xn)],[(2,Bb,CS),(3,Bb,DW)]⟩,⟨[],[]⟩,Ov⟩
def Fa1:WL:=[(3,Zat)]
theorem UaK:Ab (WG true Yaw [] [] []) Fa1 (lp f45 0):=Mc 3 (ls:=Zat) rfl
theorem TaZ:WO Paw:=Je Ma0 func45 (Ja UaK Ma)
abbrev Ga3:Pa:=.pu (.p (.sl Il) .u) (.p (.sl Il) .u) [true] (fun x=>Po x.1)
abbrev Aax:WF:=(80,Ga3)::Paw
def Nau:Qa:=⟨19,⟨[(3,(.own 200001 Il true)),(6,(.data (.sl Il))),(7,Ra),(8,Ra)],[]⟩,0,⟨[(3,(.own 200001 Il true))],[]⟩,⟨[],[]⟩,Pv⟩
def Sa1:WL:=[(3,Nau)]
theorem IaL:Ab (WG true Paw [] [] []) Sa1 (lp f80 0):=Mc 3 (ls:=Nau) rfl
theorem Qa0:WO Aax:=Je TaZ func80 (Ja IaL Ma)
abbrev PaW:Pa:=.pu CU Cf [true] (fun x=>Nn x.1)
abbrev Wan:WF:=(197,PaW)::Aax
def Cak:Qa:=⟨46,⟨[(3,Ra),(6,Kr),(7,Ra),(8,Ra)],[]⟩,0,⟨[],[]⟩,⟨[(2,Ii)],[]⟩,MD⟩
def NaS:WL:=[(3,Cak)]
theorem BaG:Ab (WG true Aax [] [] []) NaS (lp f197 0):=Mc 3 (ls:=Cak) rfl
theorem AaP:WO Wan:=Je Qa0 func197 (Ja BaG Ma)
abbrev WaX:Pa:=.pu (.p (.sl Sh) (.p Sh .u)) Ch [true] (fun x=>IG x.1 x.2.1)
abbrev Fao:WF:=(242,WaX)::Wan
def Tak:Qa:=⟨19,⟨[(3,Xn),(7,(.data (.sl Sh))),(8,Ra),(9,Ra)],[(3,Sh,(.data Sh))]⟩,0,⟨[],[]⟩,⟨[(4,Ra)],[]⟩,PD⟩
def DaT:WL:=[(2,Tak)]
theorem SaG:Ab (WG true Wan [] [] []) DaT (lp f242 0):=Mc 2 (ls:=Tak) rfl
theorem HaQ:WO Fao:=Je AaP func242 (Ja SaG Ma)
abbrev NaV:Pa:=.pu (.p Il .u) Cf [true] (fun x=>Rr x.1)
abbrev Tab:WF:=(156,NaV)::Fao
def Naj:Qa:=⟨62,⟨[(3,(.own 200001 Sh true)),(11,(.data Il)),(12,Ra),(13,Ra)],[]⟩,0,⟨[(3,(.own 200001 Sh true))],[]⟩,⟨[(2,Ii)],[]⟩,JB⟩
def CaS:WL:=[(5,Naj)]
theorem MaF:Ab (WG true Fao [] [] []) CaS (lp f156 0):=Mc 5 (ls:=Naj) rfl
theorem YaN:WO Tab:=Je HaQ func156 (Ja MaF Ma)
abbrev AaU:Pa:=.pu (.p Rb .u) Cf [true] (fun x=>Dp x.1)
abbrev Zaz:WF:=(103,AaU)::Tab
def Sai:Qa:=⟨92,⟨[(1,Yj),(35,(.data (.sl Il))),(36,Ra),(37,Ra)],[(1,Rb,DN)]⟩,0,⟨[(1,Yj)],[(1,Rb,DN)]⟩,⟨[(2,Ii)],[]⟩,Zp⟩
def Uae:Qa:=⟨92,⟨[(1,Yj),(5,Ra),(50,Kr),(51,Ra),(52,Ra)],[(1,Rb,DN)]⟩,2,⟨[(1,Yj),(5,Ra)],[(1,Rb,DN)]⟩,⟨[(2,Ii)],[]⟩,No⟩
def UaC:WL:=[(4,Sai),(11,Uae)]
theorem RaE:Ab (WG true Tab [] [] []) UaC (lp f103 0):=Mc 4 (ls:=Sai) rfl
theorem Eay:Ab (WG true Tab [] [] []) UaC (lp f103 1):=Mc 11 (ls:=Uae) rfl
theorem LaM:WO Zaz:=Je YaN func103 (Ja Eay (Ja RaE Ma))
abbrev Ha2:Pa:=.pu (.p Bb (.p (.sl Il) .u)) (.p Rb Cf) [true,true] (fun x=>Tk x.1 x.2.1)
abbrev YaI:WF:=(39,Ha2)::Zaz
theorem RaZ:WO YaI:=Md LaM func39
abbrev BaU:Pa:=.pu (.p Rb .u) (.p Rb .u) [true] (fun x=>Ql x.1)
abbrev AaA:WF:=(104,BaU)::YaI
theorem MaM:WO AaA:=Md RaZ func104
abbrev PaX:Pa:=.pu (.p Qd .u) Cf [true] (fun x=>NA x.1)
abbrev Eao:WF:=(232,PaX)::AaA
theorem AaQ:WO Eao:=Md MaM func232
abbrev RaX:Pa:=.pu CU Ch [true] (fun x=>Kt x.1)
abbrev YaB:WF:=(234,RaX)::Eao
def Rak:Qa:=⟨19,⟨[(3,Ra),(6,Kr),(7,Ra),(8,Ra)],[]⟩,0,⟨[(3,Ra)],[]⟩,⟨[],[]⟩,Nz⟩
def BaT:WL:=[(3,Rak)]
theorem QaG:Ab (WG true Eao [] [] []) BaT (lp f234 0):=Mc 3 (ls:=Rak) rfl
theorem CaQ:WO YaB:=Je AaQ func234 (Ja QaG Ma)
abbrev ZaY:Pa:=.pu (.p Pm .u) Cf [true] (fun x=>LD x.1)
abbrev Tao:WF:=(308,ZaY)::YaB
theorem KaR:WO Tao:=Md CaQ func308
abbrev OaY:Pa:=.pu (.p Uy Ch) (.p int Cf) [true,true] (fun x=>SL x.1 x.2.1)
abbrev Nao:WF:=(280,OaY)::Tao
def Dal:Qa:=⟨53,⟨[(0,(.data Uy)),(1,Ra),(11,(.data Uy)),(12,Ra),(13,Ra)],[]⟩,0,⟨[(1,Ra)],[]⟩,⟨[(4,Ra),(5,Ii)],[]⟩,ND⟩
def KaT:WL:=[(4,Dal)]
theorem CaH:Ab (WG true Tao [] [] []) KaT (lp f280 0):=Mc 4 (ls:=Dal) rfl
theorem ZaQ:WO Nao:=Je KaR func280 (Ja CaH Ma)
abbrev QaX:Pa:=.pu (.p Uy Sh) Cf [true] (fun x=>Dr x.1 x.2.1 x.2.2.1)
abbrev XaB:WF:=(233,QaX)::Nao
def Qak:Qa:=⟨29,⟨[(0,(.data Uy)),(1,Ra),(2,Ra),(11,(.data Uy)),(12,Ra),(13,Ra)],[]⟩,0,⟨[(0,(.data Uy)),(1,Ra)],[]⟩,⟨[(6,Ii)],[]⟩,Jx⟩
def AaT:WL:=[(2,Qak)]
theorem PaG:Ab (WG true Nao [] [] []) AaT (lp f233 0):=Mc 2 (ls:=Qak) rfl
theorem BaQ:WO XaB:=Je ZaQ func233 (Ja PaG Ma)
abbrev SaX:Pa:=.pu (.p Uy Ch) Cf [true] (fun x=>Cr x.1 x.2.1)
abbrev ZaB:WF:=(235,SaX)::XaB
theorem DaQ:WO ZaB:=Md BaQ func235
abbrev CaV:Pa:=.pu (.p Cd .u) Cf [true] (fun x=>Zq x.1)
abbrev KaA:WF:=(145,CaV)::ZaB
theorem NaN:WO KaA:=Md DaQ func145
abbrev KaV:Pa:=.pu (.p Rb (.p Qd .u)) (.p Cd Cf) [true,true] (fun x=>GC x.1 x.2.1)
abbrev OaA:WF:=(153,KaV)::KaA
theorem VaN:WO OaA:=Md NaN func153
abbrev Da3:Pa:=.pu (.p Bb (.p (.sl Il) (.p Qd .u))) (.p Zc Cf) [true,true] (fun x=>Hk x.1 x.2.1 x.2.2.1)
abbrev IaJ:WF:=(77,Da3)::OaA
theorem Na0:WO IaJ:=Md VaN func77
abbrev Pa2:Pa:=.pu .u EW [true] (fun x=>Lj)
abbrev Saw:WF:=(59,Pa2)::IaJ
theorem ZaZ:WO Saw:=Md Na0 func59
abbrev DaV:Pa:=.pu JF Cf [true] (fun x=>Ep x.1)
abbrev Jan:WF:=(146,DaV)::Saw
def Kaj:Qa:=⟨39,⟨[(1,Yj),(14,(.data Jl)),(15,Ra),(16,Ra)],[(1,Lb,Hv)]⟩,0,⟨[],[]⟩,⟨[(2,Ii)],[]⟩,Hz⟩
def BaS:WL:=[(4,Kaj)]
theorem JaF:Ab (WG true Saw [] [] []) BaS (lp f146 0):=Mc 4 (ls:=Kaj) rfl
theorem OaN:WO Jan:=Je ZaZ func146 (Ja JaF Ma)
abbrev Za2:Pa:=.pu EW Cf [true] (fun x=>RE x.1)
abbrev FaJ:WF:=(73,Za2)::Jan
def Iau:Qa:=⟨37,⟨[(16,(.data NF)),(17,Ra),(18,Ra)],[]⟩,0,⟨[],[]⟩,⟨[(2,Ii)],[]⟩,Ax⟩
def Pa1:WL:=[(4,Iau)]
theorem DaL:Ab (WG true Jan [] [] []) Pa1 (lp f73 0):=Mc 4 (ls:=Iau) rfl
theorem Ja0:WO FaJ:=Je OaN func73 (Ja DaL Ma)
abbrev EaV:Pa:=.pu (.p Cd .u) (.p Cd .u) [true] (fun x=>Um x.1)
abbrev LaA:WF:=(147,EaV)::FaJ
theorem PaN:WO LaA:=Md Ja0 func147
abbrev Ga2:Pa:=.pu (.p Jl .u) (.p Jl .u) [true] (fun x=>Gk x.1)
abbrev XaI:WF:=(38,Ga2)::LaA
theorem QaZ:WO XaI:=Md PaN func38
abbrev FaV:Pa:=.pu JF JF [true] (fun x=>Hu x.1)
abbrev Kan:WF:=(148,FaV)::XaI
theorem QaN:WO Kan:=Md QaZ func148
abbrev Aa3:Pa:=.pu EW EW [true] (fun x=>Nk x.1)
abbrev GaJ:WF:=(74,Aa3)::Kan
def Jau:Qa:=⟨30,⟨[(2,Of),(3,Xn),(11,(.data NF)),(12,Ra),(13,Ra)],[(2,Zc,AP),(3,Zc,c3_)]⟩,0,⟨[(2,Of),(3,Xn)],[(2,Zc,AP),(3,Zc,c3_)]⟩,⟨[],[]⟩,Dt⟩
def Qa1:WL:=[(3,Jau)]
theorem EaL:Ab (WG true Kan [] [] []) Qa1 (lp f74 0):=Mc 3 (ls:=Jau) rfl
theorem Ka0:WO GaJ:=Je QaN func74 (Ja EaL Ma)
abbrev Ea3:Pa:=.co (.p Zc (.p Zc Cf)) BP [true,true] (fun x=>Zj x.1 x.2.1 x.2.2.1)
abbrev JaJ:WF:=(78,Ea3)::GaJ
theorem Oa0:WO JaJ:=wco (L:=[]) (m:=[]) (v:=[]) (l:=[]) (z:=false) Ka0 func78 Ma
abbrev MaV:Pa:=.pu (.p .s Xg) Ch [true] (fun x=>strings_Index x.1 x.2.1)
abbrev Man:WF:=(155,MaV)::JaJ
theorem XaN:WO Man:=wc Oa0 (Hah Tryz.lays_strings_Index (by kernel_rfl) Gax)
abbrev OaV:Pa:=.pu (.p Il .u) Xg [true] (fun x=>Ez x.1)
abbrev Nan:WF:=(157,OaV)::Man
def Oaj:Qa:=⟨35,⟨[(3,Lr),(9,(.data Il)),(10,Ra),(11,Ra)],[]⟩,0,⟨[(3,Lr)],[]⟩,⟨[],[]⟩,At⟩
def DaS:WL:=[(5,Oaj)]
theorem NaF:Ab (WG true Man [] [] []) DaS (lp f157 0):=Mc 5 (ls:=Oaj) rfl
theorem ZaN:WO Nan:=Je XaN func157 (Ja NaF Ma)
abbrev Fa3:Pa:=.pu Xg (.p Il Cf) [true,true] (fun x=>HC x.1)
abbrev Zaw:WF:=(79,Fa3)::Nan
def Mau:Qa:=⟨75,⟨[(0,Ph),(4,Q6),(16,(.own 200002 .s true)),(17,Ra),(18,Ra)],[]⟩,0,⟨[(0,Ph),(4,Q6)],[]⟩,⟨[(2,Q6),(3,Ii)],[]⟩,Mv⟩
def Ra1:WL:=[(5,Mau)]
theorem HaL:Ab (WG true Nan [] [] []) Ra1 (lp f79 0):=Mc 5 (ls:=Mau) rfl
theorem Pa0:WO Zaw:=Je ZaN func79 (Ja HaL Ma)
abbrev Ha3:Pa:=.pu (.p (.sl .s) Ch) (.p Jl Cf) [true,true] (fun x=>Jg x.1 x.2.1)
abbrev Bax:WF:=(81,Ha3)::Zaw
def Oau:Qa:=⟨36,⟨[(6,Ry),(17,(.data (.sl .s))),(18,Ra),(19,Ra)],[]⟩,0,⟨[(6,Ry)],[]⟩,⟨[(4,Ry),(5,Ii)],[]⟩,NB⟩
def Ta1:WL:=[(5,Oau)]
theorem JaL:Ab (WG true Zaw [] [] []) Ta1 (lp f81 0):=Mc 5 (ls:=Oau) rfl
theorem Ra0:WO Bax:=Je Pa0 func81 (Ja JaL Ma)
abbrev MaW:Pa:=.pu (.p Rb Ch) Ch [true] (fun x=>PL x.1 x.2.1)
abbrev FaB:WF:=(194,MaW)::Bax
def Aak:Qa:=⟨21,⟨[(1,Ra),(8,Kr),(9,Ra),(10,Ra)],[]⟩,0,⟨[],[]⟩,⟨[(4,Ra)],[]⟩,KD⟩
def LaS:WL:=[(2,Aak)]
theorem ZaF:Ab (WG true Bax [] [] []) LaS (lp f194 0):=Mc 2 (ls:=Aak) rfl
theorem XaO:WO FaB:=Je Ra0 func194 (Ja ZaF Ma)
abbrev UaY:Pa:=.io Jl .u .u [] (fun x0 _=>sort_Ints x0)
abbrev Rao:WF:=(297,UaY)::FaB
end
end KF
namespace Go.Proofs
open Go.Shelf
def Tryz.lays_sort_Ints_ren:Go.Shelf.Ren:=⟨fun|191=>297|189=>327|125=>342|257=>341|128=>356|129=>337|294=>347|295=>348|296=>349|297=>350|298=>351|299=>352|216=>353|300=>354|301=>355|328=>357|329=>358|330=>359|331=>360|332=>361|215=>362|343=>363|n=>n,fun|28=>29|0=>0|3=>3|46=>242|51=>327|53=>339|4=>4|183=>370|182=>369|131=>135|5=>5|9=>9|218=>378|222=>382|228=>384|229=>336|n=>n,fun|n=>n⟩
theorem Tryz.lays_sort_Ints:Go.Proofs.Lays.n191 Tryz.prog Tryz.lays_sort_Ints_ren:={
 mixed:=by kernel_rfl
 f125:=Tryz.func342.trans (congrArg some (by kernel_rfl))
 f128:=Tryz.func356.trans (congrArg some (by kernel_rfl))
 f129:=Tryz.func337.trans (congrArg some (by kernel_rfl))
 f189:=Tryz.func327.trans (congrArg some (by kernel_rfl))
 f191:=Tryz.func297.trans (congrArg some (by kernel_rfl))
 f215:=Tryz.func362.trans (congrArg some (by kernel_rfl))
 f216:=Tryz.func353.trans (congrArg some (by kernel_rfl))
 f257:=Tryz.func341.trans (congrArg some (by kernel_rfl))
 f294:=Tryz.func347.trans (congrArg some (by kernel_rfl))
 f295:=Tryz.func348.trans (congrArg some (by kernel_rfl))
 f296:=Tryz.func349.trans (congrArg some (by kernel_rfl))
 f297:=Tryz.func350.trans (congrArg some (by kernel_rfl))
 f298:=Tryz.func351.trans (congrArg some (by kernel_rfl))
 f299:=Tryz.func352.trans (congrArg some (by kernel_rfl))
 f300:=Tryz.func354.trans (congrArg some (by kernel_rfl))
 f301:=Tryz.func355.trans (congrArg some (by kernel_rfl))
 f328:=Tryz.func357.trans (congrArg some (by kernel_rfl))
 f329:=Tryz.func358.trans (congrArg some (by kernel_rfl))
 f330:=Tryz.func359.trans (congrArg some (by kernel_rfl))
 f331:=Tryz.func360.trans (congrArg some (by kernel_rfl))
 f332:=Tryz.func361.trans (congrArg some (by kernel_rfl))
 f343:=Tryz.func363.trans (congrArg some (by kernel_rfl))
 t0:=Tryz.underlying0
 a0:=Tryz.isAgg0
 z0:=Tryz.sizeOf0
 v0:=Tryz.zeroValue0
 t3:=Tryz.underlying3
 a3:=Tryz.isAgg3
 z3:=Tryz.sizeOf3
 v3:=Tryz.zeroValue3
 t4:=Tryz.underlying4
 a4:=Tryz.isAgg4
 z4:=Tryz.sizeOf4
 v4:=Tryz.zeroValue4
 t5:=Tryz.underlying5
 a5:=Tryz.isAgg5
 z5:=Tryz.sizeOf5
 v5:=Tryz.zeroValue5
 t9:=Tryz.underlying9
 a9:=Tryz.isAgg9
 z9:=Tryz.sizeOf9
 v9:=Tryz.zeroValue9
 t28:=Tryz.underlying29
 a28:=Tryz.isAgg29
 z28:=Tryz.sizeOf29
 v28:=Tryz.zeroValue29
 t46:=Tryz.underlying242
 a46:=Tryz.isAgg242
 z46:=Tryz.sizeOf242
 v46:=Tryz.zeroValue242
 t51:=Tryz.underlying327
 a51:=Tryz.isAgg327
 z51:=Tryz.sizeOf327
 v51:=Tryz.zeroValue327
 t53:=Tryz.underlying339
 a53:=Tryz.isAgg339
 z53:=Tryz.sizeOf339
 v53:=Tryz.zeroValue339
 t131:=Tryz.underlying135
 a131:=Tryz.isAgg135
 z131:=Tryz.sizeOf135
 v131:=Tryz.zeroValue135
 t182:=Tryz.underlying369
 a182:=Tryz.isAgg369
 z182:=Tryz.sizeOf369
 v182:=Tryz.zeroValue369
 t183:=Tryz.underlying370
 a183:=Tryz.isAgg370
 z183:=Tryz.sizeOf370
 v183:=Tryz.zeroValue370
 t218:=Tryz.underlying378
 a218:=Tryz.isAgg378
 z218:=Tryz.sizeOf378
 v218:=Tryz.zeroValue378
 t222:=Tryz.underlying382
 a222:=Tryz.isAgg382
 z222:=Tryz.sizeOf382
 v222:=Tryz.zeroValue382
 t228:=Tryz.underlying384
 a228:=Tryz.isAgg384
 z228:=Tryz.sizeOf384
 v228:=Tryz.zeroValue384
 t229:=Tryz.underlying336
 a229:=Tryz.isAgg336
 z229:=Tryz.sizeOf336
 v229:=Tryz.zeroValue336}
end Go.Proofs
namespace KF
open Go Go.Proofs Go.Proofs.Tryz
noncomputable section
theorem FaR:WO Rao:=wc XaO (Har Tryz.lays_sort_Ints (by kernel_rfl))
abbrev VaY:Pa:=.pu (.p Jl Ch) Cf [true] (fun x=>HG x.1 x.2.1)
abbrev Sao:WF:=(298,VaY)::Rao
def Ial:Qa:=⟨17,⟨[(1,Ra),(7,(.data Jl)),(8,Ra),(9,Ra)],[]⟩,0,⟨[],[]⟩,⟨[(4,Ii)],[]⟩,OD⟩
def OaT:WL:=[(2,Ial)]
theorem HaH:Ab (WG true Rao [] [] []) OaT (lp f298 0):=Mc 2 (ls:=Ial) rfl
theorem GaR:WO Sao:=Je FaR func298 (Ja HaH Ma)
abbrev ZaX:Pa:=.pu (.p Jl .u) (.p Jl .u) [true] (fun x=>Gx x.1)
abbrev Gao:WF:=(250,ZaX)::Sao
def Vak:Qa:=⟨31,⟨[(4,Ry),(11,(.own 200002 int true)),(12,Ra),(13,Ra)],[]⟩,0,⟨[(4,Ry)],[]⟩,⟨[],[]⟩,MB⟩
def FaT:WL:=[(5,Vak)]
theorem UaG:Ab (WG true Sao [] [] []) FaT (lp f250 0):=Mc 5 (ls:=Vak) rfl
theorem KaQ:WO Gao:=Je GaR func250 (Ja UaG Ma)
abbrev YaV:Pa:=.pu CU JF [true] (fun x=>Wd x.1)
abbrev Qan:WF:=(167,YaV)::Gao
def Taj:Qa:=⟨45,⟨[(2,Of),(3,Xn),(4,Ry),(11,Kr),(12,Ra),(13,Ra)],[(2,Lb,GF),(3,Lb,GF)]⟩,0,⟨[(2,Of),(3,Xn),(4,Ry)],[(2,Lb,GF),(3,Lb,GF)]⟩,⟨[],[]⟩,Kz⟩
def GaS:WL:=[(6,Taj)]
theorem SaF:Ab (WG true Gao [] [] []) GaS (lp f167 0):=Mc 6 (ls:=Taj) rfl
theorem JaO:WO Qan:=Je KaQ func167 (Ja SaF Ma)
abbrev WaY:Pa:=.pu (.p Jl (.p Jl .u)) Cf [true] (fun x=>VG x.1 x.2.1)
abbrev NaC:WF:=(304,WaY)::Qan
def Jal:Qa:=⟨26,⟨[(0,(.data Jl)),(1,(.data Jl)),(12,Ra),(13,Ra)],[]⟩,0,⟨[],[]⟩,⟨[(4,Ii)],[]⟩,Pz⟩
def PaT:WL:=[(4,Jal)]
theorem IaH:Ab (WG true Qan [] [] []) PaT (lp f304 0):=Mc 4 (ls:=Jal) rfl
theorem HaR:WO NaC:=Je JaO func304 (Ja IaH Ma)
abbrev RaD:Pa:=.pu (.p Lb JF) Cf [true] (fun x=>Au x.1 x.2.1)
abbrev GaC:WF:=(265,RaD)::NaC
theorem Xaz:WO GaC:=Md HaR func265
abbrev LaW:Pa:=.co (.p Lb CK) CK [true] (fun x=>Gf x.1 x.2.1)
abbrev EaB:WF:=(193,LaW)::GaC
def GTo:List (Nat×Ty):=[(3,int),(33,(.sl DS)),(104,DS)]
theorem PaJ:((GTo.all fun x=>Ie Tryz.prog x.2 x.1)&&(([]:List (Nat×Ty×Nat)).all fun x=>B1 Tryz.prog x.1 x.2.1 x.2.2))=true:=by kernel_rfl
@[reducible]def Max(c:T Ze→T Ze→Option Bool):Pa:=.pu (.p DS (.p (.sl DS) .u)) (.p (.sl DS) .u) [true] (fun x=>Oap c x.1 x.2.1)
def Pas(c:T Ze→T Ze→Option Bool):Sf:=⟨GTo,[(265,I8 c)],[],true,[],[],[]⟩
theorem Lax(I:Bh)(c:T Ze→T Ze→Option Bool)(h:Zh Tryz.prog I 265 (I8 c)):Kn Tryz.prog I (Pas c):=Kn.cons h (M9 PaJ)
def D9(c:T Ze→T Ze→Option Bool):Qa:=⟨25,⟨[(2,Of),(5,(.own 200001 DS true)),(8,(.data (.sl DS))),(9,Ra),(10,Ra)],[(2,DS,(.data DS))]⟩,0,⟨[(5,(.own 200001 DS true))],[]⟩,⟨[],[]⟩,ZA c⟩
def Qas(c:T Ze→T Ze→Option Bool):List (Nat×Qa):=[(3,D9 c)]
theorem Pap(c:T Ze→T Ze→Option Bool):Ab (Pas c) (Qas c) (lp Tryz.f193 0):=U9 (r:=3) (ls:=D9 c) (R:=fun x=>EK c x.1.1 x.1.2.1 x.1.2.2.1 x.1.2.2.2.1 x.1.2.2.2.2.1 x.2.1) (by kernel_rfl) (by kernel_rfl) rfl (fun x=>by kernel_rfl)
theorem Nax(I:Bh)(c:T Ze→T Ze→Option Bool)(h:Zh Tryz.prog I 265 (I8 c)):Zh Tryz.prog I 193 (Max c):=ZX (L:=Qas c) (k:=1) (Lax I c h) Yag Tryz.func193 (by kernel_rfl) (Ja (Pap c) Ma) (fun x=>by kernel_rfl)
theorem WaO:WO EaB:=wc Xaz (Uav (f2:=265) (SR:=fun x=>Au x.1 x.2.1) (same:=Lm) Oaz (Vaz (s:=RaD) Xaz (by kernel_rfl)) (fun I c h=>⟨_,Nax I c h,ZaD c⟩))
abbrev YaT:Pa:=.pu (.p Rb Ch) (.p Rb CK) [true,true] (fun x=>QD x.1 x.2.1)
abbrev Uam:WF:=(101,YaT)::EaB
theorem JaM:WO Uam:=Md WaO func101
abbrev XaV:Pa:=.pu (.p int CU) Ch [true] (fun x=>It x.1 x.2.1)
abbrev Pan:WF:=(166,XaV)::Uam
def Saj:Qa:=⟨39,⟨[(5,Ra),(21,Kr),(22,Ra),(23,Ra)],[]⟩,0,⟨[(5,Ra)],[]⟩,⟨[],[]⟩,Pl⟩
def FaS:WL:=[(7,Saj)]
theorem RaF:Ab (WG true Uam [] [] []) FaS (lp f166 0):=Mc 7 (ls:=Saj) rfl
theorem IaO:WO Pan:=Je JaM func166 (Ja RaF Ma)
abbrev GaW:Pa:=.pu DU Ch [true] (fun x=>Ix x.1 x.2.1 x.2.2.1)
abbrev AaB:WF:=(188,GaW)::Pan
def Yaj:Qa:=⟨33,⟨[(1,Ra),(2,Ra),(3,Xn),(7,Ra)],[(3,Bb,Sy)]⟩,0,⟨[],[]⟩,⟨[(6,Ra)],[]⟩,Vj⟩
def JaS:WL:=[(2,Yaj)]
theorem XaF:Ab (WG true Pan [] [] []) JaS (lp f188 0):=Mc 2 (ls:=Yaj) rfl
theorem RaO:WO AaB:=Je IaO func188 (Ja XaF Ma)
abbrev DaZ:Pa:=.pu DU Ch [true] (fun x=>LP x.1 x.2.1 x.2.2.1)
abbrev SaC:WF:=(335,DaZ)::AaB
theorem OaR:WO SaC:=Md RaO func335
abbrev AaZ:Pa:=.pu DU Bp [true] (fun x=>TG x.1 x.2.1 x.2.2.1)
abbrev QaC:WF:=(319,AaZ)::SaC
theorem LaR:WO QaC:=Md OaR func319
abbrev CaY:Pa:=.pu Bp Cf [true] (fun x=>Ar x.1)
abbrev Hao:WF:=(262,CaY)::QaC
theorem NaQ:WO Hao:=Md LaR func262
abbrev BaZ:Pa:=.pu (.p Qd (.p int (.p int (.p Uy Ch)))) Sh [true,true] (fun x=>MA x.1 x.2.1 x.2.2.1 x.2.2.2.1 x.2.2.2.2.1)
abbrev RaC:WF:=(320,BaZ)::Hao
def Lal:Qa:=⟨102,⟨[(1,Ra),(2,Ra),(4,Ra),(5,LF),(12,Ra),(26,(.data Uy)),(27,Ra),(28,Ra)],[(5,Qd,KI)]⟩,0,⟨[(2,Ra),(4,Ra),(5,LF)],[(5,Qd,KI)]⟩,⟨[(10,Ra),(11,Ra)],[]⟩,Az⟩
def QaT:WL:=[(5,Lal)]
theorem KaH:Ab (WG true Hao [] [] []) QaT (lp f320 0):=Mc 5 (ls:=Lal) rfl
theorem MaR:WO RaC:=Je NaQ func320 (Ja KaH Ma)
abbrev HaW:Pa:=.pu Bp Bp [true] (fun x=>QL x.1)
abbrev BaB:WF:=(189,HaW)::RaC
theorem SaO:WO BaB:=Md MaR func189
abbrev IaW:Pa:=.pu Bp Bp [true] (fun x=>CO x.1)
abbrev CaB:WF:=(190,IaW)::BaB
theorem TaO:WO CaB:=Md SaO func190
abbrev DaY:Pa:=.pu Ch Cf [true] (fun x=>FC x.1)
abbrev FaC:WF:=(263,DaY)::CaB
theorem OaQ:WO FaC:=Md TaO func263
abbrev JaW:Pa:=.bx false false Rb Bp Bp [true] (fun x0 x=>Rv x0 x.1)
abbrev Uan:WF:=(191,JaW)::FaC
theorem UaO:WO Uan:=wbx (L:=[]) (m:=[]) (v:=[]) (l:=[]) (z:=false) OaQ func191 Ma
abbrev EaY:Pa:=.pu (.p Lb (.p (.sl Sh) .u)) JF [true] (fun x=>Fg x.1 x.2.1)
abbrev Iao:WF:=(264,EaY)::Uan
def Xak:Qa:=⟨37,⟨[(4,Iv),(5,LF),(6,Ry),(15,(.data (.sl Sh))),(16,Ra),(17,Ra)],[(4,Lb,GF),(5,Lb,GF)]⟩,0,⟨[(4,Iv),(5,LF),(6,Ry)],[(4,Lb,GF),(5,Lb,GF)]⟩,⟨[],[]⟩,Kx⟩
def HaT:WL:=[(4,Xak)]
theorem WaG:Ab (WG true Uan [] [] []) HaT (lp f264 0):=Mc 4 (ls:=Xak) rfl
theorem PaQ:WO Iao:=Je UaO func264 (Ja WaG Ma)
abbrev KaW:Pa:=.pu (.p (.sl Gl) (.p Il .u)) CK [true] (fun x=>Wl x.1 x.2.1)
abbrev DaB:WF:=(192,KaW)::Iao
def Zaj:Qa:=⟨74,⟨[(5,LF),(6,BS),(7,(.own 200002 Sh true)),(22,(.data Il)),(23,Ra),(24,Ra)],[(5,Lb,(.pr Ra (.pr (.own 200003 int true) .un)))]⟩,0,⟨[(6,BS)],[]⟩,⟨[],[]⟩,Tr⟩
def KaS:WL:=[(7,Zaj)]
theorem YaF:Ab (WG true Iao [] [] []) KaS (lp f192 0):=Mc 7 (ls:=Zaj) rfl
theorem VaO:WO DaB:=Je PaQ func192 (Ja YaF Ma)
abbrev XaT:Pa:=.pu (.p Rb (.p int Cf)) (.p Rb CK) [true,true] (fun x=>Dj x.1 x.2.1 x.2.2.1)
abbrev Yaz:WF:=(100,XaT)::DaB
theorem IaM:WO Yaz:=Md VaO func100
abbrev SaY:Pa:=.bx false false Cd .u (.p CN Cf) [true,true] (fun x0 x=>Bj x0)
abbrev Pao:WF:=(292,SaY)::Yaz
theorem DaR:WO Pao:=wbx (L:=[]) (m:=[]) (v:=[]) (l:=[]) (z:=false) IaM func292 Ma
abbrev TaY:Pa:=.co (.p NF (.p int CK)) (.p NF .u) [true] (fun x=>OM x.1 x.2.1 x.2.2.1)
abbrev Qao:WF:=(293,TaY)::Pao
def Hal:Qa:=⟨23,⟨[(0,D1),(1,Ra),(9,(.mov 200002 Lb)),(10,Ra),(11,Ra)],[]⟩,0,⟨[(0,D1)],[]⟩,⟨[],[]⟩,MH⟩
def NaT:WL:=[(2,Hal)]
theorem GaH:Ab (WG false Pao [] [] [14]) NaT (lp f293 0):=Mc 2 (ls:=Hal) rfl
theorem EaR:WO Qao:=wco DaR func293 (Ja GaH Ma)
abbrev XaX:Pa:=.pu (.p Cd (.p Uy Ch)) C1 [true,true,true] (fun x=>Yt x.1 x.2.1 x.2.2.1)
abbrev DaC:WF:=(244,XaX)::Qao
def Uak:Qa:=⟨86,⟨[(6,(.ptr 6 [])),(9,(.ptr 9 [])),(10,D1)],[(6,Cd,c1_),(9,Cd,c2_)]⟩,0,⟨[(6,(.ptr 6 [])),(9,(.ptr 9 [])),(10,D1)],[(6,Cd,c1_),(9,Cd,c2_)]⟩,⟨[],[]⟩,Zg⟩
def EaT:WL:=[(9,Uak)]
theorem TaG:Ab (WG true Qao [] [] []) EaT (lp f244 0):=Mc 9 (ls:=Uak) rfl
theorem IaQ:WO DaC:=Je EaR func244 (Ja TaG Ma)
abbrev QaV:Pa:=.pu (.p Cd Ch) C1 [true,true,true] (fun x=>UE x.1 x.2.1)
abbrev QaA:WF:=(159,QaV)::DaC
theorem BaO:WO QaA:=Md IaQ func159
abbrev RaV:Pa:=.pu (.p Cd (.p Pm .u)) C1 [true,true,true] (fun x=>PE x.1 x.2.1)
abbrev Oan:WF:=(160,RaV)::QaA
theorem CaO:WO Oan:=Md BaO func160
abbrev ZaT:Pa:=.pu JF Xg [true] (fun x=>Qp x.1)
abbrev Vam:WF:=(102,ZaT)::Oan
def Rai:Qa:=⟨29,⟨[(1,Yj),(3,Lr),(10,(.data Jl)),(11,Ra),(12,Ra)],[(1,Lb,Hv)]⟩,0,⟨[(1,Yj),(3,Lr)],[(1,Lb,Hv)]⟩,⟨[],[]⟩,Qr⟩
def QaR:WL:=[(5,Rai)]
theorem QaE:Ab (WG true Oan [] [] []) QaR (lp f102 0):=Mc 5 (ls:=Rai) rfl
theorem KaM:WO Vam:=Je CaO func102 (Ja QaE Ma)
abbrev SaV:Pa:=.pu (.p NF .u) Xg [true] (fun x=>Mo x.1)
abbrev RaA:WF:=(161,SaV)::Vam
def Paj:Qa:=⟨29,⟨[(3,Lr),(9,(.data NF)),(10,Ra),(11,Ra)],[]⟩,0,⟨[(3,Lr)],[]⟩,⟨[],[]⟩,Lv⟩
def EaS:WL:=[(5,Paj)]
theorem OaF:Ab (WG true Vam [] [] []) EaS (lp f161 0):=Mc 5 (ls:=Paj) rfl
theorem DaO:WO RaA:=Je KaM func161 (Ja OaF Ma)
abbrev Ia3:Pa:=.co (.p Zc (.p .s (.p Jl .u))) BP [true,true] (fun x=>Rl x.1 x.2.1 x.2.2.1)
abbrev KaJ:WF:=(82,Ia3)::RaA
theorem Sa0:WO KaJ:=wco (L:=[]) (m:=[]) (v:=[]) (l:=[]) (z:=false) DaO func82 Ma
abbrev TaV:Pa:=.pu (.p Bb Ch) Cf [true] (fun x=>Xh x.1 x.2.1)
abbrev SaA:WF:=(162,TaV)::KaJ
theorem EaO:WO SaA:=Md Sa0 func162
abbrev YaX:Pa:=.pu DU Ch [true] (fun x=>Iu x.1 x.2.1 x.2.2.1)
abbrev Vab:WF:=(245,YaX)::SaA
theorem JaQ:WO Vab:=Md EaO func245
abbrev UaV:Pa:=.pu (.p Bb Ch) (.p (.mp int Jl) .u) [true] (fun x=>YQ x.1 x.2.1)
abbrev TaA:WF:=(163,UaV)::Vab
def Raj:Qa:=⟨57,⟨[(2,Of),(5,(.mqo 200101 .i64 int)),(6,(.own 200102 int true)),(7,Ra),(26,Ra),(27,Ra)],[(2,Bb,Sy)]⟩,2,⟨[(2,Of),(5,(.mqo 200101 .i64 int)),(6,(.own 200102 int true))],[(2,Bb,Sy)]⟩,⟨[],[]⟩,Qz⟩
def Qaj:Qa:=⟨57,⟨[(2,Of),(5,(.mqo 200001 .i64 int)),(6,(.own 200002 int true))],[(2,Bb,Sy)]⟩,0,⟨[(5,(.mqo 200001 .i64 int))],[]⟩,⟨[],[]⟩,Xr⟩
def ZaC:WL:=[(7,Raj),(3,Qaj)]
theorem QaF:Ab (WG true Vab [] [12,24] []) ZaC (lp f163 1):=Mc 7 (ls:=Raj) rfl
theorem PaF:Ab (WG true Vab [] [12,24] []) ZaC (lp f163 0):=Mc 3 (ls:=Qaj) rfl
theorem FaO:WO TaA:=Je JaQ func163 (Ja QaF (Ja PaF Ma))
abbrev Ja3:Pa:=.pu DU (.p Jl Cf) [true,true] (fun x=>Fk x.1 x.2.1 x.2.2.1)
abbrev Cax:WF:=(83,Ja3)::TaA
theorem Ta0:WO Cax:=Je (L:=[]) (m:=[]) (v:=[]) (l:=[25]) FaO func83 Ma
abbrev BaW:Pa:=.pu (.p NF .u) CK [true] (fun x=>SE x.1)
abbrev San:WF:=(170,BaW)::Cax
def Xaj:Qa:=⟨20,⟨[(3,BS),(6,(.data NF)),(7,Ra),(8,Ra)],[]⟩,0,⟨[(3,BS)],[]⟩,⟨[],[]⟩,Bx⟩
def IaS:WL:=[(3,Xaj)]
theorem WaF:Ab (WG true Cax [] [] []) IaS (lp f170 0):=Mc 3 (ls:=Xaj) rfl
theorem MaO:WO San:=Je Ta0 func170 (Ja WaF Ma)
abbrev AaY:Pa:=.pu (.p Lb JF) (.p Jl .u) [true] (fun x=>QI x.1 x.2.1)
abbrev EaC:WF:=(251,AaY)::San
def Wak:Qa:=⟨34,⟨[(2,Of),(5,Ry),(17,(.data Jl)),(18,Ra),(19,Ra)],[(2,Lb,Hv)]⟩,0,⟨[(5,Ry)],[]⟩,⟨[],[]⟩,KB⟩
def GaT:WL:=[(5,Wak)]
theorem VaG:Ab (WG true San [] [] []) GaT (lp f251 0):=Mc 5 (ls:=Wak) rfl
theorem LaQ:WO EaC:=Je MaO func251 (Ja VaG Ma)
abbrev BaY:Pa:=.pu Sh Xg [true] (fun x=>Mn x.1 x.2.1)
abbrev Wab:WF:=(252,BaY)::EaC
theorem MaQ:WO Wab:=Md LaQ func252
abbrev AaW:Pa:=.pu (.p Lb CK) Xg [true] (fun x=>TE x.1 x.2.1)
abbrev Ran:WF:=(169,AaW)::Wab
def Waj:Qa:=⟨34,⟨[(2,Of),(5,Ph),(7,(.ptr 7 [])),(10,(.data CN)),(11,Ra),(12,Ra),(18,S6),(19,Ra),(20,Ra)],[(2,Lb,Hv),(7,Lb,Hv)]⟩,2,⟨[(2,Of),(5,Ph),(7,(.ptr 7 [])),(10,(.data CN)),(11,Ra),(12,Ra)],[(2,Lb,Hv),(7,Lb,Hv)]⟩,⟨[],[]⟩,Dx⟩
def Vaj:Qa:=⟨34,⟨[(2,Of),(5,Ph),(10,(.data CN)),(11,Ra),(12,Ra)],[(2,Lb,Hv)]⟩,0,⟨[(5,Ph)],[]⟩,⟨[],[]⟩,Cx⟩
def AaD:WL:=[(6,Waj),(3,Vaj)]
theorem VaF:Ab (WG true Wab [] [] []) AaD (lp f169 1):=Mc 6 (ls:=Waj) rfl
theorem UaF:Ab (WG true Wab [] [] []) AaD (lp f169 0):=Mc 3 (ls:=Vaj) rfl
theorem LaO:WO Ran:=Je MaQ func169 (Ja VaF (Ja UaF Ma))
abbrev ZaV:Pa:=.pu (.p (.sl ZO) .u) Xg [true] (fun x=>Yq x.1)
abbrev WaA:WF:=(168,ZaV)::Ran
def Uaj:Qa:=⟨27,⟨[(3,R6),(9,(.data (.sl ZO))),(10,Ra),(11,Ra)],[]⟩,0,⟨[(3,R6)],[]⟩,⟨[],[]⟩,Zw⟩
def HaS:WL:=[(5,Uaj)]
theorem TaF:Ab (WG true Ran [] [] []) HaS (lp f168 0):=Mc 5 (ls:=Uaj) rfl
theorem KaO:WO WaA:=Je LaO func168 (Ja TaF Ma)
abbrev La3:Pa:=.pu BP Xg [true] (fun x=>Si x.1 x.2.1)
abbrev Dax:WF:=(86,La3)::WaA
theorem Va0:WO Dax:=Md KaO func86
abbrev Ea2:Pa:=.pu BP BP [true,true] (fun x=>NL x.1 x.2.1)
abbrev Naw:WF:=(30,Ea2)::Dax
def Kal:Qa:=⟨236,⟨[(2,Of),(4,Iv),(32,Lr),(211,(.own 200002 int true)),(212,Ra),(213,Ra)],[(2,Zc,c4_),(4,Zc,AP)]⟩,1,⟨[(2,Of),(4,Iv),(32,Lr)],[(2,Zc,Kax),(4,Zc,AP)]⟩,⟨[],[]⟩,Uj⟩
def Ea1:WL:=[(41,Kal)]
theorem JaH:Ab (WG true Dax [] [] []) Ea1 (lp f30 0):=Mc 41 (ls:=Kal) rfl
theorem OaZ:WO Naw:=Je Va0 func30 (Ja JaH Ma)
abbrev Ca2:Pa:=.pu Xg (.p .s Ch) [true,true] (fun x=>OA x.1)
abbrev VaI:WF:=(26,Ca2)::Naw
def Uat:Qa:=⟨52,⟨[(4,Lr),(5,LF),(6,Ph),(29,Lr),(30,Ra),(31,Ra)],[(5,Zc,Kax)]⟩,0,⟨[(4,Lr),(6,Ph)],[]⟩,⟨[],[]⟩,Cj⟩
def Ca1:WL:=[(9,Uat)]
theorem PaK:Ab (WG true Naw [] [24] []) Ca1 (lp f26 0):=Mc 9 (ls:=Uat) rfl
theorem MaZ:WO VaI:=Je OaZ func26 (Ja PaK Ma)
abbrev s_6:Pa:=.pu Xg Cf [true] (fun x=>Hq x.1)
abbrev F_6:WF:=(6,s_6)::VaI
theorem E_6:WO F_6:=Md MaZ func6
theorem RP:Zh Tryz.prog II 6 s_6:=Vaz E_6 (by kernel_rfl)
end
end KF
