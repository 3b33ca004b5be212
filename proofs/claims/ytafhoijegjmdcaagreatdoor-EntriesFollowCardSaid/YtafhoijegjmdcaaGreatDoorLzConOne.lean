/- EntriesFollow is proved: for every input the law returns true, and its argument reads afterwards as it read before. Conditions: those of the given row alone. -/
import Derived.Shelf.LaysM
import Derived.Shelf.LaysC
import Derived.Shelf.Strconv.Itoa3
import Derived.Shelf.Strconv.AtoiAll
import Derived.Shelf.Strings.Prefix
import Derived.Shelf.Strings.Split
import Derived.Test.YtafhoijegjmdcaaGreatDoorProg
import Derived.Test.YtafhoijegjmdcaaGreatDoorLzEngTwo
import Derived.Below
import Derived.Lib.SplitLaws
import Derived.Shelf.Strings.SlTrimAscii
set_option linter.unusedVariables false
set_option linter.unusedSimpArgs false
set_option maxHeartbeats 16000000
namespace Go.Proofs
open Go.Shelf
def nS:Go.Shelf.Ren:=⟨fun|171=>62|243=>109|246=>160|283=>219|284=>220|285=>221|286=>222|129=>193|317=>273|318=>274|319=>275|320=>276|337=>304|338=>305|n=>n,fun|3=>3|9=>9|2=>2|4=>4|171=>291|0=>0|53=>265|37=>293|5=>5|173=>294|212=>329|51=>263|20=>20|213=>330|46=>206|232=>366|233=>367|n=>n,fun|17=>1|18=>4|19=>5|n=>n⟩
theorem sK:Go.Proofs.LaysM.n171 Tryz.prog nS:={
 mixed:=by kernel_rfl
 f129:=Tryz.func193.trans (congrArg some (by kernel_rfl))
 f171:=Tryz.func62.trans (congrArg some (by kernel_rfl))
 f243:=Tryz.func109.trans (congrArg some (by kernel_rfl))
 f246:=Tryz.func160.trans (congrArg some (by kernel_rfl))
 f283:=Tryz.func219.trans (congrArg some (by kernel_rfl))
 f284:=Tryz.func220.trans (congrArg some (by kernel_rfl))
 f285:=Tryz.func221.trans (congrArg some (by kernel_rfl))
 f286:=Tryz.func222.trans (congrArg some (by kernel_rfl))
 f317:=Tryz.func273.trans (congrArg some (by kernel_rfl))
 f318:=Tryz.func274.trans (congrArg some (by kernel_rfl))
 f319:=Tryz.func275.trans (congrArg some (by kernel_rfl))
 f320:=Tryz.func276.trans (congrArg some (by kernel_rfl))
 f337:=Tryz.func304.trans (congrArg some (by kernel_rfl))
 f338:=Tryz.func305.trans (congrArg some (by kernel_rfl))
 t0:=Tryz.underlying0
 a0:=Tryz.isAgg0
 z0:=Tryz.sizeOf0
 v0:=Tryz.zeroValue0
 t2:=Tryz.underlying2
 a2:=Tryz.isAgg2
 z2:=Tryz.sizeOf2
 v2:=Tryz.zeroValue2
 t3:=Tryz.underlying3
 a3:=Tryz.isAgg3
 z3:=Tryz.sizeOf3
 v3:=Tryz.zeroValue3
 t4:=Tryz.underlying4
 a4:=Tryz.isAgg4
 z4:=Tryz.sizeOf4
 v4:=Tryz.zeroValue4
 t5:=Tryz.underlying5
 a5:=Tryz.isAgg5
 z5:=Tryz.sizeOf5
 v5:=Tryz.zeroValue5
 t9:=Tryz.underlying9
 a9:=Tryz.isAgg9
 z9:=Tryz.sizeOf9
 v9:=Tryz.zeroValue9
 t20:=Tryz.underlying20
 a20:=Tryz.isAgg20
 z20:=Tryz.sizeOf20
 v20:=Tryz.zeroValue20
 t37:=Tryz.underlying293
 a37:=Tryz.isAgg293
 z37:=Tryz.sizeOf293
 v37:=Tryz.zeroValue293
 t46:=Tryz.underlying206
 a46:=Tryz.isAgg206
 z46:=Tryz.sizeOf206
 v46:=Tryz.zeroValue206
 t51:=Tryz.underlying263
 a51:=Tryz.isAgg263
 z51:=Tryz.sizeOf263
 v51:=Tryz.zeroValue263
 t53:=Tryz.underlying265
 a53:=Tryz.isAgg265
 z53:=Tryz.sizeOf265
 v53:=Tryz.zeroValue265
 t171:=Tryz.underlying291
 a171:=Tryz.isAgg291
 z171:=Tryz.sizeOf291
 v171:=Tryz.zeroValue291
 t173:=Tryz.underlying294
 a173:=Tryz.isAgg294
 z173:=Tryz.sizeOf294
 v173:=Tryz.zeroValue294
 t212:=Tryz.underlying329
 a212:=Tryz.isAgg329
 z212:=Tryz.sizeOf329
 v212:=Tryz.zeroValue329
 t213:=Tryz.underlying330
 a213:=Tryz.isAgg330
 z213:=Tryz.sizeOf330
 t232:=Tryz.underlying366
 a232:=Tryz.isAgg366
 z232:=Tryz.sizeOf366
 v232:=Tryz.zeroValue366
 t233:=Tryz.underlying367
 a233:=Tryz.isAgg367
 z233:=Tryz.sizeOf367
 v233:=Tryz.zeroValue367
 g17:=by kernel_rfl
 g18:=by kernel_rfl
 g19:=by kernel_rfl
 i0:=by kernel_rfl
 i2:=by kernel_rfl
 i3:=by kernel_rfl
 i4:=by kernel_rfl
 i5:=by kernel_rfl
 i9:=by kernel_rfl
 i20:=by kernel_rfl
 i37:=by kernel_rfl
 i46:=by kernel_rfl
 i51:=by kernel_rfl
 i53:=by kernel_rfl
 i171:=by kernel_rfl
 i173:=by kernel_rfl
 i212:=by kernel_rfl
 i232:=by kernel_rfl
 i233:=by kernel_rfl
 m17:=by kernel_rfl
 m18:=by kernel_rfl
 m19:=by kernel_rfl}
def bQ:Go.Shelf.Ren:=⟨fun|172=>198|244=>254|245=>255|247=>293|279=>294|280=>295|281=>296|282=>297|287=>317|316=>318|171=>62|205=>319|321=>332|322=>333|243=>109|246=>160|283=>219|284=>220|285=>221|286=>222|129=>193|317=>273|318=>274|319=>275|320=>276|337=>304|338=>305|n=>n,fun|9=>9|3=>3|75=>270|76=>271|4=>4|5=>5|167=>343|37=>293|0=>0|85=>344|2=>2|168=>346|53=>265|175=>358|46=>206|210=>362|127=>375|145=>378|143=>376|21=>21|171=>291|173=>294|212=>329|51=>263|20=>20|213=>330|232=>366|233=>367|80=>132|n=>n,fun|15=>2|16=>3|17=>1|18=>4|19=>5|n=>n⟩
theorem jm:Go.Proofs.LaysC.n172 Tryz.prog bQ:={
 mixed:=by kernel_rfl
 f129:=Tryz.func193.trans (congrArg some (by kernel_rfl))
 f171:=Tryz.func62.trans (congrArg some (by kernel_rfl))
 f172:=Tryz.func198.trans (congrArg some (by kernel_rfl))
 f205:=Tryz.func319.trans (congrArg some (by kernel_rfl))
 f243:=Tryz.func109.trans (congrArg some (by kernel_rfl))
 f244:=Tryz.func254.trans (congrArg some (by kernel_rfl))
 f245:=Tryz.func255.trans (congrArg some (by kernel_rfl))
 f246:=Tryz.func160.trans (congrArg some (by kernel_rfl))
 f247:=Tryz.func293.trans (congrArg some (by kernel_rfl))
 f279:=Tryz.func294.trans (congrArg some (by kernel_rfl))
 f280:=Tryz.func295.trans (congrArg some (by kernel_rfl))
 f281:=Tryz.func296.trans (congrArg some (by kernel_rfl))
 f282:=Tryz.func297.trans (congrArg some (by kernel_rfl))
 f283:=Tryz.func219.trans (congrArg some (by kernel_rfl))
 f284:=Tryz.func220.trans (congrArg some (by kernel_rfl))
 f285:=Tryz.func221.trans (congrArg some (by kernel_rfl))
 f286:=Tryz.func222.trans (congrArg some (by kernel_rfl))
 f287:=Tryz.func317.trans (congrArg some (by kernel_rfl))
 f316:=Tryz.func318.trans (congrArg some (by kernel_rfl))
 f317:=Tryz.func273.trans (congrArg some (by kernel_rfl))
 f318:=Tryz.func274.trans (congrArg some (by kernel_rfl))
 f319:=Tryz.func275.trans (congrArg some (by kernel_rfl))
 f320:=Tryz.func276.trans (congrArg some (by kernel_rfl))
 f321:=Tryz.func332.trans (congrArg some (by kernel_rfl))
 f322:=Tryz.func333.trans (congrArg some (by kernel_rfl))
 f337:=Tryz.func304.trans (congrArg some (by kernel_rfl))
 f338:=Tryz.func305.trans (congrArg some (by kernel_rfl))
 t0:=Tryz.underlying0
 a0:=Tryz.isAgg0
 z0:=Tryz.sizeOf0
 v0:=Tryz.zeroValue0
 t2:=Tryz.underlying2
 a2:=Tryz.isAgg2
 z2:=Tryz.sizeOf2
 v2:=Tryz.zeroValue2
 t3:=Tryz.underlying3
 a3:=Tryz.isAgg3
 z3:=Tryz.sizeOf3
 v3:=Tryz.zeroValue3
 t4:=Tryz.underlying4
 a4:=Tryz.isAgg4
 z4:=Tryz.sizeOf4
 v4:=Tryz.zeroValue4
 t5:=Tryz.underlying5
 a5:=Tryz.isAgg5
 z5:=Tryz.sizeOf5
 v5:=Tryz.zeroValue5
 t9:=Tryz.underlying9
 a9:=Tryz.isAgg9
 z9:=Tryz.sizeOf9
 v9:=Tryz.zeroValue9
 t20:=Tryz.underlying20
 a20:=Tryz.isAgg20
 z20:=Tryz.sizeOf20
 v20:=Tryz.zeroValue20
 t21:=Tryz.underlying21
 a21:=Tryz.isAgg21
 z21:=Tryz.sizeOf21
 v21:=Tryz.zeroValue21
 t37:=Tryz.underlying293
 a37:=Tryz.isAgg293
 z37:=Tryz.sizeOf293
 v37:=Tryz.zeroValue293
 t46:=Tryz.underlying206
 a46:=Tryz.isAgg206
 z46:=Tryz.sizeOf206
 v46:=Tryz.zeroValue206
 t51:=Tryz.underlying263
 a51:=Tryz.isAgg263
 z51:=Tryz.sizeOf263
 v51:=Tryz.zeroValue263
 t53:=Tryz.underlying265
 a53:=Tryz.isAgg265
 z53:=Tryz.sizeOf265
 v53:=Tryz.zeroValue265
 t75:=Tryz.underlying270
 a75:=Tryz.isAgg270
 z75:=Tryz.sizeOf270
 v75:=Tryz.zeroValue270
 t76:=Tryz.underlying271
 a76:=Tryz.isAgg271
 z76:=Tryz.sizeOf271
 v76:=Tryz.zeroValue271
 t85:=Tryz.underlying344
 a85:=Tryz.isAgg344
 z85:=Tryz.sizeOf344
 v85:=Tryz.zeroValue344
 t127:=Tryz.underlying375
 a127:=Tryz.isAgg375
 z127:=Tryz.sizeOf375
 v127:=Tryz.zeroValue375
 t143:=Tryz.underlying376
 a143:=Tryz.isAgg376
 z143:=Tryz.sizeOf376
 v143:=Tryz.zeroValue376
 t145:=Tryz.underlying378
 a145:=Tryz.isAgg378
 z145:=Tryz.sizeOf378
 v145:=Tryz.zeroValue378
 t167:=Tryz.underlying343
 a167:=Tryz.isAgg343
 z167:=Tryz.sizeOf343
 v167:=Tryz.zeroValue343
 t168:=Tryz.underlying346
 a168:=Tryz.isAgg346
 z168:=Tryz.sizeOf346
 v168:=Tryz.zeroValue346
 t171:=Tryz.underlying291
 a171:=Tryz.isAgg291
 z171:=Tryz.sizeOf291
 v171:=Tryz.zeroValue291
 t173:=Tryz.underlying294
 a173:=Tryz.isAgg294
 z173:=Tryz.sizeOf294
 v173:=Tryz.zeroValue294
 t175:=Tryz.underlying358
 a175:=Tryz.isAgg358
 z175:=Tryz.sizeOf358
 v175:=Tryz.zeroValue358
 t210:=Tryz.underlying362
 a210:=Tryz.isAgg362
 z210:=Tryz.sizeOf362
 v210:=Tryz.zeroValue362
 t212:=Tryz.underlying329
 a212:=Tryz.isAgg329
 z212:=Tryz.sizeOf329
 v212:=Tryz.zeroValue329
 t213:=Tryz.underlying330
 a213:=Tryz.isAgg330
 z213:=Tryz.sizeOf330
 t232:=Tryz.underlying366
 a232:=Tryz.isAgg366
 z232:=Tryz.sizeOf366
 v232:=Tryz.zeroValue366
 t233:=Tryz.underlying367
 a233:=Tryz.isAgg367
 z233:=Tryz.sizeOf367
 v233:=Tryz.zeroValue367
 g15:=by kernel_rfl
 g16:=by kernel_rfl
 g17:=by kernel_rfl
 g18:=by kernel_rfl
 g19:=by kernel_rfl
 t80:=Tryz.underlying132
 a80:=Tryz.isAgg132
 z80:=Tryz.sizeOf132
 v80:=Tryz.zeroValue132
 i0:=by kernel_rfl
 i2:=by kernel_rfl
 i3:=by kernel_rfl
 i4:=by kernel_rfl
 i5:=by kernel_rfl
 i9:=by kernel_rfl
 i20:=by kernel_rfl
 i21:=by kernel_rfl
 i37:=by kernel_rfl
 i46:=by kernel_rfl
 i51:=by kernel_rfl
 i53:=by kernel_rfl
 i75:=by kernel_rfl
 i76:=by kernel_rfl
 i80:=by kernel_rfl
 i85:=by kernel_rfl
 i127:=by kernel_rfl
 i143:=by kernel_rfl
 i145:=by kernel_rfl
 i167:=by kernel_rfl
 i168:=by kernel_rfl
 i171:=by kernel_rfl
 i173:=by kernel_rfl
 i175:=by kernel_rfl
 i210:=by kernel_rfl
 i212:=by kernel_rfl
 i232:=by kernel_rfl
 i233:=by kernel_rfl
 m15:=by kernel_rfl
 m16:=by kernel_rfl
 m17:=by kernel_rfl
 m18:=by kernel_rfl
 m19:=by kernel_rfl
 c0:=by kernel_rfl
 c2:=by kernel_rfl
 c3:=by kernel_rfl
 c4:=by kernel_rfl
 c5:=by kernel_rfl
 c9:=by kernel_rfl
 c20:=by kernel_rfl
 c21:=by kernel_rfl
 c37:=by kernel_rfl
 c46:=by kernel_rfl
 c51:=by kernel_rfl
 c53:=by kernel_rfl
 c75:=by kernel_rfl
 c76:=by kernel_rfl
 c80:=by kernel_rfl
 c85:=by kernel_rfl
 c127:=by kernel_rfl
 c143:=by kernel_rfl
 c145:=by kernel_rfl
 c167:=by kernel_rfl
 c168:=by kernel_rfl
 c171:=by kernel_rfl
 c173:=by kernel_rfl
 c175:=by kernel_rfl
 c210:=by kernel_rfl
 c212:=by kernel_rfl
 c213:=by kernel_rfl
 c232:=by kernel_rfl
 c233:=by kernel_rfl}
def oc:Go.Shelf.Ren:=⟨fun|146=>196|221=>252|268=>289|138=>290|143=>291|195=>314|197=>286|218=>315|219=>316|260=>311|217=>330|225=>329|224=>328|267=>331|266=>336|314=>337|n=>n,fun|9=>9|31=>129|3=>3|4=>4|0=>0|105=>339|21=>21|5=>5|46=>206|119=>369|139=>372|138=>371|146=>380|51=>263|n=>n,fun|1=>0|3=>6|4=>7|n=>n⟩
theorem sN:Go.Proofs.LaysM.n146 Tryz.prog oc:={
 mixed:=by kernel_rfl
 f138:=Tryz.func290.trans (congrArg some (by kernel_rfl))
 f143:=Tryz.func291.trans (congrArg some (by kernel_rfl))
 f146:=Tryz.func196.trans (congrArg some (by kernel_rfl))
 f195:=Tryz.func314.trans (congrArg some (by kernel_rfl))
 f197:=Tryz.func286.trans (congrArg some (by kernel_rfl))
 f217:=Tryz.func330.trans (congrArg some (by kernel_rfl))
 f218:=Tryz.func315.trans (congrArg some (by kernel_rfl))
 f219:=Tryz.func316.trans (congrArg some (by kernel_rfl))
 f221:=Tryz.func252.trans (congrArg some (by kernel_rfl))
 f224:=Tryz.func328.trans (congrArg some (by kernel_rfl))
 f225:=Tryz.func329.trans (congrArg some (by kernel_rfl))
 f260:=Tryz.func311.trans (congrArg some (by kernel_rfl))
 f266:=Tryz.func336.trans (congrArg some (by kernel_rfl))
 f267:=Tryz.func331.trans (congrArg some (by kernel_rfl))
 f268:=Tryz.func289.trans (congrArg some (by kernel_rfl))
 f314:=Tryz.func337.trans (congrArg some (by kernel_rfl))
 t0:=Tryz.underlying0
 a0:=Tryz.isAgg0
 z0:=Tryz.sizeOf0
 v0:=Tryz.zeroValue0
 t3:=Tryz.underlying3
 a3:=Tryz.isAgg3
 z3:=Tryz.sizeOf3
 v3:=Tryz.zeroValue3
 t4:=Tryz.underlying4
 a4:=Tryz.isAgg4
 z4:=Tryz.sizeOf4
 v4:=Tryz.zeroValue4
 t5:=Tryz.underlying5
 a5:=Tryz.isAgg5
 z5:=Tryz.sizeOf5
 v5:=Tryz.zeroValue5
 t9:=Tryz.underlying9
 a9:=Tryz.isAgg9
 z9:=Tryz.sizeOf9
 v9:=Tryz.zeroValue9
 t21:=Tryz.underlying21
 a21:=Tryz.isAgg21
 z21:=Tryz.sizeOf21
 v21:=Tryz.zeroValue21
 t31:=Tryz.underlying129
 a31:=Tryz.isAgg129
 z31:=Tryz.sizeOf129
 v31:=Tryz.zeroValue129
 t46:=Tryz.underlying206
 a46:=Tryz.isAgg206
 z46:=Tryz.sizeOf206
 v46:=Tryz.zeroValue206
 t51:=Tryz.underlying263
 a51:=Tryz.isAgg263
 z51:=Tryz.sizeOf263
 v51:=Tryz.zeroValue263
 t105:=Tryz.underlying339
 a105:=Tryz.isAgg339
 z105:=Tryz.sizeOf339
 v105:=Tryz.zeroValue339
 t119:=Tryz.underlying369
 a119:=Tryz.isAgg369
 z119:=Tryz.sizeOf369
 t138:=Tryz.underlying371
 a138:=Tryz.isAgg371
 z138:=Tryz.sizeOf371
 v138:=Tryz.zeroValue371
 t139:=Tryz.underlying372
 a139:=Tryz.isAgg372
 z139:=Tryz.sizeOf372
 v139:=Tryz.zeroValue372
 t146:=Tryz.underlying380
 a146:=Tryz.isAgg380
 z146:=Tryz.sizeOf380
 v146:=Tryz.zeroValue380
 g1:=by kernel_rfl
 g3:=by kernel_rfl
 g4:=by kernel_rfl
 i0:=by kernel_rfl
 i3:=by kernel_rfl
 i4:=by kernel_rfl
 i5:=by kernel_rfl
 i9:=by kernel_rfl
 i21:=by kernel_rfl
 i31:=by kernel_rfl
 i46:=by kernel_rfl
 i51:=by kernel_rfl
 i105:=by kernel_rfl
 i138:=by kernel_rfl
 i139:=by kernel_rfl
 i146:=by kernel_rfl
 m1:=by kernel_rfl
 s1_3:=fun w h=>Go.Proofs.cell_of_shapedOpen_int (zero:=#[.int .i64 0]) (t:=3) h (of_decide_eq_true (by kernel_rfl)) (by kernel_rfl) rfl (by kernel_rfl) (by kernel_rfl) Tryz.underlying3
 m3:=by kernel_rfl
 m4:=by kernel_rfl}
def eT:Go.Shelf.Ren:=⟨fun|146=>196|221=>252|268=>289|138=>290|143=>291|195=>314|197=>286|218=>315|219=>316|260=>311|217=>330|225=>329|224=>328|267=>331|266=>336|314=>337|n=>n,fun|9=>9|31=>129|3=>3|4=>4|0=>0|105=>339|21=>21|5=>5|46=>206|119=>369|139=>372|138=>371|146=>380|51=>263|n=>n,fun|1=>0|3=>6|4=>7|n=>n⟩
theorem vb:Go.Proofs.Lays.n146 Tryz.prog eT:={
 mixed:=by kernel_rfl
 f138:=Tryz.func290.trans (congrArg some (by kernel_rfl))
 f143:=Tryz.func291.trans (congrArg some (by kernel_rfl))
 f146:=Tryz.func196.trans (congrArg some (by kernel_rfl))
 f195:=Tryz.func314.trans (congrArg some (by kernel_rfl))
 f197:=Tryz.func286.trans (congrArg some (by kernel_rfl))
 f217:=Tryz.func330.trans (congrArg some (by kernel_rfl))
 f218:=Tryz.func315.trans (congrArg some (by kernel_rfl))
 f219:=Tryz.func316.trans (congrArg some (by kernel_rfl))
 f221:=Tryz.func252.trans (congrArg some (by kernel_rfl))
 f224:=Tryz.func328.trans (congrArg some (by kernel_rfl))
 f225:=Tryz.func329.trans (congrArg some (by kernel_rfl))
 f260:=Tryz.func311.trans (congrArg some (by kernel_rfl))
 f266:=Tryz.func336.trans (congrArg some (by kernel_rfl))
 f267:=Tryz.func331.trans (congrArg some (by kernel_rfl))
 f268:=Tryz.func289.trans (congrArg some (by kernel_rfl))
 f314:=Tryz.func337.trans (congrArg some (by kernel_rfl))
 t0:=Tryz.underlying0
 a0:=Tryz.isAgg0
 z0:=Tryz.sizeOf0
 v0:=Tryz.zeroValue0
 t3:=Tryz.underlying3
 a3:=Tryz.isAgg3
 z3:=Tryz.sizeOf3
 v3:=Tryz.zeroValue3
 t4:=Tryz.underlying4
 a4:=Tryz.isAgg4
 z4:=Tryz.sizeOf4
 v4:=Tryz.zeroValue4
 t5:=Tryz.underlying5
 a5:=Tryz.isAgg5
 z5:=Tryz.sizeOf5
 v5:=Tryz.zeroValue5
 t9:=Tryz.underlying9
 a9:=Tryz.isAgg9
 z9:=Tryz.sizeOf9
 v9:=Tryz.zeroValue9
 t21:=Tryz.underlying21
 a21:=Tryz.isAgg21
 z21:=Tryz.sizeOf21
 v21:=Tryz.zeroValue21
 t31:=Tryz.underlying129
 a31:=Tryz.isAgg129
 z31:=Tryz.sizeOf129
 v31:=Tryz.zeroValue129
 t46:=Tryz.underlying206
 a46:=Tryz.isAgg206
 z46:=Tryz.sizeOf206
 v46:=Tryz.zeroValue206
 t51:=Tryz.underlying263
 a51:=Tryz.isAgg263
 z51:=Tryz.sizeOf263
 v51:=Tryz.zeroValue263
 t105:=Tryz.underlying339
 a105:=Tryz.isAgg339
 z105:=Tryz.sizeOf339
 v105:=Tryz.zeroValue339
 t119:=Tryz.underlying369
 a119:=Tryz.isAgg369
 z119:=Tryz.sizeOf369
 t138:=Tryz.underlying371
 a138:=Tryz.isAgg371
 z138:=Tryz.sizeOf371
 v138:=Tryz.zeroValue371
 t139:=Tryz.underlying372
 a139:=Tryz.isAgg372
 z139:=Tryz.sizeOf372
 v139:=Tryz.zeroValue372
 t146:=Tryz.underlying380
 a146:=Tryz.isAgg380
 z146:=Tryz.sizeOf380
 v146:=Tryz.zeroValue380
 g1:=by kernel_rfl
 g3:=by kernel_rfl
 g4:=by kernel_rfl}
def jv:Go.Shelf.Ren:=⟨fun|101=>197|208=>253|206=>292|n=>n,fun|9=>9|4=>4|3=>3|n=>n,fun|n=>n⟩
theorem uK:Go.Proofs.Lays.n101 Tryz.prog jv:={
 mixed:=by kernel_rfl
 f101:=Tryz.func197.trans (congrArg some (by kernel_rfl))
 f206:=Tryz.func292.trans (congrArg some (by kernel_rfl))
 f208:=Tryz.func253.trans (congrArg some (by kernel_rfl))
 t3:=Tryz.underlying3
 a3:=Tryz.isAgg3
 z3:=Tryz.sizeOf3
 v3:=Tryz.zeroValue3
 t4:=Tryz.underlying4
 a4:=Tryz.isAgg4
 z4:=Tryz.sizeOf4
 v4:=Tryz.zeroValue4
 t9:=Tryz.underlying9
 a9:=Tryz.isAgg9
 z9:=Tryz.sizeOf9
 v9:=Tryz.zeroValue9}
def js:Go.Shelf.Ren:=⟨fun|190=>70|125=>126|258=>125|128=>192|129=>193|302=>183|303=>184|304=>185|305=>186|306=>187|307=>188|308=>189|309=>190|310=>191|333=>240|329=>241|330=>242|334=>243|335=>244|336=>140|344=>284|n=>n,fun|31=>129|9=>9|3=>3|46=>206|0=>0|51=>263|53=>265|4=>4|183=>257|182=>256|131=>224|5=>5|218=>300|222=>304|228=>335|229=>336|n=>n,fun|n=>n⟩
theorem nG:Go.Proofs.Lays.n190 Tryz.prog js:={
 mixed:=by kernel_rfl
 f125:=Tryz.func126.trans (congrArg some (by kernel_rfl))
 f128:=Tryz.func192.trans (congrArg some (by kernel_rfl))
 f129:=Tryz.func193.trans (congrArg some (by kernel_rfl))
 f190:=Tryz.func70.trans (congrArg some (by kernel_rfl))
 f258:=Tryz.func125.trans (congrArg some (by kernel_rfl))
 f302:=Tryz.func183.trans (congrArg some (by kernel_rfl))
 f303:=Tryz.func184.trans (congrArg some (by kernel_rfl))
 f304:=Tryz.func185.trans (congrArg some (by kernel_rfl))
 f305:=Tryz.func186.trans (congrArg some (by kernel_rfl))
 f306:=Tryz.func187.trans (congrArg some (by kernel_rfl))
 f307:=Tryz.func188.trans (congrArg some (by kernel_rfl))
 f308:=Tryz.func189.trans (congrArg some (by kernel_rfl))
 f309:=Tryz.func190.trans (congrArg some (by kernel_rfl))
 f310:=Tryz.func191.trans (congrArg some (by kernel_rfl))
 f329:=Tryz.func241.trans (congrArg some (by kernel_rfl))
 f330:=Tryz.func242.trans (congrArg some (by kernel_rfl))
 f333:=Tryz.func240.trans (congrArg some (by kernel_rfl))
 f334:=Tryz.func243.trans (congrArg some (by kernel_rfl))
 f335:=Tryz.func244.trans (congrArg some (by kernel_rfl))
 f336:=Tryz.func140.trans (congrArg some (by kernel_rfl))
 f344:=Tryz.func284.trans (congrArg some (by kernel_rfl))
 t0:=Tryz.underlying0
 a0:=Tryz.isAgg0
 z0:=Tryz.sizeOf0
 v0:=Tryz.zeroValue0
 t3:=Tryz.underlying3
 a3:=Tryz.isAgg3
 z3:=Tryz.sizeOf3
 v3:=Tryz.zeroValue3
 t4:=Tryz.underlying4
 a4:=Tryz.isAgg4
 z4:=Tryz.sizeOf4
 v4:=Tryz.zeroValue4
 t5:=Tryz.underlying5
 a5:=Tryz.isAgg5
 z5:=Tryz.sizeOf5
 v5:=Tryz.zeroValue5
 t9:=Tryz.underlying9
 a9:=Tryz.isAgg9
 z9:=Tryz.sizeOf9
 v9:=Tryz.zeroValue9
 t31:=Tryz.underlying129
 a31:=Tryz.isAgg129
 z31:=Tryz.sizeOf129
 v31:=Tryz.zeroValue129
 t46:=Tryz.underlying206
 a46:=Tryz.isAgg206
 z46:=Tryz.sizeOf206
 v46:=Tryz.zeroValue206
 t51:=Tryz.underlying263
 a51:=Tryz.isAgg263
 z51:=Tryz.sizeOf263
 v51:=Tryz.zeroValue263
 t53:=Tryz.underlying265
 a53:=Tryz.isAgg265
 z53:=Tryz.sizeOf265
 v53:=Tryz.zeroValue265
 t131:=Tryz.underlying224
 a131:=Tryz.isAgg224
 z131:=Tryz.sizeOf224
 v131:=Tryz.zeroValue224
 t182:=Tryz.underlying256
 a182:=Tryz.isAgg256
 z182:=Tryz.sizeOf256
 v182:=Tryz.zeroValue256
 t183:=Tryz.underlying257
 a183:=Tryz.isAgg257
 z183:=Tryz.sizeOf257
 v183:=Tryz.zeroValue257
 t218:=Tryz.underlying300
 a218:=Tryz.isAgg300
 z218:=Tryz.sizeOf300
 v218:=Tryz.zeroValue300
 t222:=Tryz.underlying304
 a222:=Tryz.isAgg304
 z222:=Tryz.sizeOf304
 v222:=Tryz.zeroValue304
 t228:=Tryz.underlying335
 a228:=Tryz.isAgg335
 z228:=Tryz.sizeOf335
 v228:=Tryz.zeroValue335
 t229:=Tryz.underlying336
 a229:=Tryz.isAgg336
 z229:=Tryz.sizeOf336
 v229:=Tryz.zeroValue336}
end Go.Proofs
set_option maxRecDepth 20000
namespace Go.Proofs.YtafhoijegjmdcaaGreatDoor
open Go Go.Eng
def Bi:OL:= [(0,[]),(1,[]),(2,[]),(3,[]),(4,[]),(5,rg 5),(6,rg 5),(7,rg 5),(8,rg 5),(9,rg 5),(10,[]),(11,[])]
def BP:OL:= [(0,[]),(1,[]),(2,[]),(3,[]),(4,[]),(5,rg 5),(6,rg 5),(7,rg 5),(8,rg 5),(9,rg 5),(10,[]),(11,[])]
def Cp:List Nat:= [96,400,163,72,82,176,334,80,178,190]
theorem DL:Cp.all (kY Tryz.prog)=true:=by decide+kernel
noncomputable def T:ci:=BC Tryz.prog (mem Cp)
theorem hT:aQ Tryz.prog T:=⟨mem Cp,fun _ _ h=>h,fun t ht=>List.all_eq_true.1 DL t ((mem_iff _ _).1 ht)⟩
abbrev i64 (n:Int):DV:=.int .i64 n
def bd (n:Nat)(L:Nat→Int)(at':Int):bh:=.cells 25 [.d (.ro 1 n fun i=> [.int .i64 (L i)]),.d (.int .i64 at')]
def oW (n:Nat)(L:Nat→Int):Prop:=n≤maxLen∧∀i,-2^63≤L i∧L i<2^63
theorem IH (x n:Int)(hn:n≤2^40):ae Tryz.prog 53 [.d (.int .i64 x),.d (.int .i64 n)] [] (fun y r=>(∃m:Int,0≤m∧(1≤n→m<n)∧(n<1→m=0)∧y= .d (.int .i64 m))∧r= []):=by
 refine aj hT Tryz.func53 Tryz.call53 ?_;conv=>whnf
 refine aa (fun h=> ?_) (fun h=> ?_)
 · conv=>whnf
   refine .ret _ ?_;conv=>whnf
   refine⟨[],⟨⟨_,?_,?_,?_,rfl⟩,rfl⟩,trivial⟩;all_goals (simp at h;omega)
 · conv=>whnf
   refine⟨?_,?_⟩
   · simp at h;omega
   conv=>whnf
   simp at h;have h1:=Int.tmod_lt_of_pos x (b:=n) (by omega);have h2:=Int.lt_tmod_of_pos x (b:=n) (by omega);refine aa (fun h2=> ?_) (fun h2=> ?_)
   · conv=>whnf
     simp at h2;refine⟨?_,?_⟩
     · unfold bC;omega
     · conv=>whnf
       refine .ret _ ?_;conv=>whnf
       refine⟨[],⟨⟨_,?_,?_,?_,rfl⟩,rfl⟩,trivial⟩;all_goals omega
   · conv=>whnf
     simp at h2;refine .ret _ ?_;conv=>whnf
     refine⟨[],⟨⟨_,?_,?_,?_,rfl⟩,rfl⟩,trivial⟩;all_goals omega
theorem Kx {a n:Int}(h0:0≤a)(hn:1≤n):0≤a.tdiv n∧a.tdiv n≤a∧0≤a.tmod n∧a.tmod n<n∧0≤a.tdiv n*a.tmod n∧a.tdiv n*a.tmod n≤a∧a.tmod n≤a:=by
 have h1:0≤a.tdiv n:=Int.tdiv_nonneg h0 (by omega);have h2:0≤a.tmod n:=Int.tmod_nonneg _ h0;have h3:a.tmod n<n:=Int.tmod_lt_of_pos _ (by omega);have h4:=Int.tmod_add_mul_tdiv a n;have h5:a.tdiv n*1≤a.tdiv n*n:=Int.mul_le_mul_of_nonneg_left hn h1;have h6:a.tdiv n*a.tmod n≤a.tdiv n*n:=Int.mul_le_mul_of_nonneg_left (by omega) h1;have h7:0≤a.tdiv n*a.tmod n:=Int.mul_nonneg h1 h2;rw[Int.mul_comm]at h4;have h8:0≤a.tdiv n*n:=Int.mul_nonneg h1 (by omega);refine⟨h1,?_,h2,h3,h7,?_,?_⟩<;>omega
theorem wA (n:Nat)(L:Nat→Int)(hL:oW n L)(a:Int)(h0:0≤a)(ha:a≤2^40)(m:Int)(hm:m≤2^40):
 ae Tryz.prog 24 [.ptr 1000000 0,.d (.int .i64 m)] [(1000000,bd n L a)] (fun y r=>(∃j:Int,0≤j∧(1≤m→j<m)∧(m<1→j=0)∧y= .d (.int .i64 j))∧r= [(1000000,bd n L (a+1))]):=by
 refine aj hT Tryz.func24 Tryz.call24 ?_;conv=>whnf
 refine⟨by unfold bC;omega,?_⟩;conv=>whnf
 refine aa (fun h=> ?_) (fun h=> ?_)
 · conv=>whnf
   refine⟨by unfold bC;omega,?_⟩;conv=>whnf
   refine dp (IH _ _ hm) [] ?_;rintro x rout ⟨⟨j,j1,j2,j3,rfl⟩,rfl⟩;refine⟨rfl,?_⟩;conv=>whnf
   refine .ret _ ?_;conv=>whnf
   exact⟨[(1000000,bd n L (a+1))],⟨⟨_,j1,j2,j3,rfl⟩,rfl⟩,rr,trivial⟩
 · conv=>whnf
   simp at h;have hnp:(1:Int)≤n:=by omega
   refine bG hT rfl [] Bi (by decide+kernel) ?_;conv=>whnf
   refine⟨by unfold bC;omega,?_⟩;conv=>whnf
   refine⟨by omega,?_⟩;conv=>whnf
   have ea:a+1 - 1=a:=by omega
   obtain⟨b1,b2,b3,b4,b5,b6,b7⟩:=Kx h0 hnp;refine bG hT rfl [] BP (by decide+kernel) ?_;conv=>whnf
   refine⟨by unfold bC;omega,?_⟩;conv=>whnf
   refine⟨by omega,?_⟩;conv=>whnf
   refine⟨by unfold bC;rw[ea];omega,?_⟩;conv=>whnf
   rw[ea];refine⟨⟨b3,b4⟩,?_⟩;conv=>whnf
   refine dP.of (IH _ _ (by omega)) [] rfl ⟨lr,lr,trivial⟩ trivial rfl rfl ?_;rintro x rout ⟨⟨j,j1,j2,j3,rfl⟩,rfl⟩;refine⟨rfl,?_⟩;conv=>whnf
   refine⟨by unfold bC;omega,?_⟩;conv=>whnf
   have e2:a.tdiv n*(7919+a.tmod n)=7919*a.tdiv n+a.tdiv n*a.tmod n:=by rw[Int.mul_add,Int.mul_comm _ 7919]
   rw[e2];refine⟨by unfold bC;omega,?_⟩;conv=>whnf
   refine⟨by unfold bC;omega,?_⟩;conv=>whnf
   refine dp (IH _ _ hm) [] ?_;rintro x rout ⟨⟨j,k1,k2,k3,rfl⟩,rfl⟩;refine⟨rfl,?_⟩;conv=>whnf
   refine .ret _ ?_;conv=>whnf
   exact⟨[(1000000,bd n L (a+1))],⟨⟨_,k1,k2,k3,rfl⟩,rfl⟩,rr,trivial⟩
def fo (n:Nat)(L:Nat→Int)(a:Int)(c:Int)(r:List (Nat×bh)):Prop:=∃b,a≤b∧b≤a+c∧r= [(1000000,bd n L b)]
theorem E5 (n:Nat)(L:Nat→Int)(hL:oW n L)(a:Int)(h0:0≤a)(ha:a≤2^40)(lo hi:Int)(h1: -2^41≤lo)(h2:hi≤lo+2^40 - 1)(h3:lo≤2^41)(h4:lo≤hi):
 ae Tryz.prog 6 [.ptr 1000000 0,.d (.int .i64 lo),.d (.int .i64 hi)] [(1000000,bd n L a)] (fun y r=>(∃j:Int,lo≤j∧j≤hi∧y= .d (.int .i64 j))∧fo n L a 1 r):=by
 refine aj hT Tryz.func6 Tryz.call6 ?_;conv=>whnf
 refine aa (fun h=> ?_) (fun h=> ?_)
 · simp at h;omega
 conv=>whnf
 refine⟨by unfold bC;omega,?_⟩;conv=>whnf
 refine⟨by unfold bC;omega,?_⟩;conv=>whnf
 refine dP.of (wA n L hL a h0 ha _ (by omega)) [(1000000,1000000)] rfl ⟨lr,lr,trivial⟩ ⟨rr,trivial⟩ rfl rfl ?_;rintro x rout ⟨⟨j,k1,k2,k3,rfl⟩,rfl⟩;refine⟨rfl,?_⟩;conv=>whnf
 refine⟨by unfold bC;omega,?_⟩;conv=>whnf
 refine .ret _ ?_;conv=>whnf
 exact⟨[(1000000,bd n L (a+1))],⟨⟨_,by omega,by omega,rfl⟩,a+1,by omega,by omega,rfl⟩,rr,trivial⟩
theorem pn (n:Nat)(L:Nat→Int)(hL:oW n L)(a:Int)(h0:0≤a)(ha:a≤2^40)(m:Int)(hm:m≤2^40):
 ae Tryz.prog 23 [.ptr 1000000 0,.d (.int .i64 m)] [(1000000,bd n L a)] (fun y r=>(∃b:Bool,y= .d (.bool b))∧fo n L a 1 r):=by
 refine aj hT Tryz.func23 Tryz.call23 ?_;conv=>whnf
 refine dP.of (wA n L hL a h0 ha _ (by omega)) [(1000000,1000000)] rfl ⟨lr,lr,trivial⟩ ⟨rr,trivial⟩ rfl rfl ?_;rintro x rout ⟨⟨j,k1,k2,k3,rfl⟩,rfl⟩;refine⟨rfl,?_⟩;conv=>whnf
 refine .ret _ ?_;conv=>whnf
 exact⟨[(1000000,bd n L (a+1))],⟨⟨_,rfl⟩,a+1,by omega,by omega,rfl⟩,rr,trivial⟩
theorem jF (n:Nat)(L:Nat→Int)(hL:oW n L)(a:Int)(h0:0≤a)(ha:a≤2^40)(l:List Int)(hl:1≤l.length)(hl2:l.length≤2^40):
 ae Tryz.prog 28 [.ptr 1000000 0,.d (cz l)] [(1000000,bd n L a)] (fun y r=>(∃x ∈ l,y= .d (.int .i64 x))∧fo n L a 1 r):=by
 refine aj hT Tryz.func28 Tryz.call28 ?_;conv=>whnf
 refine dp (wA n L hL a h0 ha l.length (by omega)) [(1000000,1000000)] ?_;rintro x rout ⟨⟨j,k1,k2,k3,rfl⟩,rfl⟩;refine⟨rfl,?_⟩;conv=>whnf
 refine⟨⟨k1,by omega⟩,?_⟩;conv=>whnf
 refine .ret _ ?_;conv=>whnf
 exact⟨[(1000000,bd n L (a+1))],⟨⟨_,al (by omega),rfl⟩,a+1,by omega,by omega,rfl⟩,rr,trivial⟩
theorem mI (n:Nat)(L:Nat→Int)(hL:oW n L)(a:Int)(h0:0≤a)(ha:a≤2^40)(l:List (List UInt8))(hl:1≤l.length)(hl2:l.length≤2^40):
 ae Tryz.prog 29 [.ptr 1000000 0,.d (bU l)] [(1000000,bd n L a)] (fun y r=>(∃x ∈ l,y= .d (.str x))∧fo n L a 1 r):=by
 refine aj hT Tryz.func29 Tryz.call29 ?_;conv=>whnf
 refine dp (wA n L hL a h0 ha l.length (by omega)) [(1000000,1000000)] ?_;rintro x rout ⟨⟨j,k1,k2,k3,rfl⟩,rfl⟩;refine⟨rfl,?_⟩;conv=>whnf
 refine⟨⟨k1,by omega⟩,?_⟩;conv=>whnf
 refine .ret _ ?_;conv=>whnf
 exact⟨[(1000000,bd n L (a+1))],⟨⟨_,al (by omega),rfl⟩,a+1,by omega,by omega,rfl⟩,rr,trivial⟩
theorem fo.trans {n:Nat}{L:Nat→Int}{a c:Int}{r:List (Nat×bh)}{b d:Int}(h1:a≤b)(h2:b+d≤a+c)(h:fo n L b d r):fo n L a c r:=by
 obtain⟨e,q1,q2,rfl⟩:=h;exact⟨e,by omega,by omega,rfl⟩
theorem mh (n:Nat)(L:Nat→Int)(hL:oW n L)(a:Int)(h0:0≤a)(ha:a≤2^39)(lo hi:Int)(h1: -2^38≤lo)(h2:lo≤hi)(h3:hi≤2^39):
 ae Tryz.prog 31 [.ptr 1000000 0,.d (.int .i64 lo),.d (.int .i64 hi)] [(1000000,bd n L a)] (fun y r=>(∃j:Int,-2^40≤j∧j≤2^40∧y= .d (.int .i64 j))∧fo n L a 2 r):=by
 refine aj hT Tryz.func31 Tryz.call31 ?_;conv=>whnf
 refine dp (pn n L hL a h0 (by omega) 12 (by omega)) [(1000000,1000000)] ?_;rintro x rout ⟨⟨f,rfl⟩,⟨b,b1,b2,rfl⟩⟩;refine⟨rfl,?_⟩;conv=>whnf
 refine aa (fun hf=> ?_) (fun hf=> ?_)
 · conv=>whnf
   refine⟨by unfold bC;omega,?_⟩;conv=>whnf
   refine⟨by unfold bC;omega,?_⟩;conv=>whnf
   refine dP.of (jF n L hL b (by omega) (by omega) [lo - 1,hi+1,lo,hi,-1099511627776,1099511627776] (by simp) (by simp)) [(1000000,1000000)] rfl ⟨lr,ai (by rfl) (by rfl),trivial⟩ ⟨rr,trivial⟩ rfl rfl ?_;rintro x rout ⟨⟨j,hj,rfl⟩,⟨c,c1,c2,rfl⟩⟩;refine⟨rfl,?_⟩;conv=>whnf
   refine .ret _ ?_;conv=>whnf
   exact⟨[(1000000,bd n L c)],⟨⟨j,by simp at hj;omega,by simp at hj;omega,rfl⟩,c,by omega,by omega,rfl⟩,rr,trivial⟩
 · conv=>whnf
   refine dp (E5 n L hL b (by omega) (by omega) lo hi (by omega) (by omega) (by omega) h2) [(1000000,1000000)] ?_;rintro x rout ⟨⟨j,j1,j2,rfl⟩,⟨c,c1,c2,rfl⟩⟩;refine⟨rfl,?_⟩;conv=>whnf
   refine .ret _ ?_;conv=>whnf
   exact⟨[(1000000,bd n L c)],⟨⟨j,by omega,by omega,rfl⟩,c,by omega,by omega,rfl⟩,rr,trivial⟩
end Go.Proofs.YtafhoijegjmdcaaGreatDoor
namespace Go.Eng
open Go
end Go.Eng
namespace Go.Eng
open Go
theorem AL {G:Hp}{w:World}{e k n:Nat}{get:Nat→List DV}{v:Value}{xs:List Value}(hown:w.ownsRow 0 e k v n xs)(hlen:∀i,i<n→(get i).length=k)
 (hden:∀i j x,i<n→(get i)[j]? =some x→∃u,xs[i*k+j]? =some u∧aG G x u)(hgn:∀b,gR v=some b→G b=none):
 ∃G',G.le G'∧(∀b o,G' b=some o→G b=some o∨(gR v=some b∧w.heap[b]? =some o))∧aG G' (.ro k n get) v:=by
 rcases hown.2 with⟨rfl,rfl⟩|⟨g,cap,cur,rfl,_,hg,hnc,hcm,hcs,htake⟩
 · exact⟨G,Hp.le_refl G,fun b o e=>.inl e,.ronil _ _⟩
 · have hle:G.le (G.add g (.cells cur e (0,0))):=im (hgn g rfl);refine⟨_,hle,?_,?_⟩
   · intro b o hb;unfold Hp.add at hb;split at hb
     · rename_i q;subst q;cases hb;exact .inr ⟨rfl,hg⟩
     · exact .inl hb
   · refine .ro k n get _ cap (fun i j=>xs.getD (i*k+j) Go.undef) rfl hnc hcm hlen ?_ ?_
     · intro i j x hi hx;obtain⟨u,hu,_⟩:=hden i j x hi hx
       have hlt:i*k+j<n*k:=by
        have:=(List.getElem?_eq_some_iff.1 hx).1;rw[hlen i hi]at this
        calc i*k+j<i*k+k:=by omega
         _=(i+1)*k:=by rw[Nat.add_mul,Nat.one_mul]
         _≤n*k:=Nat.mul_le_mul_right _ hi
       refine⟨cur,e,(0,0),?_,?_,?_⟩
       · rw[Addr.add_block];simp[Hp.add]
       · exact cZ _ rfl _
       · rw[Addr.add_lit];simp only[Nat.zero_add];rw[←htake,List.getElem?_take_of_lt hlt]at hu;rw[←Array.getElem?_toList,hu];rw[←htake,List.getD_eq_getElem?_getD,List.getElem?_take_of_lt hlt,hu];rfl
     · intro i j x hi hx;obtain⟨u,hu,hd⟩:=hden i j x hi hx;rw[List.getD_eq_getElem?_getD,hu];exact hd.mono hle
def DV.flat:DV→Bool
 | .bool _| .int .. | .str _| .nilsl=>true
 |_=>false
theorem aG.flat {G G':Hp}{x:DV}{v:Value}(h:aG G x v)(hf:x.flat=true):aG G' x v:=by
 cases h<;>first|(constructor;done)|(cases hf)
def SV.flat1 (d:Nat):SV→Bool
 | .d x=>x.flat
 | .buf c=> !(Nat.beq c d)
 |_=>false
def SV.flat (d:Nat):SV→Bool
 | .agg l=>l.all (SV.flat1 d)
 | .tup l=>l.all (SV.flat1 d)
 |x=>SV.flat1 d x
theorem ak.flat1 {G G':Hp}{β β':eP}{d:Nat}(hb:∀c,c≠d→β' c=β c){x:SV}{v:Value}(h:ak G β x v)(hf:SV.flat1 d x=true):ak G' β' x v:=by
 cases h with
 |d x v hx=>exact .d _ _ (hx.flat hf)
 | buf c v hv h1=>
   refine .buf _ _ ?_ h1
   rw[hb c (by rintro rfl;simp[SV.flat1]at hf)];exact hv
 |_=>cases hf
theorem ak.flat {G G':Hp}{β β':eP}{d:Nat}(hb:∀c,c≠d→β' c=β c){x:SV}{v:Value}(h:ak G β x v)(hf:SV.flat d x=true):ak G' β' x v:=by
 cases h with
 | agg l vs hl h=>
   refine .agg _ _ hl (fun i x v hx hv=>(h i x v hx hv).flat1 hb ?_)
   exact List.all_eq_true.1 hf x (List.mem_of_getElem? hx)
 | tup l vs hl h=>
   refine .tup _ _ hl (fun i x v hx hv=>(h i x v hx hv).flat1 hb ?_)
   exact List.all_eq_true.1 hf x (List.mem_of_getElem? hx)
 |d x v hx=>exact(ak.d (β:=β) x v hx).flat1 (d:=d) hb hf
 |buf c v hv h1=>exact(ak.buf (G:=G) c v hv h1).flat1 hb hf
 |_=>cases hf
def SV.nod1 (d:Nat):SV→Bool
 | .d _=>true
 | .buf c=> !(Nat.beq c d)
 |_=>false
def SV.nod (d:Nat):SV→Bool
 | .agg l=>l.all (SV.nod1 d)
 |x=>SV.nod1 d x
theorem ak.nod1 {G:Hp}{β β':eP}{d:Nat}(hb:∀c,c≠d→β' c=β c){x:SV}{v:Value}(h:ak G β x v)(hf:SV.nod1 d x=true):ak G β' x v:=by
 cases h with
 |d x v hx=>exact .d _ _ hx
 | buf c v hv h1=>
   refine .buf _ _ ?_ h1
   rw[hb c (by rintro rfl;simp[SV.nod1]at hf)];exact hv
 |_=>cases hf
theorem ak.nod {G:Hp}{β β':eP}{d:Nat}(hb:∀c,c≠d→β' c=β c){x:SV}{v:Value}(h:ak G β x v)(hf:SV.nod d x=true):ak G β' x v:=by
 cases h with
 | agg l vs hl h=>
   refine .agg _ _ hl (fun i x v hx hv=>(h i x v hx hv).nod1 hb ?_)
   exact List.all_eq_true.1 hf x (List.mem_of_getElem? hx)
 |d x v hx=>exact(ak.d (β:=β) x v hx).nod1 (d:=d) hb hf
 |buf c v hv h1=>exact(ak.buf (G:=G) c v hv h1).nod1 hb hf
 |_=>cases hf
def bh.isBuf:bh→Prop
 | .buf .. =>True
 |_=>False
def bh.flat:bh→Prop
 | .buf _ _ n g=>∀i,i<n→(g i).all DV.flat=true
 |_=>False
theorem dJ.flat {G G':Hp}{β β':eP}{w:World}{c:Nat}{r:bh}(hb:β' c=β c)(h:dJ G β w c r)(hf:r.flat):dJ G' β' w c r:=by
 cases r with
 | buf e k n g=>
   obtain⟨v,xs,h1,h2,h3,h4,h5⟩:=h;refine⟨v,xs,hb.trans h1,h2,h3,h4,fun i j x hi hx=> ?_⟩;obtain⟨u,hu,hd⟩:=h5 i j x hi hx
   exact⟨u,hu,hd.flat (List.all_eq_true.1 (hf i hi) x (List.mem_of_getElem? hx))⟩
 |_=>exact hf.elim
theorem j8 {P:Program}{f:FuncId}{args:List SV}{rin:List (Nat×bh)}{post:SV→List (Nat×bh)→Prop}(d e kk n:Nat)(g:Nat→List DV)
 (h:ae P f (args.map (E1 d kk n g)) rin post)(hd:aC rin d=none)(hrin:∀c r,aC rin c=some r→r.isBuf)(hn:(args.map (E1 d kk n g)).all (SV.nod d)=true)
 (hf:∀x r,post x r→x.flat d=true∧(∀c q,aC r c=some q→q.flat)∧aC r d=none):
 ae P f args ((d,.buf e kk n g)::rin) (fun x r=>∃r0,post x r0∧r=(d,.buf e kk n g)::r0):=by
 refine⟨h.enter,fun G β w vs hpre hvl hvd=> ?_⟩
 have hR:∀ (l:List (Nat×bh)) c,aC ((d,bh.buf e kk n g)::l) c=if c=d then some (.buf e kk n g)else aC l c:=by
  intro l c;simp only[aC]
  by_cases q:c=d
  · subst q;simp
  · rw[aw q];simp[q]
 have hdd:aC ((d,bh.buf e kk n g)::rin) d=some (.buf e kk n g):=by rw[hR];simp
 have hne:∀ {c r},aC rin c=some r→c≠d:=by rintro c r q rfl;rw[hd]at q;cases q
 have hin:∀ {c r},aC rin c=some r→aC ((d,bh.buf e kk n g)::rin) c=some r:=by
  intro c r q;rw[hR,if_neg (hne q)];exact q
 have hrd:=hpre.rs d _ hdd;obtain⟨v,xs,hv,hown,hk,hlen,hden⟩:=hrd;obtain⟨G2,hle2,hg2,hro⟩:=AL (G:=G) hown hlen hden (fun b hb=>hpre.og d _ v b hdd rfl hv (.of hb))
 let β0:eP:=fun c=>if c=d then none else β c
 have hb0:∀c,c≠d→β0 c=β c:=fun c q=>by simp[β0,q]
 have hle0:β0.le β:=by
  intro c u hu
  by_cases q:c=d
  · subst q;simp[β0]at hu
  · rw[hb0 c q]at hu;exact hu
 have hpre2:LD G2 β0 w (aC rin):=by
  refine⟨fun b o q=> ?_,fun c r q=> ?_,fun c c' r r' v v' b e1 e2 o1 o2 f1 f2 b1 b2=> ?_,fun c r u b q o1 f1 b1=> ?_,fun c u q=> ?_⟩
  · rcases hg2 b o q with p|p
    · exact hpre.gw b o p
    · exact p.2
  · have:=hpre.rs c r (hin q);have k1:=this.keep (w':=w) hle2 (eP.le_refl β) (fun _ _ _ _ _=>rfl);have hc:=hne q
    cases r with
    |buf e' k' n' g' =>obtain⟨v',xs',q1,q2⟩:=k1;exact⟨v',xs',(hb0 c hc).trans q1,q2⟩
    |_=>exact(hrin c _ q).elim
  · exact hpre.dj c c' r r' v v' b (hin e1) (hin e2) o1 o2 (hle0 _ _ f1) (hle0 _ _ f2) b1 b2
  · have h1:=hpre.og c r u b (hin q) o1 (hle0 _ _ f1) b1
    cases hg:G2 b with
    |none=>rfl
    | some o=>
      rcases hg2 b o hg with p|p
      · rw[h1]at p;cases p
      · exact absurd (hpre.dj c d r _ u v b (hin q) hdd o1 rfl (hle0 _ _ f1) hv b1 (.of p.1)) (hne q)
  · have hc:c≠d:=by rintro rfl;simp[β0]at q
    obtain⟨r,hr⟩:=hpre.sc c u (hle0 _ _ q);rw[hR,if_neg hc]at hr;exact⟨r,hr⟩
 have hcall:=h.calls G2 β0 w vs hpre2 (by simpa using hvl) (fun i y u hy hu=>by
  have eM:=List.all_eq_true.1 hn y (List.mem_of_getElem? hy);rw[List.getElem?_map]at hy
  cases hx:args[i]? with
  |none=>rw[hx]at hy;cases hy
  | some x=>
    rw[hx]at hy;simp only[Option.map_some,Option.some.injEq]at hy;subst hy
    exact(zG ⟨v,hv,hro⟩ ((hvd i x u hx hu).mono hle2 (eP.le_refl β))).nod hb0 eM)
 have hsub:∀b,B5 w β0 (aC rin) b→B5 w β (aC ((d,bh.buf e kk n g)::rin)) b:=by
  rintro b ⟨c,r,u,e1,o1,f1,b1⟩;exact⟨c,r,u,hin e1,o1,hle0 _ _ f1,b1⟩
 have hnT:∀b,gR v=some b→¬B5 w β0 (aC rin) b:=by
  rintro b hb ⟨c,r,u,e1,o1,f1,b1⟩;exact hne e1 (hpre.dj c d r _ u v b (hin e1) hdd o1 rfl (hle0 _ _ f1) hv b1 (.of hb))
 have hlt:∀b,gR v=some b→b<w.heap.size:=fun b hb=>(hpre.rs d _ hdd).lt rfl hv (.of hb)
 refine hcall.mono ?_;rintro ex w' ⟨u,x,rout,G',β',he,hpost,ho,hx⟩;obtain⟨f1,f2,f3⟩:=hf x rout hpost
 let β'':eP:=fun c=>if c=d then β d else β' c
 have hb2:∀c,c≠d→β'' c=β' c:=fun c q=>by simp[β'',q]
 have hbd:β'' d=β d:=by simp[β'']
 have hne':∀ {c r},aC ((d,bh.buf e kk n g)::rout) c=some r→c≠d→aC rout c=some r:=by
  intro c r q hc;rw[hR,if_neg hc]at q;exact q
 have hrd':∀ {r},aC ((d,bh.buf e kk n g)::rout) d=some r→r= .buf e kk n g:=by
  intro r q;rw[hR,if_pos rfl]at q;cases q;rfl
 have hele:β.le β'':=by
  intro c u hu
  by_cases q:c=d
  · subst q;rw[hbd];exact hu
  · rw[hb2 c q];exact ho.ele c u (by rw[hb0 c q];exact hu)
 refine⟨u,x,(d,.buf e kk n g)::rout,G,β'',he,⟨rout,hpost,rfl⟩,⟨Hp.le_refl G,hele,fun b o q=>ho.gw b o (ho.gle b o (hle2 b o q)),fun b o q=>.inl q,?_,fun c r q=> ?_,?_,?_⟩,hx.flat hb2 f1⟩
 · exact⟨ho.keep.os,ho.keep.tape,ho.keep.output,ho.keep.size,fun b q1 q2=>ho.keep.block b q1 (fun q3=>q2 (hsub b q3))⟩
 · by_cases hc:c=d
   · subst hc;rw[hrd' q]
     exact(hpre.rs c _ hdd).keep (Hp.le_refl G) hele (fun _ u b hu hb=>by
      rw[hv]at hu;cases hu;have hb:=hb.plain rfl
      exact ho.keep.block b (hlt b hb) (hnT b hb))
   · exact(ho.rs c r (hne' q hc)).flat (hb2 c hc) (f2 c r (hne' q hc))
 · intro c c' r r' u u' b e1 e2 o1 o2 g1 g2 b1 b2
   have key:∀ {c r u},c≠d→aC rout c=some r→r.own=true→β'' c=some u→dz w' r u b→∀ {r' u'},aC ((d,bh.buf e kk n g)::rout) d=some r'→β'' d=some u'→dz w' r' u' b→False:=by
    intro c r u hc e1 o1 g1 b1 r' u' e2 g2 b2;rw[hbd,hv]at g2;cases g2;have:=hrd' e2;subst this;have b2:=b2.plain rfl;rw[hb2 c hc]at g1;rcases(ho.og c r u b e1 o1 g1 b1).2 with q|q
    · exact hnT b b2 q
    · exact absurd (hlt b b2) (by omega)
   by_cases hc:c=d
   · by_cases hc':c' =d
     · rw[hc,hc']
     · exact(key hc' (hne' e2 hc') o2 g2 b2 (hc ▸ e1) (hc ▸ g1) b1).elim
   · by_cases hc':c' =d
     · exact(key hc (hne' e1 hc) o1 g1 b1 (hc' ▸ e2) (hc' ▸ g2) b2).elim
     · exact ho.dj c c' r r' u u' b (hne' e1 hc) (hne' e2 hc') o1 o2 (by rw[←hb2 c hc];exact g1) (by rw[←hb2 c' hc'];exact g2) b1 b2
 · intro c r u b e1 o1 g1 b1
   by_cases hc:c=d
   · subst hc;have:=hrd' e1;subst this;rw[hbd]at g1;exact⟨hpre.og c _ u b hdd rfl g1 (.of (b1.plain rfl)),.inl ⟨c,_,u,hdd,rfl,g1,.of (b1.plain rfl)⟩⟩
   · obtain⟨q1,q2⟩:=ho.og c r u b (hne' e1 hc) o1 (by rw[←hb2 c hc];exact g1) b1;refine⟨?_,q2.imp (hsub b) id⟩
     cases hg:G b with
     |none=>rfl
     |some o=>rw[ho.gle b o (hle2 b o hg)]at q1;cases q1
end Go.Eng
namespace Go.Eng
open Go
end Go.Eng
namespace Go.Eng
open Go Go.RowKit
theorem eh {Q:Hp→Prop}(d:Nat)(r:bh)(hd:aC [((1000009:Nat),bh.know Q)] d=some r):d=1000009∧r= .know Q:=by
 simp only[aC]at hd
 cases hq:Nat.beq d 1000009 with
 |false=>rw[hq]at hd;cases hd
 |true=>rw[hq]at hd;cases hd;exact⟨Nat.eq_of_beq_eq_true hq,rfl⟩
theorem uT {P:Program}{f:FuncId}{args:List SV}{y:SV}{Q:Hp→Prop}(henter:∀args w,(callFunc f args).run P w= .ok (.enter f args) w)
 (h:∀ (G:Hp) (β:eP) (w:World) (vs:List Value),Q G→(∀b o,G b=some o→w.heap[b]? =some o)→vs.length=args.length→(∀ (i:Nat) x v,args[i]? =some x→vs[i]? =some v→ak G β x v)→
   ∃u,(∀G β,ak G β y u)∧Calls P f vs.toArray w fun e w' =>e= .returned u∧Below w.heap.size w w'):ae P f args [(1000009,.know Q)] (fun x r=>x=y∧r= [(1000009,.know Q)]):=by
 refine⟨henter,fun G β w vs hpre hl hd=> ?_⟩;have hR:aC [((1000009:Nat),bh.know Q)] 1000009=some (.know Q):=by simp[aC]
 have hq:dJ G β w 1000009 (.know Q):=hpre.rs _ _ hR;obtain⟨u,hu,hc⟩:=h G β w vs (hq.2 G (Hp.le_refl G)) hpre.gw hl hd;refine hc.mono ?_;rintro e w' ⟨rfl,hb⟩;refine⟨u,y,_,G,β,rfl,⟨rfl,rfl⟩,⟨Hp.le_refl G,eP.le_refl β,fun b o hg=> ?_,fun b o hg=>.inl hg,⟨hb.os,hb.tape,hb.output,hb.size,fun b hlt _=>hb.block b hlt⟩,fun d r hd=> ?_,fun d d' r r' v v' b h1 h2 o1=> ?_,fun d r v b h1 o1=> ?_⟩,hu G β⟩
 · have:=hpre.gw b o hg;have hlt:b<w.heap.size:=(Array.getElem?_eq_some_iff.1 this).1;rw[hb.block b hlt];exact this
 · obtain⟨rfl,rfl⟩:=eh d r hd;exact⟨hq.1,hq.2⟩
 · obtain⟨_,rfl⟩:=eh d r h1;cases o1
 · obtain⟨_,rfl⟩:=eh d r h1;cases o1
theorem sb {P:Program}{f:FuncId}{args:List SV}{post:SV→Prop}{Q:Hp→Prop}(h:ae P f args [(1000009,.know Q)] (fun x r=>post x∧r= [(1000009,.know Q)]))(W:World)(hQ:∀G,(Hp.le (fun b=>W.heap[b]?) G)→Q G):
 LD (fun b=>W.heap[b]?) (fun d=>if d=1000009 then some (.bool true)else none) W (aC [((1000009:Nat),bh.know Q)]):=by
 refine⟨fun _ _ e=>e,fun d r hd=> ?_,fun d d' r r' v v' b h1 h2 o1=> ?_,fun d r v b h1 o1=> ?_,fun d v hd=> ?_⟩
 · obtain⟨rfl,rfl⟩:=eh d r hd;exact⟨⟨_,if_pos rfl⟩,hQ⟩
 · obtain⟨_,rfl⟩:=eh d r h1;cases o1
 · obtain⟨_,rfl⟩:=eh d r h1;cases o1
 · by_cases q:d=1000009
   · subst q;exact⟨_,rfl⟩
   · rw[if_neg q]at hd;cases hd
end Go.Eng
namespace Go.Eng
open Go Go.RowKit
def facts (F:World→Prop):Hp→Prop:=fun G=>∀w:World,(∀ (b:Nat) (o:Obj),G b=some o→w.heap[b]? =some o)→F w
theorem xj {F:World→Prop}{W:World}(h:∀w:World,(∀ (b:Nat) (o:Obj),W.heap[b]? =some o→w.heap[b]? =some o)→F w)(G:Hp)(hG:Hp.le (fun b=>W.heap[b]?) G):facts F G:=
 fun w hw=>h w (fun b o e=>hw b o (hG b o e))
mutual
theorem wL:∀x:SV,SV.okN [] x=true→SV.okN [((1000009:Nat),(1000009:Nat))] x=true
 | .any,_=>rfl
 | .bad,_=>rfl
 | .undef,_=>rfl
 | .d _,_=>rfl
 | .agg l,h=>by simp only[SV.okN]at h ⊢;exact lQ l h
 | .tup l,h=>by simp only[SV.okN]at h ⊢;exact lQ l h
 | .ptr _ _,h=>by simp[SV.okN,aH]at h
 | .buf _,h=>by simp[SV.okN,aH]at h
 | .bel _ _ _ _,h=>by simp[SV.okN,aH]at h
 | .mp _,h=>by simp[SV.okN,aH]at h
 | .fn f caps,h=>by simp only[SV.okN]at h ⊢;exact lQ caps h
 | .sub _ _ _ _,h=>by simp[SV.okN,aH]at h
theorem lQ:∀l:List SV,dl [] l=true→dl [((1000009:Nat),(1000009:Nat))] l=true
 | [],_=>rfl
 | x::l,h=>by
   simp only[dl,Bool.and_eq_true]at h ⊢;exact⟨wL x h.1,lQ l h.2⟩
end
theorem mu {P:Program}{f:FuncId}{args:List SV}{Q:Hp→Prop}{post:SV→Prop}(henter:∀args w,(callFunc f args).run P w= .ok (.enter f args) w)
 (h:∀ (G:Hp) (β:eP) (w:World) (vs:List Value),Q G→(∀b o,G b=some o→w.heap[b]? =some o)→vs.length=args.length→(∀ (i:Nat) x v,args[i]? =some x→vs[i]? =some v→ak G β x v)→
   Calls P f vs.toArray w fun e w' =>∃u y G',e= .returned u∧post y∧G.le G'∧(∀b o,G' b=some o→w'.heap[b]? =some o)∧(∀b o,G' b=some o→G b=some o∨w.heap.size≤b)∧(∀β,ak G' β y u)∧Below w.heap.size w w'):
 ae P f args [(1000009,.know Q)] (fun x r=>post x∧r= [(1000009,.know Q)]):=by
 refine⟨henter,fun G β w vs hpre hl hd=> ?_⟩;have hR:aC [((1000009:Nat),bh.know Q)] 1000009=some (.know Q):=by simp[aC]
 have hq:dJ G β w 1000009 (.know Q):=hpre.rs _ _ hR;refine(h G β w vs (hq.2 G (Hp.le_refl G)) hpre.gw hl hd).mono ?_;rintro e w' ⟨u,y,G',rfl,hy,hle,hgw,hgn,hden,hb⟩;refine⟨u,y,_,G',β,rfl,⟨hy,rfl⟩,⟨hle,eP.le_refl β,hgw,fun b o hg=>(hgn b o hg).elim .inl (fun q=>.inr (.inr q)),⟨hb.os,hb.tape,hb.output,hb.size,fun b hlt _=>hb.block b hlt⟩,fun d r hd=> ?_,fun d d' r r' v v' b h1 h2 o1=> ?_,fun d r v b h1 o1=> ?_⟩,hden β⟩
 · obtain⟨rfl,rfl⟩:=eh d r hd;exact⟨hq.1,fun G'' h2=>hq.2 G'' (Hp.le_trans hle h2)⟩
 · obtain⟨_,rfl⟩:=eh d r h1;cases o1
 · obtain⟨_,rfl⟩:=eh d r h1;cases o1
theorem sM {P:Program}{f:FuncId}{args:List SV}{Q:Hp→Prop}{post:SV→Prop}(henter:∀args w,(callFunc f args).run P w= .ok (.enter f args) w)
 (h:∀ (G:Hp) (β:eP) (w:World) (vs:List Value),Q G→(∀b o,G b=some o→w.heap[b]? =some o)→vs.length=args.length→(∀ (i:Nat) x v,args[i]? =some x→vs[i]? =some v→ak G β x v)→
   Calls P f vs.toArray w fun e w' =>∃u y,e= .returned u∧post y∧(∀G β,ak G β y u)∧Below w.heap.size w w'):
 ae P f args [(1000009,.know Q)] (fun x r=>post x∧r= [(1000009,.know Q)]):=
 mu henter fun G β w vs hq hg hl hd=>(h G β w vs hq hg hl hd).mono fun e w' =>by
  rintro⟨u,y,he,hy,hden,hb⟩;refine⟨u,y,G,he,hy,Hp.le_refl G,fun b o e=> ?_,fun b o e=>.inl e,hden G,hb⟩;have:=hg b o e;have hlt:b<w.heap.size:=(Array.getElem?_eq_some_iff.1 this).1;rw[hb.block b hlt];exact this
theorem cy {P:Program}{f:FuncId}{dst:Option Nat}{args:List SV}{s:St}{av:List Nat}{k:cM→Prop}{y:SV}{Q:Hp→Prop}
 (hs:ae P f args [(1000009,.know Q)] fun x r=>x=y∧r= [(1000009,.know Q)])(hR:s.res 1000009=some (.know Q))(hargs:dl [] args=true)(hav:mem av 1099512627785=false)(hy:SV.okN [] y=true)
 (hk:k ⟨dst,y,[],[]⟩):dP P f dst args s av k:=by
 have up:∀ {x:SV},SV.okN [] x=true→SV.okN [((1000009:Nat),(1000009:Nat))] x=true∧x.ren [((1000009:Nat),(1000009:Nat))]=x:=by
  have idr:∀d c,aH [((1000009:Nat),(1000009:Nat))] d=some c→c=d:=by
   intro d c hd;simp only[aH]at hd
   cases hq:Nat.beq d 1000009 with
   |false=>rw[hq]at hd;cases hd
   |true=>rw[hq]at hd;cases hd;exact(Nat.eq_of_beq_eq_true hq).symm
  have mono:∀x:SV,SV.okN [] x=true→SV.okN [((1000009:Nat),(1000009:Nat))] x=true:=wL;exact fun{x} hx=>⟨mono x hx,y3 idr x (mono x hx)⟩
 refine dP.look hs [(1000009,1000009)] rfl ?_ ⟨⟨1000009,rfl,hR⟩,trivial⟩ rfl (by simp[hav]) (by simp[(up hy).1,sD,aH,bh.okN]) ?_
 · have:∀l:List SV,dl [] l=true→iA [((1000009:Nat),(1000009:Nat))] l l:=by
    intro l
    induction l with
    |nil=>intro _;trivial
    | cons x l ih=>
      intro h;simp only[dl,Bool.and_eq_true]at h;exact⟨by rw[(up h.1).2];exact SV.le_refl _,ih h.2⟩
   exact this args hargs
 · rw[(up hy).2];exact hk
end Go.Eng
set_option maxRecDepth 20000
namespace Go.Proofs.YtafhoijegjmdcaaGreatDoor
open Go Go.Eng Go.Shelf Go.RowKit
def FX (w:World):Prop:=(∀n:Int,-9223372036854775808≤n→n≤9223372036854775807→Calls Tryz.prog 62 #[.int .i64 n] w fun e w' =>e= .returned (.string ⟨(Lib.itoa n).toArray⟩)∧∃k os,w' =Go.Sort.grow (w.drewN k) os)∧(∃m,w.cell? ⟨eT.g 1,0,none⟩=some (.int .i64 m))∧
 (∃v,w.cell? ⟨bQ.g 15,0,none⟩=some v∧(v= .nilIface∨∃t p,v= .iface t p))∧(∃v,w.cell? ⟨bQ.g 16,0,none⟩=some v∧(v= .nilIface∨∃t p,v= .iface t p))
abbrev KX:bh:=.know (facts FX)
abbrev kx:List (Nat×bh):= [(1000009,KX)]
theorem JI (l:List UInt8):(⟨l.toArray⟩:ByteArray).size=l.length:=by simp[ByteArray.size]
theorem zh {w:World}(n:Nat)(os:Array Obj):Below w.heap.size w (Go.Sort.grow (w.drewN n) os):=
 ⟨rfl,rfl,rfl,by simp[Go.Sort.grow,World.drewN],fun k hk=>by
   show(w.heap++os)[k]? =_
   rw[Array.getElem?_append_left hk]⟩
theorem EK (n:Int)(h0: -9223372036854775808≤n)(h1:n≤9223372036854775807):ae Tryz.prog 62 [.d (.int .i64 n)] kx (fun x r=>x= .d (.str (Lib.itoa n))∧r=kx):=by
 refine uT Tryz.call62 (fun G β w vs hq hg hvl hd=> ?_)
 match vs,hvl with
 | [u],_=>
   have h0':=hd 0 _ u rfl rfl
   cases h0' with|d _ _ h0' =>cases h0' with|int _ _=>
   have hF:=hq w hg;refine⟨.string ⟨(Lib.itoa n).toArray⟩,fun _ _=>.d _ _ (.str _),?_⟩;have hcon:=hF.1 n h0 h1;refine hcon.mono ?_;rintro e' w' ⟨rfl,k,os,rfl⟩;exact⟨rfl,zh k os⟩
def tJ (s:List UInt8)(y:SV):Prop:=
 match Lib.atoiAll s with
 | .ok v=>y= .tup [.d (.int .i64 v),.d (.opq .nilIface)]
 | .range=>∃t p,y= .tup [.d (.int .i64 (Lib.atoiSat s)),.d (.opq (.iface t p))]
 |_=>∃t p,y= .tup [.d (.int .i64 0),.d (.opq (.iface t p))]
theorem qN {G:Hp}{β:eP}{p q:SV}{a b:Value}(ha:ak G β p a)(hb:ak G β q b):ak G β (.tup [p,q]) (.tuple #[a,b]):=
 .tup [p,q] [a,b] rfl (fun i x v hx hv=>by
  match i,hx,hv with
  |0,hx,hv=>simp at hx hv;subst hx;subst hv;exact ha
  |1,hx,hv=>simp at hx hv;subst hx;subst hv;exact hb)
theorem Hv (s:List UInt8)(hl:s.length≤2^40):ae Tryz.prog 198 [.d (.str s)] kx (fun x r=>tJ s x∧r=kx):=by
 refine sM Tryz.call198 (fun G β w vs hq hg hvl hd=> ?_)
 match vs,hvl with
 | [u],_=>
   have h0:=hd 0 _ u rfl rfl
   cases h0 with|d _ _ h0=>cases h0 with|str _=>
   obtain⟨_,_,⟨v1,c1,d1⟩,⟨v2,c2,d2⟩⟩:=hq w hg;have e:bQ.f 172=198:=rfl
   cases hA:Lib.atoiAll s with
   | ok v=>
     have hcon:=Any.strconv_Atoi_ok jm ⟨s.toArray⟩ (by rw[JI];omega) v (by simpa using hA) w;rw[e]at hcon;refine hcon.mono ?_;rintro e' w' ⟨rfl,hw⟩;refine⟨_,_,rfl,by unfold tJ;rw[hA],fun _ _=>qN (.d _ _ (.int _ _)) (.d _ _ (.opq _ rfl)),?_⟩;rcases hw with rfl|⟨t,rfl⟩
     · exact Below.refl _ _
     · exact Lib.bytesWorld_below _ _ _
   | range=>
     have hcon:=Any.strconv_Atoi_range jm ⟨s.toArray⟩ (by rw[JI];omega) (by simpa using hA) v2 w c2 d2;rw[e]at hcon;refine hcon.mono ?_;rintro e' w' ⟨N,rfl,_,_,hb⟩;refine⟨_,_,rfl,by unfold tJ;rw[hA];exact⟨_,_,rfl⟩,fun _ _=>qN ?_ (.d _ _ (.opq _ rfl)),hb⟩
     simpa using ak.d _ _ (aG.int .i64 (Lib.atoiSat s))
   | _=>
     have hcon:=Any.strconv_Atoi_syntax jm ⟨s.toArray⟩ (by rw[JI];omega) (by simpa using hA) v1 w c1 d1;rw[e]at hcon;refine hcon.mono ?_;rintro e' w' ⟨N,rfl,_,_,hb⟩;exact⟨_,_,rfl,by unfold tJ;rw[hA];exact⟨_,_,rfl⟩,fun _ _=>qN (.d _ _ (.int _ _)) (.d _ _ (.opq _ rfl)),hb⟩
theorem DU (s p:List UInt8):ae Tryz.prog 197 [.d (.str s),.d (.str p)] [] (fun x r=>x= .d (.str (Lib.trimPrefix s p))∧r= []):=by
 refine gz Tryz.call197 (fun G β w vs _ hvl hd=> ?_)
 match vs,hvl with
 | [u,v],_=>
   have h0:=hd 0 _ u rfl rfl;have h1:=hd 1 _ v rfl rfl
   cases h0 with|d _ _ h0=>cases h0 with|str _=>
   cases h1 with|d _ _ h1=>cases h1 with|str _=>
   refine⟨.string ⟨(Lib.trimPrefix s p).toArray⟩,fun _ _=>.d _ _ (.str _),?_⟩;have hcon:=Any.strings_TrimPrefix uK ⟨s.toArray⟩ ⟨p.toArray⟩ w;have e:jv.f 101=197:=rfl;rw[e]at hcon;refine hcon.mono ?_;rintro e' w' ⟨rfl,rfl⟩;exact⟨rfl,Below.refl _ _⟩
theorem xX {G:Hp}{w:World}(hG:∀b o,G b=some o→w.heap[b]? =some o)(L:List ByteArray)(N:Nat)(hL:L.length≤N)(hN:N≤maxLen)(cs:Array Value)(e:TypeId)(hc:∀i,i<L.length→cs[i]? =some (.string (L.getD i ByteArray.empty))):
 ∃G',G.le G'∧(∀b o,G' b=some o→(w.alloc (.cells cs e)).heap[b]? =some o)∧(∀b o,G' b=some o→G b=some o∨w.heap.size≤b)∧(∀β,ak G' β (.d (bU (L.map (·.data.toList)))) (.slice (some ⟨w.heap.size,0,none⟩) L.length N)):=by
 have hfree:G w.heap.size=none:=by
  cases hg:G w.heap.size with
  |none=>rfl
  |some o=>have:=(Array.getElem?_eq_some_iff.1 (hG _ _ hg)).1;omega
 refine⟨G.add w.heap.size (.cells cs e),im hfree,fun b o hb=> ?_,fun b o hb=> ?_,fun β=>.d _ _ ?_⟩
 · unfold Hp.add at hb;split at hb
   · rename_i q;subst q;cases hb;exact heap_alloc_new w _
   · rw[heap_alloc_old w _ (Array.getElem?_eq_some_iff.1 (hG _ _ hb)).1];exact hG _ _ hb
 · unfold Hp.add at hb;split at hb
   · rename_i q;subst q;exact .inr (Nat.le_refl _)
   · exact .inl hb
 · have hlen:(L.map (·.data.toList)).length=L.length:=by simp
   unfold bU d6;rw[hlen];refine .ro 1 L.length _ _ N (fun i _=>.string (L.getD i ByteArray.empty)) rfl hL hN (fun i _=>rfl) (fun i j x hi hx=> ?_) (fun i j x hi hx=> ?_)
   · have hj:j=0:=by
      have:=(List.getElem?_eq_some_iff.1 hx).1;simp[aR,sF]at this;omega
     subst hj;refine⟨cs,e,(0,0),?_,?_,?_⟩
     · rw[Eng.Addr.add_block];simp[Hp.add]
     · exact cZ _ rfl _
     · rw[Addr.add_lit];simpa using hc i hi
   · have hj:j=0:=by
      have:=(List.getElem?_eq_some_iff.1 hx).1;simp[aR,sF]at this;omega
     subst hj;simp only[aR,sF,List.getElem?_cons_zero,Option.some.injEq]at hx;subst hx
     have h1:(L.map (·.data.toList)).getD i []=(L.getD i ByteArray.empty).data.toList:=by
      simp[List.getD_eq_getElem?_getD,hi]
     rw[h1];generalize L.getD i ByteArray.empty=ba;have:=aG.str (G:=G.add w.heap.size (.cells cs e)) ba.data.toList;rw[show(⟨ba.data.toList.toArray⟩:ByteArray)=ba from Lib.mk_data _]at this;exact this
theorem DF (s p:List UInt8)(hl:s.length≤2^31)(hp:1≤p.length):ae Tryz.prog 196 [.d (.str s),.d (.str p)] kx (fun x r=>x= .d (bU (Lib.split s p))∧r=kx):=by
 refine mu (post:=fun x=>x= .d (bU (Lib.split s p))) Tryz.call196 (fun G β w vs hq hg hvl hd=> ?_)
 match vs,hvl with
 | [u,v],_=>
   have h0:=hd 0 _ u rfl rfl;have h1:=hd 1 _ v rfl rfl
   cases h0 with|d _ _ h0=>cases h0 with|str _=>
   cases h1 with|d _ _ h1=>cases h1 with|str _=>
   obtain⟨_,⟨m,c0⟩,_⟩:=hq w hg;have hcon:=Any.strings_Split vb (by kernel_rfl) ⟨s.toArray⟩ ⟨p.toArray⟩ m w (by rw[JI];omega) c0 (by rw[JI];exact hp);have e:eT.f 146=196:=rfl;rw[e]at hcon
   have hdat:(Lib.splitB ⟨p.toArray⟩ 0 (Lib.countB ⟨s.toArray⟩ ⟨p.toArray⟩) ⟨s.toArray⟩).map (·.data.toList)=Lib.split s p:=by
    rw[Lib.splitB_data];simp[Lib.split]
   have hle:=Lib.count_le s p;have hlen:(Lib.splitB ⟨p.toArray⟩ 0 (Lib.countB ⟨s.toArray⟩ ⟨p.toArray⟩) ⟨s.toArray⟩).length=Lib.countB ⟨s.toArray⟩ ⟨p.toArray⟩+1:=Lib.splitB_all _ (by rw[JI];exact hp) 0 _ _ rfl;generalize hLL:Lib.splitB ⟨p.toArray⟩ 0 (Lib.countB ⟨s.toArray⟩ ⟨p.toArray⟩) ⟨s.toArray⟩=LL at hcon hdat hlen;have hcn:Lib.countB ⟨s.toArray⟩ ⟨p.toArray⟩=Lib.count s p:=by simp
   obtain⟨G',g1,g2,g3,g4⟩:=xX hg LL LL.length (Nat.le_refl _) (by rw[hlen,hcn];unfold maxLen;omega) (LL.map Value.string).toArray (eT.t 9) (fun i hi=>by simp[List.getD_eq_getElem?_getD,hi]);rw[←hlen]at hcon;refine hcon.mono ?_;rintro e' w' ⟨rfl,rfl⟩;rw[hdat]at g4;exact⟨_,_,G',rfl,rfl,g1,g2,g3,g4,(Below.refl _ _).alloc (Nat.le_refl _) _⟩
theorem jY (n lo hi:Int):ae Tryz.prog 119 [.d (.int .i64 n),.d (.int .i64 lo),.d (.int .i64 hi)] [] (fun x r=>x= .d (.bool (decide (lo≤n∧n≤hi)))∧r= []):=by
 refine aj hT Tryz.func119 Tryz.call119 ?_;conv=>whnf
 refine aa (fun h=> ?_) (fun h=> ?_)
 · conv=>whnf
   refine .ret _ ?_;conv=>whnf
   refine⟨[],⟨?_,rfl⟩,trivial⟩;conv=>lhs;whnf
   simp at h ⊢;simp[h]
 · conv=>whnf
   refine .ret _ ?_;conv=>whnf
   refine⟨[],⟨?_,rfl⟩,trivial⟩;conv=>lhs;whnf
   simp at h ⊢;omega
theorem HG (n lo hi:Int):ae Tryz.prog 87 [.d (.int .i64 n),.d (.int .i64 lo),.d (.int .i64 hi)] [] (fun x r=>x= .d (.bool (decide (lo≤n∧n≤hi)))∧r= []):=by
 refine aj hT Tryz.func87 Tryz.call87 ?_;conv=>whnf
 refine aa (fun h=> ?_) (fun h=> ?_)
 · conv=>whnf
   refine .ret _ ?_;conv=>whnf
   refine⟨[],⟨?_,rfl⟩,trivial⟩;conv=>lhs;whnf
   simp at h ⊢;simp[h]
 · conv=>whnf
   refine .ret _ ?_;conv=>whnf
   refine⟨[],⟨?_,rfl⟩,trivial⟩;conv=>lhs;whnf
   simp at h ⊢;omega
theorem j9 (b:Bool)(e:Int):ae Tryz.prog 165 [.d (.bool b),.d (.int .i64 e)] [] (fun x r=>x= .d (.int .i64 (if b then e else 0))∧r= []):=by
 refine aj hT Tryz.func165 Tryz.call165 ?_;conv=>whnf
 refine aa (fun h=> ?_) (fun h=> ?_)
 · conv=>whnf
   refine .ret _ ?_;conv=>whnf
   refine⟨[],⟨?_,rfl⟩,trivial⟩;conv=>lhs;whnf
   simp[h]
 · conv=>whnf
   refine .ret _ ?_;conv=>whnf
   refine⟨[],⟨?_,rfl⟩,trivial⟩;conv=>lhs;whnf
   simp[h]
theorem rV {α:Type}{l:List α}{i:Nat}{d:α}(h:i<l.length):l.getD (i:Int).toNat d=l[i]:=by
 rw[Int.toNat_natCast,List.getD_eq_getElem?_getD];simp[h]
def ah:List Int→Int
 | []=>0
 |x::l=>if x=0 then ah l else x
theorem NS (l:List Int)(hl:l.length≤2^40):ae Tryz.prog 113 [.d (cz l)] [] (fun x r=>x= .d (.int .i64 (ah l))∧r= []):=by
 refine aj hT Tryz.func113 Tryz.call113 ?_;conv=>whnf
 refine af hT (C:= []) (ι:=Nat) (fun i=>i≤l.length∧ah l=ah (l.drop i)) (fun i=>aJ [(3,.d (.int .i64 0)),(6,.d (cz l)),(7,.d (.int .i64 l.length)),(8,.d (.int .i64 i))] []) (fun i=>l.length - i) 0 ⟨by omega,by simp⟩ ?_ ?_
 · refine ac [] rfl rfl ⟨lr,lr,lr,lr,trivial⟩ trivial
 rintro i ⟨p1,p2⟩;conv=>whnf
 refine aa (fun h=> ?_) (fun h=> ?_)
 · simp only[decide_eq_true_eq]at h;conv=>whnf
   refine⟨⟨by omega,by omega⟩,?_⟩;conv=>whnf
   have hi:i<l.length:=by omega
   have hd:l.drop i=l[i]::l.drop (i+1):=List.drop_eq_getElem_cons hi;refine aa (fun h2=> ?_) (fun h2=> ?_)
   · conv=>whnf
     refine .ret _ ?_;conv=>whnf
     refine⟨[],⟨?_,rfl⟩,trivial⟩;conv=>lhs;whnf
     rw[rV hi]at h2 ⊢;simp at h2;rw[p2,hd,ah,if_neg h2]
   · conv=>whnf
     rw[rV hi]at h2;simp at h2;refine⟨by unfold bC;omega,?_⟩;conv=>whnf
     refine⟨i+1,⟨hi,?_⟩,by omega,?_⟩
     · rw[p2,hd,ah,if_pos h2]
     · exact ac [] rfl rfl ⟨lr,lr,lr,lr,trivial⟩ trivial
 · simp only[decide_eq_false_iff_not]at h;conv=>whnf
   refine .ret _ ?_;conv=>whnf
   refine⟨[],⟨?_,rfl⟩,trivial⟩;conv=>lhs;whnf
   rw[p2,List.drop_eq_nil_iff.2 (by omega)];rfl
theorem kM (l:List Int)(hl:l.length≤2^40):ae Tryz.prog 66 [.d (cz l)] [] (fun x r=>x= .d (.int .i64 (ah l))∧r= []):=by
 refine aj hT Tryz.func66 Tryz.call66 ?_;conv=>whnf
 refine Fc (NS l hl) ?_;conv=>whnf
 refine .ret _ ?_;conv=>whnf
 exact⟨[],⟨rfl,rfl⟩,trivial⟩
def d4 (i:Nat)(c:UInt8):Bool:=(decide (97≤c.toNat)&&decide (c.toNat≤122))||(!decide (i=0)&&((decide (48≤c.toNat)&&decide (c.toNat≤57))||decide (c.toNat=45)||decide (c.toNat=95)))
def aN (s:List UInt8):Bool:=(List.range s.length).all (fun i=>d4 i (s.getD i 0))&& !s.isEmpty&&decide (s.length≤40)
theorem tC {i:Nat}{c:UInt8}:d4 i c=true↔((97≤(c.toNat:Int)∧(c.toNat:Int)≤122)∨((i:Int)≠0∧((48≤(c.toNat:Int)∧(c.toNat:Int)≤57)∨(c.toNat:Int)=45∨(c.toNat:Int)=95))):=by
 simp only[d4,Bool.or_eq_true,Bool.and_eq_true,decide_eq_true_eq,Bool.not_eq_true',decide_eq_false_iff_not];omega
theorem kV (s:List UInt8)(hl:s.length≤2^40):ae Tryz.prog 118 [.d (.str s)] [] (fun x r=>x= .d (.bool (aN s))∧r= []):=by
 refine aj hT Tryz.func118 Tryz.call118 ?_;conv=>whnf
 refine af hT (C:= []) (ι:=Nat) (fun i=>i≤s.length∧∀j,j<i→d4 j (s.getD j 0)=true) (fun i=>aJ [(0,.d (.str s)),(7,.d (.int .i64 s.length)),(8,.d (.int .i64 i))] []) (fun i=>s.length - i) 0 ⟨by omega,by omega⟩ ?_ ?_
 · exact ac [] rfl rfl ⟨lr,lr,lr,trivial⟩ trivial
 rintro i ⟨p1,p2⟩;conv=>whnf
 refine aa (fun h=> ?_) (fun h=> ?_)
 · simp only[decide_eq_true_eq]at h;have hi:i<s.length:=by omega
   have e1:=ek i;conv=>whnf
   repeat (refine And.intro (by(try unfold bC);(try dsimp only);(try simp only[e1,List.length_cons,List.length_append,List.length_singleton,List.length_nil]);omega) ?_;conv=>whnf)
   have hbad:d4 i (s.getD i 0)=false→aN s=false:=fun h=>by
    have:(List.range s.length).all (fun i=>d4 i (s.getD i 0))=false:=by
     rw[List.all_eq_false];exact⟨i,List.mem_range.2 hi,by rw[h];simp⟩
    simp only[aN,this,Bool.false_and]
   have hgood:d4 i (s.getD i 0)=true→∀j,j<i+1→d4 j (s.getD j 0)=true:=fun h j hj=>by
    rcases Nat.lt_or_ge j i with q|q
    · exact p2 j q
    · have:j=i:=by omega
      subst this;exact h
   repeat' (refine aa (fun _=> ?_) (fun _=> ?_)<;>(conv=>whnf))
   all_goals first
    | (refine And.intro (by unfold bC;omega) ?_
       conv=>whnf
       refine⟨i+1,⟨hi,hgood ?_⟩,by omega,ac [] rfl rfl ⟨lr,lr,lr,trivial⟩ trivial⟩;rw[tC];simp only[decide_eq_true_eq,decide_eq_false_iff_not,Bool.not_eq_true',Bool.not_eq_false',e1]at*
       omega)
    | (refine .ret _ ?_
       conv=>whnf
       refine⟨[],⟨?_,rfl⟩,trivial⟩;conv=>lhs;whnf
       rw[hbad]
       cases hq:d4 i (s.getD i 0)with
       |false=>rfl
       | true=>
         rw[tC]at hq;simp only[decide_eq_true_eq,decide_eq_false_iff_not,Bool.not_eq_true',Bool.not_eq_false',e1]at*
         omega)
    |skip
 simp only[decide_eq_false_iff_not]at h;have e1:i=s.length:=by omega
 subst e1
 have eM:(List.range s.length).all (fun i=>d4 i (s.getD i 0))=true:=by
  rw[List.all_eq_true];intro j hj;exact p2 j (List.mem_range.1 hj)
 conv=>whnf
 repeat' (refine aa (fun _=> ?_) (fun _=> ?_)<;>(conv=>whnf))
 all_goals (refine .ret _ ?_;conv=>whnf)
 all_goals (refine⟨[],⟨?_,rfl⟩,trivial⟩;conv=>lhs;whnf)
 · rename_i hq
   have:s.isEmpty=false:=by
    cases s with
    |nil=>exact absurd hq (by decide)
    |cons x l=>rfl
   unfold aN;rw[eM,this];simp;omega
 · rename_i hq
   have:s.isEmpty=true:=by
    cases s with
    |nil=>rfl
    |cons x l=>exact absurd hq (by simp)
   unfold aN;rw[eM,this];rfl
def dv (a b:List UInt8):Bool:=Op.bytesLess a b||a==b
def a8 (f:Nat→Int):Nat→Int
 |0=>0
 |n+1=>if a8 f n=0 then f n else a8 f n
theorem ay {f:Nat→Int}:∀ {n:Nat},(∀j,j<n→f j=0)→a8 f n=0:=by
 intro n
 induction n with
 |zero=>intro _;rfl
 |succ n ih=>intro h;rw[a8,if_pos (ih fun j hj=>h j (by omega))];exact h n (by omega)
theorem aP {f:Nat→Int}{n i:Nat}{e:Int}(hi:i<n)(h:∀j,j<i→f j=0)(h1:e≠0)(h2:f i=e):a8 f n=e:=by
 induction n with
 |zero=>omega
 | succ n ih=>
   rw[a8]
   by_cases q:i<n
   · rw[ih q,if_neg h1]
   · have:i=n:=by omega
     subst this;rw[if_pos (ay h)];exact h2
end Go.Proofs.YtafhoijegjmdcaaGreatDoor
namespace Go.Proofs
open Go.Shelf
def jG:Go.Shelf.Ren:=⟨fun|160=>194|232=>246|231=>245|227=>247|234=>249|233=>248|236=>251|235=>250|228=>285|271=>288|151=>287|197=>286|120=>313|152=>312|260=>311|137=>326|119=>327|224=>328|225=>329|217=>330|266=>336|n=>n,fun|9=>9|4=>4|3=>3|5=>5|117=>309|116=>308|0=>0|124=>312|21=>21|105=>339|46=>206|119=>369|139=>372|138=>371|n=>n,fun|3=>6|4=>7|n=>n⟩
theorem uG:Go.Proofs.Lays.n160 Tryz.prog jG:={
 mixed:=by kernel_rfl
 f119:=Tryz.func327.trans (congrArg some (by kernel_rfl))
 f120:=Tryz.func313.trans (congrArg some (by kernel_rfl))
 f137:=Tryz.func326.trans (congrArg some (by kernel_rfl))
 f151:=Tryz.func287.trans (congrArg some (by kernel_rfl))
 f152:=Tryz.func312.trans (congrArg some (by kernel_rfl))
 f160:=Tryz.func194.trans (congrArg some (by kernel_rfl))
 f197:=Tryz.func286.trans (congrArg some (by kernel_rfl))
 f217:=Tryz.func330.trans (congrArg some (by kernel_rfl))
 f224:=Tryz.func328.trans (congrArg some (by kernel_rfl))
 f225:=Tryz.func329.trans (congrArg some (by kernel_rfl))
 f227:=Tryz.func247.trans (congrArg some (by kernel_rfl))
 f228:=Tryz.func285.trans (congrArg some (by kernel_rfl))
 f231:=Tryz.func245.trans (congrArg some (by kernel_rfl))
 f232:=Tryz.func246.trans (congrArg some (by kernel_rfl))
 f233:=Tryz.func248.trans (congrArg some (by kernel_rfl))
 f234:=Tryz.func249.trans (congrArg some (by kernel_rfl))
 f235:=Tryz.func250.trans (congrArg some (by kernel_rfl))
 f236:=Tryz.func251.trans (congrArg some (by kernel_rfl))
 f260:=Tryz.func311.trans (congrArg some (by kernel_rfl))
 f266:=Tryz.func336.trans (congrArg some (by kernel_rfl))
 f271:=Tryz.func288.trans (congrArg some (by kernel_rfl))
 t0:=Tryz.underlying0
 a0:=Tryz.isAgg0
 z0:=Tryz.sizeOf0
 v0:=Tryz.zeroValue0
 t3:=Tryz.underlying3
 a3:=Tryz.isAgg3
 z3:=Tryz.sizeOf3
 v3:=Tryz.zeroValue3
 t4:=Tryz.underlying4
 a4:=Tryz.isAgg4
 z4:=Tryz.sizeOf4
 v4:=Tryz.zeroValue4
 t5:=Tryz.underlying5
 a5:=Tryz.isAgg5
 z5:=Tryz.sizeOf5
 v5:=Tryz.zeroValue5
 t9:=Tryz.underlying9
 a9:=Tryz.isAgg9
 z9:=Tryz.sizeOf9
 v9:=Tryz.zeroValue9
 t21:=Tryz.underlying21
 a21:=Tryz.isAgg21
 z21:=Tryz.sizeOf21
 v21:=Tryz.zeroValue21
 t46:=Tryz.underlying206
 a46:=Tryz.isAgg206
 z46:=Tryz.sizeOf206
 v46:=Tryz.zeroValue206
 t105:=Tryz.underlying339
 a105:=Tryz.isAgg339
 z105:=Tryz.sizeOf339
 v105:=Tryz.zeroValue339
 t116:=Tryz.underlying308
 a116:=Tryz.isAgg308
 z116:=Tryz.sizeOf308
 t117:=Tryz.underlying309
 a117:=Tryz.isAgg309
 z117:=Tryz.sizeOf309
 v117:=Tryz.zeroValue309
 t119:=Tryz.underlying369
 a119:=Tryz.isAgg369
 z119:=Tryz.sizeOf369
 t124:=Tryz.underlying312
 a124:=Tryz.isAgg312
 z124:=Tryz.sizeOf312
 v124:=Tryz.zeroValue312
 t138:=Tryz.underlying371
 a138:=Tryz.isAgg371
 z138:=Tryz.sizeOf371
 v138:=Tryz.zeroValue371
 t139:=Tryz.underlying372
 a139:=Tryz.isAgg372
 z139:=Tryz.sizeOf372
 v139:=Tryz.zeroValue372
 g3:=by kernel_rfl
 g4:=by kernel_rfl}
end Go.Proofs
set_option maxRecDepth 20000
namespace Go.Proofs.YtafhoijegjmdcaaGreatDoor
open Go Go.Eng Go.Shelf
theorem Mj (s cs:List UInt8)(hl:s.length≤2^40)(hc:cs.length≤2^20)(ha:cs.all (fun b=>decide (b.toNat<128))=true):ae Tryz.prog 194 [.d (.str s),.d (.str cs)] [] (fun x r=>x= .d (.str (Lib.trimS s cs))∧r= []):=by
 refine gz Tryz.call194 (fun G β w vs _ hvl hd=> ?_)
 match vs,hvl with
 | [u,v],_=>
   have h0:=hd 0 _ u rfl rfl;have h1:=hd 1 _ v rfl rfl
   cases h0 with|d _ _ h0=>cases h0 with|str _=>
   cases h1 with|d _ _ h1=>cases h1 with|str _=>
   refine⟨.string ⟨(Lib.trimS s cs).toArray⟩,fun _ _=>.d _ _ (.str _),?_⟩;have hcon:=Any.strings_Trim_laid uG (by kernel_rfl) ⟨s.toArray⟩ ⟨cs.toArray⟩ w (by simp[ByteArray.size];omega) (by simp[ByteArray.size];omega) (ascii_of_all (by simpa using ha));have e:jG.f 160=194:=rfl;rw[e]at hcon;simpa using hcon
theorem mz {p:UInt8→Bool}{l:List UInt8}:l.dropWhile p= []↔∀b ∈ l,p b=true:=by
 induction l with
 |nil=>simp
 |cons a l ih=>by_cases h:p a=true<;>simp[List.dropWhile_cons,h,ih]
theorem Bo {s cs:List UInt8}:Lib.trimS s cs= []↔∀b ∈ s,cs.contains b=true:=by
 unfold Lib.trimS Lib.trimLeftS Lib.trimRightS;rw[mz];constructor
 · intro h b hb;have h1:s.reverse.dropWhile (cs.contains ·)= []∨¬s.reverse.dropWhile (cs.contains ·)= []:=Classical.em _;rcases h1 with h1|h1
   · exact mz.1 h1 b (by simpa using hb)
   · obtain⟨c,m,hc⟩:=List.exists_cons_of_ne_nil h1
     have h3:cs.contains c=false:=by
      have:=List.head_dropWhile_not (cs.contains ·) (l:=s.reverse) h1;simp only[hc,List.head_cons]at this;exact this
     have h4:=h c (by rw[List.mem_reverse,hc];exact List.mem_cons_self);rw[h3]at h4;cases h4
 · intro h b hb;rw[List.mem_reverse]at hb;exact h b (by simpa using(List.dropWhile_sublist _).subset hb)
def jb (s cs:List UInt8):Bool:=s.all (cs.contains ·)
theorem GX (s cs:List UInt8)(hl:s.length≤2^40)(hc:cs.length≤2^20)(ha:cs.all (fun b=>decide (b.toNat<128))=true):ae Tryz.prog 129 [.d (.str s),.d (.str cs)] [] (fun x r=>x= .d (.bool (jb s cs))∧r= []):=by
 refine aj hT Tryz.func129 Tryz.call129 ?_;conv=>whnf
 refine ap (Mj _ _ hl hc ha) ⟨lr,lr,trivial⟩ rfl ?_;conv=>whnf
 refine .ret _ ?_;conv=>whnf
 refine⟨[],⟨?_,rfl⟩,trivial⟩;show SV.d (.bool (Lib.trimS s cs== []))=_;congr 2
 rw[Bool.eq_iff_iff];simp only[beq_iff_eq,Bo,jb,List.all_eq_true]
theorem kf (a b c:Int):ae Tryz.prog 86 [.d (.int .i64 a),.d (.int .i64 b),.d (.int .i64 c)] [] (fun x r=>x= .d (.bool (decide (b≤a∧a≤c)))∧r= []):=by
 refine aj hT Tryz.func86 Tryz.call86 ?_;conv=>whnf
 repeat' (refine aa (fun _=> ?_) (fun _=> ?_)<;>(conv=>whnf))
 all_goals
  refine .ret _ ?_;conv=>whnf
  refine⟨[],⟨?_,rfl⟩,trivial⟩;conv=>lhs;whnf
  congr 2
  grind
def l8:List UInt8:= [97,98,99,100,101,102,103,104,105,106,107,108,109,110,111,112,113,114,115,116,117,118,119,120,121,122]
def Dg:List UInt8:=l8++ [48,49,50,51,52,53,54,55,56,57,45,95]
theorem yP {p:UInt8→Bool}(h:(List.range 256).all (fun n=>p (UInt8.ofNat n))=true)(c:UInt8):p c=true:=by
 have:=List.all_eq_true.1 h c.toNat (List.mem_range.2 c.toNat_lt);simpa using this
theorem BI (c:UInt8):l8.contains c=d4 0 c:=by
 have:=yP (p:=fun c=>l8.contains c==d4 0 c) (by decide+kernel) c;simpa using this
theorem G6 (c:UInt8):Dg.contains c=d4 1 c:=by
 have:=yP (p:=fun c=>Dg.contains c==d4 1 c) (by decide+kernel) c;simpa using this
theorem qE (i:Nat)(c:UInt8):d4 (i+1) c=d4 1 c:=by simp[d4]
theorem Bg {c:UInt8}(h:d4 0 c=true):d4 1 c=true:=by
 simp only[d4]at h ⊢;simp at h;simp[h]
theorem Co (s:List UInt8):aN s=(decide (1≤(s.length:Int)∧(s.length:Int)≤40)&&jb (s.take 1) l8&&jb s Dg):=by
 cases s with
 |nil=>rfl
 | cons c l=>
   have h1:jb ((c::l).take 1) l8=d4 0 c:=by simp only[jb,List.take_succ_cons,List.take_zero,List.all_cons,List.all_nil,Bool.and_true,BI]
   have h2:jb (c::l) Dg=(d4 1 c&&l.all (d4 1 ·)):=by simp only[jb,List.all_cons,G6]
   have h3:(List.range (c::l).length).all (fun i=>d4 i ((c::l).getD i 0))=(d4 0 c&&l.all (d4 1 ·)):=by
    rw[List.length_cons,List.range_succ_eq_map,List.all_cons,List.all_map];congr 1
    rw[Bool.eq_iff_iff,List.all_eq_true,List.all_eq_true];constructor
    · intro h x hx;obtain⟨i,hi,rfl⟩:=List.getElem_of_mem hx;have:=h i (List.mem_range.2 hi);simp only[Function.comp,List.getD_cons_succ,qE]at this;rwa [List.getD_eq_getElem?_getD,List.getElem?_eq_getElem hi]at this
    · intro h i hi;have hi:=List.mem_range.1 hi;simp only[Function.comp,List.getD_cons_succ,qE];rw[List.getD_eq_getElem?_getD,List.getElem?_eq_getElem hi];exact h _ (List.getElem_mem hi)
   unfold aN;rw[h1,h2,h3,Bool.eq_iff_iff];simp only[Bool.and_eq_true,decide_eq_true_eq,Bool.not_eq_true',List.isEmpty_cons,List.length_cons];constructor
   · rintro⟨⟨⟨a,b⟩,_⟩,d⟩;exact⟨⟨⟨by omega,by omega⟩,a⟩,Bg a,b⟩
   · rintro⟨⟨⟨_,d⟩,a⟩,_,b⟩;exact⟨⟨⟨a,b⟩,trivial⟩,by omega⟩
theorem vB (s:List UInt8)(hl:s.length≤2^40):ae Tryz.prog 73 [.d (.str s)] [] (fun x r=>x= .d (.bool (aN s))∧r= []):=by
 refine aj hT Tryz.func73 Tryz.call73 ?_;conv=>whnf
 repeat' (first|(refine ab (kf _ _ _) rfl rfl ?_;rotate_right;conv=>whnf)|(refine ab (GX s Dg hl ?_ ?_) rfl rfl ?_;rotate_right;conv=>whnf)|(refine ab (GX _ l8 ?_ ?_ ?_) rfl rfl ?_;rotate_right;conv=>whnf)|((first|refine aa ?_ ?_<;>intro hb<;>try simp only[am]at hb|omega|refine ao ?_|decide|assumption)<;>conv=>whnf))
 all_goals try(simp;omega)
 all_goals
  refine .ret _ ?_;conv=>whnf
  refine⟨[],⟨?_,rfl⟩,trivial⟩;conv=>lhs;whnf
  rw[Co];congr 2;grind
theorem aL {f:Nat→Int}{i:Nat}(p:∀j,j<i→f j=0)(h:f i=0):∀j,j<i+1→f j=0:=fun j hj=>by
 rcases Nat.lt_or_ge j i with q|q
 · exact p j q
 · have:j=i:=by omega
   subst this;exact h
theorem aE (i:Nat):((i:Int) - 1).toNat=i - 1:=by omega
theorem io {α:Type}{l:List α}{i:Nat}{d:α}(h:i<l.length):l.take (i+1)=l.take i++ [l.getD i d]:=by
 rw[List.take_succ_eq_append_getElem h,List.getD_eq_getElem?_getD,List.getElem?_eq_getElem h];rfl
theorem fL {f:Nat→Int}:∀ {n:Nat},a8 f n=0→∀j,j<n→f j=0:=by
 intro n
 induction n with
 |zero=>intro _ j hj;omega
 | succ n ih=>
   intro h j hj;rw[a8]at h;split at h
   · rename_i q;rcases Nat.lt_or_ge j n with r|r
     · exact ih q j r
     · have:j=n:=by omega
       subst this;exact h
   · omega
theorem bI {α:Type}{l:List α}{x d:α}(h:x ∈ l):∃j,j<l.length∧l.getD j d=x:=by
 obtain⟨j,hj,rfl⟩:=List.getElem_of_mem h;exact⟨j,hj,by rw[List.getD_eq_getElem?_getD,List.getElem?_eq_getElem hj];rfl⟩
section
variable {α:Type} (cmp:α→α→Int)
def fB (x:α):List α→List α
 | []=> [x]
 |y::r=>if cmp x y<0 then y::fB x r else x::y::r
def bv (l:List α):List α:=l.foldl (fun acc x=>fB cmp x acc) []
def bc (l:List α):List α:=(bv cmp l).reverse
theorem wG (x:α):∀l:List α,(fB cmp x l).length=l.length+1:=by
 intro l
 induction l with
 |nil=>rfl
 |cons y r ih=>simp only[fB];split<;>simp[ih]
theorem jc (l:List α)(x:α):bv cmp (l++ [x])=fB cmp x (bv cmp l):=by simp[bv]
theorem fp (l:List α):(bv cmp l).length=l.length:=by
 have:∀ (l acc:List α),(l.foldl (fun acc x=>fB cmp x acc) acc).length=acc.length+l.length:=by
  intro l
  induction l with
  |nil=>intro acc;simp
  |cons x l ih=>intro acc;rw[List.foldl_cons,ih,wG];simp;omega
 rw[bv,this];simp
theorem vO (x y:α):∀ {l:List α},y ∈ fB cmp x l↔y=x∨y ∈ l:=by
 intro l
 induction l with
 |nil=>simp[fB]
 | cons z r ih=>
   simp only[fB];split
   · simp only[List.mem_cons,ih];constructor
     · rintro(h|h|h)
       · exact .inr (.inl h)
       · exact .inl h
       · exact .inr (.inr h)
     · rintro(h|h|h)
       · exact .inr (.inl h)
       · exact .inl h
       · exact .inr (.inr h)
   · simp
theorem jZ {y:α}(l:List α):y ∈ bv cmp l↔y ∈ l:=by
 have:∀ (l acc:List α),y ∈ (l.foldl (fun acc x=>fB cmp x acc) acc)↔y ∈ acc∨y ∈ l:=by
  intro l
  induction l with
  |nil=>intro acc;simp
  | cons x l ih=>
    intro acc;rw[List.foldl_cons,ih,vO,List.mem_cons];constructor
    · rintro((h|h)|h)
      · exact .inr (.inl h)
      · exact .inl h
      · exact .inr (.inr h)
    · rintro(h|h|h)
      · exact .inl (.inr h)
      · exact .inl (.inl h)
      · exact .inr h
 rw[bv,this];simp
end
theorem dh {α:Type}{l:List α}{i:Nat}(h:i<l.length):l.take (i+1)=l.take i++ [l[i]]:=(List.take_append_getElem h).symm
theorem oe {α:Type}(A B:List α)(x d:α){i:Nat}(h:i=A.length):(A++x::B).getD i d=x:=by
 subst h;rw[List.getD_eq_getElem?_getD];simp
theorem rN {α:Type}(A B:List α)(x y:α):(((A++ [y]++ [x]++B).set (A.length+1) y).set A.length x)=A++ [x]++ [y]++B:=by
 simp[List.set_append]
section
variable {α:Type} (cmp:α→α→Int)
theorem A7 (x:α):∀l:List α,(fB cmp x l).Perm (x::l):=by
 intro l
 induction l with
 |nil=>exact .refl _
 | cons y r ih=>
   simp only[fB];split
   · exact(ih.cons y).trans (.swap x y r)
   · exact .refl _
theorem wa (l:List α):(bv cmp l).Perm l:=by
 have:∀ (l acc:List α),(l.foldl (fun acc x=>fB cmp x acc) acc).Perm (l++acc):=by
  intro l
  induction l with
  |nil=>intro acc;exact .refl _
  | cons x l ih=>
    intro acc;rw[List.foldl_cons];refine(ih _).trans (((A7 cmp x acc).append_left l).trans ?_);exact List.perm_middle
 have h:=this l [];rw[List.append_nil]at h;exact h
theorem aK (l:List α):(bc cmp l).Perm l:=(List.reverse_perm _).trans (wa cmp l)
variable (R:α→α→Prop) (tr:∀a b c,R a b→R b c→R a c)
include tr in
theorem sr (x:α):∀l:List α,l.Pairwise (fun a b=>R b a)→(∀y ∈ l,(cmp x y<0→R x y)∧(¬cmp x y<0→R y x))→(fB cmp x l).Pairwise (fun a b=>R b a):=by
 intro l
 induction l with
 |nil=>intro _ _;simp[fB]
 | cons y r ih=>
   intro h hc;have h':=List.pairwise_cons.1 h;simp only[fB];split
   · rename_i hlt;rw[List.pairwise_cons];refine⟨fun z hz=> ?_,ih h'.2 (fun z hz=>hc z (by simp[hz]))⟩;rcases(vO cmp x z).1 hz with q|q
     · subst q;exact(hc y (by simp)).1 hlt
     · exact h'.1 z q
   · rename_i hlt;have hyx:=(hc y (by simp)).2 hlt;rw[List.pairwise_cons];refine⟨fun z hz=> ?_,h⟩;rcases List.mem_cons.1 hz with q|q
     · subst q;exact hyx
     · exact tr _ _ _ (h'.1 z q) hyx
include tr in
theorem re:∀l:List α,l.Pairwise (fun y x=>(cmp x y<0→R x y)∧(¬cmp x y<0→R y x))→(bc cmp l).Pairwise R:=by
 intro l h;unfold bc;rw[List.pairwise_reverse]
 have:∀n,n≤l.length→(bv cmp (l.take n)).Pairwise (fun a b=>R b a):=by
  intro n
  induction n with
  |zero=>intro _;simp[bv]
  | succ n ih=>
    intro hn;rw[dh hn,jc];refine sr cmp R tr _ _ (ih (by omega)) (fun y hy=> ?_);have hy:=(jZ cmp _).1 hy;have hp:(l.take (n+1)).Pairwise (fun y x=>(cmp x y<0→R x y)∧(¬cmp x y<0→R y x)):=h.sublist (List.take_sublist _ _);rw[dh hn,List.pairwise_append]at hp;exact hp.2.2 y hy _ (by simp)
 have:=this l.length (Nat.le_refl _);rwa [List.take_length]at this
end
theorem rJ {α:Type}{l m:List α}(d:α)(hl:l.length=m.length)(h:∀j,j<l.length→l.getD j d=m.getD j d):l=m:=by
 refine List.ext_getElem hl (fun i h1 h2=> ?_);have:=h i h1;rwa [List.getD_eq_getElem?_getD,List.getD_eq_getElem?_getD,List.getElem?_eq_getElem h1,List.getElem?_eq_getElem h2]at this
theorem aV {p:Nat→Prop}{i:Nat}(h:∀j,j<i→p j)(h1:p i):∀j,j<i+1→p j:=fun j hj=>by
 rcases Nat.lt_or_ge j i with q|q
 · exact h j q
 · have:j=i:=by omega
   subst this;exact h1
structure Ox where
 tm:Int
 gate:List UInt8
 plate:List UInt8
 cents:Int
def sP (c:UInt8):Bool:=(decide (65≤c.toNat)&&decide (c.toNat≤90))||(decide (48≤c.toNat)&&decide (c.toNat≤57))
def gE (s:List UInt8):Bool:=s.all sP&&decide (2≤s.length)&&decide (s.length≤10)
theorem LW (s:List UInt8)(hl:s.length≤2^40):ae Tryz.prog 227 [.d (.str s)] [] (fun x r=>x= .d (.bool (gE s))∧r= []):=by
 refine aj hT Tryz.func227 Tryz.call227 ?_;conv=>whnf
 refine af hT (C:= []) (ι:=Nat) (fun i=>i≤s.length∧∀j,j<i→sP (s.getD j 0)=true) (fun i=>aJ [(0,.d (.str s)),(6,.d (.int .i64 s.length)),(7,.d (.int .i64 i))] []) (fun i=>s.length - i) 0 ⟨by omega,by omega⟩ (by exact a7 []) ?_;rintro i ⟨p1,p2⟩;have e1:=ek i
 have hbad:i<s.length→sP (s.getD i 0)=false→gE s=false:=fun hi h=>by
  have:s.all sP=false:=by
   rw[List.all_eq_false];exact⟨s.getD i 0,al hi,by rw[h];simp⟩
  simp only[gE,this,Bool.false_and]
 have eM:i=s.length→s.all sP=true:=fun hi=>by
  rw[List.all_eq_true];intro c hc;obtain⟨j,hj,rfl⟩:=bI (d:=0) hc;exact p2 j (by omega)
 conv=>whnf
 repeat' ((first|refine aa ?_ ?_<;>intro hb<;>try simp only[am]at hb|omega|refine ao ?_|decide|assumption)<;>conv=>whnf)
 all_goals first
  |(refine⟨i+1,⟨by omega,aV p2 (by clear p2 hbad eM;simp only[e1]at*;simp only[sP];grind)⟩,by omega,(by exact a7 [])⟩)
  | (refine .ret _ ?_
     conv=>whnf
     refine⟨[],⟨?_,rfl⟩,trivial⟩;conv=>lhs;whnf
     congr 2
     first
      |(rw[hbad (by omega) (by clear p2 hbad eM;simp only[e1]at*;simp only[sP];grind)])
      |(unfold gE;rw[eM (by omega)];clear p2 hbad eM;grind))
def bJ (a b:Int):Int:=if a<b then -1 else if b<a then 1 else 0
def dq (a b:List UInt8):Int:=if Op.bytesLess a b=true then -1 else if Op.bytesLess b a=true then 1 else 0
theorem N3 (a:Int):ae Tryz.prog 182 [.d (.int .i64 a)] [] (fun x r=>x= .d (.bool false)∧r= []):=by
 refine aj hT Tryz.func182 Tryz.call182 ?_;conv=>whnf
 refine .ret _ ?_;conv=>whnf
 refine⟨[],⟨?_,rfl⟩,trivial⟩;conv=>lhs;whnf
 simp
theorem NE (a:List UInt8):ae Tryz.prog 140 [.d (.str a)] [] (fun x r=>x= .d (.bool false)∧r= []):=by
 refine aj hT Tryz.func140 Tryz.call140 ?_;conv=>whnf
 refine .ret _ ?_;conv=>whnf
 refine⟨[],⟨?_,rfl⟩,trivial⟩;conv=>lhs;whnf
 simp
theorem Fo (a b:Int):ae Tryz.prog 124 [.d (.int .i64 a),.d (.int .i64 b)] [] (fun x r=>x= .d (.int .i64 (bJ a b))∧r= []):=by
 refine aj hT Tryz.func124 Tryz.call124 ?_;conv=>whnf
 repeat' (first|(refine ab (N3 _) rfl rfl ?_;rotate_right;conv=>whnf)|((first|refine aa ?_ ?_<;>intro hb<;>try simp only[am]at hb|omega|refine ao ?_|decide|assumption)<;>conv=>whnf))
 all_goals
  refine .ret _ ?_;conv=>whnf
  refine⟨[],⟨?_,rfl⟩,trivial⟩;conv=>lhs;whnf
  congr 2;unfold bJ;grind
theorem fY:∀ (a b:List UInt8),Op.bytesLess a b=false→a≠b→Op.bytesLess b a=true:=by
 intro a
 induction a with
 | nil=>intro b h hn;cases b with
   |nil=>exact absurd rfl hn
   |cons y ys=>simp[Op.bytesLess]at h
 | cons x xs ih=>
   intro b h hn
   cases b with
   |nil=>simp[Op.bytesLess]
   | cons y ys=>
     simp only[Op.bytesLess]at h ⊢;grind
theorem wP (a b:List UInt8):ae Tryz.prog 93 [.d (.str a),.d (.str b)] [] (fun x r=>x= .d (.int .i64 (dq a b))∧r= []):=by
 refine aj hT Tryz.func93 Tryz.call93 ?_;conv=>whnf
 repeat' (first|(refine ab (NE _) rfl rfl ?_;rotate_right;conv=>whnf)|((first|refine aa ?_ ?_<;>intro hb<;>try simp only[am]at hb|omega|refine ao ?_|decide|assumption)<;>conv=>whnf))
 all_goals
  refine .ret _ ?_;conv=>whnf
  refine⟨[],⟨?_,rfl⟩,trivial⟩;conv=>lhs;whnf
  congr 2;unfold dq;grind [fY]
theorem BW (l:List Int)(hl:l.length≤2^40):ae Tryz.prog 91 [.d (cz l)] [] (fun x r=>x= .d (.int .i64 (ah l))∧r= []):=by
 refine aj hT Tryz.func91 Tryz.call91 ?_;conv=>whnf
 refine af hT (C:= []) (ι:=Nat) (fun i=>i≤l.length∧ah l=ah (l.drop i)) (fun i=>aJ [(3,.d (.int .i64 0)),(6,.d (cz l)),(7,.d (.int .i64 l.length)),(8,.d (.int .i64 i))] []) (fun i=>l.length - i) 0 ⟨by omega,by simp⟩ (by exact a7 []) ?_;rintro i ⟨p1,p2⟩;have hd:i<l.length→l.drop i=l.getD i 0::l.drop (i+1):=fun hi=>by rw[List.drop_eq_getElem_cons hi,List.getD_eq_getElem?_getD,List.getElem?_eq_getElem hi];rfl
 conv=>whnf
 repeat' ((first|refine aa ?_ ?_<;>intro hb<;>try simp only[am]at hb|omega|refine ao ?_|decide|assumption)<;>conv=>whnf)
 · refine .ret _ ?_;conv=>whnf
   refine⟨[],⟨?_,rfl⟩,trivial⟩;conv=>lhs;whnf
   congr 2;rw[p2,hd (by omega),ah,if_neg hb,Int.toNat_natCast]
 · exact⟨i+1,⟨by omega,by rw[p2,hd (by omega),ah,if_pos hb]⟩,by omega,(by exact a7 [])⟩
 · refine .ret _ ?_;conv=>whnf
   refine⟨[],⟨?_,rfl⟩,trivial⟩;conv=>lhs;whnf
   congr 2;rw[p2,List.drop_eq_nil_iff.2 (by omega)];rfl
def gT (p:Nat→Bool):Nat→Int
 |0=> -1
 |n+1=>if gT p n= -1 then(if p n=true then n else -1)else gT p n
theorem dr {p:Nat→Bool}:∀ {n:Nat},(∀j,j<n→p j=false)→gT p n= -1:=by
 intro n
 induction n with
 |zero=>intro _;rfl
 |succ n ih=>intro h;rw[gT,if_pos (ih fun j hj=>h j (by omega)),h n (by omega)];rfl
theorem d5 {p:Nat→Bool}{n i:Nat}(hi:i<n)(h:∀j,j<i→p j=false)(h1:p i=true):gT p n=i:=by
 induction n with
 |zero=>omega
 | succ n ih=>
   rw[gT]
   by_cases q:i<n
   · rw[ih q,if_neg (by omega)]
   · have:i=n:=by omega
     subst this;rw[if_pos (dr h),if_pos h1]
theorem eB {p:Nat→Bool}:∀ {n:Nat},-1≤gT p n∧gT p n<n∧(0≤gT p n→p (gT p n).toNat=true):=by
 intro n
 induction n with
 |zero=>simp[gT]
 | succ n ih=>
   rw[gT];split
   · split
     · rename_i h;exact⟨by omega,by omega,fun _=>by simpa using h⟩
     · exact⟨by omega,by omega,fun h=>by omega⟩
   · exact⟨ih.1,by omega,ih.2.2⟩
theorem Ib (n:Int):ae Tryz.prog 117 [.d (.int .i64 n)] [] (fun x r=>x= .d (.bool (decide (0≤n∧n≤5761439)))∧r= []):=by
 refine aj hT Tryz.func117 Tryz.call117 ?_;conv=>whnf
 repeat' (first|(refine ab (jY _ _ _) rfl rfl ?_;rotate_right;conv=>whnf)|((first|refine aa ?_ ?_<;>intro hb<;>try simp only[am]at hb|omega|refine ao ?_|decide|assumption)<;>conv=>whnf))
 refine .ret _ ?_;conv=>whnf
 refine⟨[],⟨?_,rfl⟩,trivial⟩;conv=>lhs;whnf
theorem bu {l:List (List UInt8)}{u:List UInt8}(h:u ∈ l)(q:l.all (fun x=>decide (x.length≤8))=true):u.length≤8:=by
 have:=List.all_eq_true.1 q u h;exact of_decide_eq_true this
theorem Gd (n:Int):ae Tryz.prog 75 [.d (.int .i64 n)] [] (fun x r=>x= .d (.bool (decide (0≤n∧n≤5761439)))∧r= []):=by
 refine aj hT Tryz.func75 Tryz.call75 ?_;conv=>whnf
 repeat' (first|(refine ab (kf _ _ _) rfl rfl ?_;rotate_right;conv=>whnf)|((first|refine aa ?_ ?_<;>intro hb<;>try simp only[am]at hb|omega|refine ao ?_|decide|assumption)<;>conv=>whnf))
 refine .ret _ ?_;conv=>whnf
 refine⟨[],⟨?_,rfl⟩,trivial⟩;conv=>lhs;whnf
def oy:List UInt8:= [65,66,67,68,69,70,71,72,73,74,75,76,77,78,79,80,81,82,83,84,85,86,87,88,89,90,48,49,50,51,52,53,54,55,56,57]
theorem Bd (c:UInt8):oy.contains c=sP c:=by
 have:=yP (p:=fun c=>oy.contains c==sP c) (by decide+kernel) c;simpa using this
theorem Da (s:List UInt8):gE s=(decide (2≤(s.length:Int)∧(s.length:Int)≤10)&&jb s oy):=by
 have:s.all sP=jb s oy:=by
  unfold jb;congr 1;funext c;exact(Bd c).symm
 unfold gE;rw[this];cases jb s oy
 · simp
 · rw[Bool.eq_iff_iff];simp;omega
theorem MX (n:Int):ae Tryz.prog 64 [.d (.int .i64 n)] [] (fun x r=>x= .d (.int .i64 (bJ n 0))∧r= []):=by
 refine aj hT Tryz.func64 Tryz.call64 ?_;conv=>whnf
 repeat' ((first|refine aa ?_ ?_<;>intro hb<;>try simp only[am]at hb|omega|refine ao ?_|decide|assumption)<;>conv=>whnf)
 all_goals
  refine .ret _ ?_;conv=>whnf
  refine⟨[],⟨?_,rfl⟩,trivial⟩;conv=>lhs;whnf
  congr 2;unfold bJ;grind
def xh:List (List UInt8)→List (List UInt8)→Int
 | [],[]=>0
 | [],_::_=> -1
 |_::_,[]=>1
 |x::xs,y::ys=>if dq x y≠0 then dq x y else xh xs ys
theorem gu:aN []=false:=by decide
theorem iH (a:List UInt8):Op.bytesLess a []=false:=by cases a<;>rfl
def EI:TL:= [(1,[(0,[]),(1,[]),(3,[0,1]),(4,[0,1]),(8,[0,1,3,4]),(9,[0,1,3,4]),(2,[3,4,8,9]),(5,[8,9]),(6,[8,9]),(7,[8,9]),(10,[]),(11,[]),(12,[]),(13,[]),(14,[]),(15,[]),(16,[]),(17,[]),(18,[]),(19,[]),(20,[]),(21,[])])]
def Dn:TL:= [(2,[(0,[]),(1,[]),(5,[0,1]),(6,[0,1]),(2,[5,6]),(3,[5,6]),(4,[5,6]),(7,[]),(8,[]),(9,[]),(10,[])]),(16,[(0,[]),(1,[]),(2,[0,1]),(3,[]),(5,rg 4),(6,[0,1,2,3,5]),(7,[0,1,2,3,5]),(8,[0,1,2,3,5]),(9,[0,1,2,3,5]),(10,rg 4),(4,[5,6,7,8,9,10]),(11,[]),(12,[]),(13,[]),(14,[])]),(17,[(0,[]),(1,[]),(3,[0,1]),(4,[0,1]),(5,[0,1]),(6,[0,1,3,4,5]),(7,[0,1,3,4,5]),(8,[0,1,3,4,5]),(9,[0,1]),(2,[3,4,5,6,7,8,9]),(10,[]),(11,[]),(12,[]),(13,[])])]
def iC:TL:= [(1,[(0,[]),(1,[]),(11,[0,1]),(12,[0,1]),(2,[11,12]),(3,[11,12]),(4,[11,12]),(5,[11,12]),(6,[11,12]),(7,[11,12]),(8,[11,12]),(9,[11,12]),(10,[11,12]),(13,[]),(14,[]),(15,[]),(16,[])])]
structure ij where
 tm:Int
 st:List UInt8
 meter:Int
 fuel:Int
def EZ:ij→List DV:=fun r=> [.int .i64 r.tm,.str r.st,.int .i64 r.meter,.int .i64 r.fuel]
structure na where
 veh:List UInt8
 out:ij
 inn:ij
def Ly:na→List DV:=fun x=> [.str x.veh,.int .i64 x.out.tm,.str x.out.st,.int .i64 x.out.meter,.int .i64 x.out.fuel,.int .i64 x.inn.tm,.str x.inn.st,.int .i64 x.inn.meter,.int .i64 x.inn.fuel]
def Oq:ij:=⟨0,[],0,0⟩
def cr:na:=⟨[],Oq,Oq⟩
abbrev legs (l:List na):DV:=d6 9 Ly cr l
structure cq where
 key:List UInt8
 drv:List UInt8
 frm:Int
 to:Int
 legs:List na
def dS:cq→List DV:=fun h=> [.str h.key,.str h.drv,.int .i64 h.frm,.int .i64 h.to,Go.Proofs.YtafhoijegjmdcaaGreatDoor.legs h.legs]
def fq:cq:=⟨[],[],0,0,[]⟩
abbrev uS (l:List cq):DV:=d6 5 dS fq l
abbrev rf (h:cq):bh:=.cells 112 [.d (.str h.key),.d (.str h.drv),.d (.int .i64 h.frm),.d (.int .i64 h.to),.d (Go.Proofs.YtafhoijegjmdcaaGreatDoor.legs h.legs)]
def IW (x:na):Prop:=x.veh.length≤2^40∧x.out.st.length≤2^40∧x.inn.st.length≤2^40
def IL (h:cq):Prop:=h.key.length≤2^40∧h.drv.length≤2^40∧h.legs.length≤2^40∧∀x ∈ h.legs,IW x
def iy (r:ij):Int:=if ¬ (0≤r.tm∧r.tm≤5761439)then 1 else if aN r.st=false then 5 else if ¬ ((0≤r.meter∧r.meter≤999999)∧(0≤r.fuel∧r.fuel≤8))then 1 else 0
def iS (a b:Int):Int:=if a<0∨b≤a∨5761439<b then 1 else if 172800<b - a then 2 else 0
def iQ (h:cq)(i:Nat):Int:=
 if aN (h.legs.getD i cr).veh=false then 5
 else if iy (h.legs.getD i cr).out≠0 then iy (h.legs.getD i cr).out
 else if i=0∧(h.legs.getD i cr).out.tm≠h.frm then 7
 else if 0<i∧(h.legs.getD i cr).out.tm≠(h.legs.getD (i - 1) cr).inn.tm then 7
 else if 0<i∧(h.legs.getD i cr).veh=(h.legs.getD (i - 1) cr).veh then 16
 else if 0<i∧(h.legs.getD i cr).out.st≠(h.legs.getD (i - 1) cr).inn.st then 8
 else if(h.legs.getD i cr).inn.tm= -1 then(if ¬ ((h.legs.getD i cr).inn.st= []∧(h.legs.getD i cr).inn.meter=0∧(h.legs.getD i cr).inn.fuel=0)then 3 else if(i:Int)<(h.legs.length:Int) - 1 then 11 else 0)
 else if iy (h.legs.getD i cr).inn≠0 then iy (h.legs.getD i cr).inn
 else if(h.legs.getD i cr).inn.tm≤(h.legs.getD i cr).out.tm then 7 else 0
def aT (h:cq):Int:=
 if aN h.key=false∨aN h.drv=false then 5 else if iS h.frm h.to≠0 then iS h.frm h.to
 else if h.legs.length=0 then 3 else if 20<h.legs.length then 2 else a8 (iQ h) h.legs.length
theorem M8 (n:Int):ae Tryz.prog 338 [.d (.int .i64 n)] [] (fun x o=>x= .d (.int .i64 (if 0≤n∧n≤5761439 then 0 else 1))∧o= []):=by
 refine aj hT Tryz.func338 Tryz.call338 ?_;conv=>whnf
 repeat' (first|(refine ab (Ib _) rfl rfl ?_;rotate_right;conv=>whnf)|(refine ab (j9 _ _) rfl rfl ?_;rotate_right;conv=>whnf)|((first|refine aa ?_ ?_<;>intro hb<;>try simp only[am]at hb|omega|refine ao ?_|decide|assumption)<;>conv=>whnf))
 refine .ret _ ?_;conv=>whnf
 refine⟨[],⟨?_,rfl⟩,trivial⟩;conv=>lhs;whnf
 congr 2
 grind
theorem JW (r:ij)(h:r.st.length≤2^40):ae Tryz.prog 335 [.agg ((EZ r).map .d)] [] (fun x o=>x= .d (.int .i64 (iy r))∧o= []):=by
 refine aj hT Tryz.func335 Tryz.call335 ?_;conv=>whnf
 repeat' (first|(refine ab (M8 _) rfl rfl ?_;rotate_right;conv=>whnf)|(refine ab (kV _ h) rfl rfl ?_;rotate_right;conv=>whnf)|(refine ab (jY _ _ _) rfl rfl ?_;rotate_right;conv=>whnf)|(refine ab (j9 _ _) rfl rfl ?_;rotate_right;conv=>whnf)|((first|refine ap (kM [_,_,_] (by simp)) ⟨ai (by rfl) (by rfl),trivial⟩ rfl ?_|refine aa ?_ ?_<;>intro hb<;>try simp only[am]at hb|refine bg hT EI ?_|omega|refine ao ?_|decide|assumption)<;>conv=>whnf))
 all_goals
  refine .ret _ ?_;conv=>whnf
  refine⟨[],⟨?_,rfl⟩,trivial⟩;conv=>lhs;whnf
  congr 2
  unfold iy;simp only[ah];grind
def Ev (a b:Int):Int:=(b - a+1440 - 1).tdiv 1440
theorem DC {a b:Int}(h:a<b):120<Ev a b↔172800<b - a:=by
 unfold Ev;rw[Int.tdiv_eq_ediv_of_nonneg (by omega)];omega
theorem LV (a b:Int)(h:0≤a∧a<b∧b≤5761439):ae Tryz.prog 334 [.agg [.d (.int .i64 a),.d (.int .i64 b)]] [] (fun x o=>x= .d (.int .i64 (Ev a b))∧o= []):=by
 obtain⟨h1,h2,h3⟩:=h;have hd:bC ((b - a+1440 - 1).tdiv 1440):=by unfold bC;rw[Int.tdiv_eq_ediv_of_nonneg (by omega)];omega
 refine aj hT Tryz.func334 Tryz.call334 ?_;conv=>whnf
 repeat' ((first|refine And.intro hd ?_|refine aa ?_ ?_<;>intro hb<;>try simp only[am]at hb|omega|refine ao ?_|decide|assumption)<;>conv=>whnf)
 refine .ret _ ?_;conv=>whnf
 refine⟨[],⟨?_,rfl⟩,trivial⟩;conv=>lhs;whnf
 rfl
theorem Nf (a b:Int):ae Tryz.prog 324 [.agg [.d (.int .i64 a),.d (.int .i64 b)]] [] (fun x o=>x= .d (.int .i64 (iS a b))∧o= []):=by
 have hd:=DC (a:=a) (b:=b);refine aj hT Tryz.func324 Tryz.call324 ?_;conv=>whnf
 repeat' (first|(refine ab (LV a b ⟨by omega,by omega,by omega⟩) rfl rfl ?_;rotate_right;conv=>whnf)|(refine ab (j9 _ _) rfl rfl ?_;rotate_right;conv=>whnf)|((first|refine aa ?_ ?_<;>intro hb<;>try simp only[am]at hb|omega|refine ao ?_|decide|assumption)<;>conv=>whnf))
 all_goals
  refine .ret _ ?_;conv=>whnf
  refine⟨[],⟨?_,rfl⟩,trivial⟩;conv=>lhs;whnf
  congr 2
  unfold iS;grind
theorem Nr (h:cq)(hk:IL h)(i:Nat)(hi:i<h.legs.length):ae Tryz.prog 325 [.agg ((dS h).map .d),.d (.int .i64 i)] [] (fun x o=>x= .d (.int .i64 (iQ h i))∧o= []):=by
 have e1:=ek i;have hl:=hk.2.2.1;have hx:IW (h.legs.getD (i:Int).toNat cr):=hk.2.2.2 _ (al (by omega));refine aj hT Tryz.func325 Tryz.call325 ?_;conv=>whnf
 repeat' (first|(refine ab (kV _ hx.1) rfl rfl ?_;rotate_right;conv=>whnf)|(refine ab (JW (h.legs.getD (i:Int).toNat cr).out hx.2.1) rfl rfl ?_;rotate_right;conv=>whnf)|(refine ab (JW (h.legs.getD (i:Int).toNat cr).inn hx.2.2) rfl rfl ?_;rotate_right;conv=>whnf)|(refine ab (j9 _ _) rfl rfl ?_;rotate_right;conv=>whnf)|((first|refine ap (kM [_,_] (by simp)) ⟨ai (by rfl) (by rfl),trivial⟩ rfl ?_|refine aa ?_ ?_<;>intro hb<;>try simp only[am]at hb|refine bg hT Dn ?_|omega|refine ao ?_|decide|assumption)<;>conv=>whnf))
 all_goals
  refine .ret _ ?_;conv=>whnf
  refine⟨[],⟨?_,rfl⟩,trivial⟩;conv=>lhs;whnf
  congr 2
  clear hx hk;simp only[e1,aE,ah]at*;unfold iQ;grind
theorem nL {h:cq}(q:aN h.key=false∨aN h.drv=false):aT h=5:=by unfold aT;rw[if_pos q]
theorem tp {h:cq}(q1:aN h.key=true)(q2:aN h.drv=true)(q:iS h.frm h.to≠0):aT h=iS h.frm h.to:=by
 unfold aT;rw[if_neg (by rw[q1,q2];simp),if_pos q]
theorem tN {h:cq}(q1:aN h.key=true)(q2:aN h.drv=true)(q:iS h.frm h.to=0):aT h=if h.legs.length=0 then 3 else if 20<h.legs.length then 2 else a8 (iQ h) h.legs.length:=by
 unfold aT;rw[if_neg (by rw[q1,q2];simp),if_neg (by omega)]
theorem z210 (h:cq)(hk:IL h):ae Tryz.prog 308 [.agg ((dS h).map .d)] [] (fun x o=>x= .d (.int .i64 (aT h))∧o= []):=by
 have c1:=kV h.key hk.1;have c2:=kV h.drv hk.2.1;have c3:=Nf h.frm h.to;have hl:=hk.2.2.1;have c5:=kM [5,iS h.frm h.to] (by simp);rw[show ah [5,iS h.frm h.to]=5 from rfl]at c5;have c6:=kM [0,iS h.frm h.to] (by simp);rw[show ah [0,iS h.frm h.to]=iS h.frm h.to from by simp only[ah];grind]at c6
 cases q1:aN h.key with
 | false=>
   rw[nL (.inl q1)];rw[q1]at c1;generalize iS h.frm h.to=E at c3 c5 c6;refine aj hT Tryz.func308 Tryz.call308 ?_;conv=>whnf
   repeat' (first|(refine ab (c1) rfl rfl ?_;rotate_right;conv=>whnf)|(refine ab (c3) rfl rfl ?_;rotate_right;conv=>whnf)|(refine ab (j9 _ _) rfl rfl ?_;rotate_right;conv=>whnf)|((first|refine ap c5 ⟨ai (by rfl) (by rfl),trivial⟩ rfl ?_|refine aa ?_ ?_<;>intro hb<;>try simp only[am]at hb|refine bg hT iC ?_|omega|refine ao ?_|decide|assumption)<;>conv=>whnf))
   refine .ret _ ?_;conv=>whnf
   refine⟨[],⟨?_,rfl⟩,trivial⟩
   conv=>lhs;whnf
 |true=>
 rw[q1]at c1
 cases q2:aN h.drv with
 | false=>
   rw[nL (.inr q2)];rw[q2]at c2;generalize iS h.frm h.to=E at c3 c5 c6;refine aj hT Tryz.func308 Tryz.call308 ?_;conv=>whnf
   repeat' (first|(refine ab (c1) rfl rfl ?_;rotate_right;conv=>whnf)|(refine ab (c2) rfl rfl ?_;rotate_right;conv=>whnf)|(refine ab (c3) rfl rfl ?_;rotate_right;conv=>whnf)|(refine ab (j9 _ _) rfl rfl ?_;rotate_right;conv=>whnf)|((first|refine ap c5 ⟨ai (by rfl) (by rfl),trivial⟩ rfl ?_|refine aa ?_ ?_<;>intro hb<;>try simp only[am]at hb|refine bg hT iC ?_|omega|refine ao ?_|decide|assumption)<;>conv=>whnf))
   refine .ret _ ?_;conv=>whnf
   refine⟨[],⟨?_,rfl⟩,trivial⟩
   conv=>lhs;whnf
 |true=>
 rw[q2]at c2
 by_cases q3:iS h.frm h.to=0
 · have hE:=tN q1 q2 q3;rw[hE];clear hE;rw[q3]at c3 c6
   by_cases q4:h.legs.length=0
   · rw[if_pos q4];refine aj hT Tryz.func308 Tryz.call308 ?_;conv=>whnf
     repeat' (first|(refine ab (c1) rfl rfl ?_;rotate_right;conv=>whnf)|(refine ab (c2) rfl rfl ?_;rotate_right;conv=>whnf)|(refine ab (c3) rfl rfl ?_;rotate_right;conv=>whnf)|(refine ab (j9 _ _) rfl rfl ?_;rotate_right;conv=>whnf)|((first|refine ap c6 ⟨ai (by rfl) (by rfl),trivial⟩ rfl ?_|refine aa ?_ ?_<;>intro hb<;>try simp only[am]at hb|refine bg hT iC ?_|omega|refine ao ?_|decide|assumption)<;>conv=>whnf))
     all_goals first
      |(exfalso;omega)
      | (refine .ret _ ?_
         conv=>whnf
         refine⟨[],⟨?_,rfl⟩,trivial⟩;conv=>lhs;whnf
         all_goals rfl)
   by_cases q5:20<h.legs.length
   · rw[if_neg q4,if_pos q5];refine aj hT Tryz.func308 Tryz.call308 ?_;conv=>whnf
     repeat' (first|(refine ab (c1) rfl rfl ?_;rotate_right;conv=>whnf)|(refine ab (c2) rfl rfl ?_;rotate_right;conv=>whnf)|(refine ab (c3) rfl rfl ?_;rotate_right;conv=>whnf)|(refine ab (j9 _ _) rfl rfl ?_;rotate_right;conv=>whnf)|((first|refine ap c6 ⟨ai (by rfl) (by rfl),trivial⟩ rfl ?_|refine aa ?_ ?_<;>intro hb<;>try simp only[am]at hb|refine bg hT iC ?_|omega|refine ao ?_|decide|assumption)<;>conv=>whnf))
     all_goals first
      |(exfalso;omega)
      | (refine .ret _ ?_
         conv=>whnf
         refine⟨[],⟨?_,rfl⟩,trivial⟩;conv=>lhs;whnf
         all_goals rfl)
   obtain⟨F,hfin⟩:∃F:Int,F=a8 (iQ h) h.legs.length:=⟨_,rfl⟩;rw[if_neg q4,if_neg q5,←hfin];refine aj hT Tryz.func308 Tryz.call308 ?_;conv=>whnf
   repeat' (first|(refine ab (c1) rfl rfl ?_;rotate_right;conv=>whnf)|(refine ab (c2) rfl rfl ?_;rotate_right;conv=>whnf)|(refine ab (c3) rfl rfl ?_;rotate_right;conv=>whnf)|(refine ab (j9 _ _) rfl rfl ?_;rotate_right;conv=>whnf)|((first|refine ap c6 ⟨ai (by rfl) (by rfl),trivial⟩ rfl ?_|refine aa ?_ ?_<;>intro hb<;>try simp only[am]at hb|refine bg hT iC ?_|omega|refine ao ?_|decide|assumption)<;>conv=>whnf))
   all_goals first
    |(exfalso;omega)
    |skip
   refine af hT (C:= []) (ι:=Nat) (fun i=>i≤h.legs.length∧∀j,j<i→iQ h j=0) (fun i=>aJ [(1,.ptr 1 0),(37,.d (.int .i64 h.legs.length)),(38,.d (.int .i64 i))] [(1,rf h)]) (fun i=>h.legs.length - i) 0 ⟨by omega,by omega⟩ (by exact a7 [(1,1)]) ?_;rintro i ⟨p1,p2⟩;have e1:=ek i;conv=>whnf
   repeat' ((first|refine Fc (Nr h hk i (by omega)) ?_|refine aa ?_ ?_<;>intro hb<;>try simp only[am]at hb|refine bg hT iC ?_|omega|refine ao ?_|decide|assumption)<;>conv=>whnf)
   · refine .ret _ ?_;conv=>whnf
     refine⟨[],⟨?_,rfl⟩,trivial⟩;conv=>lhs;whnf
     congr 2
     rw[hfin];exact(aP (by omega) p2 (by simpa using hb) rfl).symm
   · exact⟨i+1,⟨by omega,aL p2 (by simpa using hb)⟩,by omega,(by exact a7 [(1,1)])⟩
   · refine .ret _ ?_;conv=>whnf
     refine⟨[],⟨?_,rfl⟩,trivial⟩;conv=>lhs;whnf
     congr 2
     have:i=h.legs.length:=by omega
     subst this;rw[hfin,ay p2]
 · rw[tp q1 q2 q3];generalize iS h.frm h.to=E at c3 q3 c5 c6;refine aj hT Tryz.func308 Tryz.call308 ?_;conv=>whnf
   repeat' (first|(refine ab (c1) rfl rfl ?_;rotate_right;conv=>whnf)|(refine ab (c2) rfl rfl ?_;rotate_right;conv=>whnf)|(refine ab (c3) rfl rfl ?_;rotate_right;conv=>whnf)|(refine ab (j9 _ _) rfl rfl ?_;rotate_right;conv=>whnf)|((first|refine ap c6 ⟨ai (by rfl) (by rfl),trivial⟩ rfl ?_|refine aa ?_ ?_<;>intro hb<;>try simp only[am]at hb|refine bg hT iC ?_|omega|refine ao ?_|decide|assumption)<;>conv=>whnf))
   all_goals first
    |(exfalso;omega)
    | (refine .ret _ ?_
       conv=>whnf
       refine⟨[],⟨?_,rfl⟩,trivial⟩;conv=>lhs;whnf
       all_goals rfl)
theorem eD {α:Type}{f:α→List DV}{d:α}{l:List α}{x y:α}{e k j1 j2:Nat}{ds1 ds2:List DV}(h1:∀z,bA (f z) 0 ds1=f x)(h2:∀z,bA (f z) 0 ds2=f y):
 bh.le (.buf e k l.length fun i=>bif Nat.beq i j2 then bA (bif Nat.beq i j1 then bA (aR f d l i) 0 ds1 else aR f d l i) 0 ds2 else bif Nat.beq i j1 then bA (aR f d l i) 0 ds1 else aR f d l i) (aD e k f d ((l.set j1 x).set j2 y)):=by
 refine cY (by simp) (fun k hk=> ?_);have e1:=oV (f:=f) (d:=d) (l:=l) (x:=x) (j:=j1) (off:=0) (ds:=ds1) (get:=aR f d l) (fun _ _=>rfl) (fun z _=>h1 z);have e2:=oV (f:=f) (d:=d) (l:=l.set j1 x) (x:=y) (j:=j2) (off:=0) (ds:=ds2) (get:=fun i=>bif Nat.beq i j1 then bA (aR f d l i) 0 ds1 else aR f d l i) (fun k hk=>e1 k (by simpa using hk)) (fun z _=>h2 z);exact e2 k (by simpa using hk)
theorem CI {l:List Int}{u:Int}(h:u ∈ l)(q:l.all (fun x=>decide (-2^40≤x∧x≤2^40))=true): -2^40≤u∧u≤2^40:=by
 have:=List.all_eq_true.1 q u h;exact of_decide_eq_true this
theorem s5 {α:Type}{f:α→List DV}{d:α}{l:List α}{k j off:Nat}{ds:List DV}(g:α→α)(hg:∀y,bA (f y) off ds=f (g y)):
 SV.le (.d (.ro k l.length fun i=>bif Nat.beq i j then bA (aR f d l i) off ds else aR f d l i)) (.d (d6 k f d (l.set j (g (l.getD j d))))):=
 qO fun y hy=>by rw[hg,List.getD_eq_getElem?_getD,hy];rfl
end Go.Proofs.YtafhoijegjmdcaaGreatDoor
namespace Go.Proofs
open Go.Shelf
end Go.Proofs
set_option maxRecDepth 20000
namespace Go.Proofs.YtafhoijegjmdcaaGreatDoor
open Go Go.Eng Go.RowKit
theorem vZ {α:Type}{f:α→List DV}{d:α}{l m:List α}{e k:Nat}:bh.le (.buf e k (l.length+m.length) (eK l.length (aR f d l) (aR f d m))) (aD e k f d (l++m)):=by
 refine cY (by simp) (fun i hi=> ?_)
 by_cases h:i<l.length
 · rw[eU h];simp only[aR];rw[List.getD_eq_getElem?_getD,List.getD_eq_getElem?_getD,List.getElem?_append_left h]
 · rw[dR (by omega)];simp only[aR];rw[List.getD_eq_getElem?_getD,List.getD_eq_getElem?_getD,List.getElem?_append_right (by omega)]
theorem Jz {a b:Ox}:a=b↔a.tm=b.tm∧a.gate=b.gate∧a.plate=b.plate∧a.cents=b.cents:=by cases a;cases b;simp
instance:DecidableEq Ox:=fun _ _=>decidable_of_iff _ Jz.symm
structure L7 where
 v:List UInt8
 fr:Int
 to:Int
def OV:L7:=⟨[],0,0⟩
structure M3 where
 v:List UInt8
 day:Int
def O6:M3:=⟨[],0⟩
def IZ (w:List L7)(l:List M3):Prop:=w.length=l.length∧∀i,i<w.length→(w.getD i OV).v=(l.getD i O6).v
instance (w:List L7)(l:List M3):Decidable (IZ w l):=inferInstanceAs (Decidable (_∧_))
theorem yh (n i:Nat):(List.replicate n (0:Int)).getD i 0=0:=by
 rw[List.getD_eq_getElem?_getD,List.getElem?_replicate];split<;>rfl
theorem rH {α:Type}{f:α→List DV}{d:α}{l:List α}{k j m:Nat}(hm:m=(l.drop j).length):SV.le (.d (.ro k m fun i=>aR f d l (j+i))) (.d (d6 k f d (l.drop j))):=
 cO hm (fun i hi=>by simp only[aR];rw[List.getD_eq_getElem?_getD,List.getD_eq_getElem?_getD,List.getElem?_drop])
theorem yo {α:Type}{f:α→List DV}{d:α}{l:List α}{e k j off:Nat}{ds:List DV}(g:α→α)(hg:∀y,bA (f y) off ds=f (g y)):
 bh.le (.buf e k l.length fun i=>bif Nat.beq i j then bA (aR f d l i) off ds else aR f d l i) (aD e k f d (l.set j (g (l.getD j d)))):=
 jg fun y hy=>by rw[hg,List.getD_eq_getElem?_getD,hy];rfl
def dA {α:Type}(K:α→Prop)(k:Nat)(l:List α):Prop:=l.length≤k∧∀x ∈ l,K x
theorem dk {α:Type}{K:α→Prop}{l:List α}{k m:Nat}{x:α}(h:dA K k l)(hm:k+1≤m)(hx:K x):dA K m (l++ [x]):=by
 refine⟨by rw[List.length_append];have:=h.1;simp;omega,fun p hp=> ?_⟩;rcases List.mem_append.1 hp with q|q
 · exact h.2 p q
 · simp at q;subst q;exact hx
theorem bo {α:Type}{K:α→Prop}{l:List α}{k m:Nat}(h:dA K k l)(hm:k≤m):dA K m l:=⟨by have:=h.1;omega,h.2⟩
theorem fd {α:Type}{K:α→Prop}{l:List α}{k j:Nat}{d:α}{g:α→α}(h:dA K k l)(hg:∀y,K y→K (g y)):dA K k (l.set j (g (l.getD j d))):=by
 refine⟨by rw[List.length_set];exact h.1,fun p hp=> ?_⟩
 by_cases hj:j<l.length
 · rcases List.mem_or_eq_of_mem_set hp with q|q
   · exact h.2 p q
   · subst q;exact hg _ (h.2 _ (al hj))
 · rw[List.set_eq_of_length_le (by omega)]at hp;exact h.2 p hp
theorem eg {α:Type}{f:α→List DV}{d:α}{l:List α}{j off:Nat}{ds:List DV}{get:Nat→List DV}(hg:∀i,i<l.length→get i=aR f d l i)(g:α→α)(h:∀y,bA (f y) off ds=f (g y)):
 ∀i,i<(l.set j (g (l.getD j d))).length→(bif Nat.beq i j then bA (get i) off ds else get i)=aR f d (l.set j (g (l.getD j d))) i:=by
 rw[List.length_set];exact oV hg (fun y hy=>by rw[h,List.getD_eq_getElem?_getD,hy];rfl)
abbrev kO {α:Type}(l:List α)(j:Nat)(d:α)(g:α→α):List α:=l.set j (g (l.getD j d))
theorem x5 {α:Type}{f:α→List DV}{d:α}{l:List α}{k j1 j2 o1 o2:Nat}{ds1 ds2:List DV}(g1 g2:α→α)(h1:∀y,bA (f y) o1 ds1=f (g1 y))(h2:∀y,bA (f y) o2 ds2=f (g2 y)):
 SV.le (.d (.ro k l.length fun i=>bif Nat.beq i j2 then bA (bif Nat.beq i j1 then bA (aR f d l i) o1 ds1 else aR f d l i) o2 ds2 else(bif Nat.beq i j1 then bA (aR f d l i) o1 ds1 else aR f d l i)))
  (.d (d6 k f d (kO (kO l j1 d g1) j2 d g2))):=
 cO (by simp) (fun i hi=>eg (eg (fun _ _=>rfl) g1 h1) g2 h2 i (by simpa using hi))
structure EU where
 a:List UInt8
 b:List UInt8
 car:Int
 ride:Int
def MJ:EU:=⟨[],[],0,0⟩
structure Hf where
 a:List UInt8
 b:List UInt8
 many:Int
def Oy:Hf:=⟨[],[],0⟩
structure iE where
 frm:Int
 veh:List UInt8
 plt:List UInt8
deriving DecidableEq
structure O8 where
 veh:List UInt8
 frm:Int
 til:Int
def Kl (L:List iE)(p:List UInt8):Option iE:=L.find? fun e=>decide (e.plt=p)
structure HS where
 live:List iE
 out:List UInt8→List O8
def wY (s:HS)(p:List UInt8)(t:Int):HS:=
 match Kl s.live p with
 |none=>s
 |some e=>⟨s.live.filter fun e=> !decide (e.plt=p),fun q=>if q=p∧e.frm<t then s.out q++ [⟨e.veh,e.frm,t⟩]else s.out q⟩
def Lj (L:List iE)(v:List UInt8):Option iE:=L.find? fun e=>decide (e.veh=v)
def KS (s:HS)(x:iE):HS:=match Lj s.live x.veh with|none=>s|some e=>wY s e.plt x.frm
def zZ (s:HS)(x:iE):HS:=⟨(wY (KS s x) x.plt x.frm).live++ [x],(wY (KS s x) x.plt x.frm).out⟩
def kT:HS:=⟨[],fun _=> []⟩
def eM (l:List iE):HS:=l.foldl zZ kT
theorem be {l m:List SV}(h:nM l m):SV.le (.agg l) (.agg m):=by
 obtain⟨h1,h2⟩:=i6 h;intro G β v hv
 cases hv with|agg _ vs hl hd=>
 refine .agg _ _ (hl.trans h1) (fun i y v hy hv=> ?_);have hi:i<l.length:=by rw[h1];exact(List.getElem?_eq_some_iff.1 hy).1
 exact h2 i _ y (List.getElem?_eq_getElem hi) hy G β v (hd i _ v (List.getElem?_eq_getElem hi) hv)
def uw:List SV→List SV→Prop
 | [],[]=>True
 |x::l,y::m=>SV.le x y∧uw l m
 |_,_=>False
theorem pE:∀ {l m:List SV},uw l m→l.length=m.length∧∀ (i:Nat) x y,l[i]? =some x→m[i]? =some y→SV.le x y:=by
 intro l
 induction l with
 | nil=>
   intro m h
   cases m with
   |nil=>exact⟨rfl,by simp⟩
   |cons y m=>exact h.elim
 | cons x l ih=>
   intro m h
   cases m with
   |nil=>exact h.elim
   | cons y m=>
     obtain⟨h1,h2⟩:=h;obtain⟨i1,i2⟩:=ih h2;refine⟨by simp[i1],fun i a b ha hb=> ?_⟩
     cases i with
     |zero=>simp at ha hb;subst ha;subst hb;exact h1
     |succ i=>exact i2 i a b (by simpa using ha) (by simpa using hb)
theorem mw {e:TypeId}{l m:List SV}(h:uw l m):bh.le (.cells e l) (.cells e m):=
 nQ (pE h).1 (pE h).2
theorem pu {α:Type}{l m:List α}{i:Nat}{z:α}(h:i<l.length):(l++m).getD i z=l.getD i z:=by
 rw[List.getD_eq_getElem?_getD,List.getD_eq_getElem?_getD,List.getElem?_append_left h]
abbrev Av (v:List UInt8):bh:=.cells 9 [.d (.str v)]
def r8:ij:=⟨-1,[],0,0⟩
def ct (l:List na)(r:ij):List na:=l.set ((l.length:Int) - 1).toNat {l.getD ((l.length:Int) - 1).toNat cr with inn:=r}
theorem cU (l:List na)(r:ij):(ct l r).length=l.length:=by simp[ct]
theorem oO {α:Type}{f:α→List DV}{d x y:α}{l:List α}{e k j off:Nat}{ds:List DV}{h:Nat→List DV}(hj:∀z,l[j]? =some z→bA (f z) off ds=f x)(hx:h 0=f y):
 bh.le (.buf e k (l.length+1) (eK l.length (fun i=>bif Nat.beq i j then bA (aR f d l i) off ds else aR f d l i) h)) (aD e k f d (l.set j x++ [y])):=by
 refine cY (by simp) (fun i hi=> ?_);have h1:=jL (f:=f) (d:=d) (l:=l) (x:=x) (j:=j) (off:=off) (ds:=ds) hj;rcases Nat.lt_or_ge i l.length with q|q
 · rw[eU q,h1 i q];simp only[aR];rw[pu (by simpa using q)]
 · have:i=l.length:=by omega
   subst this;rw[dR (Nat.le_refl _),Nat.sub_self,hx];simp only[aR];congr 1
   rw[List.getD_eq_getElem?_getD,List.getElem?_append_right (by simp)];simp
theorem lM {l:List na}{r:ij}:∀z,l[((l.length:Int) - 1).toNat]? =some z→bA (Ly z) 5 [.int .i64 r.tm,.str r.st,.int .i64 r.meter,.int .i64 r.fuel]=Ly {l.getD ((l.length:Int) - 1).toNat cr with inn:=r}:=fun z hz=>by
 rw[List.getD_eq_getElem?_getD,hz];rfl
def dG (key drv:List UInt8)(a b:Int)(v:List UInt8)(o:ij):cq:=⟨key,drv,a,b,[⟨v,o,r8⟩]⟩
theorem LB {l:List Int}{x:Int}(h:x ∈ l)(hl:(l.all fun y=>decide (0≤y)&&decide (y≤3000))=true):0≤x∧x≤3000:=by
 have:=List.all_eq_true.1 hl x h;simpa using this
end Go.Proofs.YtafhoijegjmdcaaGreatDoor
