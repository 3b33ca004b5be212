/- TopTollsOnce is proved: for every input the law returns true, and its argument reads afterwards as it read before. Conditions: those of the given row alone. -/
import Derived.Shelf.LaysM
import Derived.Shelf.LaysC
import Derived.Shelf.Strconv.Itoa3
import Derived.Shelf.Strconv.AtoiAll
import Derived.Shelf.Strings.Prefix
import Derived.Shelf.Strings.Split
import Derived.Test.YtjibpcoeghlnoaaGreatDoorProg
import Derived.Test.YtjibpcoeghlnoaaGreatDoorTtEngTwo
import Derived.Below
import Derived.Lib.SplitLaws
import Derived.Shelf.Strings.SlTrimAscii
set_option linter.unusedVariables false
set_option linter.unusedSimpArgs false
namespace Go.Proofs
open Go.Shelf
def Tryz.laysM171_ren:Go.Shelf.Ren:=⟨fun|171=>105|243=>140|246=>182|283=>208|284=>209|285=>210|286=>211|129=>170|317=>229|318=>230|319=>231|320=>232|337=>246|338=>247|n=>n,fun|3=>3|9=>9|2=>2|4=>4|171=>310|0=>0|53=>275|37=>312|5=>5|173=>313|212=>338|51=>273|20=>20|213=>339|46=>216|232=>358|233=>359|n=>n,fun|17=>1|18=>2|19=>3|n=>n⟩
theorem Tryz.laysM171:Go.Proofs.LaysM.n171 Tryz.prog Tryz.laysM171_ren:={
 mixed:=by kernel_rfl
 f129:=Tryz.func170.trans (congrArg some (by kernel_rfl))
 f171:=Tryz.func105.trans (congrArg some (by kernel_rfl))
 f243:=Tryz.func140.trans (congrArg some (by kernel_rfl))
 f246:=Tryz.func182.trans (congrArg some (by kernel_rfl))
 f283:=Tryz.func208.trans (congrArg some (by kernel_rfl))
 f284:=Tryz.func209.trans (congrArg some (by kernel_rfl))
 f285:=Tryz.func210.trans (congrArg some (by kernel_rfl))
 f286:=Tryz.func211.trans (congrArg some (by kernel_rfl))
 f317:=Tryz.func229.trans (congrArg some (by kernel_rfl))
 f318:=Tryz.func230.trans (congrArg some (by kernel_rfl))
 f319:=Tryz.func231.trans (congrArg some (by kernel_rfl))
 f320:=Tryz.func232.trans (congrArg some (by kernel_rfl))
 f337:=Tryz.func246.trans (congrArg some (by kernel_rfl))
 f338:=Tryz.func247.trans (congrArg some (by kernel_rfl))
 t0:=Tryz.underlying0
 a0:=Tryz.isAgg0
 z0:=Tryz.sizeOf0
 v0:=Tryz.zeroValue0
 t2:=Tryz.underlying2
 a2:=Tryz.isAgg2
 z2:=Tryz.sizeOf2
 v2:=Tryz.zeroValue2
 t3:=Tryz.underlying3
 a3:=Tryz.isAgg3
 z3:=Tryz.sizeOf3
 v3:=Tryz.zeroValue3
 t4:=Tryz.underlying4
 a4:=Tryz.isAgg4
 z4:=Tryz.sizeOf4
 v4:=Tryz.zeroValue4
 t5:=Tryz.underlying5
 a5:=Tryz.isAgg5
 z5:=Tryz.sizeOf5
 v5:=Tryz.zeroValue5
 t9:=Tryz.underlying9
 a9:=Tryz.isAgg9
 z9:=Tryz.sizeOf9
 v9:=Tryz.zeroValue9
 t20:=Tryz.underlying20
 a20:=Tryz.isAgg20
 z20:=Tryz.sizeOf20
 v20:=Tryz.zeroValue20
 t37:=Tryz.underlying312
 a37:=Tryz.isAgg312
 z37:=Tryz.sizeOf312
 v37:=Tryz.zeroValue312
 t46:=Tryz.underlying216
 a46:=Tryz.isAgg216
 z46:=Tryz.sizeOf216
 v46:=Tryz.zeroValue216
 t51:=Tryz.underlying273
 a51:=Tryz.isAgg273
 z51:=Tryz.sizeOf273
 v51:=Tryz.zeroValue273
 t53:=Tryz.underlying275
 a53:=Tryz.isAgg275
 z53:=Tryz.sizeOf275
 v53:=Tryz.zeroValue275
 t171:=Tryz.underlying310
 a171:=Tryz.isAgg310
 z171:=Tryz.sizeOf310
 v171:=Tryz.zeroValue310
 t173:=Tryz.underlying313
 a173:=Tryz.isAgg313
 z173:=Tryz.sizeOf313
 v173:=Tryz.zeroValue313
 t212:=Tryz.underlying338
 a212:=Tryz.isAgg338
 z212:=Tryz.sizeOf338
 v212:=Tryz.zeroValue338
 t213:=Tryz.underlying339
 a213:=Tryz.isAgg339
 z213:=Tryz.sizeOf339
 t232:=Tryz.underlying358
 a232:=Tryz.isAgg358
 z232:=Tryz.sizeOf358
 v232:=Tryz.zeroValue358
 t233:=Tryz.underlying359
 a233:=Tryz.isAgg359
 z233:=Tryz.sizeOf359
 v233:=Tryz.zeroValue359
 g17:=by kernel_rfl
 g18:=by kernel_rfl
 g19:=by kernel_rfl
 i0:=by kernel_rfl
 i2:=by kernel_rfl
 i3:=by kernel_rfl
 i4:=by kernel_rfl
 i5:=by kernel_rfl
 i9:=by kernel_rfl
 i20:=by kernel_rfl
 i37:=by kernel_rfl
 i46:=by kernel_rfl
 i51:=by kernel_rfl
 i53:=by kernel_rfl
 i171:=by kernel_rfl
 i173:=by kernel_rfl
 i212:=by kernel_rfl
 i232:=by kernel_rfl
 i233:=by kernel_rfl
 m17:=by kernel_rfl
 m18:=by kernel_rfl
 m19:=by kernel_rfl}
def Tryz.laysC172_ren:Go.Shelf.Ren:=⟨fun|172=>221|244=>238|245=>239|247=>254|279=>255|280=>256|281=>257|282=>258|287=>269|316=>270|171=>105|205=>271|321=>274|322=>275|243=>140|246=>182|283=>208|284=>209|285=>210|286=>211|129=>170|317=>229|318=>230|319=>231|320=>232|337=>246|338=>247|n=>n,fun|9=>9|3=>3|75=>324|76=>325|4=>4|5=>5|167=>351|37=>312|0=>0|85=>352|2=>2|168=>354|53=>275|175=>367|46=>216|210=>371|127=>374|145=>377|143=>375|21=>21|171=>310|173=>313|212=>338|51=>273|20=>20|213=>339|232=>358|233=>359|80=>380|n=>n,fun|15=>6|16=>7|17=>1|18=>2|19=>3|n=>n⟩
theorem Tryz.laysC172:Go.Proofs.LaysC.n172 Tryz.prog Tryz.laysC172_ren:={
 mixed:=by kernel_rfl
 f129:=Tryz.func170.trans (congrArg some (by kernel_rfl))
 f171:=Tryz.func105.trans (congrArg some (by kernel_rfl))
 f172:=Tryz.func221.trans (congrArg some (by kernel_rfl))
 f205:=Tryz.func271.trans (congrArg some (by kernel_rfl))
 f243:=Tryz.func140.trans (congrArg some (by kernel_rfl))
 f244:=Tryz.func238.trans (congrArg some (by kernel_rfl))
 f245:=Tryz.func239.trans (congrArg some (by kernel_rfl))
 f246:=Tryz.func182.trans (congrArg some (by kernel_rfl))
 f247:=Tryz.func254.trans (congrArg some (by kernel_rfl))
 f279:=Tryz.func255.trans (congrArg some (by kernel_rfl))
 f280:=Tryz.func256.trans (congrArg some (by kernel_rfl))
 f281:=Tryz.func257.trans (congrArg some (by kernel_rfl))
 f282:=Tryz.func258.trans (congrArg some (by kernel_rfl))
 f283:=Tryz.func208.trans (congrArg some (by kernel_rfl))
 f284:=Tryz.func209.trans (congrArg some (by kernel_rfl))
 f285:=Tryz.func210.trans (congrArg some (by kernel_rfl))
 f286:=Tryz.func211.trans (congrArg some (by kernel_rfl))
 f287:=Tryz.func269.trans (congrArg some (by kernel_rfl))
 f316:=Tryz.func270.trans (congrArg some (by kernel_rfl))
 f317:=Tryz.func229.trans (congrArg some (by kernel_rfl))
 f318:=Tryz.func230.trans (congrArg some (by kernel_rfl))
 f319:=Tryz.func231.trans (congrArg some (by kernel_rfl))
 f320:=Tryz.func232.trans (congrArg some (by kernel_rfl))
 f321:=Tryz.func274.trans (congrArg some (by kernel_rfl))
 f322:=Tryz.func275.trans (congrArg some (by kernel_rfl))
 f337:=Tryz.func246.trans (congrArg some (by kernel_rfl))
 f338:=Tryz.func247.trans (congrArg some (by kernel_rfl))
 t0:=Tryz.underlying0
 a0:=Tryz.isAgg0
 z0:=Tryz.sizeOf0
 v0:=Tryz.zeroValue0
 t2:=Tryz.underlying2
 a2:=Tryz.isAgg2
 z2:=Tryz.sizeOf2
 v2:=Tryz.zeroValue2
 t3:=Tryz.underlying3
 a3:=Tryz.isAgg3
 z3:=Tryz.sizeOf3
 v3:=Tryz.zeroValue3
 t4:=Tryz.underlying4
 a4:=Tryz.isAgg4
 z4:=Tryz.sizeOf4
 v4:=Tryz.zeroValue4
 t5:=Tryz.underlying5
 a5:=Tryz.isAgg5
 z5:=Tryz.sizeOf5
 v5:=Tryz.zeroValue5
 t9:=Tryz.underlying9
 a9:=Tryz.isAgg9
 z9:=Tryz.sizeOf9
 v9:=Tryz.zeroValue9
 t20:=Tryz.underlying20
 a20:=Tryz.isAgg20
 z20:=Tryz.sizeOf20
 v20:=Tryz.zeroValue20
 t21:=Tryz.underlying21
 a21:=Tryz.isAgg21
 z21:=Tryz.sizeOf21
 v21:=Tryz.zeroValue21
 t37:=Tryz.underlying312
 a37:=Tryz.isAgg312
 z37:=Tryz.sizeOf312
 v37:=Tryz.zeroValue312
 t46:=Tryz.underlying216
 a46:=Tryz.isAgg216
 z46:=Tryz.sizeOf216
 v46:=Tryz.zeroValue216
 t51:=Tryz.underlying273
 a51:=Tryz.isAgg273
 z51:=Tryz.sizeOf273
 v51:=Tryz.zeroValue273
 t53:=Tryz.underlying275
 a53:=Tryz.isAgg275
 z53:=Tryz.sizeOf275
 v53:=Tryz.zeroValue275
 t75:=Tryz.underlying324
 a75:=Tryz.isAgg324
 z75:=Tryz.sizeOf324
 v75:=Tryz.zeroValue324
 t76:=Tryz.underlying325
 a76:=Tryz.isAgg325
 z76:=Tryz.sizeOf325
 v76:=Tryz.zeroValue325
 t85:=Tryz.underlying352
 a85:=Tryz.isAgg352
 z85:=Tryz.sizeOf352
 v85:=Tryz.zeroValue352
 t127:=Tryz.underlying374
 a127:=Tryz.isAgg374
 z127:=Tryz.sizeOf374
 v127:=Tryz.zeroValue374
 t143:=Tryz.underlying375
 a143:=Tryz.isAgg375
 z143:=Tryz.sizeOf375
 v143:=Tryz.zeroValue375
 t145:=Tryz.underlying377
 a145:=Tryz.isAgg377
 z145:=Tryz.sizeOf377
 v145:=Tryz.zeroValue377
 t167:=Tryz.underlying351
 a167:=Tryz.isAgg351
 z167:=Tryz.sizeOf351
 v167:=Tryz.zeroValue351
 t168:=Tryz.underlying354
 a168:=Tryz.isAgg354
 z168:=Tryz.sizeOf354
 v168:=Tryz.zeroValue354
 t171:=Tryz.underlying310
 a171:=Tryz.isAgg310
 z171:=Tryz.sizeOf310
 v171:=Tryz.zeroValue310
 t173:=Tryz.underlying313
 a173:=Tryz.isAgg313
 z173:=Tryz.sizeOf313
 v173:=Tryz.zeroValue313
 t175:=Tryz.underlying367
 a175:=Tryz.isAgg367
 z175:=Tryz.sizeOf367
 v175:=Tryz.zeroValue367
 t210:=Tryz.underlying371
 a210:=Tryz.isAgg371
 z210:=Tryz.sizeOf371
 v210:=Tryz.zeroValue371
 t212:=Tryz.underlying338
 a212:=Tryz.isAgg338
 z212:=Tryz.sizeOf338
 v212:=Tryz.zeroValue338
 t213:=Tryz.underlying339
 a213:=Tryz.isAgg339
 z213:=Tryz.sizeOf339
 t232:=Tryz.underlying358
 a232:=Tryz.isAgg358
 z232:=Tryz.sizeOf358
 v232:=Tryz.zeroValue358
 t233:=Tryz.underlying359
 a233:=Tryz.isAgg359
 z233:=Tryz.sizeOf359
 v233:=Tryz.zeroValue359
 g15:=by kernel_rfl
 g16:=by kernel_rfl
 g17:=by kernel_rfl
 g18:=by kernel_rfl
 g19:=by kernel_rfl
 t80:=Tryz.underlying380
 a80:=Tryz.isAgg380
 z80:=Tryz.sizeOf380
 v80:=Tryz.zeroValue380
 i0:=by kernel_rfl
 i2:=by kernel_rfl
 i3:=by kernel_rfl
 i4:=by kernel_rfl
 i5:=by kernel_rfl
 i9:=by kernel_rfl
 i20:=by kernel_rfl
 i21:=by kernel_rfl
 i37:=by kernel_rfl
 i46:=by kernel_rfl
 i51:=by kernel_rfl
 i53:=by kernel_rfl
 i75:=by kernel_rfl
 i76:=by kernel_rfl
 i80:=by kernel_rfl
 i85:=by kernel_rfl
 i127:=by kernel_rfl
 i143:=by kernel_rfl
 i145:=by kernel_rfl
 i167:=by kernel_rfl
 i168:=by kernel_rfl
 i171:=by kernel_rfl
 i173:=by kernel_rfl
 i175:=by kernel_rfl
 i210:=by kernel_rfl
 i212:=by kernel_rfl
 i232:=by kernel_rfl
 i233:=by kernel_rfl
 m15:=by kernel_rfl
 m16:=by kernel_rfl
 m17:=by kernel_rfl
 m18:=by kernel_rfl
 m19:=by kernel_rfl
 c0:=by kernel_rfl
 c2:=by kernel_rfl
 c3:=by kernel_rfl
 c4:=by kernel_rfl
 c5:=by kernel_rfl
 c9:=by kernel_rfl
 c20:=by kernel_rfl
 c21:=by kernel_rfl
 c37:=by kernel_rfl
 c46:=by kernel_rfl
 c51:=by kernel_rfl
 c53:=by kernel_rfl
 c75:=by kernel_rfl
 c76:=by kernel_rfl
 c80:=by kernel_rfl
 c85:=by kernel_rfl
 c127:=by kernel_rfl
 c143:=by kernel_rfl
 c145:=by kernel_rfl
 c167:=by kernel_rfl
 c168:=by kernel_rfl
 c171:=by kernel_rfl
 c173:=by kernel_rfl
 c175:=by kernel_rfl
 c210:=by kernel_rfl
 c212:=by kernel_rfl
 c213:=by kernel_rfl
 c232:=by kernel_rfl
 c233:=by kernel_rfl}
def Tryz.laysM146_ren:Go.Shelf.Ren:=⟨fun|146=>220|221=>237|268=>251|138=>252|143=>253|195=>266|197=>234|218=>267|219=>268|260=>248|217=>272|225=>265|224=>264|267=>273|266=>276|314=>277|n=>n,fun|9=>9|31=>91|3=>3|4=>4|0=>0|105=>341|21=>21|5=>5|46=>216|119=>360|139=>363|138=>362|146=>378|51=>273|n=>n,fun|1=>0|3=>4|4=>5|n=>n⟩
theorem Tryz.laysM146:Go.Proofs.LaysM.n146 Tryz.prog Tryz.laysM146_ren:={
 mixed:=by kernel_rfl
 f138:=Tryz.func252.trans (congrArg some (by kernel_rfl))
 f143:=Tryz.func253.trans (congrArg some (by kernel_rfl))
 f146:=Tryz.func220.trans (congrArg some (by kernel_rfl))
 f195:=Tryz.func266.trans (congrArg some (by kernel_rfl))
 f197:=Tryz.func234.trans (congrArg some (by kernel_rfl))
 f217:=Tryz.func272.trans (congrArg some (by kernel_rfl))
 f218:=Tryz.func267.trans (congrArg some (by kernel_rfl))
 f219:=Tryz.func268.trans (congrArg some (by kernel_rfl))
 f221:=Tryz.func237.trans (congrArg some (by kernel_rfl))
 f224:=Tryz.func264.trans (congrArg some (by kernel_rfl))
 f225:=Tryz.func265.trans (congrArg some (by kernel_rfl))
 f260:=Tryz.func248.trans (congrArg some (by kernel_rfl))
 f266:=Tryz.func276.trans (congrArg some (by kernel_rfl))
 f267:=Tryz.func273.trans (congrArg some (by kernel_rfl))
 f268:=Tryz.func251.trans (congrArg some (by kernel_rfl))
 f314:=Tryz.func277.trans (congrArg some (by kernel_rfl))
 t0:=Tryz.underlying0
 a0:=Tryz.isAgg0
 z0:=Tryz.sizeOf0
 v0:=Tryz.zeroValue0
 t3:=Tryz.underlying3
 a3:=Tryz.isAgg3
 z3:=Tryz.sizeOf3
 v3:=Tryz.zeroValue3
 t4:=Tryz.underlying4
 a4:=Tryz.isAgg4
 z4:=Tryz.sizeOf4
 v4:=Tryz.zeroValue4
 t5:=Tryz.underlying5
 a5:=Tryz.isAgg5
 z5:=Tryz.sizeOf5
 v5:=Tryz.zeroValue5
 t9:=Tryz.underlying9
 a9:=Tryz.isAgg9
 z9:=Tryz.sizeOf9
 v9:=Tryz.zeroValue9
 t21:=Tryz.underlying21
 a21:=Tryz.isAgg21
 z21:=Tryz.sizeOf21
 v21:=Tryz.zeroValue21
 t31:=Tryz.underlying91
 a31:=Tryz.isAgg91
 z31:=Tryz.sizeOf91
 v31:=Tryz.zeroValue91
 t46:=Tryz.underlying216
 a46:=Tryz.isAgg216
 z46:=Tryz.sizeOf216
 v46:=Tryz.zeroValue216
 t51:=Tryz.underlying273
 a51:=Tryz.isAgg273
 z51:=Tryz.sizeOf273
 v51:=Tryz.zeroValue273
 t105:=Tryz.underlying341
 a105:=Tryz.isAgg341
 z105:=Tryz.sizeOf341
 v105:=Tryz.zeroValue341
 t119:=Tryz.underlying360
 a119:=Tryz.isAgg360
 z119:=Tryz.sizeOf360
 t138:=Tryz.underlying362
 a138:=Tryz.isAgg362
 z138:=Tryz.sizeOf362
 v138:=Tryz.zeroValue362
 t139:=Tryz.underlying363
 a139:=Tryz.isAgg363
 z139:=Tryz.sizeOf363
 v139:=Tryz.zeroValue363
 t146:=Tryz.underlying378
 a146:=Tryz.isAgg378
 z146:=Tryz.sizeOf378
 v146:=Tryz.zeroValue378
 g1:=by kernel_rfl
 g3:=by kernel_rfl
 g4:=by kernel_rfl
 i0:=by kernel_rfl
 i3:=by kernel_rfl
 i4:=by kernel_rfl
 i5:=by kernel_rfl
 i9:=by kernel_rfl
 i21:=by kernel_rfl
 i31:=by kernel_rfl
 i46:=by kernel_rfl
 i51:=by kernel_rfl
 i105:=by kernel_rfl
 i138:=by kernel_rfl
 i139:=by kernel_rfl
 i146:=by kernel_rfl
 m1:=by kernel_rfl
 s1_3:=fun w h=>Go.Proofs.cell_of_shapedOpen_int (zero:=#[.int .i64 0]) (t:=3) h (of_decide_eq_true (by kernel_rfl)) (by kernel_rfl) rfl (by kernel_rfl) (by kernel_rfl) Tryz.underlying3
 m3:=by kernel_rfl
 m4:=by kernel_rfl}
def Tryz.lays146_ren:Go.Shelf.Ren:=⟨fun|146=>220|221=>237|268=>251|138=>252|143=>253|195=>266|197=>234|218=>267|219=>268|260=>248|217=>272|225=>265|224=>264|267=>273|266=>276|314=>277|n=>n,fun|9=>9|31=>91|3=>3|4=>4|0=>0|105=>341|21=>21|5=>5|46=>216|119=>360|139=>363|138=>362|146=>378|51=>273|n=>n,fun|1=>0|3=>4|4=>5|n=>n⟩
theorem Tryz.lays146:Go.Proofs.Lays.n146 Tryz.prog Tryz.lays146_ren:={
 mixed:=by kernel_rfl
 f138:=Tryz.func252.trans (congrArg some (by kernel_rfl))
 f143:=Tryz.func253.trans (congrArg some (by kernel_rfl))
 f146:=Tryz.func220.trans (congrArg some (by kernel_rfl))
 f195:=Tryz.func266.trans (congrArg some (by kernel_rfl))
 f197:=Tryz.func234.trans (congrArg some (by kernel_rfl))
 f217:=Tryz.func272.trans (congrArg some (by kernel_rfl))
 f218:=Tryz.func267.trans (congrArg some (by kernel_rfl))
 f219:=Tryz.func268.trans (congrArg some (by kernel_rfl))
 f221:=Tryz.func237.trans (congrArg some (by kernel_rfl))
 f224:=Tryz.func264.trans (congrArg some (by kernel_rfl))
 f225:=Tryz.func265.trans (congrArg some (by kernel_rfl))
 f260:=Tryz.func248.trans (congrArg some (by kernel_rfl))
 f266:=Tryz.func276.trans (congrArg some (by kernel_rfl))
 f267:=Tryz.func273.trans (congrArg some (by kernel_rfl))
 f268:=Tryz.func251.trans (congrArg some (by kernel_rfl))
 f314:=Tryz.func277.trans (congrArg some (by kernel_rfl))
 t0:=Tryz.underlying0
 a0:=Tryz.isAgg0
 z0:=Tryz.sizeOf0
 v0:=Tryz.zeroValue0
 t3:=Tryz.underlying3
 a3:=Tryz.isAgg3
 z3:=Tryz.sizeOf3
 v3:=Tryz.zeroValue3
 t4:=Tryz.underlying4
 a4:=Tryz.isAgg4
 z4:=Tryz.sizeOf4
 v4:=Tryz.zeroValue4
 t5:=Tryz.underlying5
 a5:=Tryz.isAgg5
 z5:=Tryz.sizeOf5
 v5:=Tryz.zeroValue5
 t9:=Tryz.underlying9
 a9:=Tryz.isAgg9
 z9:=Tryz.sizeOf9
 v9:=Tryz.zeroValue9
 t21:=Tryz.underlying21
 a21:=Tryz.isAgg21
 z21:=Tryz.sizeOf21
 v21:=Tryz.zeroValue21
 t31:=Tryz.underlying91
 a31:=Tryz.isAgg91
 z31:=Tryz.sizeOf91
 v31:=Tryz.zeroValue91
 t46:=Tryz.underlying216
 a46:=Tryz.isAgg216
 z46:=Tryz.sizeOf216
 v46:=Tryz.zeroValue216
 t51:=Tryz.underlying273
 a51:=Tryz.isAgg273
 z51:=Tryz.sizeOf273
 v51:=Tryz.zeroValue273
 t105:=Tryz.underlying341
 a105:=Tryz.isAgg341
 z105:=Tryz.sizeOf341
 v105:=Tryz.zeroValue341
 t119:=Tryz.underlying360
 a119:=Tryz.isAgg360
 z119:=Tryz.sizeOf360
 t138:=Tryz.underlying362
 a138:=Tryz.isAgg362
 z138:=Tryz.sizeOf362
 v138:=Tryz.zeroValue362
 t139:=Tryz.underlying363
 a139:=Tryz.isAgg363
 z139:=Tryz.sizeOf363
 v139:=Tryz.zeroValue363
 t146:=Tryz.underlying378
 a146:=Tryz.isAgg378
 z146:=Tryz.sizeOf378
 v146:=Tryz.zeroValue378
 g1:=by kernel_rfl
 g3:=by kernel_rfl
 g4:=by kernel_rfl}
def Tryz.lays101_ren:Go.Shelf.Ren:=⟨fun|101=>222|208=>240|206=>259|n=>n,fun|9=>9|4=>4|3=>3|n=>n,fun|n=>n⟩
theorem Tryz.lays101:Go.Proofs.Lays.n101 Tryz.prog Tryz.lays101_ren:={
 mixed:=by kernel_rfl
 f101:=Tryz.func222.trans (congrArg some (by kernel_rfl))
 f206:=Tryz.func259.trans (congrArg some (by kernel_rfl))
 f208:=Tryz.func240.trans (congrArg some (by kernel_rfl))
 t3:=Tryz.underlying3
 a3:=Tryz.isAgg3
 z3:=Tryz.sizeOf3
 v3:=Tryz.zeroValue3
 t4:=Tryz.underlying4
 a4:=Tryz.isAgg4
 z4:=Tryz.sizeOf4
 v4:=Tryz.zeroValue4
 t9:=Tryz.underlying9
 a9:=Tryz.isAgg9
 z9:=Tryz.sizeOf9
 v9:=Tryz.zeroValue9}
def Tryz.lays190_ren:Go.Shelf.Ren:=⟨fun|190=>76|125=>122|258=>121|128=>169|129=>170|302=>160|303=>161|304=>162|305=>163|306=>164|307=>165|308=>166|309=>167|310=>168|333=>198|329=>199|330=>200|334=>201|335=>202|336=>159|344=>228|n=>n,fun|31=>91|9=>9|3=>3|46=>216|0=>0|51=>273|53=>275|4=>4|183=>267|182=>266|131=>182|5=>5|218=>301|222=>305|228=>334|229=>335|n=>n,fun|n=>n⟩
theorem Tryz.lays190:Go.Proofs.Lays.n190 Tryz.prog Tryz.lays190_ren:={
 mixed:=by kernel_rfl
 f125:=Tryz.func122.trans (congrArg some (by kernel_rfl))
 f128:=Tryz.func169.trans (congrArg some (by kernel_rfl))
 f129:=Tryz.func170.trans (congrArg some (by kernel_rfl))
 f190:=Tryz.func76.trans (congrArg some (by kernel_rfl))
 f258:=Tryz.func121.trans (congrArg some (by kernel_rfl))
 f302:=Tryz.func160.trans (congrArg some (by kernel_rfl))
 f303:=Tryz.func161.trans (congrArg some (by kernel_rfl))
 f304:=Tryz.func162.trans (congrArg some (by kernel_rfl))
 f305:=Tryz.func163.trans (congrArg some (by kernel_rfl))
 f306:=Tryz.func164.trans (congrArg some (by kernel_rfl))
 f307:=Tryz.func165.trans (congrArg some (by kernel_rfl))
 f308:=Tryz.func166.trans (congrArg some (by kernel_rfl))
 f309:=Tryz.func167.trans (congrArg some (by kernel_rfl))
 f310:=Tryz.func168.trans (congrArg some (by kernel_rfl))
 f329:=Tryz.func199.trans (congrArg some (by kernel_rfl))
 f330:=Tryz.func200.trans (congrArg some (by kernel_rfl))
 f333:=Tryz.func198.trans (congrArg some (by kernel_rfl))
 f334:=Tryz.func201.trans (congrArg some (by kernel_rfl))
 f335:=Tryz.func202.trans (congrArg some (by kernel_rfl))
 f336:=Tryz.func159.trans (congrArg some (by kernel_rfl))
 f344:=Tryz.func228.trans (congrArg some (by kernel_rfl))
 t0:=Tryz.underlying0
 a0:=Tryz.isAgg0
 z0:=Tryz.sizeOf0
 v0:=Tryz.zeroValue0
 t3:=Tryz.underlying3
 a3:=Tryz.isAgg3
 z3:=Tryz.sizeOf3
 v3:=Tryz.zeroValue3
 t4:=Tryz.underlying4
 a4:=Tryz.isAgg4
 z4:=Tryz.sizeOf4
 v4:=Tryz.zeroValue4
 t5:=Tryz.underlying5
 a5:=Tryz.isAgg5
 z5:=Tryz.sizeOf5
 v5:=Tryz.zeroValue5
 t9:=Tryz.underlying9
 a9:=Tryz.isAgg9
 z9:=Tryz.sizeOf9
 v9:=Tryz.zeroValue9
 t31:=Tryz.underlying91
 a31:=Tryz.isAgg91
 z31:=Tryz.sizeOf91
 v31:=Tryz.zeroValue91
 t46:=Tryz.underlying216
 a46:=Tryz.isAgg216
 z46:=Tryz.sizeOf216
 v46:=Tryz.zeroValue216
 t51:=Tryz.underlying273
 a51:=Tryz.isAgg273
 z51:=Tryz.sizeOf273
 v51:=Tryz.zeroValue273
 t53:=Tryz.underlying275
 a53:=Tryz.isAgg275
 z53:=Tryz.sizeOf275
 v53:=Tryz.zeroValue275
 t131:=Tryz.underlying182
 a131:=Tryz.isAgg182
 z131:=Tryz.sizeOf182
 v131:=Tryz.zeroValue182
 t182:=Tryz.underlying266
 a182:=Tryz.isAgg266
 z182:=Tryz.sizeOf266
 v182:=Tryz.zeroValue266
 t183:=Tryz.underlying267
 a183:=Tryz.isAgg267
 z183:=Tryz.sizeOf267
 v183:=Tryz.zeroValue267
 t218:=Tryz.underlying301
 a218:=Tryz.isAgg301
 z218:=Tryz.sizeOf301
 v218:=Tryz.zeroValue301
 t222:=Tryz.underlying305
 a222:=Tryz.isAgg305
 z222:=Tryz.sizeOf305
 v222:=Tryz.zeroValue305
 t228:=Tryz.underlying334
 a228:=Tryz.isAgg334
 z228:=Tryz.sizeOf334
 v228:=Tryz.zeroValue334
 t229:=Tryz.underlying335
 a229:=Tryz.isAgg335
 z229:=Tryz.sizeOf335
 v229:=Tryz.zeroValue335}
end Go.Proofs
set_option maxRecDepth 20000
namespace Go.Proofs.YtjibpcoeghlnoaaGreatDoor
open Go Go.Eng
def oKCoA25_4:OL:= [(0,[]),(1,[]),(2,[]),(3,[]),(4,[]),(5,rg 5),(6,rg 5),(7,rg 5),(8,rg 5),(9,rg 5),(10,[]),(11,[])]
def oKCoA25_5:OL:= [(0,[]),(1,[]),(2,[]),(3,[]),(4,[]),(5,rg 5),(6,rg 5),(7,rg 5),(8,rg 5),(9,rg 5),(10,[]),(11,[])]
def eqTab:List Nat:= [164,207,212,260,149,332,75,151,66,70,54,139,181,236]
theorem eqTab_ok:eqTab.all (eqFits Tryz.prog)=true:=by decide+kernel
noncomputable def T:Tab:=tiOf Tryz.prog (mem eqTab)
theorem hT:TabOk Tryz.prog T:=⟨mem eqTab,fun _ _ h=>h,fun t ht=>List.all_eq_true.1 eqTab_ok t ((mem_iff _ _).1 ht)⟩
abbrev i64 (n:Int):DV:=.int .i64 n
def strm (n:Nat)(L:Nat→Int)(at':Int):Res:=.cells 25 [.d (.ro 1 n fun i=> [.int .i64 (L i)]),.d (.int .i64 at')]
def Rok (n:Nat)(L:Nat→Int):Prop:=n≤maxLen∧∀i,-2^63≤L i∧L i<2^63
theorem s148 (x n:Int)(hn:n≤2^40):FSpec Tryz.prog 72 [.d (.int .i64 x),.d (.int .i64 n)] [] (fun y r=>(∃m:Int,0≤m∧(1≤n→m<n)∧(n<1→m=0)∧y= .d (.int .i64 m))∧r= []):=by
 refine spec_of hT (C:= []) Tryz.func72 rfl Tryz.call72 rfl rfl rfl ?_;conv=>whnf
 refine br_intro (fun h=> ?_) (fun h=> ?_)
 · conv=>whnf
   refine .ret _ ?_;conv=>whnf
   refine⟨[],⟨⟨_,?_,?_,?_,rfl⟩,rfl⟩,trivial⟩;all_goals (simp at h;omega)
 · conv=>whnf
   refine⟨?_,?_⟩
   · simp at h;omega
   conv=>whnf
   simp at h;have h1:=Int.tmod_lt_of_pos x (b:=n) (by omega);have h2:=Int.lt_tmod_of_pos x (b:=n) (by omega);refine br_intro (fun h2=> ?_) (fun h2=> ?_)
   · conv=>whnf
     simp at h2;refine⟨?_,?_⟩
     · unfold inI64;omega
     · conv=>whnf
       refine .ret _ ?_;conv=>whnf
       refine⟨[],⟨⟨_,?_,?_,?_,rfl⟩,rfl⟩,trivial⟩;all_goals omega
   · conv=>whnf
     simp at h2;refine .ret _ ?_;conv=>whnf
     refine⟨[],⟨⟨_,?_,?_,?_,rfl⟩,rfl⟩,trivial⟩;all_goals omega
theorem nextB {a n:Int}(h0:0≤a)(hn:1≤n):0≤a.tdiv n∧a.tdiv n≤a∧0≤a.tmod n∧a.tmod n<n∧0≤a.tdiv n*a.tmod n∧a.tdiv n*a.tmod n≤a∧a.tmod n≤a:=by
 have h1:0≤a.tdiv n:=Int.tdiv_nonneg h0 (by omega);have h2:0≤a.tmod n:=Int.tmod_nonneg _ h0;have h3:a.tmod n<n:=Int.tmod_lt_of_pos _ (by omega);have h4:=Int.tmod_add_mul_tdiv a n;have h5:a.tdiv n*1≤a.tdiv n*n:=Int.mul_le_mul_of_nonneg_left hn h1;have h6:a.tdiv n*a.tmod n≤a.tdiv n*n:=Int.mul_le_mul_of_nonneg_left (by omega) h1;have h7:0≤a.tdiv n*a.tmod n:=Int.mul_nonneg h1 h2;rw[Int.mul_comm]at h4;have h8:0≤a.tdiv n*n:=Int.mul_nonneg h1 (by omega);refine⟨h1,?_,h2,h3,h7,?_,?_⟩<;>omega
theorem s86 (n:Nat)(L:Nat→Int)(hL:Rok n L)(a:Int)(h0:0≤a)(ha:a≤2^40)(m:Int)(hm:m≤2^40):
 FSpec Tryz.prog 25 [.ptr 1000000 0,.d (.int .i64 m)] [(1000000,strm n L a)] (fun y r=>(∃j:Int,0≤j∧(1≤m→j<m)∧(m<1→j=0)∧y= .d (.int .i64 j))∧r= [(1000000,strm n L (a+1))]):=by
 refine spec_of hT (C:= []) Tryz.func25 rfl Tryz.call25 rfl rfl rfl ?_;conv=>whnf
 refine⟨by unfold inI64;omega,?_⟩;conv=>whnf
 refine br_intro (fun h=> ?_) (fun h=> ?_)
 · conv=>whnf
   refine⟨by unfold inI64;omega,?_⟩;conv=>whnf
   refine CallX.of (s148 _ _ hm) [] rfl ⟨lr,lr,trivial⟩ trivial rfl rfl ?_;rintro x rout ⟨⟨j,j1,j2,j3,rfl⟩,rfl⟩;refine⟨rfl,?_⟩;conv=>whnf
   refine .ret _ ?_;conv=>whnf
   exact⟨[(1000000,strm n L (a+1))],⟨⟨_,j1,j2,j3,rfl⟩,rfl⟩,rr,trivial⟩
 · conv=>whnf
   simp at h;have hnp:(1:Int)≤n:=by omega
   refine RegX.rule hT rfl [] oKCoA25_4 (by decide+kernel) ?_;conv=>whnf
   refine⟨by unfold inI64;omega,?_⟩;conv=>whnf
   refine⟨by omega,?_⟩;conv=>whnf
   have ea:a+1 - 1=a:=by omega
   obtain⟨b1,b2,b3,b4,b5,b6,b7⟩:=nextB h0 hnp;refine RegX.rule hT rfl [] oKCoA25_5 (by decide+kernel) ?_;conv=>whnf
   refine⟨by unfold inI64;omega,?_⟩;conv=>whnf
   refine⟨by omega,?_⟩;conv=>whnf
   refine⟨by unfold inI64;rw[ea];omega,?_⟩;conv=>whnf
   rw[ea];refine⟨⟨b3,b4⟩,?_⟩;conv=>whnf
   refine CallX.of (s148 _ _ (by omega)) [] rfl ⟨lr,lr,trivial⟩ trivial rfl rfl ?_;rintro x rout ⟨⟨j,j1,j2,j3,rfl⟩,rfl⟩;refine⟨rfl,?_⟩;conv=>whnf
   refine⟨by unfold inI64;omega,?_⟩;conv=>whnf
   have e2:a.tdiv n*(7919+a.tmod n)=7919*a.tdiv n+a.tdiv n*a.tmod n:=by rw[Int.mul_add,Int.mul_comm _ 7919]
   rw[e2];refine⟨by unfold inI64;omega,?_⟩;conv=>whnf
   refine⟨by unfold inI64;omega,?_⟩;conv=>whnf
   refine CallX.of (s148 _ _ hm) [] rfl ⟨lr,lr,trivial⟩ trivial rfl rfl ?_;rintro x rout ⟨⟨j,k1,k2,k3,rfl⟩,rfl⟩;refine⟨rfl,?_⟩;conv=>whnf
   refine .ret _ ?_;conv=>whnf
   exact⟨[(1000000,strm n L (a+1))],⟨⟨_,k1,k2,k3,rfl⟩,rfl⟩,rr,trivial⟩
def Moved (n:Nat)(L:Nat→Int)(a:Int)(c:Int)(r:List (Nat×Res)):Prop:=∃b,a≤b∧b≤a+c∧r= [(1000000,strm n L b)]
theorem s64 (n:Nat)(L:Nat→Int)(hL:Rok n L)(a:Int)(h0:0≤a)(ha:a≤2^40)(lo hi:Int)(h1: -2^41≤lo)(h2:hi≤lo+2^40 - 1)(h3:lo≤2^41)(h4:lo≤hi):
 FSpec Tryz.prog 6 [.ptr 1000000 0,.d (.int .i64 lo),.d (.int .i64 hi)] [(1000000,strm n L a)] (fun y r=>(∃j:Int,lo≤j∧j≤hi∧y= .d (.int .i64 j))∧Moved n L a 1 r):=by
 refine spec_of hT (C:= []) Tryz.func6 rfl Tryz.call6 rfl rfl rfl ?_;conv=>whnf
 refine br_intro (fun h=> ?_) (fun h=> ?_)
 · simp at h;omega
 conv=>whnf
 refine⟨by unfold inI64;omega,?_⟩;conv=>whnf
 refine⟨by unfold inI64;omega,?_⟩;conv=>whnf
 refine CallX.of (s86 n L hL a h0 ha _ (by omega)) [(1000000,1000000)] rfl ⟨lr,lr,trivial⟩ ⟨rr,trivial⟩ rfl rfl ?_;rintro x rout ⟨⟨j,k1,k2,k3,rfl⟩,rfl⟩;refine⟨rfl,?_⟩;conv=>whnf
 refine⟨by unfold inI64;omega,?_⟩;conv=>whnf
 refine .ret _ ?_;conv=>whnf
 exact⟨[(1000000,strm n L (a+1))],⟨⟨_,by omega,by omega,rfl⟩,a+1,by omega,by omega,rfl⟩,rr,trivial⟩
theorem s84 (n:Nat)(L:Nat→Int)(hL:Rok n L)(a:Int)(h0:0≤a)(ha:a≤2^40)(m:Int)(hm:m≤2^40):
 FSpec Tryz.prog 33 [.ptr 1000000 0,.d (.int .i64 m)] [(1000000,strm n L a)] (fun y r=>(∃b:Bool,y= .d (.bool b))∧Moved n L a 1 r):=by
 refine spec_of hT (C:= []) Tryz.func33 rfl Tryz.call33 rfl rfl rfl ?_;conv=>whnf
 refine CallX.of (s86 n L hL a h0 ha _ (by omega)) [(1000000,1000000)] rfl ⟨lr,lr,trivial⟩ ⟨rr,trivial⟩ rfl rfl ?_;rintro x rout ⟨⟨j,k1,k2,k3,rfl⟩,rfl⟩;refine⟨rfl,?_⟩;conv=>whnf
 refine .ret _ ?_;conv=>whnf
 exact⟨[(1000000,strm n L (a+1))],⟨⟨_,rfl⟩,a+1,by omega,by omega,rfl⟩,rr,trivial⟩
theorem s33 (n:Nat)(L:Nat→Int)(hL:Rok n L)(a:Int)(h0:0≤a)(ha:a≤2^40)(l:List Int)(hl:1≤l.length)(hl2:l.length≤2^40):
 FSpec Tryz.prog 28 [.ptr 1000000 0,.d (ints l)] [(1000000,strm n L a)] (fun y r=>(∃x ∈ l,y= .d (.int .i64 x))∧Moved n L a 1 r):=by
 refine spec_of hT (C:= []) Tryz.func28 rfl Tryz.call28 rfl rfl rfl ?_;conv=>whnf
 refine oAx (s86 n L hL a h0 ha l.length (by omega)) [(1000000,1000000)] ?_;rintro x rout ⟨⟨j,k1,k2,k3,rfl⟩,rfl⟩;refine⟨rfl,?_⟩;conv=>whnf
 refine⟨⟨k1,by omega⟩,?_⟩;conv=>whnf
 refine .ret _ ?_;conv=>whnf
 exact⟨[(1000000,strm n L (a+1))],⟨⟨_,getD_mem (by omega),rfl⟩,a+1,by omega,by omega,rfl⟩,rr,trivial⟩
theorem s15 (n:Nat)(L:Nat→Int)(hL:Rok n L)(a:Int)(h0:0≤a)(ha:a≤2^40)(l:List (List UInt8))(hl:1≤l.length)(hl2:l.length≤2^40):
 FSpec Tryz.prog 20 [.ptr 1000000 0,.d (strs l)] [(1000000,strm n L a)] (fun y r=>(∃x ∈ l,y= .d (.str x))∧Moved n L a 1 r):=by
 refine spec_of hT (C:= []) Tryz.func20 rfl Tryz.call20 rfl rfl rfl ?_;conv=>whnf
 refine oAx (s86 n L hL a h0 ha l.length (by omega)) [(1000000,1000000)] ?_;rintro x rout ⟨⟨j,k1,k2,k3,rfl⟩,rfl⟩;refine⟨rfl,?_⟩;conv=>whnf
 refine⟨⟨k1,by omega⟩,?_⟩;conv=>whnf
 refine .ret _ ?_;conv=>whnf
 exact⟨[(1000000,strm n L (a+1))],⟨⟨_,getD_mem (by omega),rfl⟩,a+1,by omega,by omega,rfl⟩,rr,trivial⟩
theorem Moved.trans {n:Nat}{L:Nat→Int}{a c:Int}{r:List (Nat×Res)}{b d:Int}(h1:a≤b)(h2:b+d≤a+c)(h:Moved n L b d r):Moved n L a c r:=by
 obtain⟨e,q1,q2,rfl⟩:=h;exact⟨e,by omega,by omega,rfl⟩
theorem s104 (n:Nat)(L:Nat→Int)(hL:Rok n L)(a:Int)(h0:0≤a)(ha:a≤2^39)(lo hi:Int)(h1: -2^38≤lo)(h2:lo≤hi)(h3:hi≤2^39):
 FSpec Tryz.prog 34 [.ptr 1000000 0,.d (.int .i64 lo),.d (.int .i64 hi)] [(1000000,strm n L a)] (fun y r=>(∃j:Int,-2^40≤j∧j≤2^40∧y= .d (.int .i64 j))∧Moved n L a 2 r):=by
 refine spec_of hT (C:= []) Tryz.func34 rfl Tryz.call34 rfl rfl rfl ?_;conv=>whnf
 refine oAx (s84 n L hL a h0 (by omega) 12 (by omega)) [(1000000,1000000)] ?_;rintro x rout ⟨⟨f,rfl⟩,⟨b,b1,b2,rfl⟩⟩;refine⟨rfl,?_⟩;conv=>whnf
 refine br_intro (fun hf=> ?_) (fun hf=> ?_)
 · conv=>whnf
   refine⟨by unfold inI64;omega,?_⟩;conv=>whnf
   refine⟨by unfold inI64;omega,?_⟩;conv=>whnf
   refine CallX.of (s33 n L hL b (by omega) (by omega) [lo - 1,hi+1,lo,hi,-1099511627776,1099511627776] (by simp) (by simp)) [(1000000,1000000)] rfl ⟨lr,SV.le_lit (by rfl) (by rfl),trivial⟩ ⟨rr,trivial⟩ rfl rfl ?_;rintro x rout ⟨⟨j,hj,rfl⟩,⟨c,c1,c2,rfl⟩⟩;refine⟨rfl,?_⟩;conv=>whnf
   refine .ret _ ?_;conv=>whnf
   exact⟨[(1000000,strm n L c)],⟨⟨j,by simp at hj;omega,by simp at hj;omega,rfl⟩,c,by omega,by omega,rfl⟩,rr,trivial⟩
 · conv=>whnf
   refine oAx (s64 n L hL b (by omega) (by omega) lo hi (by omega) (by omega) (by omega) h2) [(1000000,1000000)] ?_;rintro x rout ⟨⟨j,j1,j2,rfl⟩,⟨c,c1,c2,rfl⟩⟩;refine⟨rfl,?_⟩;conv=>whnf
   refine .ret _ ?_;conv=>whnf
   exact⟨[(1000000,strm n L c)],⟨⟨j,by omega,by omega,rfl⟩,c,by omega,by omega,rfl⟩,rr,trivial⟩
end Go.Proofs.YtjibpcoeghlnoaaGreatDoor
namespace Go.Eng
open Go
theorem RowIn.fro {G G':Hp}{w:World}{e k n:Nat}{v:Value}{get:Nat→List DV}(h:RowIn G w e k v n get)(hle:G.le G')(hg:∀b o,blk v=some b→w.heap[b]? =some o→G' b=some o):DV.Den G' (.ro k n get) v:=by
 obtain⟨xs,hown,hlen,hden⟩:=h;rcases hown.2 with⟨rfl,rfl⟩|⟨g,cap,cur,rfl,_,hh,hnc,hcm,hcs,htake⟩
 · exact .ronil _ _
 · refine .ro k n get _ cap (fun i j=>xs.getD (i*k+j) Go.undef) rfl hnc hcm hlen ?_ ?_
   · intro i j x hi hx;obtain⟨u,hu,_⟩:=hden i j x hi hx
     have hlt:i*k+j<n*k:=by
      have:=(List.getElem?_eq_some_iff.1 hx).1;rw[hlen i hi]at this
      calc i*k+j<i*k+k:=by omega
       _=(i+1)*k:=by rw[Nat.add_mul,Nat.one_mul]
       _≤n*k:=Nat.mul_le_mul_right _ hi
     refine⟨cur,e,(0,0),?_,?_,?_⟩
     · rw[Addr.add_block];exact hg g _ rfl hh
     · exact Addr.add_spot _ rfl _
     · rw[Addr.add_lit];simp only[Nat.zero_add];rw[←htake,List.getElem?_take_of_lt hlt]at hu;rw[←Array.getElem?_toList,hu];rw[←htake,List.getD_eq_getElem?_getD,List.getElem?_take_of_lt hlt,hu];rfl
   · intro i j x hi hx;obtain⟨u,hu,hdu⟩:=hden i j x hi hx;simp only[List.getD_eq_getElem?_getD,hu,Option.getD_some];exact hdu.mono hle
theorem app_res (s:St)(d:Nat)(r:Res)(x:Nat):(s.app ⟨none,.any,[(d,some r)],[]⟩).res x=if x=d then some r else s.res x:=by
 simp only[St.app,putR_apply,lookR]
 by_cases e:x=d
 · subst e;simp
 · rw[nbeq_ne e];simp[e]
theorem Entails.toR {s:St}(d e k:Nat){kk:KK}{zr:List DV}{val:List DV→List DV}(hd:s.res d=some (.map false false [kk] zr (fun _=>false) val))(hk:0<k):
 Entails s (s.app ⟨none,.any,[(d,some (.mapR kk e k (fun _=>false) (fun _=>0) (fun _ _=> []) none))],[]⟩):=by
 refine⟨fun A a w=> ?_⟩;rintro⟨h0,G,β,h⟩;refine⟨h0,G,β,?_⟩;obtain⟨r,es,clock,l,hb,hh,hl,hw,hI,hf⟩:=h.rs _ _ hd
 have hnil:l= []:=by
  cases l with
  |nil=>rfl
  | cons p l=>
    have h1:=find_self hI hw (p:=p) (by simp);have h2:=hf p.1 (hw p (by simp));rw[h1]at h2;cases h2.1
 subst hnil;refine h.changeG hd rfl hb rfl rfl rfl rfl (fun _ _=>rfl) (fun b hx=> ?_) ⟨r,es,clock,[],hb,hh,hl,hw,hI,hk,fun key hk' =>⟨rfl,rfl⟩,⟨fun i j p q b e1=>by simp at e1,fun p hp=>by cases hp⟩,fun p hp=>by cases hp⟩;rcases hx with q|⟨hq,q1,q2⟩
 · exact .of q
 · cases q1;obtain⟨p,hp,_⟩:=(entry_blk hh hl hw (fun _ h=>by cases h)).1 q2;cases hp
theorem Entails.froR {s:St}(d:Nat){kk:KK}{e k:Nat}{has:List DV→Bool}{len:List DV→Nat}{get:List DV→Nat→List DV}(hd:s.res d=some (.mapR kk e k has len get none)):
 Entails s (s.app ⟨none,.any,[(d,some (.map false false [kk] [.nilsl] has (fun q=>bif has q then [.ro k (len q) (get q)]else [.nilsl])))],[]⟩):=by
 refine⟨fun A a w=> ?_⟩;rintro⟨h0,G,β,h⟩;obtain⟨r,es,clock,l,hb,hh,hl,hw,hI,hk0,hR,hA,_⟩:=h.rs _ _ hd;have hent:∀p ∈ l,∀b,blk p.2=some b→Blks w (.mapR kk e k has len get none) (.map (some r)) b:=fun p hp b hpb=>.inr ⟨.hole none,rfl,(entry_blk hh hl hw (fun _ h=>by cases h)).2 ⟨p,hp,by simp,hpb⟩⟩
 have hdec:∀b,Decidable (∃p ∈ l,blk p.2=some b):=fun _=>Classical.propDecidable _
 let G':Hp:=fun b=>if ∃p ∈ l,blk p.2=some b then w.heap[b]? else G b
 have hG1:∀b,(∃p ∈ l,blk p.2=some b)→G' b=w.heap[b]? :=fun b hx=>by simp only[G'];rw[if_pos hx]
 have hG2:∀b,(¬ ∃p ∈ l,blk p.2=some b)→G' b=G b:=fun b hx=>by simp only[G'];rw[if_neg hx]
 have hle:G.le G':=by
  intro b o hg;rw[hG2 b]
  · exact hg
  · rintro⟨p,hp,hpb⟩;rw[(h.og d _ _ b hd rfl hb (hent p hp b hpb)).1]at hg;cases hg
 refine⟨h0,G',β,h.sz,fun b o e=>hle _ _ (h.g0 b o e),h.e0,fun b o hg=> ?_,fun b o hg=> ?_,h.keep,fun i=>(h.tm i).mono hle (Env.le_refl β),fun x r' hx=> ?_,fun x x' r1 r2 v1 v2 b e1 e2 o1 o2 f1 f2 b1 b2=> ?_,fun x r1 v1 b hx ho1 hv1 hb1=> ?_,h.sc⟩
 · by_cases q:∃p ∈ l,blk p.2=some b
   · rw[hG1 b q]at hg;exact hg
   · rw[hG2 b q]at hg;exact h.gw _ _ hg
 · by_cases q:∃p ∈ l,blk p.2=some b
   · obtain⟨p,hp,hpb⟩:=q;exact .inr (h.og d _ _ b hd rfl hb (hent p hp b hpb)).2
   · rw[hG2 b q]at hg;exact h.gn _ _ hg
 · rw [app_res]at hx;split at hx
   · rename_i q;subst q;cases hx;refine⟨r,es,clock,l,hb,hh,hl,hw,hI,fun key hk=> ?_⟩;have h0:=hR key hk
     cases hf:l.find? (fun q=>keyEq key q.1)with
     |none=>rw[hf]at h0;exact⟨h0.1,by simp[h0.1]⟩
     | some p=>
       rw[hf]at h0;refine⟨h0.1,.ro k (len key) (get key),by simp[h0.1],?_⟩;exact(h0.2 (by simp)).fro hle (fun b o hpb ho=>by rw[hG1 b ⟨p,List.mem_of_find?_eq_some hf,hpb⟩];exact ho)
   · exact(h.rs x r' hx).keep hle (Env.le_refl β) (fun _ _ _ _ _=>rfl)
 · rw[app_res]at e1 e2;split at e1
   · rename_i q;subst q;cases e1;have c1:Blks w (.mapR kk e k has len get none) v1 b:=.of (b1.plain rfl);split at e2
     · rename_i q;exact q.symm
     · exact h.dj x x' _ r2 v1 v2 b hd e2 rfl o2 f1 f2 c1 b2
   · split at e2
     · rename_i q;subst q;cases e2;exact h.dj x x' r1 _ v1 v2 b e1 hd o1 rfl f1 f2 b1 (.of (b2.plain rfl))
     · exact h.dj x x' r1 r2 v1 v2 b e1 e2 o1 o2 f1 f2 b1 b2
 · rw[app_res]at hx;split at hx
   · rename_i q;subst q;cases hx;rw[hb]at hv1;cases hv1;have:=hb1.plain rfl;cases this;obtain⟨g1,g2⟩:=h.og x _ _ r hd rfl hb (.of rfl);refine⟨?_,g2⟩;rw[hG2]
     · exact g1
     · rintro⟨p,hp,hpb⟩;exact hA.2 p hp (by simp) hpb
   · rename_i hne;obtain⟨g1,g2⟩:=h.og x r1 v1 b hx ho1 hv1 hb1;refine⟨?_,g2⟩;rw[hG2]
     · exact g1
     · rintro⟨p,hp,hpb⟩;exact hne (h.dj x d r1 _ v1 _ b hx hd ho1 rfl hv1 hb hb1 (hent p hp b hpb))
end Go.Eng
namespace Go.Eng
open Go
end Go.Eng
namespace Go.Eng
open Go
end Go.Eng
namespace Go.Eng
open Go Go.RowKit
theorem know_look {Q:Hp→Prop}(d:Nat)(r:Res)(hd:lookL [((1000009:Nat),Res.know Q)] d=some r):d=1000009∧r= .know Q:=by
 simp only[lookL]at hd
 cases hq:Nat.beq d 1000009 with
 |false=>rw[hq]at hd;cases hd
 |true=>rw[hq]at hd;cases hd;exact⟨Nat.eq_of_beq_eq_true hq,rfl⟩
theorem FSpec.ofKnow {P:Program}{f:FuncId}{args:List SV}{y:SV}{Q:Hp→Prop}(henter:∀args w,(callFunc f args).run P w= .ok (.enter f args) w)
 (h:∀ (G:Hp) (β:Env) (w:World) (vs:List Value),Q G→(∀b o,G b=some o→w.heap[b]? =some o)→vs.length=args.length→(∀ (i:Nat) x v,args[i]? =some x→vs[i]? =some v→SV.Den G β x v)→
   ∃u,(∀G β,SV.Den G β y u)∧Calls P f vs.toArray w fun e w' =>e= .returned u∧Below w.heap.size w w'):FSpec P f args [(1000009,.know Q)] (fun x r=>x=y∧r= [(1000009,.know Q)]):=by
 refine⟨henter,fun G β w vs hpre hl hd=> ?_⟩;have hR:lookL [((1000009:Nat),Res.know Q)] 1000009=some (.know Q):=by simp[lookL]
 have hq:ResOk G β w 1000009 (.know Q):=hpre.rs _ _ hR;obtain⟨u,hu,hc⟩:=h G β w vs (hq.2 G (Hp.le_refl G)) hpre.gw hl hd;refine hc.mono ?_;rintro e w' ⟨rfl,hb⟩;refine⟨u,y,_,G,β,rfl,⟨rfl,rfl⟩,⟨Hp.le_refl G,Env.le_refl β,fun b o hg=> ?_,fun b o hg=>.inl hg,⟨hb.os,hb.tape,hb.output,hb.size,fun b hlt _=>hb.block b hlt⟩,fun d r hd=> ?_,fun d d' r r' v v' b h1 h2 o1=> ?_,fun d r v b h1 o1=> ?_⟩,hu G β⟩
 · have:=hpre.gw b o hg;have hlt:b<w.heap.size:=(Array.getElem?_eq_some_iff.1 this).1;rw[hb.block b hlt];exact this
 · obtain⟨rfl,rfl⟩:=know_look d r hd;exact⟨hq.1,hq.2⟩
 · obtain⟨_,rfl⟩:=know_look d r h1;cases o1
 · obtain⟨_,rfl⟩:=know_look d r h1;cases o1
theorem FSpec.atStart {P:Program}{f:FuncId}{args:List SV}{post:SV→Prop}{Q:Hp→Prop}(h:FSpec P f args [(1000009,.know Q)] (fun x r=>post x∧r= [(1000009,.know Q)]))(W:World)(hQ:∀G,(Hp.le (fun b=>W.heap[b]?) G)→Q G):
 Pre (fun b=>W.heap[b]?) (fun d=>if d=1000009 then some (.bool true)else none) W (lookL [((1000009:Nat),Res.know Q)]):=by
 refine⟨fun _ _ e=>e,fun d r hd=> ?_,fun d d' r r' v v' b h1 h2 o1=> ?_,fun d r v b h1 o1=> ?_,fun d v hd=> ?_⟩
 · obtain⟨rfl,rfl⟩:=know_look d r hd;exact⟨⟨_,if_pos rfl⟩,hQ⟩
 · obtain⟨_,rfl⟩:=know_look d r h1;cases o1
 · obtain⟨_,rfl⟩:=know_look d r h1;cases o1
 · by_cases q:d=1000009
   · subst q;exact⟨_,rfl⟩
   · rw[if_neg q]at hd;cases hd
end Go.Eng
namespace Go.Eng
open Go Go.RowKit
def facts (F:World→Prop):Hp→Prop:=fun G=>∀w:World,(∀ (b:Nat) (o:Obj),G b=some o→w.heap[b]? =some o)→F w
theorem facts_start {F:World→Prop}{W:World}(h:∀w:World,(∀ (b:Nat) (o:Obj),W.heap[b]? =some o→w.heap[b]? =some o)→F w)(G:Hp)(hG:Hp.le (fun b=>W.heap[b]?) G):facts F G:=
 fun w hw=>h w (fun b o e=>hw b o (hG b o e))
mutual
theorem okN_more:∀x:SV,SV.okN [] x=true→SV.okN [((1000009:Nat),(1000009:Nat))] x=true
 | .any,_=>rfl
 | .bad,_=>rfl
 | .undef,_=>rfl
 | .d _,_=>rfl
 | .agg l,h=>by simp only[SV.okN]at h ⊢;exact okNL_more l h
 | .tup l,h=>by simp only[SV.okN]at h ⊢;exact okNL_more l h
 | .ptr _ _,h=>by simp[SV.okN,lookN]at h
 | .buf _,h=>by simp[SV.okN,lookN]at h
 | .bel _ _ _ _,h=>by simp[SV.okN,lookN]at h
 | .mp _,h=>by simp[SV.okN,lookN]at h
 | .fn f caps,h=>by simp only[SV.okN]at h ⊢;exact okNL_more caps h
 | .sub _ _ _ _,h=>by simp[SV.okN,lookN]at h
theorem okNL_more:∀l:List SV,SV.okNL [] l=true→SV.okNL [((1000009:Nat),(1000009:Nat))] l=true
 | [],_=>rfl
 | x::l,h=>by
   simp only[SV.okNL,Bool.and_eq_true]at h ⊢;exact⟨okN_more x h.1,okNL_more l h.2⟩
end
theorem FSpec.ofKnowP {P:Program}{f:FuncId}{args:List SV}{Q:Hp→Prop}{post:SV→Prop}(henter:∀args w,(callFunc f args).run P w= .ok (.enter f args) w)
 (h:∀ (G:Hp) (β:Env) (w:World) (vs:List Value),Q G→(∀b o,G b=some o→w.heap[b]? =some o)→vs.length=args.length→(∀ (i:Nat) x v,args[i]? =some x→vs[i]? =some v→SV.Den G β x v)→
   Calls P f vs.toArray w fun e w' =>∃u y G',e= .returned u∧post y∧G.le G'∧(∀b o,G' b=some o→w'.heap[b]? =some o)∧(∀b o,G' b=some o→G b=some o∨w.heap.size≤b)∧(∀β,SV.Den G' β y u)∧Below w.heap.size w w'):
 FSpec P f args [(1000009,.know Q)] (fun x r=>post x∧r= [(1000009,.know Q)]):=by
 refine⟨henter,fun G β w vs hpre hl hd=> ?_⟩;have hR:lookL [((1000009:Nat),Res.know Q)] 1000009=some (.know Q):=by simp[lookL]
 have hq:ResOk G β w 1000009 (.know Q):=hpre.rs _ _ hR;refine(h G β w vs (hq.2 G (Hp.le_refl G)) hpre.gw hl hd).mono ?_;rintro e w' ⟨u,y,G',rfl,hy,hle,hgw,hgn,hden,hb⟩;refine⟨u,y,_,G',β,rfl,⟨hy,rfl⟩,⟨hle,Env.le_refl β,hgw,fun b o hg=>(hgn b o hg).elim .inl (fun q=>.inr (.inr q)),⟨hb.os,hb.tape,hb.output,hb.size,fun b hlt _=>hb.block b hlt⟩,fun d r hd=> ?_,fun d d' r r' v v' b h1 h2 o1=> ?_,fun d r v b h1 o1=> ?_⟩,hden β⟩
 · obtain⟨rfl,rfl⟩:=know_look d r hd;exact⟨hq.1,fun G'' h2=>hq.2 G'' (Hp.le_trans hle h2)⟩
 · obtain⟨_,rfl⟩:=know_look d r h1;cases o1
 · obtain⟨_,rfl⟩:=know_look d r h1;cases o1
theorem FSpec.ofKnowB {P:Program}{f:FuncId}{args:List SV}{Q:Hp→Prop}{post:SV→Prop}(henter:∀args w,(callFunc f args).run P w= .ok (.enter f args) w)
 (h:∀ (G:Hp) (β:Env) (w:World) (vs:List Value),Q G→(∀b o,G b=some o→w.heap[b]? =some o)→vs.length=args.length→(∀ (i:Nat) x v,args[i]? =some x→vs[i]? =some v→SV.Den G β x v)→
   Calls P f vs.toArray w fun e w' =>∃u y,e= .returned u∧post y∧(∀G β,SV.Den G β y u)∧Below w.heap.size w w'):
 FSpec P f args [(1000009,.know Q)] (fun x r=>post x∧r= [(1000009,.know Q)]):=
 FSpec.ofKnowP henter fun G β w vs hq hg hl hd=>(h G β w vs hq hg hl hd).mono fun e w' =>by
  rintro⟨u,y,he,hy,hden,hb⟩;refine⟨u,y,G,he,hy,Hp.le_refl G,fun b o e=> ?_,fun b o e=>.inl e,hden G,hb⟩;have:=hg b o e;have hlt:b<w.heap.size:=(Array.getElem?_eq_some_iff.1 this).1;rw[hb.block b hlt];exact this
theorem CallX.kn {P:Program}{f:FuncId}{dst:Option Nat}{args:List SV}{s:St}{av:List Nat}{k:Upd→Prop}{y:SV}{Q:Hp→Prop}
 (hs:FSpec P f args [(1000009,.know Q)] fun x r=>x=y∧r= [(1000009,.know Q)])(hR:s.res 1000009=some (.know Q))(hargs:SV.okNL [] args=true)(hav:mem av 1099512627785=false)(hy:SV.okN [] y=true)
 (hk:k ⟨dst,y,[],[]⟩):CallX P f dst args s av k:=by
 have up:∀ {x:SV},SV.okN [] x=true→SV.okN [((1000009:Nat),(1000009:Nat))] x=true∧x.ren [((1000009:Nat),(1000009:Nat))]=x:=by
  have idr:∀d c,lookN [((1000009:Nat),(1000009:Nat))] d=some c→c=d:=by
   intro d c hd;simp only[lookN]at hd
   cases hq:Nat.beq d 1000009 with
   |false=>rw[hq]at hd;cases hd
   |true=>rw[hq]at hd;cases hd;exact(Nat.eq_of_beq_eq_true hq).symm
  have mono:∀x:SV,SV.okN [] x=true→SV.okN [((1000009:Nat),(1000009:Nat))] x=true:=okN_more;exact fun{x} hx=>⟨mono x hx,ren_id idr x (mono x hx)⟩
 refine CallX.look hs [(1000009,1000009)] rfl ?_ ⟨⟨1000009,rfl,hR⟩,trivial⟩ rfl (by simp[hav]) (by simp[(up hy).1,outN,lookN,Res.okN]) ?_
 · have:∀l:List SV,SV.okNL [] l=true→argsLe [((1000009:Nat),(1000009:Nat))] l l:=by
    intro l
    induction l with
    |nil=>intro _;trivial
    | cons x l ih=>
      intro h;simp only[SV.okNL,Bool.and_eq_true]at h;exact⟨by rw[(up h.1).2];exact SV.le_refl _,ih h.2⟩
   exact this args hargs
 · rw[(up hy).2];exact hk
end Go.Eng
set_option maxRecDepth 20000
namespace Go.Proofs.YtjibpcoeghlnoaaGreatDoor
open Go Go.Eng Go.Shelf Go.RowKit
def FX (w:World):Prop:=(∀n:Int,-9223372036854775808≤n→n≤9223372036854775807→Calls Tryz.prog 105 #[.int .i64 n] w fun e w' =>e= .returned (.string ⟨(Lib.itoa n).toArray⟩)∧∃k os,w' =Go.Sort.grow (w.drewN k) os)∧(∃m,w.cell? ⟨Tryz.lays146_ren.g 1,0,none⟩=some (.int .i64 m))∧
 (∃v,w.cell? ⟨Tryz.laysC172_ren.g 15,0,none⟩=some v∧(v= .nilIface∨∃t p,v= .iface t p))∧(∃v,w.cell? ⟨Tryz.laysC172_ren.g 16,0,none⟩=some v∧(v= .nilIface∨∃t p,v= .iface t p))
abbrev KX:Res:=.know (facts FX)
abbrev kx:List (Nat×Res):= [(1000009,KX)]
theorem bsz (l:List UInt8):(⟨l.toArray⟩:ByteArray).size=l.length:=by simp[ByteArray.size]
theorem below_grow {w:World}(n:Nat)(os:Array Obj):Below w.heap.size w (Go.Sort.grow (w.drewN n) os):=
 ⟨rfl,rfl,rfl,by simp[Go.Sort.grow,World.drewN],fun k hk=>by
   show(w.heap++os)[k]? =_
   rw[Array.getElem?_append_left hk]⟩
theorem zItoa (n:Int)(h0: -9223372036854775808≤n)(h1:n≤9223372036854775807):FSpec Tryz.prog 105 [.d (.int .i64 n)] kx (fun x r=>x= .d (.str (Lib.itoa n))∧r=kx):=by
 refine FSpec.ofKnow Tryz.call105 (fun G β w vs hq hg hvl hd=> ?_)
 match vs,hvl with
 | [u],_=>
   have h0':=hd 0 _ u rfl rfl
   cases h0' with|d _ _ h0' =>cases h0' with|int _ _=>
   have hF:=hq w hg;refine⟨.string ⟨(Lib.itoa n).toArray⟩,fun _ _=>.d _ _ (.str _),?_⟩;have hcon:=hF.1 n h0 h1;refine hcon.mono ?_;rintro e' w' ⟨rfl,k,os,rfl⟩;exact⟨rfl,below_grow k os⟩
def atoiX (s:List UInt8)(y:SV):Prop:=
 match Lib.atoiAll s with
 | .ok v=>y= .tup [.d (.int .i64 v),.d (.opq .nilIface)]
 | .range=>∃t p,y= .tup [.d (.int .i64 (Lib.atoiSat s)),.d (.opq (.iface t p))]
 |_=>∃t p,y= .tup [.d (.int .i64 0),.d (.opq (.iface t p))]
theorem tup2_den {G:Hp}{β:Env}{p q:SV}{a b:Value}(ha:SV.Den G β p a)(hb:SV.Den G β q b):SV.Den G β (.tup [p,q]) (.tuple #[a,b]):=
 .tup [p,q] [a,b] rfl (fun i x v hx hv=>by
  match i,hx,hv with
  |0,hx,hv=>simp at hx hv;subst hx;subst hv;exact ha
  |1,hx,hv=>simp at hx hv;subst hx;subst hv;exact hb)
theorem zAtoi (s:List UInt8)(hl:s.length≤2^40):FSpec Tryz.prog 221 [.d (.str s)] kx (fun x r=>atoiX s x∧r=kx):=by
 refine FSpec.ofKnowB Tryz.call221 (fun G β w vs hq hg hvl hd=> ?_)
 match vs,hvl with
 | [u],_=>
   have h0:=hd 0 _ u rfl rfl
   cases h0 with|d _ _ h0=>cases h0 with|str _=>
   obtain⟨_,_,⟨v1,c1,d1⟩,⟨v2,c2,d2⟩⟩:=hq w hg;have e:Tryz.laysC172_ren.f 172=221:=rfl
   cases hA:Lib.atoiAll s with
   | ok v=>
     have hcon:=Any.strconv_Atoi_ok Tryz.laysC172 ⟨s.toArray⟩ (by rw[bsz];omega) v (by simpa using hA) w;rw[e]at hcon;refine hcon.mono ?_;rintro e' w' ⟨rfl,hw⟩;refine⟨_,_,rfl,by unfold atoiX;rw[hA],fun _ _=>tup2_den (.d _ _ (.int _ _)) (.d _ _ (.opq _ rfl)),?_⟩;rcases hw with rfl|⟨t,rfl⟩
     · exact Below.refl _ _
     · exact Lib.bytesWorld_below _ _ _
   | range=>
     have hcon:=Any.strconv_Atoi_range Tryz.laysC172 ⟨s.toArray⟩ (by rw[bsz];omega) (by simpa using hA) v2 w c2 d2;rw[e]at hcon;refine hcon.mono ?_;rintro e' w' ⟨N,rfl,_,_,hb⟩;refine⟨_,_,rfl,by unfold atoiX;rw[hA];exact⟨_,_,rfl⟩,fun _ _=>tup2_den ?_ (.d _ _ (.opq _ rfl)),hb⟩
     simpa using SV.Den.d _ _ (DV.Den.int .i64 (Lib.atoiSat s))
   | _=>
     have hcon:=Any.strconv_Atoi_syntax Tryz.laysC172 ⟨s.toArray⟩ (by rw[bsz];omega) (by simpa using hA) v1 w c1 d1;rw[e]at hcon;refine hcon.mono ?_;rintro e' w' ⟨N,rfl,_,_,hb⟩;exact⟨_,_,rfl,by unfold atoiX;rw[hA];exact⟨_,_,rfl⟩,fun _ _=>tup2_den (.d _ _ (.int _ _)) (.d _ _ (.opq _ rfl)),hb⟩
theorem zTrimP (s p:List UInt8):FSpec Tryz.prog 222 [.d (.str s),.d (.str p)] [] (fun x r=>x= .d (.str (Lib.trimPrefix s p))∧r= []):=by
 refine FSpec.ofBelow Tryz.call222 (fun G β w vs _ hvl hd=> ?_)
 match vs,hvl with
 | [u,v],_=>
   have h0:=hd 0 _ u rfl rfl;have h1:=hd 1 _ v rfl rfl
   cases h0 with|d _ _ h0=>cases h0 with|str _=>
   cases h1 with|d _ _ h1=>cases h1 with|str _=>
   refine⟨.string ⟨(Lib.trimPrefix s p).toArray⟩,fun _ _=>.d _ _ (.str _),?_⟩;have hcon:=Any.strings_TrimPrefix Tryz.lays101 ⟨s.toArray⟩ ⟨p.toArray⟩ w;have e:Tryz.lays101_ren.f 101=222:=rfl;rw[e]at hcon;refine hcon.mono ?_;rintro e' w' ⟨rfl,rfl⟩;exact⟨rfl,Below.refl _ _⟩
theorem newRow_den {G:Hp}{w:World}(hG:∀b o,G b=some o→w.heap[b]? =some o)(L:List ByteArray)(N:Nat)(hL:L.length≤N)(hN:N≤maxLen)(cs:Array Value)(e:TypeId)(hc:∀i,i<L.length→cs[i]? =some (.string (L.getD i ByteArray.empty))):
 ∃G',G.le G'∧(∀b o,G' b=some o→(w.alloc (.cells cs e)).heap[b]? =some o)∧(∀b o,G' b=some o→G b=some o∨w.heap.size≤b)∧(∀β,SV.Den G' β (.d (strs (L.map (·.data.toList)))) (.slice (some ⟨w.heap.size,0,none⟩) L.length N)):=by
 have hfree:G w.heap.size=none:=by
  cases hg:G w.heap.size with
  |none=>rfl
  |some o=>have:=(Array.getElem?_eq_some_iff.1 (hG _ _ hg)).1;omega
 refine⟨G.add w.heap.size (.cells cs e),Hp.le_add hfree,fun b o hb=> ?_,fun b o hb=> ?_,fun β=>.d _ _ ?_⟩
 · unfold Hp.add at hb;split at hb
   · rename_i q;subst q;cases hb;exact heap_alloc_new w _
   · rw[heap_alloc_old w _ (Array.getElem?_eq_some_iff.1 (hG _ _ hb)).1];exact hG _ _ hb
 · unfold Hp.add at hb;split at hb
   · rename_i q;subst q;exact .inr (Nat.le_refl _)
   · exact .inl hb
 · have hlen:(L.map (·.data.toList)).length=L.length:=by simp
   unfold strs seqD;rw[hlen];refine .ro 1 L.length _ _ N (fun i _=>.string (L.getD i ByteArray.empty)) rfl hL hN (fun i _=>rfl) (fun i j x hi hx=> ?_) (fun i j x hi hx=> ?_)
   · have hj:j=0:=by
      have:=(List.getElem?_eq_some_iff.1 hx).1;simp[rowF,sF]at this;omega
     subst hj;refine⟨cs,e,(0,0),?_,?_,?_⟩
     · rw[Eng.Addr.add_block];simp[Hp.add]
     · exact Addr.add_spot _ rfl _
     · rw[Addr.add_lit];simpa using hc i hi
   · have hj:j=0:=by
      have:=(List.getElem?_eq_some_iff.1 hx).1;simp[rowF,sF]at this;omega
     subst hj;simp only[rowF,sF,List.getElem?_cons_zero,Option.some.injEq]at hx;subst hx
     have h1:(L.map (·.data.toList)).getD i []=(L.getD i ByteArray.empty).data.toList:=by
      simp[List.getD_eq_getElem?_getD,hi]
     rw[h1];generalize L.getD i ByteArray.empty=ba;have:=DV.Den.str (G:=G.add w.heap.size (.cells cs e)) ba.data.toList;rw[show(⟨ba.data.toList.toArray⟩:ByteArray)=ba from Lib.mk_data _]at this;exact this
theorem zSplit (s p:List UInt8)(hl:s.length≤2^31)(hp:1≤p.length):FSpec Tryz.prog 220 [.d (.str s),.d (.str p)] kx (fun x r=>x= .d (strs (Lib.split s p))∧r=kx):=by
 refine FSpec.ofKnowP (post:=fun x=>x= .d (strs (Lib.split s p))) Tryz.call220 (fun G β w vs hq hg hvl hd=> ?_)
 match vs,hvl with
 | [u,v],_=>
   have h0:=hd 0 _ u rfl rfl;have h1:=hd 1 _ v rfl rfl
   cases h0 with|d _ _ h0=>cases h0 with|str _=>
   cases h1 with|d _ _ h1=>cases h1 with|str _=>
   obtain⟨_,⟨m,c0⟩,_⟩:=hq w hg;have hcon:=Any.strings_Split Tryz.lays146 (by kernel_rfl) ⟨s.toArray⟩ ⟨p.toArray⟩ m w (by rw[bsz];omega) c0 (by rw[bsz];exact hp);have e:Tryz.lays146_ren.f 146=220:=rfl;rw[e]at hcon
   have hdat:(Lib.splitB ⟨p.toArray⟩ 0 (Lib.countB ⟨s.toArray⟩ ⟨p.toArray⟩) ⟨s.toArray⟩).map (·.data.toList)=Lib.split s p:=by
    rw[Lib.splitB_data];simp[Lib.split]
   have hle:=Lib.count_le s p;have hlen:(Lib.splitB ⟨p.toArray⟩ 0 (Lib.countB ⟨s.toArray⟩ ⟨p.toArray⟩) ⟨s.toArray⟩).length=Lib.countB ⟨s.toArray⟩ ⟨p.toArray⟩+1:=Lib.splitB_all _ (by rw[bsz];exact hp) 0 _ _ rfl;generalize hLL:Lib.splitB ⟨p.toArray⟩ 0 (Lib.countB ⟨s.toArray⟩ ⟨p.toArray⟩) ⟨s.toArray⟩=LL at hcon hdat hlen;have hcn:Lib.countB ⟨s.toArray⟩ ⟨p.toArray⟩=Lib.count s p:=by simp
   obtain⟨G',g1,g2,g3,g4⟩:=newRow_den hg LL LL.length (Nat.le_refl _) (by rw[hlen,hcn];unfold maxLen;omega) (LL.map Value.string).toArray (Tryz.lays146_ren.t 9) (fun i hi=>by simp[List.getD_eq_getElem?_getD,hi]);rw[←hlen]at hcon;refine hcon.mono ?_;rintro e' w' ⟨rfl,rfl⟩;rw[hdat]at g4;exact⟨_,_,G',rfl,rfl,g1,g2,g3,g4,(Below.refl _ _).alloc (Nat.le_refl _) _⟩
theorem s119 (n lo hi:Int):FSpec Tryz.prog 82 [.d (.int .i64 n),.d (.int .i64 lo),.d (.int .i64 hi)] [] (fun x r=>x= .d (.bool (decide (lo≤n∧n≤hi)))∧r= []):=by
 refine spec_of hT (C:= []) Tryz.func82 rfl Tryz.call82 rfl rfl rfl ?_;conv=>whnf
 refine br_intro (fun h=> ?_) (fun h=> ?_)
 · conv=>whnf
   refine .ret _ ?_;conv=>whnf
   refine⟨[],⟨?_,rfl⟩,trivial⟩;conv=>lhs;whnf
   simp at h ⊢;simp[h]
 · conv=>whnf
   refine .ret _ ?_;conv=>whnf
   refine⟨[],⟨?_,rfl⟩,trivial⟩;conv=>lhs;whnf
   simp at h ⊢;omega
theorem s109 (n lo hi:Int):FSpec Tryz.prog 110 [.d (.int .i64 n),.d (.int .i64 lo),.d (.int .i64 hi)] [] (fun x r=>x= .d (.bool (decide (lo≤n∧n≤hi)))∧r= []):=by
 refine spec_of hT (C:= []) Tryz.func110 rfl Tryz.call110 rfl rfl rfl ?_;conv=>whnf
 refine br_intro (fun h=> ?_) (fun h=> ?_)
 · conv=>whnf
   refine .ret _ ?_;conv=>whnf
   refine⟨[],⟨?_,rfl⟩,trivial⟩;conv=>lhs;whnf
   simp at h ⊢;simp[h]
 · conv=>whnf
   refine .ret _ ?_;conv=>whnf
   refine⟨[],⟨?_,rfl⟩,trivial⟩;conv=>lhs;whnf
   simp at h ⊢;omega
theorem s107 (b:Bool)(e:Int):FSpec Tryz.prog 52 [.d (.bool b),.d (.int .i64 e)] [] (fun x r=>x= .d (.int .i64 (if b then e else 0))∧r= []):=by
 refine spec_of hT (C:= []) Tryz.func52 rfl Tryz.call52 rfl rfl rfl ?_;conv=>whnf
 refine br_intro (fun h=> ?_) (fun h=> ?_)
 · conv=>whnf
   refine .ret _ ?_;conv=>whnf
   refine⟨[],⟨?_,rfl⟩,trivial⟩;conv=>lhs;whnf
   simp[h]
 · conv=>whnf
   refine .ret _ ?_;conv=>whnf
   refine⟨[],⟨?_,rfl⟩,trivial⟩;conv=>lhs;whnf
   simp[h]
theorem getD_toNat {α:Type}{l:List α}{i:Nat}{d:α}(h:i<l.length):l.getD (i:Int).toNat d=l[i]:=by
 rw[Int.toNat_natCast,List.getD_eq_getElem?_getD];simp[h]
def firstE:List Int→Int
 | []=>0
 |x::l=>if x=0 then firstE l else x
theorem s161 (l:List Int)(hl:l.length≤2^40):FSpec Tryz.prog 80 [.d (ints l)] [] (fun x r=>x= .d (.int .i64 (firstE l))∧r= []):=by
 refine spec_of hT (C:= []) Tryz.func80 rfl Tryz.call80 rfl rfl rfl ?_;conv=>whnf
 refine LoopX.rule hT (C:= []) (ι:=Nat) (fun i=>i≤l.length∧firstE l=firstE (l.drop i)) (fun i=>mkSt [(3,.d (.int .i64 0)),(6,.d (ints l)),(7,.d (.int .i64 l.length)),(8,.d (.int .i64 i))] []) (fun i=>l.length - i) 0 ⟨by omega,by simp⟩ ?_ ?_
 · refine Entails.mk' [] rfl rfl ⟨lr,lr,lr,lr,trivial⟩ trivial
 rintro i ⟨p1,p2⟩;conv=>whnf
 refine br_intro (fun h=> ?_) (fun h=> ?_)
 · simp only[decide_eq_true_eq]at h;conv=>whnf
   refine⟨⟨by omega,by omega⟩,?_⟩;conv=>whnf
   have hi:i<l.length:=by omega
   have hd:l.drop i=l[i]::l.drop (i+1):=List.drop_eq_getElem_cons hi;refine br_intro (fun h2=> ?_) (fun h2=> ?_)
   · conv=>whnf
     refine .ret _ ?_;conv=>whnf
     refine⟨[],⟨?_,rfl⟩,trivial⟩;conv=>lhs;whnf
     rw[getD_toNat hi]at h2 ⊢;simp at h2;rw[p2,hd,firstE,if_neg h2]
   · conv=>whnf
     rw[getD_toNat hi]at h2;simp at h2;refine⟨by unfold inI64;omega,?_⟩;conv=>whnf
     refine⟨i+1,⟨hi,?_⟩,by omega,?_⟩
     · rw[p2,hd,firstE,if_pos h2]
     · exact Entails.mk' [] rfl rfl ⟨lr,lr,lr,lr,trivial⟩ trivial
 · simp only[decide_eq_false_iff_not]at h;conv=>whnf
   refine .ret _ ?_;conv=>whnf
   refine⟨[],⟨?_,rfl⟩,trivial⟩;conv=>lhs;whnf
   rw[p2,List.drop_eq_nil_iff.2 (by omega)];rfl
theorem s105 (l:List Int)(hl:l.length≤2^40):FSpec Tryz.prog 35 [.d (ints l)] [] (fun x r=>x= .d (.int .i64 (firstE l))∧r= []):=by
 refine spec_of hT (C:= []) Tryz.func35 rfl Tryz.call35 rfl rfl rfl ?_;conv=>whnf
 refine pAx (s161 l hl) ?_;conv=>whnf
 refine .ret _ ?_;conv=>whnf
 exact⟨[],⟨rfl,rfl⟩,trivial⟩
def keyCh (i:Nat)(c:UInt8):Bool:=(decide (97≤c.toNat)&&decide (c.toNat≤122))||(!decide (i=0)&&((decide (48≤c.toNat)&&decide (c.toNat≤57))||decide (c.toNat=45)||decide (c.toNat=95)))
def isKeyB (s:List UInt8):Bool:=(List.range s.length).all (fun i=>keyCh i (s.getD i 0))&& !s.isEmpty&&decide (s.length≤40)
theorem keyCh_iff {i:Nat}{c:UInt8}:keyCh i c=true↔((97≤(c.toNat:Int)∧(c.toNat:Int)≤122)∨((i:Int)≠0∧((48≤(c.toNat:Int)∧(c.toNat:Int)≤57)∨(c.toNat:Int)=45∨(c.toNat:Int)=95))):=by
 simp only[keyCh,Bool.or_eq_true,Bool.and_eq_true,decide_eq_true_eq,Bool.not_eq_true',decide_eq_false_iff_not];omega
theorem s108 (s:List UInt8)(hl:s.length≤2^40):FSpec Tryz.prog 56 [.d (.str s)] [] (fun x r=>x= .d (.bool (isKeyB s))∧r= []):=by
 refine spec_of hT (C:= []) Tryz.func56 rfl Tryz.call56 rfl rfl rfl ?_;conv=>whnf
 refine LoopX.rule hT (C:= []) (ι:=Nat) (fun i=>i≤s.length∧∀j,j<i→keyCh j (s.getD j 0)=true) (fun i=>mkSt [(0,.d (.str s)),(7,.d (.int .i64 s.length)),(8,.d (.int .i64 i))] []) (fun i=>s.length - i) 0 ⟨by omega,by omega⟩ ?_ ?_
 · exact Entails.mk' [] rfl rfl ⟨lr,lr,lr,trivial⟩ trivial
 rintro i ⟨p1,p2⟩;conv=>whnf
 refine br_intro (fun h=> ?_) (fun h=> ?_)
 · simp only[decide_eq_true_eq]at h;have hi:i<s.length:=by omega
   have e1:(i:Int).toNat=i:=Int.toNat_natCast i;conv=>whnf
   repeat (refine And.intro (by(try unfold inI64);(try dsimp only);(try simp only[e1,List.length_cons,List.length_append,List.length_singleton,List.length_nil]);omega) ?_;conv=>whnf)
   have hbad:keyCh i (s.getD i 0)=false→isKeyB s=false:=fun h=>by
    have:(List.range s.length).all (fun i=>keyCh i (s.getD i 0))=false:=by
     rw[List.all_eq_false];exact⟨i,List.mem_range.2 hi,by rw[h];simp⟩
    simp only[isKeyB,this,Bool.false_and]
   have hgood:keyCh i (s.getD i 0)=true→∀j,j<i+1→keyCh j (s.getD j 0)=true:=fun h j hj=>by
    rcases Nat.lt_or_ge j i with q|q
    · exact p2 j q
    · have:j=i:=by omega
      subst this;exact h
   repeat' (refine br_intro (fun _=> ?_) (fun _=> ?_)<;>(conv=>whnf))
   all_goals first
    | (refine And.intro (by unfold inI64;omega) ?_
       conv=>whnf
       refine⟨i+1,⟨hi,hgood ?_⟩,by omega,Entails.mk' [] rfl rfl ⟨lr,lr,lr,trivial⟩ trivial⟩;rw[keyCh_iff];simp only[decide_eq_true_eq,decide_eq_false_iff_not,Bool.not_eq_true',Bool.not_eq_false',e1]at*
       omega)
    | (refine .ret _ ?_
       conv=>whnf
       refine⟨[],⟨?_,rfl⟩,trivial⟩;conv=>lhs;whnf
       rw[hbad]
       cases hq:keyCh i (s.getD i 0)with
       |false=>rfl
       | true=>
         rw[keyCh_iff]at hq;simp only[decide_eq_true_eq,decide_eq_false_iff_not,Bool.not_eq_true',Bool.not_eq_false',e1]at*
         omega)
    |skip
 simp only[decide_eq_false_iff_not]at h;have e1:i=s.length:=by omega
 subst e1
 have hall:(List.range s.length).all (fun i=>keyCh i (s.getD i 0))=true:=by
  rw[List.all_eq_true];intro j hj;exact p2 j (List.mem_range.1 hj)
 conv=>whnf
 repeat' (refine br_intro (fun _=> ?_) (fun _=> ?_)<;>(conv=>whnf))
 all_goals (refine .ret _ ?_;conv=>whnf)
 all_goals (refine⟨[],⟨?_,rfl⟩,trivial⟩;conv=>lhs;whnf)
 · rename_i hq
   have:s.isEmpty=false:=by
    cases s with
    |nil=>exact absurd hq (by decide)
    |cons x l=>rfl
   unfold isKeyB;rw[hall,this];simp;omega
 · rename_i hq
   have:s.isEmpty=true:=by
    cases s with
    |nil=>rfl
    |cons x l=>exact absurd hq (by simp)
   unfold isKeyB;rw[hall,this];rfl
def strLe (a b:List UInt8):Bool:=Op.bytesLess a b||a==b
def firstAt (f:Nat→Int):Nat→Int
 |0=>0
 |n+1=>if firstAt f n=0 then f n else firstAt f n
theorem firstAt_zero {f:Nat→Int}:∀ {n:Nat},(∀j,j<n→f j=0)→firstAt f n=0:=by
 intro n
 induction n with
 |zero=>intro _;rfl
 |succ n ih=>intro h;rw[firstAt,if_pos (ih fun j hj=>h j (by omega))];exact h n (by omega)
theorem firstAt_eq {f:Nat→Int}{n i:Nat}{e:Int}(hi:i<n)(h:∀j,j<i→f j=0)(h1:e≠0)(h2:f i=e):firstAt f n=e:=by
 induction n with
 |zero=>omega
 | succ n ih=>
   rw[firstAt]
   by_cases q:i<n
   · rw[ih q,if_neg h1]
   · have:i=n:=by omega
     subst this;rw[if_pos (firstAt_zero h)];exact h2
end Go.Proofs.YtjibpcoeghlnoaaGreatDoor
namespace Go.Proofs
open Go.Shelf
def Tryz.lays160_ren:Go.Shelf.Ren:=⟨fun|160=>185|232=>214|231=>213|227=>215|234=>217|233=>216|236=>219|235=>218|228=>233|271=>236|151=>235|197=>234|120=>250|152=>249|260=>248|137=>262|119=>263|224=>264|225=>265|217=>272|266=>276|n=>n,fun|9=>9|4=>4|3=>3|5=>5|117=>318|116=>317|0=>0|124=>321|21=>21|105=>341|46=>216|119=>360|139=>363|138=>362|n=>n,fun|3=>4|4=>5|n=>n⟩
theorem Tryz.lays160:Go.Proofs.Lays.n160 Tryz.prog Tryz.lays160_ren:={
 mixed:=by kernel_rfl
 f119:=Tryz.func263.trans (congrArg some (by kernel_rfl))
 f120:=Tryz.func250.trans (congrArg some (by kernel_rfl))
 f137:=Tryz.func262.trans (congrArg some (by kernel_rfl))
 f151:=Tryz.func235.trans (congrArg some (by kernel_rfl))
 f152:=Tryz.func249.trans (congrArg some (by kernel_rfl))
 f160:=Tryz.func185.trans (congrArg some (by kernel_rfl))
 f197:=Tryz.func234.trans (congrArg some (by kernel_rfl))
 f217:=Tryz.func272.trans (congrArg some (by kernel_rfl))
 f224:=Tryz.func264.trans (congrArg some (by kernel_rfl))
 f225:=Tryz.func265.trans (congrArg some (by kernel_rfl))
 f227:=Tryz.func215.trans (congrArg some (by kernel_rfl))
 f228:=Tryz.func233.trans (congrArg some (by kernel_rfl))
 f231:=Tryz.func213.trans (congrArg some (by kernel_rfl))
 f232:=Tryz.func214.trans (congrArg some (by kernel_rfl))
 f233:=Tryz.func216.trans (congrArg some (by kernel_rfl))
 f234:=Tryz.func217.trans (congrArg some (by kernel_rfl))
 f235:=Tryz.func218.trans (congrArg some (by kernel_rfl))
 f236:=Tryz.func219.trans (congrArg some (by kernel_rfl))
 f260:=Tryz.func248.trans (congrArg some (by kernel_rfl))
 f266:=Tryz.func276.trans (congrArg some (by kernel_rfl))
 f271:=Tryz.func236.trans (congrArg some (by kernel_rfl))
 t0:=Tryz.underlying0
 a0:=Tryz.isAgg0
 z0:=Tryz.sizeOf0
 v0:=Tryz.zeroValue0
 t3:=Tryz.underlying3
 a3:=Tryz.isAgg3
 z3:=Tryz.sizeOf3
 v3:=Tryz.zeroValue3
 t4:=Tryz.underlying4
 a4:=Tryz.isAgg4
 z4:=Tryz.sizeOf4
 v4:=Tryz.zeroValue4
 t5:=Tryz.underlying5
 a5:=Tryz.isAgg5
 z5:=Tryz.sizeOf5
 v5:=Tryz.zeroValue5
 t9:=Tryz.underlying9
 a9:=Tryz.isAgg9
 z9:=Tryz.sizeOf9
 v9:=Tryz.zeroValue9
 t21:=Tryz.underlying21
 a21:=Tryz.isAgg21
 z21:=Tryz.sizeOf21
 v21:=Tryz.zeroValue21
 t46:=Tryz.underlying216
 a46:=Tryz.isAgg216
 z46:=Tryz.sizeOf216
 v46:=Tryz.zeroValue216
 t105:=Tryz.underlying341
 a105:=Tryz.isAgg341
 z105:=Tryz.sizeOf341
 v105:=Tryz.zeroValue341
 t116:=Tryz.underlying317
 a116:=Tryz.isAgg317
 z116:=Tryz.sizeOf317
 t117:=Tryz.underlying318
 a117:=Tryz.isAgg318
 z117:=Tryz.sizeOf318
 v117:=Tryz.zeroValue318
 t119:=Tryz.underlying360
 a119:=Tryz.isAgg360
 z119:=Tryz.sizeOf360
 t124:=Tryz.underlying321
 a124:=Tryz.isAgg321
 z124:=Tryz.sizeOf321
 v124:=Tryz.zeroValue321
 t138:=Tryz.underlying362
 a138:=Tryz.isAgg362
 z138:=Tryz.sizeOf362
 v138:=Tryz.zeroValue362
 t139:=Tryz.underlying363
 a139:=Tryz.isAgg363
 z139:=Tryz.sizeOf363
 v139:=Tryz.zeroValue363
 g3:=by kernel_rfl
 g4:=by kernel_rfl}
end Go.Proofs
set_option maxRecDepth 20000
namespace Go.Proofs.YtjibpcoeghlnoaaGreatDoor
open Go Go.Eng Go.Shelf
theorem s162 (s cs:List UInt8)(hl:s.length≤2^40)(hc:cs.length≤2^20)(ha:cs.all (fun b=>decide (b.toNat<128))=true):FSpec Tryz.prog 185 [.d (.str s),.d (.str cs)] [] (fun x r=>x= .d (.str (Lib.trimS s cs))∧r= []):=by
 refine FSpec.ofBelow Tryz.call185 (fun G β w vs _ hvl hd=> ?_)
 match vs,hvl with
 | [u,v],_=>
   have h0:=hd 0 _ u rfl rfl;have h1:=hd 1 _ v rfl rfl
   cases h0 with|d _ _ h0=>cases h0 with|str _=>
   cases h1 with|d _ _ h1=>cases h1 with|str _=>
   refine⟨.string ⟨(Lib.trimS s cs).toArray⟩,fun _ _=>.d _ _ (.str _),?_⟩;have hcon:=Any.strings_Trim_laid Tryz.lays160 (by kernel_rfl) ⟨s.toArray⟩ ⟨cs.toArray⟩ w (by simp[ByteArray.size];omega) (by simp[ByteArray.size];omega) (ascii_of_all (by simpa using ha));have e:Tryz.lays160_ren.f 160=185:=rfl;rw[e]at hcon;simpa using hcon
theorem dropWhile_nil {p:UInt8→Bool}{l:List UInt8}:l.dropWhile p= []↔∀b ∈ l,p b=true:=by
 induction l with
 |nil=>simp
 |cons a l ih=>by_cases h:p a=true<;>simp[List.dropWhile_cons,h,ih]
theorem trimS_nil {s cs:List UInt8}:Lib.trimS s cs= []↔∀b ∈ s,cs.contains b=true:=by
 unfold Lib.trimS Lib.trimLeftS Lib.trimRightS;rw[dropWhile_nil];constructor
 · intro h b hb;have h1:s.reverse.dropWhile (cs.contains ·)= []∨¬s.reverse.dropWhile (cs.contains ·)= []:=Classical.em _;rcases h1 with h1|h1
   · exact dropWhile_nil.1 h1 b (by simpa using hb)
   · obtain⟨c,m,hc⟩:=List.exists_cons_of_ne_nil h1
     have h3:cs.contains c=false:=by
      have:=List.head_dropWhile_not (cs.contains ·) (l:=s.reverse) h1;simp only[hc,List.head_cons]at this;exact this
     have h4:=h c (by rw[List.mem_reverse,hc];exact List.mem_cons_self);rw[h3]at h4;cases h4
 · intro h b hb;rw[List.mem_reverse]at hb;exact h b (by simpa using(List.dropWhile_sublist _).subset hb)
def onlyB (s cs:List UInt8):Bool:=s.all (cs.contains ·)
theorem s111 (s cs:List UInt8)(hl:s.length≤2^40)(hc:cs.length≤2^20)(ha:cs.all (fun b=>decide (b.toNat<128))=true):FSpec Tryz.prog 144 [.d (.str s),.d (.str cs)] [] (fun x r=>x= .d (.bool (onlyB s cs))∧r= []):=by
 refine spec_of hT (C:= []) Tryz.func144 rfl Tryz.call144 rfl rfl rfl ?_;conv=>whnf
 refine CallX.pure (s162 _ _ hl hc ha) ⟨lr,lr,trivial⟩ rfl ?_;conv=>whnf
 refine .ret _ ?_;conv=>whnf
 refine⟨[],⟨?_,rfl⟩,trivial⟩;show SV.d (.bool (Lib.trimS s cs== []))=_;congr 2
 rw[Bool.eq_iff_iff];simp only[beq_iff_eq,trimS_nil,onlyB,List.all_eq_true]
theorem s110 (a b c:Int):FSpec Tryz.prog 104 [.d (.int .i64 a),.d (.int .i64 b),.d (.int .i64 c)] [] (fun x r=>x= .d (.bool (decide (b≤a∧a≤c)))∧r= []):=by
 refine spec_of hT (C:= []) Tryz.func104 rfl Tryz.call104 rfl rfl rfl ?_;conv=>whnf
 repeat' (refine br_intro (fun _=> ?_) (fun _=> ?_)<;>(conv=>whnf))
 all_goals
  refine .ret _ ?_;conv=>whnf
  refine⟨[],⟨?_,rfl⟩,trivial⟩;conv=>lhs;whnf
  congr 2
  grind
def smallsL:List UInt8:= [97,98,99,100,101,102,103,104,105,106,107,108,109,110,111,112,113,114,115,116,117,118,119,120,121,122]
def keyL:List UInt8:=smallsL++ [48,49,50,51,52,53,54,55,56,57,45,95]
theorem u8_all {p:UInt8→Bool}(h:(List.range 256).all (fun n=>p (UInt8.ofNat n))=true)(c:UInt8):p c=true:=by
 have:=List.all_eq_true.1 h c.toNat (List.mem_range.2 c.toNat_lt);simpa using this
theorem small_iff (c:UInt8):smallsL.contains c=keyCh 0 c:=by
 have:=u8_all (p:=fun c=>smallsL.contains c==keyCh 0 c) (by decide+kernel) c;simpa using this
theorem key_iff (c:UInt8):keyL.contains c=keyCh 1 c:=by
 have:=u8_all (p:=fun c=>keyL.contains c==keyCh 1 c) (by decide+kernel) c;simpa using this
theorem keyCh_succ (i:Nat)(c:UInt8):keyCh (i+1) c=keyCh 1 c:=by simp[keyCh]
theorem keyCh_one {c:UInt8}(h:keyCh 0 c=true):keyCh 1 c=true:=by
 simp only[keyCh]at h ⊢;simp at h;simp[h]
theorem isKey_eq (s:List UInt8):isKeyB s=(decide (1≤(s.length:Int)∧(s.length:Int)≤40)&&onlyB (s.take 1) smallsL&&onlyB s keyL):=by
 cases s with
 |nil=>rfl
 | cons c l=>
   have h1:onlyB ((c::l).take 1) smallsL=keyCh 0 c:=by simp only[onlyB,List.take_succ_cons,List.take_zero,List.all_cons,List.all_nil,Bool.and_true,small_iff]
   have h2:onlyB (c::l) keyL=(keyCh 1 c&&l.all (keyCh 1 ·)):=by simp only[onlyB,List.all_cons,key_iff]
   have h3:(List.range (c::l).length).all (fun i=>keyCh i ((c::l).getD i 0))=(keyCh 0 c&&l.all (keyCh 1 ·)):=by
    rw[List.length_cons,List.range_succ_eq_map,List.all_cons,List.all_map];congr 1
    rw[Bool.eq_iff_iff,List.all_eq_true,List.all_eq_true];constructor
    · intro h x hx;obtain⟨i,hi,rfl⟩:=List.getElem_of_mem hx;have:=h i (List.mem_range.2 hi);simp only[Function.comp,List.getD_cons_succ,keyCh_succ]at this;rwa [List.getD_eq_getElem?_getD,List.getElem?_eq_getElem hi]at this
    · intro h i hi;have hi:=List.mem_range.1 hi;simp only[Function.comp,List.getD_cons_succ,keyCh_succ];rw[List.getD_eq_getElem?_getD,List.getElem?_eq_getElem hi];exact h _ (List.getElem_mem hi)
   unfold isKeyB;rw[h1,h2,h3,Bool.eq_iff_iff];simp only[Bool.and_eq_true,decide_eq_true_eq,Bool.not_eq_true',List.isEmpty_cons,List.length_cons];constructor
   · rintro⟨⟨⟨a,b⟩,_⟩,d⟩;exact⟨⟨⟨by omega,by omega⟩,a⟩,keyCh_one a,b⟩
   · rintro⟨⟨⟨_,d⟩,a⟩,_,b⟩;exact⟨⟨⟨a,b⟩,trivial⟩,by omega⟩
theorem s21 (s:List UInt8)(hl:s.length≤2^40):FSpec Tryz.prog 109 [.d (.str s)] [] (fun x r=>x= .d (.bool (isKeyB s))∧r= []):=by
 refine spec_of hT (C:= []) Tryz.func109 rfl Tryz.call109 rfl rfl rfl ?_;conv=>whnf
 repeat' (first|(refine CallX.exact (s110 _ _ _) rfl rfl ?_;rotate_right;conv=>whnf)|(refine CallX.exact (s111 s keyL hl ?_ ?_) rfl rfl ?_;rotate_right;conv=>whnf)|(refine CallX.exact (s111 _ smallsL ?_ ?_ ?_) rfl rfl ?_;rotate_right;conv=>whnf)|((first|(refine br_intro ?_ ?_<;>intro hb<;>try simp only[brs]at hb)|omega|refine sAx ?_|decide|assumption)<;>conv=>whnf))
 all_goals try(simp;omega)
 all_goals
  refine .ret _ ?_;conv=>whnf
  refine⟨[],⟨?_,rfl⟩,trivial⟩;conv=>lhs;whnf
  rw[isKey_eq];congr 2;grind
theorem first_step {f:Nat→Int}{i:Nat}(p:∀j,j<i→f j=0)(h:f i=0):∀j,j<i+1→f j=0:=fun j hj=>by
 rcases Nat.lt_or_ge j i with q|q
 · exact p j q
 · have:j=i:=by omega
   subst this;exact h
theorem toNat_pred (i:Nat):((i:Int) - 1).toNat=i - 1:=by omega
theorem take_snocD {α:Type}{l:List α}{i:Nat}{d:α}(h:i<l.length):l.take (i+1)=l.take i++ [l.getD i d]:=by
 rw[List.take_succ_eq_append_getElem h,List.getD_eq_getElem?_getD,List.getElem?_eq_getElem h];rfl
theorem firstAt_all {f:Nat→Int}:∀ {n:Nat},firstAt f n=0→∀j,j<n→f j=0:=by
 intro n
 induction n with
 |zero=>intro _ j hj;omega
 | succ n ih=>
   intro h j hj;rw[firstAt]at h;split at h
   · rename_i q;rcases Nat.lt_or_ge j n with r|r
     · exact ih q j r
     · have:j=n:=by omega
       subst this;exact h
   · omega
theorem mem_getD {α:Type}{l:List α}{x d:α}(h:x ∈ l):∃j,j<l.length∧l.getD j d=x:=by
 obtain⟨j,hj,rfl⟩:=List.getElem_of_mem h;exact⟨j,hj,by rw[List.getD_eq_getElem?_getD,List.getElem?_eq_getElem hj];rfl⟩
section
variable {α:Type} (cmp:α→α→Int)
def insR (x:α):List α→List α
 | []=> [x]
 |y::r=>if cmp x y<0 then y::insR x r else x::y::r
def isortR (l:List α):List α:=l.foldl (fun acc x=>insR cmp x acc) []
def isort (l:List α):List α:=(isortR cmp l).reverse
theorem insR_length (x:α):∀l:List α,(insR cmp x l).length=l.length+1:=by
 intro l
 induction l with
 |nil=>rfl
 |cons y r ih=>simp only[insR];split<;>simp[ih]
theorem isortR_snoc (l:List α)(x:α):isortR cmp (l++ [x])=insR cmp x (isortR cmp l):=by simp[isortR]
theorem isortR_length (l:List α):(isortR cmp l).length=l.length:=by
 have:∀ (l acc:List α),(l.foldl (fun acc x=>insR cmp x acc) acc).length=acc.length+l.length:=by
  intro l
  induction l with
  |nil=>intro acc;simp
  |cons x l ih=>intro acc;rw[List.foldl_cons,ih,insR_length];simp;omega
 rw[isortR,this];simp
theorem insR_mem (x y:α):∀ {l:List α},y ∈ insR cmp x l↔y=x∨y ∈ l:=by
 intro l
 induction l with
 |nil=>simp[insR]
 | cons z r ih=>
   simp only[insR];split
   · simp only[List.mem_cons,ih];constructor
     · rintro(h|h|h)
       · exact .inr (.inl h)
       · exact .inl h
       · exact .inr (.inr h)
     · rintro(h|h|h)
       · exact .inr (.inl h)
       · exact .inl h
       · exact .inr (.inr h)
   · simp
theorem isortR_mem {y:α}(l:List α):y ∈ isortR cmp l↔y ∈ l:=by
 have:∀ (l acc:List α),y ∈ (l.foldl (fun acc x=>insR cmp x acc) acc)↔y ∈ acc∨y ∈ l:=by
  intro l
  induction l with
  |nil=>intro acc;simp
  | cons x l ih=>
    intro acc;rw[List.foldl_cons,ih,insR_mem,List.mem_cons];constructor
    · rintro((h|h)|h)
      · exact .inr (.inl h)
      · exact .inl h
      · exact .inr (.inr h)
    · rintro(h|h|h)
      · exact .inl (.inr h)
      · exact .inl (.inl h)
      · exact .inr h
 rw[isortR,this];simp
end
theorem take_snoc {α:Type}{l:List α}{i:Nat}(h:i<l.length):l.take (i+1)=l.take i++ [l[i]]:=(List.take_append_getElem h).symm
section
variable {α:Type} (cmp:α→α→Int)
theorem insR_perm (x:α):∀l:List α,(insR cmp x l).Perm (x::l):=by
 intro l
 induction l with
 |nil=>exact .refl _
 | cons y r ih=>
   simp only[insR];split
   · exact(ih.cons y).trans (.swap x y r)
   · exact .refl _
theorem isortR_perm (l:List α):(isortR cmp l).Perm l:=by
 have:∀ (l acc:List α),(l.foldl (fun acc x=>insR cmp x acc) acc).Perm (l++acc):=by
  intro l
  induction l with
  |nil=>intro acc;exact .refl _
  | cons x l ih=>
    intro acc;rw[List.foldl_cons];refine(ih _).trans (((insR_perm cmp x acc).append_left l).trans ?_);exact List.perm_middle
 have h:=this l [];rw[List.append_nil]at h;exact h
theorem isort_perm (l:List α):(isort cmp l).Perm l:=(List.reverse_perm _).trans (isortR_perm cmp l)
variable (R:α→α→Prop) (tr:∀a b c,R a b→R b c→R a c)
include tr in
theorem insR_pairwise (x:α):∀l:List α,l.Pairwise (fun a b=>R b a)→(∀y ∈ l,(cmp x y<0→R x y)∧(¬cmp x y<0→R y x))→(insR cmp x l).Pairwise (fun a b=>R b a):=by
 intro l
 induction l with
 |nil=>intro _ _;simp[insR]
 | cons y r ih=>
   intro h hc;have h':=List.pairwise_cons.1 h;simp only[insR];split
   · rename_i hlt;rw[List.pairwise_cons];refine⟨fun z hz=> ?_,ih h'.2 (fun z hz=>hc z (by simp[hz]))⟩;rcases(insR_mem cmp x z).1 hz with q|q
     · subst q;exact(hc y (by simp)).1 hlt
     · exact h'.1 z q
   · rename_i hlt;have hyx:=(hc y (by simp)).2 hlt;rw[List.pairwise_cons];refine⟨fun z hz=> ?_,h⟩;rcases List.mem_cons.1 hz with q|q
     · subst q;exact hyx
     · exact tr _ _ _ (h'.1 z q) hyx
include tr in
theorem isort_pairwise:∀l:List α,l.Pairwise (fun y x=>(cmp x y<0→R x y)∧(¬cmp x y<0→R y x))→(isort cmp l).Pairwise R:=by
 intro l h;unfold isort;rw[List.pairwise_reverse]
 have:∀n,n≤l.length→(isortR cmp (l.take n)).Pairwise (fun a b=>R b a):=by
  intro n
  induction n with
  |zero=>intro _;simp[isortR]
  | succ n ih=>
    intro hn;rw[take_snoc hn,isortR_snoc];refine insR_pairwise cmp R tr _ _ (ih (by omega)) (fun y hy=> ?_);have hy:=(isortR_mem cmp _).1 hy;have hp:(l.take (n+1)).Pairwise (fun y x=>(cmp x y<0→R x y)∧(¬cmp x y<0→R y x)):=h.sublist (List.take_sublist _ _);rw[take_snoc hn,List.pairwise_append]at hp;exact hp.2.2 y hy _ (by simp)
 have:=this l.length (Nat.le_refl _);rwa [List.take_length]at this
end
theorem all_step {p:Nat→Prop}{i:Nat}(h:∀j,j<i→p j)(h1:p i):∀j,j<i+1→p j:=fun j hj=>by
 rcases Nat.lt_or_ge j i with q|q
 · exact h j q
 · have:j=i:=by omega
   subst this;exact h1
structure Gate where
 key:List UInt8
 area:List UInt8
 clock:Int
def gF:Gate→List DV:=fun g=> [.str g.key,.str g.area,.int .i64 g.clock]
def g0:Gate:=⟨[],[],0⟩
abbrev gates (l:List Gate):DV:=seqD 3 gF g0 l
structure Pas where
 tm:Int
 gate:List UInt8
 plate:List UInt8
 cents:Int
def paF:Pas→List DV:=fun p=> [.int .i64 p.tm,.str p.gate,.str p.plate,.int .i64 p.cents]
def pa0:Pas:=⟨0,[],[],0⟩
abbrev pass (l:List Pas):DV:=seqD 4 paF pa0 l
def tollE (a b c:Int):Int:=if(0≤a∧a≤1440)∧(-1≤b∧b≤1000000)∧(0≤c∧c≤1000000)then 0 else 1
def gateE (l:List Gate)(i:Nat):Int:=
 if isKeyB (l.getD i g0).key=false∨isKeyB (l.getD i g0).area=false then 5 else if 0<i∧strLe (l.getD i g0).key (l.getD (i - 1) g0).key=true then 7 else if ¬ (-1440≤(l.getD i g0).clock∧(l.getD i g0).clock≤1440)then 1 else 0
def gatesE (l:List Gate):Int:=if 200<l.length then 2 else firstAt (gateE l) l.length
def gOk (l:List Gate):Prop:=l.length≤2^40∧∀g ∈ l,g.key.length≤2^40∧g.area.length≤2^40
def plCh (c:UInt8):Bool:=(decide (65≤c.toNat)&&decide (c.toNat≤90))||(decide (48≤c.toNat)&&decide (c.toNat≤57))
def isPlateB (s:List UInt8):Bool:=s.all plCh&&decide (2≤s.length)&&decide (s.length≤10)
theorem s185 (s:List UInt8)(hl:s.length≤2^40):FSpec Tryz.prog 53 [.d (.str s)] [] (fun x r=>x= .d (.bool (isPlateB s))∧r= []):=by
 refine spec_of hT (C:= []) Tryz.func53 rfl Tryz.call53 rfl rfl rfl ?_;conv=>whnf
 refine LoopX.rule hT (C:= []) (ι:=Nat) (fun i=>i≤s.length∧∀j,j<i→plCh (s.getD j 0)=true) (fun i=>mkSt [(0,.d (.str s)),(6,.d (.int .i64 s.length)),(7,.d (.int .i64 i))] []) (fun i=>s.length - i) 0 ⟨by omega,by omega⟩ (by exact eAx []) ?_;rintro i ⟨p1,p2⟩;have e1:(i:Int).toNat=i:=Int.toNat_natCast i
 have hbad:i<s.length→plCh (s.getD i 0)=false→isPlateB s=false:=fun hi h=>by
  have:s.all plCh=false:=by
   rw[List.all_eq_false];exact⟨s.getD i 0,getD_mem hi,by rw[h];simp⟩
  simp only[isPlateB,this,Bool.false_and]
 have hall:i=s.length→s.all plCh=true:=fun hi=>by
  rw[List.all_eq_true];intro c hc;obtain⟨j,hj,rfl⟩:=mem_getD (d:=0) hc;exact p2 j (by omega)
 conv=>whnf
 repeat' (first|((first|(refine br_intro ?_ ?_<;>intro hb<;>try simp only[brs]at hb)|omega|refine sAx ?_|decide|assumption)<;>conv=>whnf))
 all_goals first
  |(refine⟨i+1,⟨by omega,all_step p2 (by clear p2 hbad hall;simp only[e1]at*;simp only[plCh];grind)⟩,by omega,(by exact eAx [])⟩)
  | (refine .ret _ ?_
     conv=>whnf
     refine⟨[],⟨?_,rfl⟩,trivial⟩;conv=>lhs;whnf
     congr 2
     first
      |(rw[hbad (by omega) (by clear p2 hbad hall;simp only[e1]at*;simp only[plCh];grind)])
      |(unfold isPlateB;rw[hall (by omega)];clear p2 hbad hall;grind))
def cmpI (a b:Int):Int:=if a<b then -1 else if b<a then 1 else 0
def cmpS (a b:List UInt8):Int:=if Op.bytesLess a b=true then -1 else if Op.bytesLess b a=true then 1 else 0
theorem s210 (a:Int):FSpec Tryz.prog 87 [.d (.int .i64 a)] [] (fun x r=>x= .d (.bool false)∧r= []):=by
 refine spec_of hT (C:= []) Tryz.func87 rfl Tryz.call87 rfl rfl rfl ?_;conv=>whnf
 refine .ret _ ?_;conv=>whnf
 refine⟨[],⟨?_,rfl⟩,trivial⟩;conv=>lhs;whnf
 simp
theorem s211 (a:List UInt8):FSpec Tryz.prog 159 [.d (.str a)] [] (fun x r=>x= .d (.bool false)∧r= []):=by
 refine spec_of hT (C:= []) Tryz.func159 rfl Tryz.call159 rfl rfl rfl ?_;conv=>whnf
 refine .ret _ ?_;conv=>whnf
 refine⟨[],⟨?_,rfl⟩,trivial⟩;conv=>lhs;whnf
 simp
theorem s183 (a b:Int):FSpec Tryz.prog 46 [.d (.int .i64 a),.d (.int .i64 b)] [] (fun x r=>x= .d (.int .i64 (cmpI a b))∧r= []):=by
 refine spec_of hT (C:= []) Tryz.func46 rfl Tryz.call46 rfl rfl rfl ?_;conv=>whnf
 repeat' (first|(refine CallX.exact (s210 _) rfl rfl ?_;rotate_right;conv=>whnf)|((first|(refine br_intro ?_ ?_<;>intro hb<;>try simp only[brs]at hb)|omega|refine sAx ?_|decide|assumption)<;>conv=>whnf))
 all_goals
  refine .ret _ ?_;conv=>whnf
  refine⟨[],⟨?_,rfl⟩,trivial⟩;conv=>lhs;whnf
  congr 2;unfold cmpI;grind
theorem less_tri:∀ (a b:List UInt8),Op.bytesLess a b=false→a≠b→Op.bytesLess b a=true:=by
 intro a
 induction a with
 | nil=>intro b h hn;cases b with
   |nil=>exact absurd rfl hn
   |cons y ys=>simp[Op.bytesLess]at h
 | cons x xs ih=>
   intro b h hn
   cases b with
   |nil=>simp[Op.bytesLess]
   | cons y ys=>
     simp only[Op.bytesLess]at h ⊢;grind
theorem s184 (a b:List UInt8):FSpec Tryz.prog 120 [.d (.str a),.d (.str b)] [] (fun x r=>x= .d (.int .i64 (cmpS a b))∧r= []):=by
 refine spec_of hT (C:= []) Tryz.func120 rfl Tryz.call120 rfl rfl rfl ?_;conv=>whnf
 repeat' (first|(refine CallX.exact (s211 _) rfl rfl ?_;rotate_right;conv=>whnf)|((first|(refine br_intro ?_ ?_<;>intro hb<;>try simp only[brs]at hb)|omega|refine sAx ?_|decide|assumption)<;>conv=>whnf))
 all_goals
  refine .ret _ ?_;conv=>whnf
  refine⟨[],⟨?_,rfl⟩,trivial⟩;conv=>lhs;whnf
  congr 2;unfold cmpS;grind [less_tri]
theorem s182 (l:List Int)(hl:l.length≤2^40):FSpec Tryz.prog 119 [.d (ints l)] [] (fun x r=>x= .d (.int .i64 (firstE l))∧r= []):=by
 refine spec_of hT (C:= []) Tryz.func119 rfl Tryz.call119 rfl rfl rfl ?_;conv=>whnf
 refine LoopX.rule hT (C:= []) (ι:=Nat) (fun i=>i≤l.length∧firstE l=firstE (l.drop i)) (fun i=>mkSt [(3,.d (.int .i64 0)),(6,.d (ints l)),(7,.d (.int .i64 l.length)),(8,.d (.int .i64 i))] []) (fun i=>l.length - i) 0 ⟨by omega,by simp⟩ (by exact eAx []) ?_;rintro i ⟨p1,p2⟩;have hd:i<l.length→l.drop i=l.getD i 0::l.drop (i+1):=fun hi=>by rw[List.drop_eq_getElem_cons hi,List.getD_eq_getElem?_getD,List.getElem?_eq_getElem hi];rfl
 conv=>whnf
 repeat' (first|((first|(refine br_intro ?_ ?_<;>intro hb<;>try simp only[brs]at hb)|omega|refine sAx ?_|decide|assumption)<;>conv=>whnf))
 · refine .ret _ ?_;conv=>whnf
   refine⟨[],⟨?_,rfl⟩,trivial⟩;conv=>lhs;whnf
   congr 2;rw[p2,hd (by omega),firstE,if_neg hb,Int.toNat_natCast]
 · exact⟨i+1,⟨by omega,by rw[p2,hd (by omega),firstE,if_pos hb]⟩,by omega,(by exact eAx [])⟩
 · refine .ret _ ?_;conv=>whnf
   refine⟨[],⟨?_,rfl⟩,trivial⟩;conv=>lhs;whnf
   congr 2;rw[p2,List.drop_eq_nil_iff.2 (by omega)];rfl
def pasCmp (a b:Pas):Int:=firstE [cmpI a.tm b.tm,cmpS a.gate b.gate,cmpS a.plate b.plate]
def ixF (p:Nat→Bool):Nat→Int
 |0=> -1
 |n+1=>if ixF p n= -1 then(if p n=true then n else -1)else ixF p n
theorem ixF_none {p:Nat→Bool}:∀ {n:Nat},(∀j,j<n→p j=false)→ixF p n= -1:=by
 intro n
 induction n with
 |zero=>intro _;rfl
 |succ n ih=>intro h;rw[ixF,if_pos (ih fun j hj=>h j (by omega)),h n (by omega)];rfl
theorem ixF_hit {p:Nat→Bool}{n i:Nat}(hi:i<n)(h:∀j,j<i→p j=false)(h1:p i=true):ixF p n=i:=by
 induction n with
 |zero=>omega
 | succ n ih=>
   rw[ixF]
   by_cases q:i<n
   · rw[ih q,if_neg (by omega)]
   · have:i=n:=by omega
     subst this;rw[if_pos (ixF_none h),if_pos h1]
theorem ixF_bd {p:Nat→Bool}:∀ {n:Nat},-1≤ixF p n∧ixF p n<n∧(0≤ixF p n→p (ixF p n).toNat=true):=by
 intro n
 induction n with
 |zero=>simp[ixF]
 | succ n ih=>
   rw[ixF];split
   · split
     · rename_i h;exact⟨by omega,by omega,fun _=>by simpa using h⟩
     · exact⟨by omega,by omega,fun h=>by omega⟩
   · exact⟨ih.1,by omega,ih.2.2⟩
def gateIx (l:List Gate)(key:List UInt8):Int:=ixF (fun i=>(l.getD i g0).key==key) l.length
def kcell (key:List UInt8):Res:=.cells 9 [.d (.str key)]
theorem s154 (n:Int):FSpec Tryz.prog 50 [.d (.int .i64 n)] [] (fun x r=>x= .d (.bool (decide (0≤n∧n≤5761439)))∧r= []):=by
 refine spec_of hT (C:= []) Tryz.func50 rfl Tryz.call50 rfl rfl rfl ?_;conv=>whnf
 repeat' (first|(refine CallX.exact (s119 _ _ _) rfl rfl ?_;rotate_right;conv=>whnf)|((first|(refine br_intro ?_ ?_<;>intro hb<;>try simp only[brs]at hb)|omega|refine sAx ?_|decide|assumption)<;>conv=>whnf))
 refine .ret _ ?_;conv=>whnf
 refine⟨[],⟨?_,rfl⟩,trivial⟩;conv=>lhs;whnf
def trueT (l:List Gate)(p:Pas):Int:=p.tm - (l.getD (gateIx l p.gate).toNat g0).clock
def pasE (l:List Pas)(i:Nat):Int:=
 if ¬ (0≤(l.getD i pa0).tm∧(l.getD i pa0).tm≤5761439)then 1 else if isKeyB (l.getD i pa0).gate=false then 5 else if isPlateB (l.getD i pa0).plate=false then 3
 else if ¬ (0≤(l.getD i pa0).cents∧(l.getD i pa0).cents≤1000000)then 1 else if 0<i∧0≤pasCmp (l.getD (i - 1) pa0) (l.getD i pa0)then 7 else 0
def formE (l:List Pas):Int:=if 1000<l.length then 2 else firstAt (pasE l) l.length
def pOk (l:List Pas):Prop:=l.length≤2^40∧∀p ∈ l,p.gate.length≤2^40∧p.plate.length≤2^40
def onG (g:List Gate)(l:List Pas)(i:Nat):Int:=
 if gateIx g (l.getD i pa0).gate<0 then 8 else if ¬ (0≤trueT g (l.getD i pa0)∧trueT g (l.getD i pa0)≤5761439)then 16 else 0
def chkE (g:List Gate)(l:List Pas):Int:=if gatesE g≠0 then gatesE g else if formE l≠0 then formE l else firstAt (onG g l) l.length
theorem gates_zero {l:List Gate}(h:gatesE l=0):l.length≤200∧∀g ∈ l,-1440≤g.clock∧g.clock≤1440:=by
 unfold gatesE at h;split at h
 · omega
 · refine⟨by omega,fun x hx=> ?_⟩;obtain⟨j,hj,rfl⟩:=mem_getD (d:=g0) hx;have:=firstAt_all h j hj;unfold gateE at this;grind
theorem form_zero {l:List Pas}(h:formE l=0):l.length≤1000∧∀p ∈ l,0≤p.tm∧p.tm≤5761439:=by
 unfold formE at h;split at h
 · omega
 · refine⟨by omega,fun x hx=> ?_⟩;obtain⟨j,hj,rfl⟩:=mem_getD (d:=pa0) hx;have:=firstAt_all h j hj;unfold pasE at this;grind
abbrev Seen:=List UInt8×List UInt8
def dblOf (D:Int)(m:Seen→Option Int)(p:Pas):Bool:=
 match m (p.plate,p.gate)with
 |some t=>decide (p.tm - t<D)
 |none=>false
def dblM (D:Int)(l:List Pas):Nat→Seen→Option Int
 |0=>fun _=>none
 |i+1=>if dblOf D (dblM D l i) (l.getD i pa0)=true then dblM D l i else fun q=>if q=((l.getD i pa0).plate,(l.getD i pa0).gate)then some (l.getD i pa0).tm else dblM D l i q
def dblB (D:Int)(l:List Pas)(i:Nat):Bool:=dblOf D (dblM D l i) (l.getD i pa0)
def fillA {α:Type}(d:α)(f:Nat→α)(n i:Nat):List α:=(List.range n).map fun j=>if j<i then f j else d
theorem fillA_length {α:Type}{d:α}{f:Nat→α}{n i:Nat}:(fillA d f n i).length=n:=by simp[fillA]
theorem fillA_set {α:Type}{d:α}{f:Nat→α}{n i:Nat}{x:α}(hx:x=f i):(fillA d f n i).set i x=fillA d f n (i+1):=by
 subst hx;refine List.ext_getElem (by simp[fillA]) (fun j h1 h2=> ?_);simp only[fillA,List.getElem_set,List.getElem_map,List.getElem_range]
 by_cases h:i=j
 · subst h;simp
 · rw[if_neg h]
   by_cases h3:j<i
   · rw[if_pos h3,if_pos (by omega)]
   · rw[if_neg h3,if_neg (by omega)]
theorem fillA_set' {α:Type}{d:α}{f:Nat→α}{n i:Nat}{x:α}(hx:x=f i):(fillA d f n i).set (i:Int).toNat x=fillA d f n (i+1):=by
 rw[Int.toNat_natCast];exact fillA_set hx
theorem dblB_eq {D:Int}{l:List Pas}{i:Nat}:dblB D l i=((dblM D l i ((l.getD i pa0).plate,(l.getD i pa0).gate)).isSome&&decide ((l.getD i pa0).tm - (dblM D l i ((l.getD i pa0).plate,(l.getD i pa0).gate)).getD 0<D)):=by
 unfold dblB dblOf;cases dblM D l i ((l.getD i pa0).plate,(l.getD i pa0).gate)<;>simp
def bF:Bool→List DV:=fun b=> [.bool b]
def mHas (m:Seen→Option Int):List DV→Bool
 | [.str a,.str b]=>(m (a,b)).isSome
 |_=>false
def mVal (m:Seen→Option Int):List DV→List DV
 | [.str a,.str b]=> [.int .i64 ((m (a,b)).getD 0)]
 |_=> [.int .i64 0]
theorem wk_ss {key:List DV}(h:wk [.str,.str] key=true):∃a b,key= [.str a,.str b]:=by
 cases key with
 |nil=>simp[wk]at h
 | cons x xs=>
   cases xs with
   |nil=>simp[wk]at h
   | cons y ys=>
     cases ys with
     |cons z zs=>simp[wk]at h
     | nil=>
       simp[wk]at h;cases x<;>simp[wk1]at h
       cases y<;>simp[wk1]at h
       exact⟨_,_,rfl⟩
abbrev seenR (m:Seen→Option Int):Res:=.map true false [.str,.str] [.int .i64 0] (mHas m) (mVal m)
theorem dblM_bd {D:Int}{l:List Pas}(h:∀p ∈ l,0≤p.tm∧p.tm≤5761439):∀i,i≤l.length→∀q t,dblM D l i q=some t→0≤t∧t≤5761439:=by
 intro i
 induction i with
 |zero=>intro _ q t hq;cases hq
 | succ i ih=>
   intro hi q t hq;rw[dblM]at hq;split at hq
   · exact ih (by omega) q t hq
   · dsimp only at hq
     split at hq
     · cases hq;exact h _ (getD_mem (by omega))
     · exact ih (by omega) q t hq
theorem chk_zero {g:List Gate}{l:List Pas}(h:chkE g l=0):(g.length≤200∧∀x ∈ g,-1440≤x.clock∧x.clock≤1440)∧l.length≤1000∧∀p ∈ l,0≤p.tm∧p.tm≤5761439:=by
 unfold chkE at h;split at h
 · omega
 · split at h
   · omega
   · exact⟨gates_zero (by omega),form_zero (by omega)⟩
theorem fillA_get {α:Type}{d:α}{f:Nat→α}{n j:Nat}(h:j<n):(fillA d f n n).getD j d=f j:=by
 rw[List.getD_eq_getElem?_getD];simp[fillA,h]
structure Chg where
 hire:List UInt8
 vehicle:List UInt8
 pas:Int
 cents:Int
structure Lin where
 kind:Int
 key:List UInt8
 cents:Int
deriving DecidableEq
def liF:Lin→List DV:=fun c=> [.int .i64 c.kind,.str c.key,.int .i64 c.cents]
def li0:Lin:=⟨0,[],0⟩
abbrev lins (l:List Lin):DV:=seqD 3 liF li0 l
theorem mem_len {l:List (List UInt8)}{u:List UInt8}(h:u ∈ l)(q:l.all (fun x=>decide (x.length≤8))=true):u.length≤8:=by
 have:=List.all_eq_true.1 q u h;exact of_decide_eq_true this
theorem s133 (n:Int):FSpec Tryz.prog 108 [.d (.int .i64 n)] [] (fun x r=>x= .d (.bool (decide (0≤n∧n≤5761439)))∧r= []):=by
 refine spec_of hT (C:= []) Tryz.func108 rfl Tryz.call108 rfl rfl rfl ?_;conv=>whnf
 repeat' (first|(refine CallX.exact (s110 _ _ _) rfl rfl ?_;rotate_right;conv=>whnf)|((first|(refine br_intro ?_ ?_<;>intro hb<;>try simp only[brs]at hb)|omega|refine sAx ?_|decide|assumption)<;>conv=>whnf))
 refine .ret _ ?_;conv=>whnf
 refine⟨[],⟨?_,rfl⟩,trivial⟩;conv=>lhs;whnf
theorem s176 (n:Int):FSpec Tryz.prog 78 [.d (.int .i64 n)] [] (fun x r=>x= .d (.int .i64 (cmpI n 0))∧r= []):=by
 refine spec_of hT (C:= []) Tryz.func78 rfl Tryz.call78 rfl rfl rfl ?_;conv=>whnf
 repeat' (first|((first|(refine br_intro ?_ ?_<;>intro hb<;>try simp only[brs]at hb)|omega|refine sAx ?_|decide|assumption)<;>conv=>whnf))
 all_goals
  refine .ret _ ?_;conv=>whnf
  refine⟨[],⟨?_,rfl⟩,trivial⟩;conv=>lhs;whnf
  congr 2;unfold cmpI;grind
def cmpL:List (List UInt8)→List (List UInt8)→Int
 | [],[]=>0
 | [],_::_=> -1
 |_::_,[]=>1
 |x::xs,y::ys=>if cmpS x y≠0 then cmpS x y else cmpL xs ys
theorem order_eq (a b:Pas):pasCmp a b=if a.tm≠b.tm then cmpI (a.tm - b.tm) 0 else cmpL [a.gate,a.plate] [b.gate,b.plate]:=by
 unfold pasCmp cmpI;simp only[firstE,cmpL];grind
theorem isKey_nil:isKeyB []=false:=by decide
theorem less_nil (a:List UInt8):Op.bytesLess a []=false:=by cases a<;>rfl
end Go.Proofs.YtjibpcoeghlnoaaGreatDoor
