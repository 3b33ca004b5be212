/- EntriesAgree is proved: for every input the law returns true, and its argument reads afterwards as it read before. Conditions: those of the given row alone. -/
import Derived.Shelf.LaysM
import Derived.Shelf.LaysC
import Derived.Shelf.Strconv.Itoa3
import Derived.Shelf.Strconv.AtoiAll
import Derived.Shelf.Strings.Prefix
import Derived.Shelf.Strings.Split
import Derived.Test.YtophabkpfpbadaaGreatDoorProg
import Derived.Test.YtophabkpfpbadaaGreatDoorEaEngTwo
import Derived.Below
import Derived.Lib.SplitLaws
import Derived.Shelf.Strings.SlTrimAscii
set_option linter.unusedVariables false
set_option linter.unusedSimpArgs false
namespace Go.Proofs
open Go.Shelf
def Tryz.laysM171_ren:Go.Shelf.Ren:=⟨fun|171=>103|243=>140|246=>182|283=>207|284=>208|285=>209|286=>210|129=>167|317=>227|318=>228|319=>229|320=>230|337=>245|338=>246|n=>n,fun|3=>3|9=>9|2=>2|4=>4|171=>323|0=>0|53=>281|37=>325|5=>5|173=>326|212=>347|51=>279|20=>20|213=>348|46=>216|232=>368|233=>369|n=>n,fun|17=>1|18=>2|19=>3|n=>n⟩
theorem Tryz.laysM171:Go.Proofs.LaysM.n171 Tryz.prog Tryz.laysM171_ren:={
 mixed:=by kernel_rfl
 f129:=Tryz.func167.trans (congrArg some (by kernel_rfl))
 f171:=Tryz.func103.trans (congrArg some (by kernel_rfl))
 f243:=Tryz.func140.trans (congrArg some (by kernel_rfl))
 f246:=Tryz.func182.trans (congrArg some (by kernel_rfl))
 f283:=Tryz.func207.trans (congrArg some (by kernel_rfl))
 f284:=Tryz.func208.trans (congrArg some (by kernel_rfl))
 f285:=Tryz.func209.trans (congrArg some (by kernel_rfl))
 f286:=Tryz.func210.trans (congrArg some (by kernel_rfl))
 f317:=Tryz.func227.trans (congrArg some (by kernel_rfl))
 f318:=Tryz.func228.trans (congrArg some (by kernel_rfl))
 f319:=Tryz.func229.trans (congrArg some (by kernel_rfl))
 f320:=Tryz.func230.trans (congrArg some (by kernel_rfl))
 f337:=Tryz.func245.trans (congrArg some (by kernel_rfl))
 f338:=Tryz.func246.trans (congrArg some (by kernel_rfl))
 t0:=Tryz.underlying0
 a0:=Tryz.isAgg0
 z0:=Tryz.sizeOf0
 v0:=Tryz.zeroValue0
 t2:=Tryz.underlying2
 a2:=Tryz.isAgg2
 z2:=Tryz.sizeOf2
 v2:=Tryz.zeroValue2
 t3:=Tryz.underlying3
 a3:=Tryz.isAgg3
 z3:=Tryz.sizeOf3
 v3:=Tryz.zeroValue3
 t4:=Tryz.underlying4
 a4:=Tryz.isAgg4
 z4:=Tryz.sizeOf4
 v4:=Tryz.zeroValue4
 t5:=Tryz.underlying5
 a5:=Tryz.isAgg5
 z5:=Tryz.sizeOf5
 v5:=Tryz.zeroValue5
 t9:=Tryz.underlying9
 a9:=Tryz.isAgg9
 z9:=Tryz.sizeOf9
 v9:=Tryz.zeroValue9
 t20:=Tryz.underlying20
 a20:=Tryz.isAgg20
 z20:=Tryz.sizeOf20
 v20:=Tryz.zeroValue20
 t37:=Tryz.underlying325
 a37:=Tryz.isAgg325
 z37:=Tryz.sizeOf325
 v37:=Tryz.zeroValue325
 t46:=Tryz.underlying216
 a46:=Tryz.isAgg216
 z46:=Tryz.sizeOf216
 v46:=Tryz.zeroValue216
 t51:=Tryz.underlying279
 a51:=Tryz.isAgg279
 z51:=Tryz.sizeOf279
 v51:=Tryz.zeroValue279
 t53:=Tryz.underlying281
 a53:=Tryz.isAgg281
 z53:=Tryz.sizeOf281
 v53:=Tryz.zeroValue281
 t171:=Tryz.underlying323
 a171:=Tryz.isAgg323
 z171:=Tryz.sizeOf323
 v171:=Tryz.zeroValue323
 t173:=Tryz.underlying326
 a173:=Tryz.isAgg326
 z173:=Tryz.sizeOf326
 v173:=Tryz.zeroValue326
 t212:=Tryz.underlying347
 a212:=Tryz.isAgg347
 z212:=Tryz.sizeOf347
 v212:=Tryz.zeroValue347
 t213:=Tryz.underlying348
 a213:=Tryz.isAgg348
 z213:=Tryz.sizeOf348
 t232:=Tryz.underlying368
 a232:=Tryz.isAgg368
 z232:=Tryz.sizeOf368
 v232:=Tryz.zeroValue368
 t233:=Tryz.underlying369
 a233:=Tryz.isAgg369
 z233:=Tryz.sizeOf369
 v233:=Tryz.zeroValue369
 g17:=by kernel_rfl
 g18:=by kernel_rfl
 g19:=by kernel_rfl
 i0:=by kernel_rfl
 i2:=by kernel_rfl
 i3:=by kernel_rfl
 i4:=by kernel_rfl
 i5:=by kernel_rfl
 i9:=by kernel_rfl
 i20:=by kernel_rfl
 i37:=by kernel_rfl
 i46:=by kernel_rfl
 i51:=by kernel_rfl
 i53:=by kernel_rfl
 i171:=by kernel_rfl
 i173:=by kernel_rfl
 i212:=by kernel_rfl
 i232:=by kernel_rfl
 i233:=by kernel_rfl
 m17:=by kernel_rfl
 m18:=by kernel_rfl
 m19:=by kernel_rfl}
def Tryz.laysC172_ren:Go.Shelf.Ren:=⟨fun|172=>219|244=>236|245=>237|247=>253|279=>254|280=>255|281=>256|282=>257|287=>268|316=>269|171=>103|205=>270|321=>273|322=>274|243=>140|246=>182|283=>207|284=>208|285=>209|286=>210|129=>167|317=>227|318=>228|319=>229|320=>230|337=>245|338=>246|n=>n,fun|9=>9|3=>3|75=>337|76=>338|4=>4|5=>5|167=>361|37=>325|0=>0|85=>362|2=>2|168=>364|53=>281|175=>377|46=>216|210=>381|127=>384|145=>387|143=>385|21=>21|171=>323|173=>326|212=>347|51=>279|20=>20|213=>348|232=>368|233=>369|80=>390|n=>n,fun|15=>6|16=>7|17=>1|18=>2|19=>3|n=>n⟩
theorem Tryz.laysC172:Go.Proofs.LaysC.n172 Tryz.prog Tryz.laysC172_ren:={
 mixed:=by kernel_rfl
 f129:=Tryz.func167.trans (congrArg some (by kernel_rfl))
 f171:=Tryz.func103.trans (congrArg some (by kernel_rfl))
 f172:=Tryz.func219.trans (congrArg some (by kernel_rfl))
 f205:=Tryz.func270.trans (congrArg some (by kernel_rfl))
 f243:=Tryz.func140.trans (congrArg some (by kernel_rfl))
 f244:=Tryz.func236.trans (congrArg some (by kernel_rfl))
 f245:=Tryz.func237.trans (congrArg some (by kernel_rfl))
 f246:=Tryz.func182.trans (congrArg some (by kernel_rfl))
 f247:=Tryz.func253.trans (congrArg some (by kernel_rfl))
 f279:=Tryz.func254.trans (congrArg some (by kernel_rfl))
 f280:=Tryz.func255.trans (congrArg some (by kernel_rfl))
 f281:=Tryz.func256.trans (congrArg some (by kernel_rfl))
 f282:=Tryz.func257.trans (congrArg some (by kernel_rfl))
 f283:=Tryz.func207.trans (congrArg some (by kernel_rfl))
 f284:=Tryz.func208.trans (congrArg some (by kernel_rfl))
 f285:=Tryz.func209.trans (congrArg some (by kernel_rfl))
 f286:=Tryz.func210.trans (congrArg some (by kernel_rfl))
 f287:=Tryz.func268.trans (congrArg some (by kernel_rfl))
 f316:=Tryz.func269.trans (congrArg some (by kernel_rfl))
 f317:=Tryz.func227.trans (congrArg some (by kernel_rfl))
 f318:=Tryz.func228.trans (congrArg some (by kernel_rfl))
 f319:=Tryz.func229.trans (congrArg some (by kernel_rfl))
 f320:=Tryz.func230.trans (congrArg some (by kernel_rfl))
 f321:=Tryz.func273.trans (congrArg some (by kernel_rfl))
 f322:=Tryz.func274.trans (congrArg some (by kernel_rfl))
 f337:=Tryz.func245.trans (congrArg some (by kernel_rfl))
 f338:=Tryz.func246.trans (congrArg some (by kernel_rfl))
 t0:=Tryz.underlying0
 a0:=Tryz.isAgg0
 z0:=Tryz.sizeOf0
 v0:=Tryz.zeroValue0
 t2:=Tryz.underlying2
 a2:=Tryz.isAgg2
 z2:=Tryz.sizeOf2
 v2:=Tryz.zeroValue2
 t3:=Tryz.underlying3
 a3:=Tryz.isAgg3
 z3:=Tryz.sizeOf3
 v3:=Tryz.zeroValue3
 t4:=Tryz.underlying4
 a4:=Tryz.isAgg4
 z4:=Tryz.sizeOf4
 v4:=Tryz.zeroValue4
 t5:=Tryz.underlying5
 a5:=Tryz.isAgg5
 z5:=Tryz.sizeOf5
 v5:=Tryz.zeroValue5
 t9:=Tryz.underlying9
 a9:=Tryz.isAgg9
 z9:=Tryz.sizeOf9
 v9:=Tryz.zeroValue9
 t20:=Tryz.underlying20
 a20:=Tryz.isAgg20
 z20:=Tryz.sizeOf20
 v20:=Tryz.zeroValue20
 t21:=Tryz.underlying21
 a21:=Tryz.isAgg21
 z21:=Tryz.sizeOf21
 v21:=Tryz.zeroValue21
 t37:=Tryz.underlying325
 a37:=Tryz.isAgg325
 z37:=Tryz.sizeOf325
 v37:=Tryz.zeroValue325
 t46:=Tryz.underlying216
 a46:=Tryz.isAgg216
 z46:=Tryz.sizeOf216
 v46:=Tryz.zeroValue216
 t51:=Tryz.underlying279
 a51:=Tryz.isAgg279
 z51:=Tryz.sizeOf279
 v51:=Tryz.zeroValue279
 t53:=Tryz.underlying281
 a53:=Tryz.isAgg281
 z53:=Tryz.sizeOf281
 v53:=Tryz.zeroValue281
 t75:=Tryz.underlying337
 a75:=Tryz.isAgg337
 z75:=Tryz.sizeOf337
 v75:=Tryz.zeroValue337
 t76:=Tryz.underlying338
 a76:=Tryz.isAgg338
 z76:=Tryz.sizeOf338
 v76:=Tryz.zeroValue338
 t85:=Tryz.underlying362
 a85:=Tryz.isAgg362
 z85:=Tryz.sizeOf362
 v85:=Tryz.zeroValue362
 t127:=Tryz.underlying384
 a127:=Tryz.isAgg384
 z127:=Tryz.sizeOf384
 v127:=Tryz.zeroValue384
 t143:=Tryz.underlying385
 a143:=Tryz.isAgg385
 z143:=Tryz.sizeOf385
 v143:=Tryz.zeroValue385
 t145:=Tryz.underlying387
 a145:=Tryz.isAgg387
 z145:=Tryz.sizeOf387
 v145:=Tryz.zeroValue387
 t167:=Tryz.underlying361
 a167:=Tryz.isAgg361
 z167:=Tryz.sizeOf361
 v167:=Tryz.zeroValue361
 t168:=Tryz.underlying364
 a168:=Tryz.isAgg364
 z168:=Tryz.sizeOf364
 v168:=Tryz.zeroValue364
 t171:=Tryz.underlying323
 a171:=Tryz.isAgg323
 z171:=Tryz.sizeOf323
 v171:=Tryz.zeroValue323
 t173:=Tryz.underlying326
 a173:=Tryz.isAgg326
 z173:=Tryz.sizeOf326
 v173:=Tryz.zeroValue326
 t175:=Tryz.underlying377
 a175:=Tryz.isAgg377
 z175:=Tryz.sizeOf377
 v175:=Tryz.zeroValue377
 t210:=Tryz.underlying381
 a210:=Tryz.isAgg381
 z210:=Tryz.sizeOf381
 v210:=Tryz.zeroValue381
 t212:=Tryz.underlying347
 a212:=Tryz.isAgg347
 z212:=Tryz.sizeOf347
 v212:=Tryz.zeroValue347
 t213:=Tryz.underlying348
 a213:=Tryz.isAgg348
 z213:=Tryz.sizeOf348
 t232:=Tryz.underlying368
 a232:=Tryz.isAgg368
 z232:=Tryz.sizeOf368
 v232:=Tryz.zeroValue368
 t233:=Tryz.underlying369
 a233:=Tryz.isAgg369
 z233:=Tryz.sizeOf369
 v233:=Tryz.zeroValue369
 g15:=by kernel_rfl
 g16:=by kernel_rfl
 g17:=by kernel_rfl
 g18:=by kernel_rfl
 g19:=by kernel_rfl
 t80:=Tryz.underlying390
 a80:=Tryz.isAgg390
 z80:=Tryz.sizeOf390
 v80:=Tryz.zeroValue390
 i0:=by kernel_rfl
 i2:=by kernel_rfl
 i3:=by kernel_rfl
 i4:=by kernel_rfl
 i5:=by kernel_rfl
 i9:=by kernel_rfl
 i20:=by kernel_rfl
 i21:=by kernel_rfl
 i37:=by kernel_rfl
 i46:=by kernel_rfl
 i51:=by kernel_rfl
 i53:=by kernel_rfl
 i75:=by kernel_rfl
 i76:=by kernel_rfl
 i80:=by kernel_rfl
 i85:=by kernel_rfl
 i127:=by kernel_rfl
 i143:=by kernel_rfl
 i145:=by kernel_rfl
 i167:=by kernel_rfl
 i168:=by kernel_rfl
 i171:=by kernel_rfl
 i173:=by kernel_rfl
 i175:=by kernel_rfl
 i210:=by kernel_rfl
 i212:=by kernel_rfl
 i232:=by kernel_rfl
 i233:=by kernel_rfl
 m15:=by kernel_rfl
 m16:=by kernel_rfl
 m17:=by kernel_rfl
 m18:=by kernel_rfl
 m19:=by kernel_rfl
 c0:=by kernel_rfl
 c2:=by kernel_rfl
 c3:=by kernel_rfl
 c4:=by kernel_rfl
 c5:=by kernel_rfl
 c9:=by kernel_rfl
 c20:=by kernel_rfl
 c21:=by kernel_rfl
 c37:=by kernel_rfl
 c46:=by kernel_rfl
 c51:=by kernel_rfl
 c53:=by kernel_rfl
 c75:=by kernel_rfl
 c76:=by kernel_rfl
 c80:=by kernel_rfl
 c85:=by kernel_rfl
 c127:=by kernel_rfl
 c143:=by kernel_rfl
 c145:=by kernel_rfl
 c167:=by kernel_rfl
 c168:=by kernel_rfl
 c171:=by kernel_rfl
 c173:=by kernel_rfl
 c175:=by kernel_rfl
 c210:=by kernel_rfl
 c212:=by kernel_rfl
 c213:=by kernel_rfl
 c232:=by kernel_rfl
 c233:=by kernel_rfl}
def Tryz.laysM146_ren:Go.Shelf.Ren:=⟨fun|146=>218|221=>235|268=>250|138=>251|143=>252|195=>265|197=>232|218=>266|219=>267|260=>247|217=>271|225=>264|224=>263|267=>272|266=>275|314=>276|n=>n,fun|9=>9|31=>96|3=>3|4=>4|0=>0|105=>350|21=>21|5=>5|46=>216|119=>370|139=>373|138=>372|146=>388|51=>279|n=>n,fun|1=>0|3=>4|4=>5|n=>n⟩
theorem Tryz.laysM146:Go.Proofs.LaysM.n146 Tryz.prog Tryz.laysM146_ren:={
 mixed:=by kernel_rfl
 f138:=Tryz.func251.trans (congrArg some (by kernel_rfl))
 f143:=Tryz.func252.trans (congrArg some (by kernel_rfl))
 f146:=Tryz.func218.trans (congrArg some (by kernel_rfl))
 f195:=Tryz.func265.trans (congrArg some (by kernel_rfl))
 f197:=Tryz.func232.trans (congrArg some (by kernel_rfl))
 f217:=Tryz.func271.trans (congrArg some (by kernel_rfl))
 f218:=Tryz.func266.trans (congrArg some (by kernel_rfl))
 f219:=Tryz.func267.trans (congrArg some (by kernel_rfl))
 f221:=Tryz.func235.trans (congrArg some (by kernel_rfl))
 f224:=Tryz.func263.trans (congrArg some (by kernel_rfl))
 f225:=Tryz.func264.trans (congrArg some (by kernel_rfl))
 f260:=Tryz.func247.trans (congrArg some (by kernel_rfl))
 f266:=Tryz.func275.trans (congrArg some (by kernel_rfl))
 f267:=Tryz.func272.trans (congrArg some (by kernel_rfl))
 f268:=Tryz.func250.trans (congrArg some (by kernel_rfl))
 f314:=Tryz.func276.trans (congrArg some (by kernel_rfl))
 t0:=Tryz.underlying0
 a0:=Tryz.isAgg0
 z0:=Tryz.sizeOf0
 v0:=Tryz.zeroValue0
 t3:=Tryz.underlying3
 a3:=Tryz.isAgg3
 z3:=Tryz.sizeOf3
 v3:=Tryz.zeroValue3
 t4:=Tryz.underlying4
 a4:=Tryz.isAgg4
 z4:=Tryz.sizeOf4
 v4:=Tryz.zeroValue4
 t5:=Tryz.underlying5
 a5:=Tryz.isAgg5
 z5:=Tryz.sizeOf5
 v5:=Tryz.zeroValue5
 t9:=Tryz.underlying9
 a9:=Tryz.isAgg9
 z9:=Tryz.sizeOf9
 v9:=Tryz.zeroValue9
 t21:=Tryz.underlying21
 a21:=Tryz.isAgg21
 z21:=Tryz.sizeOf21
 v21:=Tryz.zeroValue21
 t31:=Tryz.underlying96
 a31:=Tryz.isAgg96
 z31:=Tryz.sizeOf96
 v31:=Tryz.zeroValue96
 t46:=Tryz.underlying216
 a46:=Tryz.isAgg216
 z46:=Tryz.sizeOf216
 v46:=Tryz.zeroValue216
 t51:=Tryz.underlying279
 a51:=Tryz.isAgg279
 z51:=Tryz.sizeOf279
 v51:=Tryz.zeroValue279
 t105:=Tryz.underlying350
 a105:=Tryz.isAgg350
 z105:=Tryz.sizeOf350
 v105:=Tryz.zeroValue350
 t119:=Tryz.underlying370
 a119:=Tryz.isAgg370
 z119:=Tryz.sizeOf370
 t138:=Tryz.underlying372
 a138:=Tryz.isAgg372
 z138:=Tryz.sizeOf372
 v138:=Tryz.zeroValue372
 t139:=Tryz.underlying373
 a139:=Tryz.isAgg373
 z139:=Tryz.sizeOf373
 v139:=Tryz.zeroValue373
 t146:=Tryz.underlying388
 a146:=Tryz.isAgg388
 z146:=Tryz.sizeOf388
 v146:=Tryz.zeroValue388
 g1:=by kernel_rfl
 g3:=by kernel_rfl
 g4:=by kernel_rfl
 i0:=by kernel_rfl
 i3:=by kernel_rfl
 i4:=by kernel_rfl
 i5:=by kernel_rfl
 i9:=by kernel_rfl
 i21:=by kernel_rfl
 i31:=by kernel_rfl
 i46:=by kernel_rfl
 i51:=by kernel_rfl
 i105:=by kernel_rfl
 i138:=by kernel_rfl
 i139:=by kernel_rfl
 i146:=by kernel_rfl
 m1:=by kernel_rfl
 s1_3:=fun w h=>Go.Proofs.cell_of_shapedOpen_int (zero:=#[.int .i64 0]) (t:=3) h (of_decide_eq_true (by kernel_rfl)) (by kernel_rfl) rfl (by kernel_rfl) (by kernel_rfl) Tryz.underlying3
 m3:=by kernel_rfl
 m4:=by kernel_rfl}
def Tryz.lays146_ren:Go.Shelf.Ren:=⟨fun|146=>218|221=>235|268=>250|138=>251|143=>252|195=>265|197=>232|218=>266|219=>267|260=>247|217=>271|225=>264|224=>263|267=>272|266=>275|314=>276|n=>n,fun|9=>9|31=>96|3=>3|4=>4|0=>0|105=>350|21=>21|5=>5|46=>216|119=>370|139=>373|138=>372|146=>388|51=>279|n=>n,fun|1=>0|3=>4|4=>5|n=>n⟩
theorem Tryz.lays146:Go.Proofs.Lays.n146 Tryz.prog Tryz.lays146_ren:={
 mixed:=by kernel_rfl
 f138:=Tryz.func251.trans (congrArg some (by kernel_rfl))
 f143:=Tryz.func252.trans (congrArg some (by kernel_rfl))
 f146:=Tryz.func218.trans (congrArg some (by kernel_rfl))
 f195:=Tryz.func265.trans (congrArg some (by kernel_rfl))
 f197:=Tryz.func232.trans (congrArg some (by kernel_rfl))
 f217:=Tryz.func271.trans (congrArg some (by kernel_rfl))
 f218:=Tryz.func266.trans (congrArg some (by kernel_rfl))
 f219:=Tryz.func267.trans (congrArg some (by kernel_rfl))
 f221:=Tryz.func235.trans (congrArg some (by kernel_rfl))
 f224:=Tryz.func263.trans (congrArg some (by kernel_rfl))
 f225:=Tryz.func264.trans (congrArg some (by kernel_rfl))
 f260:=Tryz.func247.trans (congrArg some (by kernel_rfl))
 f266:=Tryz.func275.trans (congrArg some (by kernel_rfl))
 f267:=Tryz.func272.trans (congrArg some (by kernel_rfl))
 f268:=Tryz.func250.trans (congrArg some (by kernel_rfl))
 f314:=Tryz.func276.trans (congrArg some (by kernel_rfl))
 t0:=Tryz.underlying0
 a0:=Tryz.isAgg0
 z0:=Tryz.sizeOf0
 v0:=Tryz.zeroValue0
 t3:=Tryz.underlying3
 a3:=Tryz.isAgg3
 z3:=Tryz.sizeOf3
 v3:=Tryz.zeroValue3
 t4:=Tryz.underlying4
 a4:=Tryz.isAgg4
 z4:=Tryz.sizeOf4
 v4:=Tryz.zeroValue4
 t5:=Tryz.underlying5
 a5:=Tryz.isAgg5
 z5:=Tryz.sizeOf5
 v5:=Tryz.zeroValue5
 t9:=Tryz.underlying9
 a9:=Tryz.isAgg9
 z9:=Tryz.sizeOf9
 v9:=Tryz.zeroValue9
 t21:=Tryz.underlying21
 a21:=Tryz.isAgg21
 z21:=Tryz.sizeOf21
 v21:=Tryz.zeroValue21
 t31:=Tryz.underlying96
 a31:=Tryz.isAgg96
 z31:=Tryz.sizeOf96
 v31:=Tryz.zeroValue96
 t46:=Tryz.underlying216
 a46:=Tryz.isAgg216
 z46:=Tryz.sizeOf216
 v46:=Tryz.zeroValue216
 t51:=Tryz.underlying279
 a51:=Tryz.isAgg279
 z51:=Tryz.sizeOf279
 v51:=Tryz.zeroValue279
 t105:=Tryz.underlying350
 a105:=Tryz.isAgg350
 z105:=Tryz.sizeOf350
 v105:=Tryz.zeroValue350
 t119:=Tryz.underlying370
 a119:=Tryz.isAgg370
 z119:=Tryz.sizeOf370
 t138:=Tryz.underlying372
 a138:=Tryz.isAgg372
 z138:=Tryz.sizeOf372
 v138:=Tryz.zeroValue372
 t139:=Tryz.underlying373
 a139:=Tryz.isAgg373
 z139:=Tryz.sizeOf373
 v139:=Tryz.zeroValue373
 t146:=Tryz.underlying388
 a146:=Tryz.isAgg388
 z146:=Tryz.sizeOf388
 v146:=Tryz.zeroValue388
 g1:=by kernel_rfl
 g3:=by kernel_rfl
 g4:=by kernel_rfl}
def Tryz.lays101_ren:Go.Shelf.Ren:=⟨fun|101=>220|208=>238|206=>258|n=>n,fun|9=>9|4=>4|3=>3|n=>n,fun|n=>n⟩
theorem Tryz.lays101:Go.Proofs.Lays.n101 Tryz.prog Tryz.lays101_ren:={
 mixed:=by kernel_rfl
 f101:=Tryz.func220.trans (congrArg some (by kernel_rfl))
 f206:=Tryz.func258.trans (congrArg some (by kernel_rfl))
 f208:=Tryz.func238.trans (congrArg some (by kernel_rfl))
 t3:=Tryz.underlying3
 a3:=Tryz.isAgg3
 z3:=Tryz.sizeOf3
 v3:=Tryz.zeroValue3
 t4:=Tryz.underlying4
 a4:=Tryz.isAgg4
 z4:=Tryz.sizeOf4
 v4:=Tryz.zeroValue4
 t9:=Tryz.underlying9
 a9:=Tryz.isAgg9
 z9:=Tryz.sizeOf9
 v9:=Tryz.zeroValue9}
def Tryz.lays190_ren:Go.Shelf.Ren:=⟨fun|190=>68|125=>116|258=>115|128=>166|129=>167|302=>157|303=>158|304=>159|305=>160|306=>161|307=>162|308=>163|309=>164|310=>165|333=>197|329=>198|330=>199|334=>200|335=>201|336=>86|344=>225|n=>n,fun|31=>96|9=>9|3=>3|46=>216|0=>0|51=>279|53=>281|4=>4|183=>273|182=>272|131=>174|5=>5|218=>313|222=>317|228=>343|229=>344|n=>n,fun|n=>n⟩
theorem Tryz.lays190:Go.Proofs.Lays.n190 Tryz.prog Tryz.lays190_ren:={
 mixed:=by kernel_rfl
 f125:=Tryz.func116.trans (congrArg some (by kernel_rfl))
 f128:=Tryz.func166.trans (congrArg some (by kernel_rfl))
 f129:=Tryz.func167.trans (congrArg some (by kernel_rfl))
 f190:=Tryz.func68.trans (congrArg some (by kernel_rfl))
 f258:=Tryz.func115.trans (congrArg some (by kernel_rfl))
 f302:=Tryz.func157.trans (congrArg some (by kernel_rfl))
 f303:=Tryz.func158.trans (congrArg some (by kernel_rfl))
 f304:=Tryz.func159.trans (congrArg some (by kernel_rfl))
 f305:=Tryz.func160.trans (congrArg some (by kernel_rfl))
 f306:=Tryz.func161.trans (congrArg some (by kernel_rfl))
 f307:=Tryz.func162.trans (congrArg some (by kernel_rfl))
 f308:=Tryz.func163.trans (congrArg some (by kernel_rfl))
 f309:=Tryz.func164.trans (congrArg some (by kernel_rfl))
 f310:=Tryz.func165.trans (congrArg some (by kernel_rfl))
 f329:=Tryz.func198.trans (congrArg some (by kernel_rfl))
 f330:=Tryz.func199.trans (congrArg some (by kernel_rfl))
 f333:=Tryz.func197.trans (congrArg some (by kernel_rfl))
 f334:=Tryz.func200.trans (congrArg some (by kernel_rfl))
 f335:=Tryz.func201.trans (congrArg some (by kernel_rfl))
 f336:=Tryz.func86.trans (congrArg some (by kernel_rfl))
 f344:=Tryz.func225.trans (congrArg some (by kernel_rfl))
 t0:=Tryz.underlying0
 a0:=Tryz.isAgg0
 z0:=Tryz.sizeOf0
 v0:=Tryz.zeroValue0
 t3:=Tryz.underlying3
 a3:=Tryz.isAgg3
 z3:=Tryz.sizeOf3
 v3:=Tryz.zeroValue3
 t4:=Tryz.underlying4
 a4:=Tryz.isAgg4
 z4:=Tryz.sizeOf4
 v4:=Tryz.zeroValue4
 t5:=Tryz.underlying5
 a5:=Tryz.isAgg5
 z5:=Tryz.sizeOf5
 v5:=Tryz.zeroValue5
 t9:=Tryz.underlying9
 a9:=Tryz.isAgg9
 z9:=Tryz.sizeOf9
 v9:=Tryz.zeroValue9
 t31:=Tryz.underlying96
 a31:=Tryz.isAgg96
 z31:=Tryz.sizeOf96
 v31:=Tryz.zeroValue96
 t46:=Tryz.underlying216
 a46:=Tryz.isAgg216
 z46:=Tryz.sizeOf216
 v46:=Tryz.zeroValue216
 t51:=Tryz.underlying279
 a51:=Tryz.isAgg279
 z51:=Tryz.sizeOf279
 v51:=Tryz.zeroValue279
 t53:=Tryz.underlying281
 a53:=Tryz.isAgg281
 z53:=Tryz.sizeOf281
 v53:=Tryz.zeroValue281
 t131:=Tryz.underlying174
 a131:=Tryz.isAgg174
 z131:=Tryz.sizeOf174
 v131:=Tryz.zeroValue174
 t182:=Tryz.underlying272
 a182:=Tryz.isAgg272
 z182:=Tryz.sizeOf272
 v182:=Tryz.zeroValue272
 t183:=Tryz.underlying273
 a183:=Tryz.isAgg273
 z183:=Tryz.sizeOf273
 v183:=Tryz.zeroValue273
 t218:=Tryz.underlying313
 a218:=Tryz.isAgg313
 z218:=Tryz.sizeOf313
 v218:=Tryz.zeroValue313
 t222:=Tryz.underlying317
 a222:=Tryz.isAgg317
 z222:=Tryz.sizeOf317
 v222:=Tryz.zeroValue317
 t228:=Tryz.underlying343
 a228:=Tryz.isAgg343
 z228:=Tryz.sizeOf343
 v228:=Tryz.zeroValue343
 t229:=Tryz.underlying344
 a229:=Tryz.isAgg344
 z229:=Tryz.sizeOf344
 v229:=Tryz.zeroValue344}
end Go.Proofs
set_option maxRecDepth 20000
namespace Go.Proofs.YtophabkpfpbadaaGreatDoor
open Go Go.Eng
def oQCoA16_4:OL:= [(0,[]),(1,[]),(2,[]),(3,[]),(4,[]),(5,rg 5),(6,rg 5),(7,rg 5),(8,rg 5),(9,rg 5),(10,[]),(11,[])]
def oQCoA16_5:OL:= [(0,[]),(1,[]),(2,[]),(3,[]),(4,[]),(5,rg 5),(6,rg 5),(7,rg 5),(8,rg 5),(9,rg 5),(10,[]),(11,[])]
def eqTab:List Nat:= [183,225,52,142,128,131,65,70,196,341]
theorem eqTab_ok:eqTab.all (eqFits Tryz.prog)=true:=by decide+kernel
noncomputable def T:Tab:=tiOf Tryz.prog (mem eqTab)
theorem hT:TabOk Tryz.prog T:=⟨mem eqTab,fun _ _ h=>h,fun t ht=>List.all_eq_true.1 eqTab_ok t ((mem_iff _ _).1 ht)⟩
abbrev i64 (n:Int):DV:=.int .i64 n
def strm (n:Nat)(L:Nat→Int)(at':Int):Res:=.cells 25 [.d (.ro 1 n fun i=> [.int .i64 (L i)]),.d (.int .i64 at')]
def Rok (n:Nat)(L:Nat→Int):Prop:=n≤maxLen∧∀i,-2^63≤L i∧L i<2^63
theorem s148 (x n:Int)(hn:n≤2^40):FSpec Tryz.prog 38 [.d (.int .i64 x),.d (.int .i64 n)] [] (fun y r=>(∃m:Int,0≤m∧(1≤n→m<n)∧(n<1→m=0)∧y= .d (.int .i64 m))∧r= []):=by
 refine spec_of hT (C:= []) Tryz.func38 rfl Tryz.call38 rfl rfl rfl ?_;conv=>whnf
 refine br_intro (fun h=> ?_) (fun h=> ?_)
 · conv=>whnf
   refine .ret _ ?_;conv=>whnf
   refine⟨[],⟨⟨_,?_,?_,?_,rfl⟩,rfl⟩,trivial⟩;all_goals (simp at h;omega)
 · conv=>whnf
   refine⟨?_,?_⟩
   · simp at h;omega
   conv=>whnf
   simp at h;have h1:=Int.tmod_lt_of_pos x (b:=n) (by omega);have h2:=Int.lt_tmod_of_pos x (b:=n) (by omega);refine br_intro (fun h2=> ?_) (fun h2=> ?_)
   · conv=>whnf
     simp at h2;refine⟨?_,?_⟩
     · unfold inI64;omega
     · conv=>whnf
       refine .ret _ ?_;conv=>whnf
       refine⟨[],⟨⟨_,?_,?_,?_,rfl⟩,rfl⟩,trivial⟩;all_goals omega
   · conv=>whnf
     simp at h2;refine .ret _ ?_;conv=>whnf
     refine⟨[],⟨⟨_,?_,?_,?_,rfl⟩,rfl⟩,trivial⟩;all_goals omega
theorem nextB {a n:Int}(h0:0≤a)(hn:1≤n):0≤a.tdiv n∧a.tdiv n≤a∧0≤a.tmod n∧a.tmod n<n∧0≤a.tdiv n*a.tmod n∧a.tdiv n*a.tmod n≤a∧a.tmod n≤a:=by
 have h1:0≤a.tdiv n:=Int.tdiv_nonneg h0 (by omega);have h2:0≤a.tmod n:=Int.tmod_nonneg _ h0;have h3:a.tmod n<n:=Int.tmod_lt_of_pos _ (by omega);have h4:=Int.tmod_add_mul_tdiv a n;have h5:a.tdiv n*1≤a.tdiv n*n:=Int.mul_le_mul_of_nonneg_left hn h1;have h6:a.tdiv n*a.tmod n≤a.tdiv n*n:=Int.mul_le_mul_of_nonneg_left (by omega) h1;have h7:0≤a.tdiv n*a.tmod n:=Int.mul_nonneg h1 h2;rw[Int.mul_comm]at h4;have h8:0≤a.tdiv n*n:=Int.mul_nonneg h1 (by omega);refine⟨h1,?_,h2,h3,h7,?_,?_⟩<;>omega
theorem s86 (n:Nat)(L:Nat→Int)(hL:Rok n L)(a:Int)(h0:0≤a)(ha:a≤2^40)(m:Int)(hm:m≤2^40):
 FSpec Tryz.prog 16 [.ptr 1000000 0,.d (.int .i64 m)] [(1000000,strm n L a)] (fun y r=>(∃j:Int,0≤j∧(1≤m→j<m)∧(m<1→j=0)∧y= .d (.int .i64 j))∧r= [(1000000,strm n L (a+1))]):=by
 refine spec_of hT (C:= []) Tryz.func16 rfl Tryz.call16 rfl rfl rfl ?_;conv=>whnf
 refine⟨by unfold inI64;omega,?_⟩;conv=>whnf
 refine br_intro (fun h=> ?_) (fun h=> ?_)
 · conv=>whnf
   refine⟨by unfold inI64;omega,?_⟩;conv=>whnf
   refine CallX.of (s148 _ _ hm) [] rfl ⟨lr,lr,trivial⟩ trivial rfl rfl ?_;rintro x rout ⟨⟨j,j1,j2,j3,rfl⟩,rfl⟩;refine⟨rfl,?_⟩;conv=>whnf
   refine .ret _ ?_;conv=>whnf
   exact⟨[(1000000,strm n L (a+1))],⟨⟨_,j1,j2,j3,rfl⟩,rfl⟩,rr,trivial⟩
 · conv=>whnf
   simp at h;have hnp:(1:Int)≤n:=by omega
   refine RegX.rule hT rfl [] oQCoA16_4 (by decide+kernel) ?_;conv=>whnf
   refine⟨by unfold inI64;omega,?_⟩;conv=>whnf
   refine⟨by omega,?_⟩;conv=>whnf
   have ea:a+1 - 1=a:=by omega
   obtain⟨b1,b2,b3,b4,b5,b6,b7⟩:=nextB h0 hnp;refine RegX.rule hT rfl [] oQCoA16_5 (by decide+kernel) ?_;conv=>whnf
   refine⟨by unfold inI64;omega,?_⟩;conv=>whnf
   refine⟨by omega,?_⟩;conv=>whnf
   refine⟨by unfold inI64;rw[ea];omega,?_⟩;conv=>whnf
   rw[ea];refine⟨⟨b3,b4⟩,?_⟩;conv=>whnf
   refine CallX.of (s148 _ _ (by omega)) [] rfl ⟨lr,lr,trivial⟩ trivial rfl rfl ?_;rintro x rout ⟨⟨j,j1,j2,j3,rfl⟩,rfl⟩;refine⟨rfl,?_⟩;conv=>whnf
   refine⟨by unfold inI64;omega,?_⟩;conv=>whnf
   have e2:a.tdiv n*(7919+a.tmod n)=7919*a.tdiv n+a.tdiv n*a.tmod n:=by rw[Int.mul_add,Int.mul_comm _ 7919]
   rw[e2];refine⟨by unfold inI64;omega,?_⟩;conv=>whnf
   refine⟨by unfold inI64;omega,?_⟩;conv=>whnf
   refine CallX.of (s148 _ _ hm) [] rfl ⟨lr,lr,trivial⟩ trivial rfl rfl ?_;rintro x rout ⟨⟨j,k1,k2,k3,rfl⟩,rfl⟩;refine⟨rfl,?_⟩;conv=>whnf
   refine .ret _ ?_;conv=>whnf
   exact⟨[(1000000,strm n L (a+1))],⟨⟨_,k1,k2,k3,rfl⟩,rfl⟩,rr,trivial⟩
def Moved (n:Nat)(L:Nat→Int)(a:Int)(c:Int)(r:List (Nat×Res)):Prop:=∃b,a≤b∧b≤a+c∧r= [(1000000,strm n L b)]
theorem s64 (n:Nat)(L:Nat→Int)(hL:Rok n L)(a:Int)(h0:0≤a)(ha:a≤2^40)(lo hi:Int)(h1: -2^41≤lo)(h2:hi≤lo+2^40 - 1)(h3:lo≤2^41)(h4:lo≤hi):
 FSpec Tryz.prog 7 [.ptr 1000000 0,.d (.int .i64 lo),.d (.int .i64 hi)] [(1000000,strm n L a)] (fun y r=>(∃j:Int,lo≤j∧j≤hi∧y= .d (.int .i64 j))∧Moved n L a 1 r):=by
 refine spec_of hT (C:= []) Tryz.func7 rfl Tryz.call7 rfl rfl rfl ?_;conv=>whnf
 refine br_intro (fun h=> ?_) (fun h=> ?_)
 · simp at h;omega
 conv=>whnf
 refine⟨by unfold inI64;omega,?_⟩;conv=>whnf
 refine⟨by unfold inI64;omega,?_⟩;conv=>whnf
 refine CallX.of (s86 n L hL a h0 ha _ (by omega)) [(1000000,1000000)] rfl ⟨lr,lr,trivial⟩ ⟨rr,trivial⟩ rfl rfl ?_;rintro x rout ⟨⟨j,k1,k2,k3,rfl⟩,rfl⟩;refine⟨rfl,?_⟩;conv=>whnf
 refine⟨by unfold inI64;omega,?_⟩;conv=>whnf
 refine .ret _ ?_;conv=>whnf
 exact⟨[(1000000,strm n L (a+1))],⟨⟨_,by omega,by omega,rfl⟩,a+1,by omega,by omega,rfl⟩,rr,trivial⟩
theorem s84 (n:Nat)(L:Nat→Int)(hL:Rok n L)(a:Int)(h0:0≤a)(ha:a≤2^40)(m:Int)(hm:m≤2^40):
 FSpec Tryz.prog 17 [.ptr 1000000 0,.d (.int .i64 m)] [(1000000,strm n L a)] (fun y r=>(∃b:Bool,y= .d (.bool b))∧Moved n L a 1 r):=by
 refine spec_of hT (C:= []) Tryz.func17 rfl Tryz.call17 rfl rfl rfl ?_;conv=>whnf
 refine CallX.of (s86 n L hL a h0 ha _ (by omega)) [(1000000,1000000)] rfl ⟨lr,lr,trivial⟩ ⟨rr,trivial⟩ rfl rfl ?_;rintro x rout ⟨⟨j,k1,k2,k3,rfl⟩,rfl⟩;refine⟨rfl,?_⟩;conv=>whnf
 refine .ret _ ?_;conv=>whnf
 exact⟨[(1000000,strm n L (a+1))],⟨⟨_,rfl⟩,a+1,by omega,by omega,rfl⟩,rr,trivial⟩
theorem s33 (n:Nat)(L:Nat→Int)(hL:Rok n L)(a:Int)(h0:0≤a)(ha:a≤2^40)(l:List Int)(hl:1≤l.length)(hl2:l.length≤2^40):
 FSpec Tryz.prog 59 [.ptr 1000000 0,.d (ints l)] [(1000000,strm n L a)] (fun y r=>(∃x ∈ l,y= .d (.int .i64 x))∧Moved n L a 1 r):=by
 refine spec_of hT (C:= []) Tryz.func59 rfl Tryz.call59 rfl rfl rfl ?_;conv=>whnf
 refine oAx (s86 n L hL a h0 ha l.length (by omega)) [(1000000,1000000)] ?_;rintro x rout ⟨⟨j,k1,k2,k3,rfl⟩,rfl⟩;refine⟨rfl,?_⟩;conv=>whnf
 refine⟨⟨k1,by omega⟩,?_⟩;conv=>whnf
 refine .ret _ ?_;conv=>whnf
 exact⟨[(1000000,strm n L (a+1))],⟨⟨_,getD_mem (by omega),rfl⟩,a+1,by omega,by omega,rfl⟩,rr,trivial⟩
theorem s15 (n:Nat)(L:Nat→Int)(hL:Rok n L)(a:Int)(h0:0≤a)(ha:a≤2^40)(l:List (List UInt8))(hl:1≤l.length)(hl2:l.length≤2^40):
 FSpec Tryz.prog 27 [.ptr 1000000 0,.d (strs l)] [(1000000,strm n L a)] (fun y r=>(∃x ∈ l,y= .d (.str x))∧Moved n L a 1 r):=by
 refine spec_of hT (C:= []) Tryz.func27 rfl Tryz.call27 rfl rfl rfl ?_;conv=>whnf
 refine oAx (s86 n L hL a h0 ha l.length (by omega)) [(1000000,1000000)] ?_;rintro x rout ⟨⟨j,k1,k2,k3,rfl⟩,rfl⟩;refine⟨rfl,?_⟩;conv=>whnf
 refine⟨⟨k1,by omega⟩,?_⟩;conv=>whnf
 refine .ret _ ?_;conv=>whnf
 exact⟨[(1000000,strm n L (a+1))],⟨⟨_,getD_mem (by omega),rfl⟩,a+1,by omega,by omega,rfl⟩,rr,trivial⟩
theorem Moved.trans {n:Nat}{L:Nat→Int}{a c:Int}{r:List (Nat×Res)}{b d:Int}(h1:a≤b)(h2:b+d≤a+c)(h:Moved n L b d r):Moved n L a c r:=by
 obtain⟨e,q1,q2,rfl⟩:=h;exact⟨e,by omega,by omega,rfl⟩
theorem s104 (n:Nat)(L:Nat→Int)(hL:Rok n L)(a:Int)(h0:0≤a)(ha:a≤2^39)(lo hi:Int)(h1: -2^38≤lo)(h2:lo≤hi)(h3:hi≤2^39):
 FSpec Tryz.prog 61 [.ptr 1000000 0,.d (.int .i64 lo),.d (.int .i64 hi)] [(1000000,strm n L a)] (fun y r=>(∃j:Int,-2^40≤j∧j≤2^40∧y= .d (.int .i64 j))∧Moved n L a 2 r):=by
 refine spec_of hT (C:= []) Tryz.func61 rfl Tryz.call61 rfl rfl rfl ?_;conv=>whnf
 refine oAx (s84 n L hL a h0 (by omega) 12 (by omega)) [(1000000,1000000)] ?_;rintro x rout ⟨⟨f,rfl⟩,⟨b,b1,b2,rfl⟩⟩;refine⟨rfl,?_⟩;conv=>whnf
 refine br_intro (fun hf=> ?_) (fun hf=> ?_)
 · conv=>whnf
   refine⟨by unfold inI64;omega,?_⟩;conv=>whnf
   refine⟨by unfold inI64;omega,?_⟩;conv=>whnf
   refine CallX.of (s33 n L hL b (by omega) (by omega) [lo - 1,hi+1,lo,hi,-1099511627776,1099511627776] (by simp) (by simp)) [(1000000,1000000)] rfl ⟨lr,SV.le_lit (by rfl) (by rfl),trivial⟩ ⟨rr,trivial⟩ rfl rfl ?_;rintro x rout ⟨⟨j,hj,rfl⟩,⟨c,c1,c2,rfl⟩⟩;refine⟨rfl,?_⟩;conv=>whnf
   refine .ret _ ?_;conv=>whnf
   exact⟨[(1000000,strm n L c)],⟨⟨j,by simp at hj;omega,by simp at hj;omega,rfl⟩,c,by omega,by omega,rfl⟩,rr,trivial⟩
 · conv=>whnf
   refine oAx (s64 n L hL b (by omega) (by omega) lo hi (by omega) (by omega) (by omega) h2) [(1000000,1000000)] ?_;rintro x rout ⟨⟨j,j1,j2,rfl⟩,⟨c,c1,c2,rfl⟩⟩;refine⟨rfl,?_⟩;conv=>whnf
   refine .ret _ ?_;conv=>whnf
   exact⟨[(1000000,strm n L c)],⟨⟨j,by omega,by omega,rfl⟩,c,by omega,by omega,rfl⟩,rr,trivial⟩
end Go.Proofs.YtophabkpfpbadaaGreatDoor
namespace Go.Eng
open Go
end Go.Eng
namespace Go.Eng
open Go
end Go.Eng
namespace Go.Eng
open Go
end Go.Eng
namespace Go.Eng
open Go Go.RowKit
theorem know_look {Q:Hp→Prop}(d:Nat)(r:Res)(hd:lookL [((1000009:Nat),Res.know Q)] d=some r):d=1000009∧r= .know Q:=by
 simp only[lookL]at hd
 cases hq:Nat.beq d 1000009 with
 |false=>rw[hq]at hd;cases hd
 |true=>rw[hq]at hd;cases hd;exact⟨Nat.eq_of_beq_eq_true hq,rfl⟩
theorem FSpec.ofKnow {P:Program}{f:FuncId}{args:List SV}{y:SV}{Q:Hp→Prop}(henter:∀args w,(callFunc f args).run P w= .ok (.enter f args) w)
 (h:∀ (G:Hp) (β:Env) (w:World) (vs:List Value),Q G→(∀b o,G b=some o→w.heap[b]? =some o)→vs.length=args.length→(∀ (i:Nat) x v,args[i]? =some x→vs[i]? =some v→SV.Den G β x v)→
   ∃u,(∀G β,SV.Den G β y u)∧Calls P f vs.toArray w fun e w' =>e= .returned u∧Below w.heap.size w w'):FSpec P f args [(1000009,.know Q)] (fun x r=>x=y∧r= [(1000009,.know Q)]):=by
 refine⟨henter,fun G β w vs hpre hl hd=> ?_⟩;have hR:lookL [((1000009:Nat),Res.know Q)] 1000009=some (.know Q):=by simp[lookL]
 have hq:ResOk G β w 1000009 (.know Q):=hpre.rs _ _ hR;obtain⟨u,hu,hc⟩:=h G β w vs (hq.2 G (Hp.le_refl G)) hpre.gw hl hd;refine hc.mono ?_;rintro e w' ⟨rfl,hb⟩;refine⟨u,y,_,G,β,rfl,⟨rfl,rfl⟩,⟨Hp.le_refl G,Env.le_refl β,fun b o hg=> ?_,fun b o hg=>.inl hg,⟨hb.os,hb.tape,hb.output,hb.size,fun b hlt _=>hb.block b hlt⟩,fun d r hd=> ?_,fun d d' r r' v v' b h1 h2 o1=> ?_,fun d r v b h1 o1=> ?_⟩,hu G β⟩
 · have:=hpre.gw b o hg;have hlt:b<w.heap.size:=(Array.getElem?_eq_some_iff.1 this).1;rw[hb.block b hlt];exact this
 · obtain⟨rfl,rfl⟩:=know_look d r hd;exact⟨hq.1,hq.2⟩
 · obtain⟨_,rfl⟩:=know_look d r h1;cases o1
 · obtain⟨_,rfl⟩:=know_look d r h1;cases o1
theorem FSpec.atStart {P:Program}{f:FuncId}{args:List SV}{post:SV→Prop}{Q:Hp→Prop}(h:FSpec P f args [(1000009,.know Q)] (fun x r=>post x∧r= [(1000009,.know Q)]))(W:World)(hQ:∀G,(Hp.le (fun b=>W.heap[b]?) G)→Q G):
 Pre (fun b=>W.heap[b]?) (fun d=>if d=1000009 then some (.bool true)else none) W (lookL [((1000009:Nat),Res.know Q)]):=by
 refine⟨fun _ _ e=>e,fun d r hd=> ?_,fun d d' r r' v v' b h1 h2 o1=> ?_,fun d r v b h1 o1=> ?_,fun d v hd=> ?_⟩
 · obtain⟨rfl,rfl⟩:=know_look d r hd;exact⟨⟨_,if_pos rfl⟩,hQ⟩
 · obtain⟨_,rfl⟩:=know_look d r h1;cases o1
 · obtain⟨_,rfl⟩:=know_look d r h1;cases o1
 · by_cases q:d=1000009
   · subst q;exact⟨_,rfl⟩
   · rw[if_neg q]at hd;cases hd
end Go.Eng
namespace Go.Eng
open Go Go.RowKit
def facts (F:World→Prop):Hp→Prop:=fun G=>∀w:World,(∀ (b:Nat) (o:Obj),G b=some o→w.heap[b]? =some o)→F w
theorem facts_start {F:World→Prop}{W:World}(h:∀w:World,(∀ (b:Nat) (o:Obj),W.heap[b]? =some o→w.heap[b]? =some o)→F w)(G:Hp)(hG:Hp.le (fun b=>W.heap[b]?) G):facts F G:=
 fun w hw=>h w (fun b o e=>hw b o (hG b o e))
mutual
theorem okN_more:∀x:SV,SV.okN [] x=true→SV.okN [((1000009:Nat),(1000009:Nat))] x=true
 | .any,_=>rfl
 | .bad,_=>rfl
 | .undef,_=>rfl
 | .d _,_=>rfl
 | .agg l,h=>by simp only[SV.okN]at h ⊢;exact okNL_more l h
 | .tup l,h=>by simp only[SV.okN]at h ⊢;exact okNL_more l h
 | .ptr _ _,h=>by simp[SV.okN,lookN]at h
 | .buf _,h=>by simp[SV.okN,lookN]at h
 | .bel _ _ _ _,h=>by simp[SV.okN,lookN]at h
 | .mp _,h=>by simp[SV.okN,lookN]at h
 | .fn f caps,h=>by simp only[SV.okN]at h ⊢;exact okNL_more caps h
 | .sub _ _ _ _,h=>by simp[SV.okN,lookN]at h
theorem okNL_more:∀l:List SV,SV.okNL [] l=true→SV.okNL [((1000009:Nat),(1000009:Nat))] l=true
 | [],_=>rfl
 | x::l,h=>by
   simp only[SV.okNL,Bool.and_eq_true]at h ⊢;exact⟨okN_more x h.1,okNL_more l h.2⟩
end
theorem FSpec.ofKnowP {P:Program}{f:FuncId}{args:List SV}{Q:Hp→Prop}{post:SV→Prop}(henter:∀args w,(callFunc f args).run P w= .ok (.enter f args) w)
 (h:∀ (G:Hp) (β:Env) (w:World) (vs:List Value),Q G→(∀b o,G b=some o→w.heap[b]? =some o)→vs.length=args.length→(∀ (i:Nat) x v,args[i]? =some x→vs[i]? =some v→SV.Den G β x v)→
   Calls P f vs.toArray w fun e w' =>∃u y G',e= .returned u∧post y∧G.le G'∧(∀b o,G' b=some o→w'.heap[b]? =some o)∧(∀b o,G' b=some o→G b=some o∨w.heap.size≤b)∧(∀β,SV.Den G' β y u)∧Below w.heap.size w w'):
 FSpec P f args [(1000009,.know Q)] (fun x r=>post x∧r= [(1000009,.know Q)]):=by
 refine⟨henter,fun G β w vs hpre hl hd=> ?_⟩;have hR:lookL [((1000009:Nat),Res.know Q)] 1000009=some (.know Q):=by simp[lookL]
 have hq:ResOk G β w 1000009 (.know Q):=hpre.rs _ _ hR;refine(h G β w vs (hq.2 G (Hp.le_refl G)) hpre.gw hl hd).mono ?_;rintro e w' ⟨u,y,G',rfl,hy,hle,hgw,hgn,hden,hb⟩;refine⟨u,y,_,G',β,rfl,⟨hy,rfl⟩,⟨hle,Env.le_refl β,hgw,fun b o hg=>(hgn b o hg).elim .inl (fun q=>.inr (.inr q)),⟨hb.os,hb.tape,hb.output,hb.size,fun b hlt _=>hb.block b hlt⟩,fun d r hd=> ?_,fun d d' r r' v v' b h1 h2 o1=> ?_,fun d r v b h1 o1=> ?_⟩,hden β⟩
 · obtain⟨rfl,rfl⟩:=know_look d r hd;exact⟨hq.1,fun G'' h2=>hq.2 G'' (Hp.le_trans hle h2)⟩
 · obtain⟨_,rfl⟩:=know_look d r h1;cases o1
 · obtain⟨_,rfl⟩:=know_look d r h1;cases o1
theorem FSpec.ofKnowB {P:Program}{f:FuncId}{args:List SV}{Q:Hp→Prop}{post:SV→Prop}(henter:∀args w,(callFunc f args).run P w= .ok (.enter f args) w)
 (h:∀ (G:Hp) (β:Env) (w:World) (vs:List Value),Q G→(∀b o,G b=some o→w.heap[b]? =some o)→vs.length=args.length→(∀ (i:Nat) x v,args[i]? =some x→vs[i]? =some v→SV.Den G β x v)→
   Calls P f vs.toArray w fun e w' =>∃u y,e= .returned u∧post y∧(∀G β,SV.Den G β y u)∧Below w.heap.size w w'):
 FSpec P f args [(1000009,.know Q)] (fun x r=>post x∧r= [(1000009,.know Q)]):=
 FSpec.ofKnowP henter fun G β w vs hq hg hl hd=>(h G β w vs hq hg hl hd).mono fun e w' =>by
  rintro⟨u,y,he,hy,hden,hb⟩;refine⟨u,y,G,he,hy,Hp.le_refl G,fun b o e=> ?_,fun b o e=>.inl e,hden G,hb⟩;have:=hg b o e;have hlt:b<w.heap.size:=(Array.getElem?_eq_some_iff.1 this).1;rw[hb.block b hlt];exact this
theorem CallX.kn {P:Program}{f:FuncId}{dst:Option Nat}{args:List SV}{s:St}{av:List Nat}{k:Upd→Prop}{y:SV}{Q:Hp→Prop}
 (hs:FSpec P f args [(1000009,.know Q)] fun x r=>x=y∧r= [(1000009,.know Q)])(hR:s.res 1000009=some (.know Q))(hargs:SV.okNL [] args=true)(hav:mem av 1099512627785=false)(hy:SV.okN [] y=true)
 (hk:k ⟨dst,y,[],[]⟩):CallX P f dst args s av k:=by
 have up:∀ {x:SV},SV.okN [] x=true→SV.okN [((1000009:Nat),(1000009:Nat))] x=true∧x.ren [((1000009:Nat),(1000009:Nat))]=x:=by
  have idr:∀d c,lookN [((1000009:Nat),(1000009:Nat))] d=some c→c=d:=by
   intro d c hd;simp only[lookN]at hd
   cases hq:Nat.beq d 1000009 with
   |false=>rw[hq]at hd;cases hd
   |true=>rw[hq]at hd;cases hd;exact(Nat.eq_of_beq_eq_true hq).symm
  have mono:∀x:SV,SV.okN [] x=true→SV.okN [((1000009:Nat),(1000009:Nat))] x=true:=okN_more;exact fun{x} hx=>⟨mono x hx,ren_id idr x (mono x hx)⟩
 refine CallX.look hs [(1000009,1000009)] rfl ?_ ⟨⟨1000009,rfl,hR⟩,trivial⟩ rfl (by simp[hav]) (by simp[(up hy).1,outN,lookN,Res.okN]) ?_
 · have:∀l:List SV,SV.okNL [] l=true→argsLe [((1000009:Nat),(1000009:Nat))] l l:=by
    intro l
    induction l with
    |nil=>intro _;trivial
    | cons x l ih=>
      intro h;simp only[SV.okNL,Bool.and_eq_true]at h;exact⟨by rw[(up h.1).2];exact SV.le_refl _,ih h.2⟩
   exact this args hargs
 · rw[(up hy).2];exact hk
end Go.Eng
set_option maxRecDepth 20000
namespace Go.Proofs.YtophabkpfpbadaaGreatDoor
open Go Go.Eng Go.Shelf Go.RowKit
def FX (w:World):Prop:=(∀n:Int,-9223372036854775808≤n→n≤9223372036854775807→Calls Tryz.prog 103 #[.int .i64 n] w fun e w' =>e= .returned (.string ⟨(Lib.itoa n).toArray⟩)∧∃k os,w' =Go.Sort.grow (w.drewN k) os)∧(∃m,w.cell? ⟨Tryz.lays146_ren.g 1,0,none⟩=some (.int .i64 m))∧
 (∃v,w.cell? ⟨Tryz.laysC172_ren.g 15,0,none⟩=some v∧(v= .nilIface∨∃t p,v= .iface t p))∧(∃v,w.cell? ⟨Tryz.laysC172_ren.g 16,0,none⟩=some v∧(v= .nilIface∨∃t p,v= .iface t p))
abbrev KX:Res:=.know (facts FX)
abbrev kx:List (Nat×Res):= [(1000009,KX)]
theorem bsz (l:List UInt8):(⟨l.toArray⟩:ByteArray).size=l.length:=by simp[ByteArray.size]
theorem below_grow {w:World}(n:Nat)(os:Array Obj):Below w.heap.size w (Go.Sort.grow (w.drewN n) os):=
 ⟨rfl,rfl,rfl,by simp[Go.Sort.grow,World.drewN],fun k hk=>by
   show(w.heap++os)[k]? =_
   rw[Array.getElem?_append_left hk]⟩
theorem zItoa (n:Int)(h0: -9223372036854775808≤n)(h1:n≤9223372036854775807):FSpec Tryz.prog 103 [.d (.int .i64 n)] kx (fun x r=>x= .d (.str (Lib.itoa n))∧r=kx):=by
 refine FSpec.ofKnow Tryz.call103 (fun G β w vs hq hg hvl hd=> ?_)
 match vs,hvl with
 | [u],_=>
   have h0':=hd 0 _ u rfl rfl
   cases h0' with|d _ _ h0' =>cases h0' with|int _ _=>
   have hF:=hq w hg;refine⟨.string ⟨(Lib.itoa n).toArray⟩,fun _ _=>.d _ _ (.str _),?_⟩;have hcon:=hF.1 n h0 h1;refine hcon.mono ?_;rintro e' w' ⟨rfl,k,os,rfl⟩;exact⟨rfl,below_grow k os⟩
def atoiX (s:List UInt8)(y:SV):Prop:=
 match Lib.atoiAll s with
 | .ok v=>y= .tup [.d (.int .i64 v),.d (.opq .nilIface)]
 | .range=>∃t p,y= .tup [.d (.int .i64 (Lib.atoiSat s)),.d (.opq (.iface t p))]
 |_=>∃t p,y= .tup [.d (.int .i64 0),.d (.opq (.iface t p))]
theorem tup2_den {G:Hp}{β:Env}{p q:SV}{a b:Value}(ha:SV.Den G β p a)(hb:SV.Den G β q b):SV.Den G β (.tup [p,q]) (.tuple #[a,b]):=
 .tup [p,q] [a,b] rfl (fun i x v hx hv=>by
  match i,hx,hv with
  |0,hx,hv=>simp at hx hv;subst hx;subst hv;exact ha
  |1,hx,hv=>simp at hx hv;subst hx;subst hv;exact hb)
theorem zAtoi (s:List UInt8)(hl:s.length≤2^40):FSpec Tryz.prog 219 [.d (.str s)] kx (fun x r=>atoiX s x∧r=kx):=by
 refine FSpec.ofKnowB Tryz.call219 (fun G β w vs hq hg hvl hd=> ?_)
 match vs,hvl with
 | [u],_=>
   have h0:=hd 0 _ u rfl rfl
   cases h0 with|d _ _ h0=>cases h0 with|str _=>
   obtain⟨_,_,⟨v1,c1,d1⟩,⟨v2,c2,d2⟩⟩:=hq w hg;have e:Tryz.laysC172_ren.f 172=219:=rfl
   cases hA:Lib.atoiAll s with
   | ok v=>
     have hcon:=Any.strconv_Atoi_ok Tryz.laysC172 ⟨s.toArray⟩ (by rw[bsz];omega) v (by simpa using hA) w;rw[e]at hcon;refine hcon.mono ?_;rintro e' w' ⟨rfl,hw⟩;refine⟨_,_,rfl,by unfold atoiX;rw[hA],fun _ _=>tup2_den (.d _ _ (.int _ _)) (.d _ _ (.opq _ rfl)),?_⟩;rcases hw with rfl|⟨t,rfl⟩
     · exact Below.refl _ _
     · exact Lib.bytesWorld_below _ _ _
   | range=>
     have hcon:=Any.strconv_Atoi_range Tryz.laysC172 ⟨s.toArray⟩ (by rw[bsz];omega) (by simpa using hA) v2 w c2 d2;rw[e]at hcon;refine hcon.mono ?_;rintro e' w' ⟨N,rfl,_,_,hb⟩;refine⟨_,_,rfl,by unfold atoiX;rw[hA];exact⟨_,_,rfl⟩,fun _ _=>tup2_den ?_ (.d _ _ (.opq _ rfl)),hb⟩
     simpa using SV.Den.d _ _ (DV.Den.int .i64 (Lib.atoiSat s))
   | _=>
     have hcon:=Any.strconv_Atoi_syntax Tryz.laysC172 ⟨s.toArray⟩ (by rw[bsz];omega) (by simpa using hA) v1 w c1 d1;rw[e]at hcon;refine hcon.mono ?_;rintro e' w' ⟨N,rfl,_,_,hb⟩;exact⟨_,_,rfl,by unfold atoiX;rw[hA];exact⟨_,_,rfl⟩,fun _ _=>tup2_den (.d _ _ (.int _ _)) (.d _ _ (.opq _ rfl)),hb⟩
theorem zTrimP (s p:List UInt8):FSpec Tryz.prog 220 [.d (.str s),.d (.str p)] [] (fun x r=>x= .d (.str (Lib.trimPrefix s p))∧r= []):=by
 refine FSpec.ofBelow Tryz.call220 (fun G β w vs _ hvl hd=> ?_)
 match vs,hvl with
 | [u,v],_=>
   have h0:=hd 0 _ u rfl rfl;have h1:=hd 1 _ v rfl rfl
   cases h0 with|d _ _ h0=>cases h0 with|str _=>
   cases h1 with|d _ _ h1=>cases h1 with|str _=>
   refine⟨.string ⟨(Lib.trimPrefix s p).toArray⟩,fun _ _=>.d _ _ (.str _),?_⟩;have hcon:=Any.strings_TrimPrefix Tryz.lays101 ⟨s.toArray⟩ ⟨p.toArray⟩ w;have e:Tryz.lays101_ren.f 101=220:=rfl;rw[e]at hcon;refine hcon.mono ?_;rintro e' w' ⟨rfl,rfl⟩;exact⟨rfl,Below.refl _ _⟩
theorem newRow_den {G:Hp}{w:World}(hG:∀b o,G b=some o→w.heap[b]? =some o)(L:List ByteArray)(N:Nat)(hL:L.length≤N)(hN:N≤maxLen)(cs:Array Value)(e:TypeId)(hc:∀i,i<L.length→cs[i]? =some (.string (L.getD i ByteArray.empty))):
 ∃G',G.le G'∧(∀b o,G' b=some o→(w.alloc (.cells cs e)).heap[b]? =some o)∧(∀b o,G' b=some o→G b=some o∨w.heap.size≤b)∧(∀β,SV.Den G' β (.d (strs (L.map (·.data.toList)))) (.slice (some ⟨w.heap.size,0,none⟩) L.length N)):=by
 have hfree:G w.heap.size=none:=by
  cases hg:G w.heap.size with
  |none=>rfl
  |some o=>have:=(Array.getElem?_eq_some_iff.1 (hG _ _ hg)).1;omega
 refine⟨G.add w.heap.size (.cells cs e),Hp.le_add hfree,fun b o hb=> ?_,fun b o hb=> ?_,fun β=>.d _ _ ?_⟩
 · unfold Hp.add at hb;split at hb
   · rename_i q;subst q;cases hb;exact heap_alloc_new w _
   · rw[heap_alloc_old w _ (Array.getElem?_eq_some_iff.1 (hG _ _ hb)).1];exact hG _ _ hb
 · unfold Hp.add at hb;split at hb
   · rename_i q;subst q;exact .inr (Nat.le_refl _)
   · exact .inl hb
 · have hlen:(L.map (·.data.toList)).length=L.length:=by simp
   unfold strs seqD;rw[hlen];refine .ro 1 L.length _ _ N (fun i _=>.string (L.getD i ByteArray.empty)) rfl hL hN (fun i _=>rfl) (fun i j x hi hx=> ?_) (fun i j x hi hx=> ?_)
   · have hj:j=0:=by
      have:=(List.getElem?_eq_some_iff.1 hx).1;simp[rowF,sF]at this;omega
     subst hj;refine⟨cs,e,(0,0),?_,?_,?_⟩
     · rw[Eng.Addr.add_block];simp[Hp.add]
     · exact Addr.add_spot _ rfl _
     · rw[Addr.add_lit];simpa using hc i hi
   · have hj:j=0:=by
      have:=(List.getElem?_eq_some_iff.1 hx).1;simp[rowF,sF]at this;omega
     subst hj;simp only[rowF,sF,List.getElem?_cons_zero,Option.some.injEq]at hx;subst hx
     have h1:(L.map (·.data.toList)).getD i []=(L.getD i ByteArray.empty).data.toList:=by
      simp[List.getD_eq_getElem?_getD,hi]
     rw[h1];generalize L.getD i ByteArray.empty=ba;have:=DV.Den.str (G:=G.add w.heap.size (.cells cs e)) ba.data.toList;rw[show(⟨ba.data.toList.toArray⟩:ByteArray)=ba from Lib.mk_data _]at this;exact this
theorem zSplit (s p:List UInt8)(hl:s.length≤2^31)(hp:1≤p.length):FSpec Tryz.prog 218 [.d (.str s),.d (.str p)] kx (fun x r=>x= .d (strs (Lib.split s p))∧r=kx):=by
 refine FSpec.ofKnowP (post:=fun x=>x= .d (strs (Lib.split s p))) Tryz.call218 (fun G β w vs hq hg hvl hd=> ?_)
 match vs,hvl with
 | [u,v],_=>
   have h0:=hd 0 _ u rfl rfl;have h1:=hd 1 _ v rfl rfl
   cases h0 with|d _ _ h0=>cases h0 with|str _=>
   cases h1 with|d _ _ h1=>cases h1 with|str _=>
   obtain⟨_,⟨m,c0⟩,_⟩:=hq w hg;have hcon:=Any.strings_Split Tryz.lays146 (by kernel_rfl) ⟨s.toArray⟩ ⟨p.toArray⟩ m w (by rw[bsz];omega) c0 (by rw[bsz];exact hp);have e:Tryz.lays146_ren.f 146=218:=rfl;rw[e]at hcon
   have hdat:(Lib.splitB ⟨p.toArray⟩ 0 (Lib.countB ⟨s.toArray⟩ ⟨p.toArray⟩) ⟨s.toArray⟩).map (·.data.toList)=Lib.split s p:=by
    rw[Lib.splitB_data];simp[Lib.split]
   have hle:=Lib.count_le s p;have hlen:(Lib.splitB ⟨p.toArray⟩ 0 (Lib.countB ⟨s.toArray⟩ ⟨p.toArray⟩) ⟨s.toArray⟩).length=Lib.countB ⟨s.toArray⟩ ⟨p.toArray⟩+1:=Lib.splitB_all _ (by rw[bsz];exact hp) 0 _ _ rfl;generalize hLL:Lib.splitB ⟨p.toArray⟩ 0 (Lib.countB ⟨s.toArray⟩ ⟨p.toArray⟩) ⟨s.toArray⟩=LL at hcon hdat hlen;have hcn:Lib.countB ⟨s.toArray⟩ ⟨p.toArray⟩=Lib.count s p:=by simp
   obtain⟨G',g1,g2,g3,g4⟩:=newRow_den hg LL LL.length (Nat.le_refl _) (by rw[hlen,hcn];unfold maxLen;omega) (LL.map Value.string).toArray (Tryz.lays146_ren.t 9) (fun i hi=>by simp[List.getD_eq_getElem?_getD,hi]);rw[←hlen]at hcon;refine hcon.mono ?_;rintro e' w' ⟨rfl,rfl⟩;rw[hdat]at g4;exact⟨_,_,G',rfl,rfl,g1,g2,g3,g4,(Below.refl _ _).alloc (Nat.le_refl _) _⟩
theorem s119 (n lo hi:Int):FSpec Tryz.prog 70 [.d (.int .i64 n),.d (.int .i64 lo),.d (.int .i64 hi)] [] (fun x r=>x= .d (.bool (decide (lo≤n∧n≤hi)))∧r= []):=by
 refine spec_of hT (C:= []) Tryz.func70 rfl Tryz.call70 rfl rfl rfl ?_;conv=>whnf
 refine br_intro (fun h=> ?_) (fun h=> ?_)
 · conv=>whnf
   refine .ret _ ?_;conv=>whnf
   refine⟨[],⟨?_,rfl⟩,trivial⟩;conv=>lhs;whnf
   simp at h ⊢;simp[h]
 · conv=>whnf
   refine .ret _ ?_;conv=>whnf
   refine⟨[],⟨?_,rfl⟩,trivial⟩;conv=>lhs;whnf
   simp at h ⊢;omega
theorem s109 (n lo hi:Int):FSpec Tryz.prog 108 [.d (.int .i64 n),.d (.int .i64 lo),.d (.int .i64 hi)] [] (fun x r=>x= .d (.bool (decide (lo≤n∧n≤hi)))∧r= []):=by
 refine spec_of hT (C:= []) Tryz.func108 rfl Tryz.call108 rfl rfl rfl ?_;conv=>whnf
 refine br_intro (fun h=> ?_) (fun h=> ?_)
 · conv=>whnf
   refine .ret _ ?_;conv=>whnf
   refine⟨[],⟨?_,rfl⟩,trivial⟩;conv=>lhs;whnf
   simp at h ⊢;simp[h]
 · conv=>whnf
   refine .ret _ ?_;conv=>whnf
   refine⟨[],⟨?_,rfl⟩,trivial⟩;conv=>lhs;whnf
   simp at h ⊢;omega
theorem s107 (b:Bool)(e:Int):FSpec Tryz.prog 69 [.d (.bool b),.d (.int .i64 e)] [] (fun x r=>x= .d (.int .i64 (if b then e else 0))∧r= []):=by
 refine spec_of hT (C:= []) Tryz.func69 rfl Tryz.call69 rfl rfl rfl ?_;conv=>whnf
 refine br_intro (fun h=> ?_) (fun h=> ?_)
 · conv=>whnf
   refine .ret _ ?_;conv=>whnf
   refine⟨[],⟨?_,rfl⟩,trivial⟩;conv=>lhs;whnf
   simp[h]
 · conv=>whnf
   refine .ret _ ?_;conv=>whnf
   refine⟨[],⟨?_,rfl⟩,trivial⟩;conv=>lhs;whnf
   simp[h]
theorem getD_toNat {α:Type}{l:List α}{i:Nat}{d:α}(h:i<l.length):l.getD (i:Int).toNat d=l[i]:=by
 rw[Int.toNat_natCast,List.getD_eq_getElem?_getD];simp[h]
theorem sum_take {l:List Int}{i:Nat}(hi:i<l.length):(l.take (i+1)).sum=(l.take i).sum+l[i]:=by
 rw[←List.take_append_getElem hi,List.sum_append];simp
def firstE:List Int→Int
 | []=>0
 |x::l=>if x=0 then firstE l else x
theorem s161 (l:List Int)(hl:l.length≤2^40):FSpec Tryz.prog 79 [.d (ints l)] [] (fun x r=>x= .d (.int .i64 (firstE l))∧r= []):=by
 refine spec_of hT (C:= []) Tryz.func79 rfl Tryz.call79 rfl rfl rfl ?_;conv=>whnf
 refine LoopX.rule hT (C:= []) (ι:=Nat) (fun i=>i≤l.length∧firstE l=firstE (l.drop i)) (fun i=>mkSt [(3,.d (.int .i64 0)),(6,.d (ints l)),(7,.d (.int .i64 l.length)),(8,.d (.int .i64 i))] []) (fun i=>l.length - i) 0 ⟨by omega,by simp⟩ ?_ ?_
 · refine Entails.mk' [] rfl rfl ⟨lr,lr,lr,lr,trivial⟩ trivial
 rintro i ⟨p1,p2⟩;conv=>whnf
 refine br_intro (fun h=> ?_) (fun h=> ?_)
 · simp only[decide_eq_true_eq]at h;conv=>whnf
   refine⟨⟨by omega,by omega⟩,?_⟩;conv=>whnf
   have hi:i<l.length:=by omega
   have hd:l.drop i=l[i]::l.drop (i+1):=List.drop_eq_getElem_cons hi;refine br_intro (fun h2=> ?_) (fun h2=> ?_)
   · conv=>whnf
     refine .ret _ ?_;conv=>whnf
     refine⟨[],⟨?_,rfl⟩,trivial⟩;conv=>lhs;whnf
     rw[getD_toNat hi]at h2 ⊢;simp at h2;rw[p2,hd,firstE,if_neg h2]
   · conv=>whnf
     rw[getD_toNat hi]at h2;simp at h2;refine⟨by unfold inI64;omega,?_⟩;conv=>whnf
     refine⟨i+1,⟨hi,?_⟩,by omega,?_⟩
     · rw[p2,hd,firstE,if_pos h2]
     · exact Entails.mk' [] rfl rfl ⟨lr,lr,lr,lr,trivial⟩ trivial
 · simp only[decide_eq_false_iff_not]at h;conv=>whnf
   refine .ret _ ?_;conv=>whnf
   refine⟨[],⟨?_,rfl⟩,trivial⟩;conv=>lhs;whnf
   rw[p2,List.drop_eq_nil_iff.2 (by omega)];rfl
theorem s105 (l:List Int)(hl:l.length≤2^40):FSpec Tryz.prog 39 [.d (ints l)] [] (fun x r=>x= .d (.int .i64 (firstE l))∧r= []):=by
 refine spec_of hT (C:= []) Tryz.func39 rfl Tryz.call39 rfl rfl rfl ?_;conv=>whnf
 refine pAx (s161 l hl) ?_;conv=>whnf
 refine .ret _ ?_;conv=>whnf
 exact⟨[],⟨rfl,rfl⟩,trivial⟩
def splitF (cents:Int)(w:List Int):Int:=
 if ¬ (0≤cents∧cents≤1000000000)then 1 else if 50<w.length then 2 else if w.any (fun x=> !decide (0≤x∧x≤5761440))then 1 else if w.sum=0 then 8 else 0
def keyCh (i:Nat)(c:UInt8):Bool:=(decide (97≤c.toNat)&&decide (c.toNat≤122))||(!decide (i=0)&&((decide (48≤c.toNat)&&decide (c.toNat≤57))||decide (c.toNat=45)||decide (c.toNat=95)))
def isKeyB (s:List UInt8):Bool:=(List.range s.length).all (fun i=>keyCh i (s.getD i 0))&& !s.isEmpty&&decide (s.length≤40)
theorem keyCh_iff {i:Nat}{c:UInt8}:keyCh i c=true↔((97≤(c.toNat:Int)∧(c.toNat:Int)≤122)∨((i:Int)≠0∧((48≤(c.toNat:Int)∧(c.toNat:Int)≤57)∨(c.toNat:Int)=45∨(c.toNat:Int)=95))):=by
 simp only[keyCh,Bool.or_eq_true,Bool.and_eq_true,decide_eq_true_eq,Bool.not_eq_true',decide_eq_false_iff_not];omega
theorem s108 (s:List UInt8)(hl:s.length≤2^40):FSpec Tryz.prog 81 [.d (.str s)] [] (fun x r=>x= .d (.bool (isKeyB s))∧r= []):=by
 refine spec_of hT (C:= []) Tryz.func81 rfl Tryz.call81 rfl rfl rfl ?_;conv=>whnf
 refine LoopX.rule hT (C:= []) (ι:=Nat) (fun i=>i≤s.length∧∀j,j<i→keyCh j (s.getD j 0)=true) (fun i=>mkSt [(0,.d (.str s)),(7,.d (.int .i64 s.length)),(8,.d (.int .i64 i))] []) (fun i=>s.length - i) 0 ⟨by omega,by omega⟩ ?_ ?_
 · exact Entails.mk' [] rfl rfl ⟨lr,lr,lr,trivial⟩ trivial
 rintro i ⟨p1,p2⟩;conv=>whnf
 refine br_intro (fun h=> ?_) (fun h=> ?_)
 · simp only[decide_eq_true_eq]at h;have hi:i<s.length:=by omega
   have e1:(i:Int).toNat=i:=Int.toNat_natCast i;conv=>whnf
   repeat (refine And.intro (by(try unfold inI64);(try dsimp only);(try simp only[e1,List.length_cons,List.length_append,List.length_singleton,List.length_nil]);omega) ?_;conv=>whnf)
   have hbad:keyCh i (s.getD i 0)=false→isKeyB s=false:=fun h=>by
    have:(List.range s.length).all (fun i=>keyCh i (s.getD i 0))=false:=by
     rw[List.all_eq_false];exact⟨i,List.mem_range.2 hi,by rw[h];simp⟩
    simp only[isKeyB,this,Bool.false_and]
   have hgood:keyCh i (s.getD i 0)=true→∀j,j<i+1→keyCh j (s.getD j 0)=true:=fun h j hj=>by
    rcases Nat.lt_or_ge j i with q|q
    · exact p2 j q
    · have:j=i:=by omega
      subst this;exact h
   repeat' (refine br_intro (fun _=> ?_) (fun _=> ?_)<;>(conv=>whnf))
   all_goals first
    | (refine And.intro (by unfold inI64;omega) ?_
       conv=>whnf
       refine⟨i+1,⟨hi,hgood ?_⟩,by omega,Entails.mk' [] rfl rfl ⟨lr,lr,lr,trivial⟩ trivial⟩;rw[keyCh_iff];simp only[decide_eq_true_eq,decide_eq_false_iff_not,Bool.not_eq_true',Bool.not_eq_false',e1]at*
       omega)
    | (refine .ret _ ?_
       conv=>whnf
       refine⟨[],⟨?_,rfl⟩,trivial⟩;conv=>lhs;whnf
       rw[hbad]
       cases hq:keyCh i (s.getD i 0)with
       |false=>rfl
       | true=>
         rw[keyCh_iff]at hq;simp only[decide_eq_true_eq,decide_eq_false_iff_not,Bool.not_eq_true',Bool.not_eq_false',e1]at*
         omega)
    |skip
 simp only[decide_eq_false_iff_not]at h;have e1:i=s.length:=by omega
 subst e1
 have hall:(List.range s.length).all (fun i=>keyCh i (s.getD i 0))=true:=by
  rw[List.all_eq_true];intro j hj;exact p2 j (List.mem_range.1 hj)
 conv=>whnf
 repeat' (refine br_intro (fun _=> ?_) (fun _=> ?_)<;>(conv=>whnf))
 all_goals (refine .ret _ ?_;conv=>whnf)
 all_goals (refine⟨[],⟨?_,rfl⟩,trivial⟩;conv=>lhs;whnf)
 · rename_i hq
   have:s.isEmpty=false:=by
    cases s with
    |nil=>exact absurd hq (by decide)
    |cons x l=>rfl
   unfold isKeyB;rw[hall,this];simp;omega
 · rename_i hq
   have:s.isEmpty=true:=by
    cases s with
    |nil=>rfl
    |cons x l=>exact absurd hq (by simp)
   unfold isKeyB;rw[hall,this];rfl
def strLe (a b:List UInt8):Bool:=Op.bytesLess a b||a==b
def firstAt (f:Nat→Int):Nat→Int
 |0=>0
 |n+1=>if firstAt f n=0 then f n else firstAt f n
theorem firstAt_zero {f:Nat→Int}:∀ {n:Nat},(∀j,j<n→f j=0)→firstAt f n=0:=by
 intro n
 induction n with
 |zero=>intro _;rfl
 |succ n ih=>intro h;rw[firstAt,if_pos (ih fun j hj=>h j (by omega))];exact h n (by omega)
theorem firstAt_eq {f:Nat→Int}{n i:Nat}{e:Int}(hi:i<n)(h:∀j,j<i→f j=0)(h1:e≠0)(h2:f i=e):firstAt f n=e:=by
 induction n with
 |zero=>omega
 | succ n ih=>
   rw[firstAt]
   by_cases q:i<n
   · rw[ih q,if_neg h1]
   · have:i=n:=by omega
     subst this;rw[if_pos (firstAt_zero h)];exact h2
end Go.Proofs.YtophabkpfpbadaaGreatDoor
namespace Go.Proofs
open Go.Shelf
def Tryz.lays160_ren:Go.Shelf.Ren:=⟨fun|160=>184|232=>212|231=>211|227=>213|234=>215|233=>214|236=>217|235=>216|228=>231|271=>234|151=>233|197=>232|120=>249|152=>248|260=>247|137=>261|119=>262|224=>263|225=>264|217=>271|266=>275|n=>n,fun|9=>9|4=>4|3=>3|5=>5|117=>331|116=>330|0=>0|124=>334|21=>21|105=>350|46=>216|119=>370|139=>373|138=>372|n=>n,fun|3=>4|4=>5|n=>n⟩
theorem Tryz.lays160:Go.Proofs.Lays.n160 Tryz.prog Tryz.lays160_ren:={
 mixed:=by kernel_rfl
 f119:=Tryz.func262.trans (congrArg some (by kernel_rfl))
 f120:=Tryz.func249.trans (congrArg some (by kernel_rfl))
 f137:=Tryz.func261.trans (congrArg some (by kernel_rfl))
 f151:=Tryz.func233.trans (congrArg some (by kernel_rfl))
 f152:=Tryz.func248.trans (congrArg some (by kernel_rfl))
 f160:=Tryz.func184.trans (congrArg some (by kernel_rfl))
 f197:=Tryz.func232.trans (congrArg some (by kernel_rfl))
 f217:=Tryz.func271.trans (congrArg some (by kernel_rfl))
 f224:=Tryz.func263.trans (congrArg some (by kernel_rfl))
 f225:=Tryz.func264.trans (congrArg some (by kernel_rfl))
 f227:=Tryz.func213.trans (congrArg some (by kernel_rfl))
 f228:=Tryz.func231.trans (congrArg some (by kernel_rfl))
 f231:=Tryz.func211.trans (congrArg some (by kernel_rfl))
 f232:=Tryz.func212.trans (congrArg some (by kernel_rfl))
 f233:=Tryz.func214.trans (congrArg some (by kernel_rfl))
 f234:=Tryz.func215.trans (congrArg some (by kernel_rfl))
 f235:=Tryz.func216.trans (congrArg some (by kernel_rfl))
 f236:=Tryz.func217.trans (congrArg some (by kernel_rfl))
 f260:=Tryz.func247.trans (congrArg some (by kernel_rfl))
 f266:=Tryz.func275.trans (congrArg some (by kernel_rfl))
 f271:=Tryz.func234.trans (congrArg some (by kernel_rfl))
 t0:=Tryz.underlying0
 a0:=Tryz.isAgg0
 z0:=Tryz.sizeOf0
 v0:=Tryz.zeroValue0
 t3:=Tryz.underlying3
 a3:=Tryz.isAgg3
 z3:=Tryz.sizeOf3
 v3:=Tryz.zeroValue3
 t4:=Tryz.underlying4
 a4:=Tryz.isAgg4
 z4:=Tryz.sizeOf4
 v4:=Tryz.zeroValue4
 t5:=Tryz.underlying5
 a5:=Tryz.isAgg5
 z5:=Tryz.sizeOf5
 v5:=Tryz.zeroValue5
 t9:=Tryz.underlying9
 a9:=Tryz.isAgg9
 z9:=Tryz.sizeOf9
 v9:=Tryz.zeroValue9
 t21:=Tryz.underlying21
 a21:=Tryz.isAgg21
 z21:=Tryz.sizeOf21
 v21:=Tryz.zeroValue21
 t46:=Tryz.underlying216
 a46:=Tryz.isAgg216
 z46:=Tryz.sizeOf216
 v46:=Tryz.zeroValue216
 t105:=Tryz.underlying350
 a105:=Tryz.isAgg350
 z105:=Tryz.sizeOf350
 v105:=Tryz.zeroValue350
 t116:=Tryz.underlying330
 a116:=Tryz.isAgg330
 z116:=Tryz.sizeOf330
 t117:=Tryz.underlying331
 a117:=Tryz.isAgg331
 z117:=Tryz.sizeOf331
 v117:=Tryz.zeroValue331
 t119:=Tryz.underlying370
 a119:=Tryz.isAgg370
 z119:=Tryz.sizeOf370
 t124:=Tryz.underlying334
 a124:=Tryz.isAgg334
 z124:=Tryz.sizeOf334
 v124:=Tryz.zeroValue334
 t138:=Tryz.underlying372
 a138:=Tryz.isAgg372
 z138:=Tryz.sizeOf372
 v138:=Tryz.zeroValue372
 t139:=Tryz.underlying373
 a139:=Tryz.isAgg373
 z139:=Tryz.sizeOf373
 v139:=Tryz.zeroValue373
 g3:=by kernel_rfl
 g4:=by kernel_rfl}
end Go.Proofs
set_option maxRecDepth 20000
namespace Go.Proofs.YtophabkpfpbadaaGreatDoor
open Go Go.Eng Go.Shelf
theorem s162 (s cs:List UInt8)(hl:s.length≤2^40)(hc:cs.length≤2^20)(ha:cs.all (fun b=>decide (b.toNat<128))=true):FSpec Tryz.prog 184 [.d (.str s),.d (.str cs)] [] (fun x r=>x= .d (.str (Lib.trimS s cs))∧r= []):=by
 refine FSpec.ofBelow Tryz.call184 (fun G β w vs _ hvl hd=> ?_)
 match vs,hvl with
 | [u,v],_=>
   have h0:=hd 0 _ u rfl rfl;have h1:=hd 1 _ v rfl rfl
   cases h0 with|d _ _ h0=>cases h0 with|str _=>
   cases h1 with|d _ _ h1=>cases h1 with|str _=>
   refine⟨.string ⟨(Lib.trimS s cs).toArray⟩,fun _ _=>.d _ _ (.str _),?_⟩;have hcon:=Any.strings_Trim_laid Tryz.lays160 (by kernel_rfl) ⟨s.toArray⟩ ⟨cs.toArray⟩ w (by simp[ByteArray.size];omega) (by simp[ByteArray.size];omega) (ascii_of_all (by simpa using ha));have e:Tryz.lays160_ren.f 160=184:=rfl;rw[e]at hcon;simpa using hcon
theorem dropWhile_nil {p:UInt8→Bool}{l:List UInt8}:l.dropWhile p= []↔∀b ∈ l,p b=true:=by
 induction l with
 |nil=>simp
 |cons a l ih=>by_cases h:p a=true<;>simp[List.dropWhile_cons,h,ih]
theorem trimS_nil {s cs:List UInt8}:Lib.trimS s cs= []↔∀b ∈ s,cs.contains b=true:=by
 unfold Lib.trimS Lib.trimLeftS Lib.trimRightS;rw[dropWhile_nil];constructor
 · intro h b hb;have h1:s.reverse.dropWhile (cs.contains ·)= []∨¬s.reverse.dropWhile (cs.contains ·)= []:=Classical.em _;rcases h1 with h1|h1
   · exact dropWhile_nil.1 h1 b (by simpa using hb)
   · obtain⟨c,m,hc⟩:=List.exists_cons_of_ne_nil h1
     have h3:cs.contains c=false:=by
      have:=List.head_dropWhile_not (cs.contains ·) (l:=s.reverse) h1;simp only[hc,List.head_cons]at this;exact this
     have h4:=h c (by rw[List.mem_reverse,hc];exact List.mem_cons_self);rw[h3]at h4;cases h4
 · intro h b hb;rw[List.mem_reverse]at hb;exact h b (by simpa using(List.dropWhile_sublist _).subset hb)
def onlyB (s cs:List UInt8):Bool:=s.all (cs.contains ·)
theorem s111 (s cs:List UInt8)(hl:s.length≤2^40)(hc:cs.length≤2^20)(ha:cs.all (fun b=>decide (b.toNat<128))=true):FSpec Tryz.prog 142 [.d (.str s),.d (.str cs)] [] (fun x r=>x= .d (.bool (onlyB s cs))∧r= []):=by
 refine spec_of hT (C:= []) Tryz.func142 rfl Tryz.call142 rfl rfl rfl ?_;conv=>whnf
 refine CallX.pure (s162 _ _ hl hc ha) ⟨lr,lr,trivial⟩ rfl ?_;conv=>whnf
 refine .ret _ ?_;conv=>whnf
 refine⟨[],⟨?_,rfl⟩,trivial⟩;show SV.d (.bool (Lib.trimS s cs== []))=_;congr 2
 rw[Bool.eq_iff_iff];simp only[beq_iff_eq,trimS_nil,onlyB,List.all_eq_true]
theorem s110 (a b c:Int):FSpec Tryz.prog 102 [.d (.int .i64 a),.d (.int .i64 b),.d (.int .i64 c)] [] (fun x r=>x= .d (.bool (decide (b≤a∧a≤c)))∧r= []):=by
 refine spec_of hT (C:= []) Tryz.func102 rfl Tryz.call102 rfl rfl rfl ?_;conv=>whnf
 repeat' (refine br_intro (fun _=> ?_) (fun _=> ?_)<;>(conv=>whnf))
 all_goals
  refine .ret _ ?_;conv=>whnf
  refine⟨[],⟨?_,rfl⟩,trivial⟩;conv=>lhs;whnf
  congr 2
  grind
def smallsL:List UInt8:= [97,98,99,100,101,102,103,104,105,106,107,108,109,110,111,112,113,114,115,116,117,118,119,120,121,122]
def keyL:List UInt8:=smallsL++ [48,49,50,51,52,53,54,55,56,57,45,95]
theorem u8_all {p:UInt8→Bool}(h:(List.range 256).all (fun n=>p (UInt8.ofNat n))=true)(c:UInt8):p c=true:=by
 have:=List.all_eq_true.1 h c.toNat (List.mem_range.2 c.toNat_lt);simpa using this
theorem small_iff (c:UInt8):smallsL.contains c=keyCh 0 c:=by
 have:=u8_all (p:=fun c=>smallsL.contains c==keyCh 0 c) (by decide+kernel) c;simpa using this
theorem key_iff (c:UInt8):keyL.contains c=keyCh 1 c:=by
 have:=u8_all (p:=fun c=>keyL.contains c==keyCh 1 c) (by decide+kernel) c;simpa using this
theorem keyCh_succ (i:Nat)(c:UInt8):keyCh (i+1) c=keyCh 1 c:=by simp[keyCh]
theorem keyCh_one {c:UInt8}(h:keyCh 0 c=true):keyCh 1 c=true:=by
 simp only[keyCh]at h ⊢;simp at h;simp[h]
theorem isKey_eq (s:List UInt8):isKeyB s=(decide (1≤(s.length:Int)∧(s.length:Int)≤40)&&onlyB (s.take 1) smallsL&&onlyB s keyL):=by
 cases s with
 |nil=>rfl
 | cons c l=>
   have h1:onlyB ((c::l).take 1) smallsL=keyCh 0 c:=by simp only[onlyB,List.take_succ_cons,List.take_zero,List.all_cons,List.all_nil,Bool.and_true,small_iff]
   have h2:onlyB (c::l) keyL=(keyCh 1 c&&l.all (keyCh 1 ·)):=by simp only[onlyB,List.all_cons,key_iff]
   have h3:(List.range (c::l).length).all (fun i=>keyCh i ((c::l).getD i 0))=(keyCh 0 c&&l.all (keyCh 1 ·)):=by
    rw[List.length_cons,List.range_succ_eq_map,List.all_cons,List.all_map];congr 1
    rw[Bool.eq_iff_iff,List.all_eq_true,List.all_eq_true];constructor
    · intro h x hx;obtain⟨i,hi,rfl⟩:=List.getElem_of_mem hx;have:=h i (List.mem_range.2 hi);simp only[Function.comp,List.getD_cons_succ,keyCh_succ]at this;rwa [List.getD_eq_getElem?_getD,List.getElem?_eq_getElem hi]at this
    · intro h i hi;have hi:=List.mem_range.1 hi;simp only[Function.comp,List.getD_cons_succ,keyCh_succ];rw[List.getD_eq_getElem?_getD,List.getElem?_eq_getElem hi];exact h _ (List.getElem_mem hi)
   unfold isKeyB;rw[h1,h2,h3,Bool.eq_iff_iff];simp only[Bool.and_eq_true,decide_eq_true_eq,Bool.not_eq_true',List.isEmpty_cons,List.length_cons];constructor
   · rintro⟨⟨⟨a,b⟩,_⟩,d⟩;exact⟨⟨⟨by omega,by omega⟩,a⟩,keyCh_one a,b⟩
   · rintro⟨⟨⟨_,d⟩,a⟩,_,b⟩;exact⟨⟨⟨a,b⟩,trivial⟩,by omega⟩
theorem s21 (s:List UInt8)(hl:s.length≤2^40):FSpec Tryz.prog 107 [.d (.str s)] [] (fun x r=>x= .d (.bool (isKeyB s))∧r= []):=by
 refine spec_of hT (C:= []) Tryz.func107 rfl Tryz.call107 rfl rfl rfl ?_;conv=>whnf
 repeat' (first|(refine CallX.exact (s110 _ _ _) rfl rfl ?_;rotate_right;conv=>whnf)|(refine CallX.exact (s111 s keyL hl ?_ ?_) rfl rfl ?_;rotate_right;conv=>whnf)|(refine CallX.exact (s111 _ smallsL ?_ ?_ ?_) rfl rfl ?_;rotate_right;conv=>whnf)|((first|(refine br_intro ?_ ?_<;>intro hb<;>try simp only[brs]at hb)|omega|refine sAx ?_|decide|assumption)<;>conv=>whnf))
 all_goals try(simp;omega)
 all_goals
  refine .ret _ ?_;conv=>whnf
  refine⟨[],⟨?_,rfl⟩,trivial⟩;conv=>lhs;whnf
  rw[isKey_eq];congr 2;grind
theorem first_step {f:Nat→Int}{i:Nat}(p:∀j,j<i→f j=0)(h:f i=0):∀j,j<i+1→f j=0:=fun j hj=>by
 rcases Nat.lt_or_ge j i with q|q
 · exact p j q
 · have:j=i:=by omega
   subst this;exact h
theorem toNat_pred (i:Nat):((i:Int) - 1).toNat=i - 1:=by omega
theorem take_snocD {α:Type}{l:List α}{i:Nat}{d:α}(h:i<l.length):l.take (i+1)=l.take i++ [l.getD i d]:=by
 rw[List.take_succ_eq_append_getElem h,List.getD_eq_getElem?_getD,List.getElem?_eq_getElem h];rfl
theorem firstAt_all {f:Nat→Int}:∀ {n:Nat},firstAt f n=0→∀j,j<n→f j=0:=by
 intro n
 induction n with
 |zero=>intro _ j hj;omega
 | succ n ih=>
   intro h j hj;rw[firstAt]at h;split at h
   · rename_i q;rcases Nat.lt_or_ge j n with r|r
     · exact ih q j r
     · have:j=n:=by omega
       subst this;exact h
   · omega
theorem mem_getD {α:Type}{l:List α}{x d:α}(h:x ∈ l):∃j,j<l.length∧l.getD j d=x:=by
 obtain⟨j,hj,rfl⟩:=List.getElem_of_mem h;exact⟨j,hj,by rw[List.getD_eq_getElem?_getD,List.getElem?_eq_getElem hj];rfl⟩
def oQCoD202_4:OL:= [(0,[]),(1,[0]),(2,[]),(3,[]),(4,[]),(5,[4]),(6,[4,5]),(7,[4]),(8,[4]),(9,[4,5,6,7,8]),(10,[4,5,6,7,8,9]),(11,[4,5,6,7,8,9]),(12,[4,5,6,7,8]),(13,[4,5,6,7,8]),(14,[]),(15,[]),(16,[])]
def oQCoD202_6:OL:= [(0,[]),(1,[0]),(2,[0,1]),(3,[0,1,2]),(4,[0,1,2]),(5,rg 5),(6,rg 6),(7,rg 6),(8,rg 5),(9,rg 5),(10,rg 10),(11,rg 11),(12,rg 10),(13,rg 10),(14,[2,3,4]),(15,[2,3,4]),(16,[]),(17,[])]
section
variable {α:Type} (cmp:α→α→Int)
def insR (x:α):List α→List α
 | []=> [x]
 |y::r=>if cmp x y<0 then y::insR x r else x::y::r
def isortR (l:List α):List α:=l.foldl (fun acc x=>insR cmp x acc) []
def isort (l:List α):List α:=(isortR cmp l).reverse
theorem insR_length (x:α):∀l:List α,(insR cmp x l).length=l.length+1:=by
 intro l
 induction l with
 |nil=>rfl
 |cons y r ih=>simp only[insR];split<;>simp[ih]
theorem isortR_snoc (l:List α)(x:α):isortR cmp (l++ [x])=insR cmp x (isortR cmp l):=by simp[isortR]
theorem isortR_length (l:List α):(isortR cmp l).length=l.length:=by
 have:∀ (l acc:List α),(l.foldl (fun acc x=>insR cmp x acc) acc).length=acc.length+l.length:=by
  intro l
  induction l with
  |nil=>intro acc;simp
  |cons x l ih=>intro acc;rw[List.foldl_cons,ih,insR_length];simp;omega
 rw[isortR,this];simp
theorem insR_mem (x y:α):∀ {l:List α},y ∈ insR cmp x l↔y=x∨y ∈ l:=by
 intro l
 induction l with
 |nil=>simp[insR]
 | cons z r ih=>
   simp only[insR];split
   · simp only[List.mem_cons,ih];constructor
     · rintro(h|h|h)
       · exact .inr (.inl h)
       · exact .inl h
       · exact .inr (.inr h)
     · rintro(h|h|h)
       · exact .inr (.inl h)
       · exact .inl h
       · exact .inr (.inr h)
   · simp
theorem isortR_mem {y:α}(l:List α):y ∈ isortR cmp l↔y ∈ l:=by
 have:∀ (l acc:List α),y ∈ (l.foldl (fun acc x=>insR cmp x acc) acc)↔y ∈ acc∨y ∈ l:=by
  intro l
  induction l with
  |nil=>intro acc;simp
  | cons x l ih=>
    intro acc;rw[List.foldl_cons,ih,insR_mem,List.mem_cons];constructor
    · rintro((h|h)|h)
      · exact .inr (.inl h)
      · exact .inl h
      · exact .inr (.inr h)
    · rintro(h|h|h)
      · exact .inl (.inr h)
      · exact .inl (.inl h)
      · exact .inr h
 rw[isortR,this];simp
end
def cap3 (x y z:SV)(e1 e2 e3:TypeId):List (Nat×Res):= [(1000002,.cells e1 [x]),(1000003,.cells e2 [y]),(1000004,.cells e3 [z])]
theorem take_snoc {α:Type}{l:List α}{i:Nat}(h:i<l.length):l.take (i+1)=l.take i++ [l[i]]:=(List.take_append_getElem h).symm
theorem getD_mid {α:Type}(A B:List α)(x d:α){i:Nat}(h:i=A.length):(A++x::B).getD i d=x:=by
 subst h;rw[List.getD_eq_getElem?_getD];simp
theorem swap_lemma {α:Type}(A B:List α)(x y:α):(((A++ [y]++ [x]++B).set (A.length+1) y).set A.length x)=A++ [x]++ [y]++B:=by
 simp[List.set_append]
theorem s228 (g:FuncId)(x1 x2 x3:DV)(e1 e2 e3:TypeId)(cmp:Int→Int→Int)(l:List Int)(hl:l.length≤2^40)
 (hcmp:∀p q,p ∈ l→q ∈ l→FSpec Tryz.prog g [.d (.int .i64 p),.d (.int .i64 q),.ptr 1000002 0,.ptr 1000003 0,.ptr 1000004 0] (cap3 (.d x1) (.d x2) (.d x3) e1 e2 e3)
   (fun y r=>y= .d (.int .i64 (cmp p q))∧r=cap3 (.d x1) (.d x2) (.d x3) e1 e2 e3)):
 FSpec Tryz.prog 202 [.buf 1000001,.d (.int .i64 0),.d (.int .i64 l.length),.fn g [.ptr 1000002 0,.ptr 1000003 0,.ptr 1000004 0]] ((1000001,seqB 3 1 iF 0 l)::cap3 (.d x1) (.d x2) (.d x3) e1 e2 e3)
  (fun y r=>y= .tup []∧r=(1000001,seqB 3 1 iF 0 (isort cmp l))::cap3 (.d x1) (.d x2) (.d x3) e1 e2 e3):=by
 refine spec_of hT (C:= []) Tryz.func202 rfl Tryz.call202 rfl rfl rfl ?_;conv=>whnf
 refine⟨by unfold inI64;omega,?_⟩;conv=>whnf
 refine LoopX.rule hT (C:= []) (ι:=Nat×List Int) (fun p=>1≤p.1∧(p.1≤l.length∨p.1=1)∧p.2=(isortR cmp (l.take p.1)).reverse++l.drop p.1)
  (fun p=>mkSt [(0,.buf 1000001),(1,.d (.int .i64 0)),(2,.d (.int .i64 l.length)),(3,.fn g [.ptr 1000002 0,.ptr 1000003 0,.ptr 1000004 0]),(8,.d (.int .i64 p.1))] ((1000001,seqB 3 1 iF 0 p.2)::cap3 (.d x1) (.d x2) (.d x3) e1 e2 e3))
  (fun p=>l.length - p.1) (1,l) ⟨by simp,by simp,?_⟩ ?_ ?_
 · simp only
   cases l with
   |nil=>rfl
   |cons x l=>simp[isortR,insR]
 · exact Entails.mk' rq0 rfl rfl ⟨lr,lr,lr,lr,lr,trivial⟩ ⟨rr,rr,rr,rr,trivial⟩
 rintro⟨i,c⟩ ⟨p1,p2,p3⟩;simp only at p1 p2 p3;conv=>whnf
 refine br_intro (fun h=> ?_) (fun h=> ?_)
 · simp only[decide_eq_true_eq]at h;have hi:i<l.length:=by omega
   conv=>whnf
   have hx:l[i] ∈ l:=List.getElem_mem hi;have hmem:∀y ∈ isortR cmp (l.take i),y ∈ l:=fun y hy=>List.mem_of_mem_take ((isortR_mem cmp _).1 hy)
   refine LoopX.rule hT (C:= []) (ι:=List Int×List Int) (fun p=>insR cmp l[i] (isortR cmp (l.take i))=p.2.reverse++insR cmp l[i] p.1∧p.1.length+p.2.length=i∧∀y ∈ p.1,y ∈ l)
    (fun p=>mkSt [(0,.buf 1000001),(1,.d (.int .i64 0)),(2,.d (.int .i64 l.length)),(3,.fn g [.ptr 1000002 0,.ptr 1000003 0,.ptr 1000004 0]),(8,.d (.int .i64 i)),(9,.d (.int .i64 p.1.length))]
      ((1000001,seqB 3 1 iF 0 (p.1.reverse++ [l[i]]++p.2++l.drop (i+1)))::cap3 (.d x1) (.d x2) (.d x3) e1 e2 e3))
    (fun p=>p.1.length) (isortR cmp (l.take i),[]) ⟨by simp,?_,hmem⟩ ?_ ?_
   · simp[isortR_length];omega
   · refine Entails.mk' rq0 rfl rfl ⟨lr,lr,lr,lr,lr,SV.le_int ?_,trivial⟩ ⟨?_,rr,rr,rr,trivial⟩
     · simp[isortR_length];omega
     · have:c=(isortR cmp (l.take i)).reverse++ [l[i]]++ []++l.drop (i+1):=by rw[p3,List.drop_eq_getElem_cons hi];simp
       show Res.le (seqB 3 1 iF 0 c) _;rw[this];exact rr
   rintro⟨A,B⟩ ⟨q1,q2,q3⟩;simp only at q1 q2 q3;have hlen:(A.reverse++ [l[i]]++B++l.drop (i+1)).length=l.length:=by simp;omega
   conv=>whnf
   refine RegX.rule hT rfl [] oQCoD202_4 (by decide+kernel) ?_;conv=>whnf
   refine br_intro (fun h2=> ?_) (fun h2=> ?_)
   · conv=>whnf
     cases A with
     |nil=>simp at h2
     |cons y A=>
     have g1:((y::A).reverse++ [l[i]]++B++l.drop (i+1)).getD (((y::A).length:Int)).toNat 0=l[i]:=by
      rw[show(y::A).reverse++ [l[i]]++B++l.drop (i+1)=(y::A).reverse++l[i]::(B++l.drop (i+1))by simp];exact getD_mid _ _ _ _ (by simp)
     have g2:((y::A).reverse++ [l[i]]++B++l.drop (i+1)).getD ((((y::A).length:Int)) - 1).toNat 0=y:=by
      rw[show(y::A).reverse++ [l[i]]++B++l.drop (i+1)=A.reverse++y::([l[i]]++B++l.drop (i+1))by simp];exact getD_mid _ _ _ _ (by simp)
     have hA:(y::A).length=A.length+1:=rfl;refine⟨⟨by omega,by simp only[hlen];omega⟩,?_⟩;conv=>whnf
     refine⟨by simp only[hlen];omega,?_⟩;conv=>whnf
     refine⟨by unfold inI64;simp only[List.length_cons];omega,?_⟩;conv=>whnf
     refine⟨⟨by simp only[List.length_cons];omega,by simp only[hlen,List.length_cons];omega⟩,?_⟩;conv=>whnf
     refine⟨by simp only[hlen,List.length_cons];omega,?_⟩;conv=>whnf
     refine CallX.of (hcmp l[i] y hx (q3 y (by simp))) [(1000002,1000002),(1000003,1000003),(1000004,1000004)] rfl ⟨SV.le_int g1,SV.le_int g2,lr,lr,lr,trivial⟩ ⟨rr,rr,rr,trivial⟩ rfl rfl ?_;rintro x rout ⟨rfl,rfl⟩;refine⟨rfl,?_⟩;conv=>whnf
     refine br_intro (fun h3=> ?_) (fun h3=> ?_)
     · simp only[decide_eq_true_eq]at h3;conv=>whnf
       refine RegX.rule hT rfl [] oQCoD202_6 (by decide+kernel) ?_;conv=>whnf
       repeat (refine And.intro (by(try unfold inI64);(try dsimp only);(try simp only[hlen,List.length_cons,List.length_append,List.length_singleton,List.length_nil]);omega) ?_;conv=>whnf)
       have hsw:(((y::A).reverse++ [l[i]]++B++l.drop (i+1)).set (((y::A).length:Int)).toNat y).set ((((y::A).length:Int)) - 1).toNat l[i]=A.reverse++ [l[i]]++(y::B)++l.drop (i+1):=by
        have k1:(((y::A).length:Int)).toNat=A.reverse.length+1:=by simp
        have k2:((((y::A).length:Int)) - 1).toNat=A.reverse.length:=by simp
        rw[k1,k2];have:=swap_lemma A.reverse (B++l.drop (i+1)) l[i] y;simp only[List.reverse_cons,List.append_assoc,List.singleton_append,List.cons_append,List.nil_append]at this ⊢;exact this
       refine⟨(A,y::B),⟨?_,by simp only[List.length_cons]at q2 ⊢;omega,fun z hz=>q3 z (by simp[hz])⟩,by simp only[List.length_cons];omega,?_⟩
       · rw[q1];simp[insR,h3]
       · refine Entails.mk' rq0 rfl rfl ⟨lr,lr,lr,lr,lr,SV.le_int (by simp only[List.length_cons];omega),trivial⟩ ⟨?_,rr,rr,rr,trivial⟩;show Res.le _ (seqB 3 1 iF 0 (A.reverse++ [l[i]]++(y::B)++l.drop (i+1)));rw[←hsw];refine Res.le_buf (by simp) (fun k hk=> ?_);have e1:=rows_putG (f:=iF) (d:=0) (l:=((y::A).reverse++ [l[i]]++B++l.drop (i+1))) (x:=y) (j:=((((y::A).length:Int)).toNat)) (off:=0) (ds:= [.int .i64 (((y::A).reverse++ [l[i]]++B++l.drop (i+1)).getD ((((y::A).length:Int) - 1).toNat) 0)]) (get:=rowF iF 0 ((y::A).reverse++ [l[i]]++B++l.drop (i+1))) (fun _ _=>rfl) (fun z _=>by rw[g2];rfl)
         have e2:=rows_putG (f:=iF) (d:=0) (l:=((y::A).reverse++ [l[i]]++B++l.drop (i+1)).set ((((y::A).length:Int)).toNat) y) (x:=l[i]) (j:=((((y::A).length:Int) - 1).toNat)) (off:=0) (ds:= [.int .i64 (((y::A).reverse++ [l[i]]++B++l.drop (i+1)).getD ((((y::A).length:Int)).toNat) 0)])
          (get:=fun k=>bif Nat.beq k ((((y::A).length:Int)).toNat)then setAtD (rowF iF 0 ((y::A).reverse++ [l[i]]++B++l.drop (i+1)) k) 0 [.int .i64 (((y::A).reverse++ [l[i]]++B++l.drop (i+1)).getD ((((y::A).length:Int) - 1).toNat) 0)]else rowF iF 0 ((y::A).reverse++ [l[i]]++B++l.drop (i+1)) k) (fun k hk=>e1 k (by simpa using hk)) (fun z _=>by rw[g1];rfl)
         exact e2 k (by simpa using hk)
     · simp only[decide_eq_false_iff_not]at h3;conv=>whnf
       refine⟨by unfold inI64;omega,?_⟩;conv=>whnf
       refine⟨(i+1,(y::A).reverse++ [l[i]]++B++l.drop (i+1)),⟨by simp only;omega,by simp only;omega,?_⟩,by simp only;omega,?_⟩
       · simp only;rw[take_snoc hi,isortR_snoc,q1];simp[insR,h3]
       · exact Entails.mk' rq0 rfl rfl ⟨lr,lr,lr,lr,lr,trivial⟩ ⟨rr,rr,rr,rr,trivial⟩
   · conv=>whnf
     refine⟨by unfold inI64;omega,?_⟩;conv=>whnf
     have hA:A= []:=by cases A<;>simp at h2 ⊢
     subst hA;refine⟨(i+1,[].reverse++ [l[i]]++B++l.drop (i+1)),⟨by simp only;omega,by simp only;omega,?_⟩,by simp only;omega,?_⟩
     · simp only;rw[take_snoc hi,isortR_snoc,q1];simp[insR]
     · exact Entails.mk' rq0 rfl rfl ⟨lr,lr,lr,lr,lr,trivial⟩ ⟨rr,rr,rr,rr,trivial⟩
 · conv=>whnf
   have e1:c=isort cmp l:=by
    simp only[decide_eq_false_iff_not]at h;rw[p3,List.take_of_length_le (by omega),List.drop_eq_nil_iff.2 (by omega),List.append_nil];rfl
   refine .ret _ ?_;conv=>whnf
   subst e1;exact⟨_,⟨rfl,rfl⟩,rr,rr,rr,rr,trivial⟩
def oQCoE118_1:OL:= [(0,[]),(1,[0]),(2,[0,1]),(3,[0]),(4,[0]),(5,[]),(6,rg 6),(7,[]),(8,rg 8),(9,rg 9),(10,rg 10),(11,rg 9),(12,rg 9),(13,rg 8),(14,rg 14),(15,rg 8),(16,[]),(17,[])]
theorem s207 (g:FuncId)(x1 x2 x3:DV)(e1 e2 e3:TypeId)(cmp:Int→Int→Int)(l:List Int)(hl:l.length<20)
 (hcmp:∀p q,p ∈ l→q ∈ l→FSpec Tryz.prog g [.d (.int .i64 p),.d (.int .i64 q),.ptr 1000002 0,.ptr 1000003 0,.ptr 1000004 0] (cap3 (.d x1) (.d x2) (.d x3) e1 e2 e3)
   (fun y r=>y= .d (.int .i64 (cmp p q))∧r=cap3 (.d x1) (.d x2) (.d x3) e1 e2 e3)):
 FSpec Tryz.prog 168 [.buf 1000001,.d (.int .i64 l.length),.fn g [.ptr 1000002 0,.ptr 1000003 0,.ptr 1000004 0]] ((1000001,seqB 3 1 iF 0 l)::cap3 (.d x1) (.d x2) (.d x3) e1 e2 e3)
  (fun y r=>y= .tup []∧r=(1000001,seqB 3 1 iF 0 (isort cmp l))::cap3 (.d x1) (.d x2) (.d x3) e1 e2 e3):=by
 refine spec_of hT (C:= []) Tryz.func168 rfl Tryz.call168 rfl rfl rfl ?_;conv=>whnf
 refine LoopX.unroll hT (C:= []) (fun _ _ h=>h) (fun _ h=>h) ?_;conv=>whnf
 refine br_intro (fun h=> ?_) (fun h=> ?_)
 · simp at h;omega
 conv=>whnf
 refine oAx (s228 g x1 x2 x3 e1 e2 e3 cmp l (by omega) hcmp) rq0 ?_;rintro x rout ⟨rfl,rfl⟩;refine⟨rfl,?_⟩;conv=>whnf
 refine LoopX.unroll hT (C:= []) (fun _ _ h=>h) (fun _ h=>h) ?_;conv=>whnf
 refine br_intro (fun h=> ?_) (fun h=> ?_)
 · simp at h;omega
 conv=>whnf
 refine .ret _ ?_;conv=>whnf
 exact⟨_,⟨rfl,rfl⟩,rr,rr,rr,rr,trivial⟩
theorem s173 (g:FuncId)(x1 x2 x3:DV)(e1 e2 e3:TypeId)(cmp:Int→Int→Int)(l:List Int)(hl:l.length<20)
 (hcmp:∀p q,p ∈ l→q ∈ l→FSpec Tryz.prog g [.d (.int .i64 p),.d (.int .i64 q),.ptr 1000002 0,.ptr 1000003 0,.ptr 1000004 0] (cap3 (.d x1) (.d x2) (.d x3) e1 e2 e3)
   (fun y r=>y= .d (.int .i64 (cmp p q))∧r=cap3 (.d x1) (.d x2) (.d x3) e1 e2 e3)):
 FSpec Tryz.prog 117 [.buf 1000001,.fn g [.ptr 1000002 0,.ptr 1000003 0,.ptr 1000004 0]] ((1000001,seqB 3 1 iF 0 l)::cap3 (.d x1) (.d x2) (.d x3) e1 e2 e3)
  (fun y r=>y= .tup []∧r=(1000001,seqB 3 1 iF 0 (isort cmp l))::cap3 (.d x1) (.d x2) (.d x3) e1 e2 e3):=by
 refine spec_of hT (C:= []) Tryz.func117 rfl Tryz.call117 rfl rfl rfl ?_;conv=>whnf
 refine oAx (s207 g x1 x2 x3 e1 e2 e3 cmp l (by omega) hcmp) rq0 ?_;rintro x rout ⟨rfl,rfl⟩;refine⟨rfl,?_⟩;conv=>whnf
 refine .ret _ ?_;conv=>whnf
 exact⟨_,⟨rfl,rfl⟩,rr,rr,rr,rr,trivial⟩
theorem s174 (c s:Int)(w:List Int)(hc:0≤c∧c≤1000000000)(hw:∀x ∈ w,0≤x∧x≤5761440)(hs:0<s)(hs2:s≤2^40)(p q:Nat)(hp:p<w.length)(hq:q<w.length):
 FSpec Tryz.prog 118 [.d (.int .i64 p),.d (.int .i64 q),.ptr 1000002 0,.ptr 1000003 0,.ptr 1000004 0] (cap3 (.d (.int .i64 c)) (.d (ints w)) (.d (.int .i64 s)) 3 22 3)
  (fun y r=>y= .d (.int .i64 ((c*w.getD q 0).tmod s - (c*w.getD p 0).tmod s))∧r=cap3 (.d (.int .i64 c)) (.d (ints w)) (.d (.int .i64 s)) 3 22 3):=by
 refine spec_of hT (C:= []) Tryz.func118 rfl Tryz.call118 rfl rfl rfl ?_;conv=>whnf
 have bd:∀i:Nat,i<w.length→0≤c*w.getD (i:Int).toNat 0∧c*w.getD (i:Int).toNat 0≤1000000000*5761440:=fun i hi=>by
  rw[getD_toNat hi];have:=hw _ (List.getElem_mem hi);exact⟨Int.mul_nonneg hc.1 this.1,Int.mul_le_mul hc.2 this.2 this.1 (by omega)⟩
 have bp:=bd p hp;have bq:=bd q hq;have tp:=Int.tmod_nonneg s bp.1;have tq:=Int.tmod_nonneg s bq.1;have tp2:=Int.tmod_lt_of_pos (c*w.getD (p:Int).toNat 0) hs;have tq2:=Int.tmod_lt_of_pos (c*w.getD (q:Int).toNat 0) hs;refine RegX.rule hT rfl [] oQCoE118_1 (by decide+kernel) ?_;conv=>whnf
 repeat (refine And.intro (by(try unfold inI64);(try dsimp only);(try simp only[List.length_cons,List.length_append,List.length_singleton,List.length_nil]);omega) ?_;conv=>whnf)
 refine .ret _ ?_;conv=>whnf
 exact⟨_,⟨rfl,rfl⟩,rr,rr,rr,trivial⟩
def oQCoF71_7:OL:= [(0,[]),(1,[]),(2,[]),(3,[0,1,2]),(4,[0,1,2]),(5,[0,1,2]),(6,[3,4,5]),(7,[])]
def fillL (g:Nat→Int)(n i:Nat):List Int:=(List.range n).map fun j=>if j<i then g j else 0
theorem fillL_length (g:Nat→Int)(n i:Nat):(fillL g n i).length=n:=by simp[fillL]
theorem fillL_get {g:Nat→Int}{n i j:Nat}(h:j<n):(fillL g n i)[j]'(by rw[fillL_length];exact h)=if j<i then g j else 0:=by simp[fillL]
theorem fillL_zero {e:Nat}{g:Nat→Int}{n m:Nat}{get:Nat→List DV}(hm:m=n)(hg:∀i,get i=iF 0):Res.le (.buf e 1 m get) (seqB e 1 iF 0 (fillL g n 0)):=
 Res.le_buf (by rw[fillL_length,hm]) (fun i hi=>by rw[rowF_lt (by rw[fillL_length];omega),hg i,fillL_get (by omega)];simp)
theorem fillL_set (g:Nat→Int)(n i:Nat):(fillL g n i).set i (g i)=fillL g n (i+1):=by
 apply List.ext_getElem
 · simp[fillL]
 · intro j h1 h2;simp only[fillL,List.getElem_set,List.getElem_map,List.getElem_range]
   by_cases e:i=j
   · subst e;simp
   · by_cases q:j<i
     · have:j<i+1:=by omega
       simp[e,q,this]
     · have:¬j<i+1:=by omega
       simp[e,q,this]
def leftL (c:Int)(g:Nat→Int)(i:Nat):Int:=c - ((List.range i).map g).sum
theorem leftL_succ (c:Int)(g:Nat→Int)(i:Nat):leftL c g (i+1)=leftL c g i - g i:=by
 simp[leftL,List.range_succ,List.sum_append];omega
def partG (c:Int)(w:List Int)(j:Nat):Int:=(c*w.getD j 0).tdiv w.sum
def cmpG (c:Int)(w:List Int)(p q:Int):Int:=(c*w.getD q.toNat 0).tmod w.sum - (c*w.getD p.toNat 0).tmod w.sum
def orderG (c:Int)(w:List Int):List Int:=isort (cmpG c w) (fillL (fun j=>(j:Int)) w.length w.length)
def incL (P:List Int)(js:List Int):List Int:=js.foldl (fun P j=>P.set j.toNat (P.getD j.toNat 0+1)) P
def splitG (c:Int)(w:List Int):List Int:=incL (fillL (partG c w) w.length w.length) ((orderG c w).take (leftL c (partG c w) w.length).toNat)
theorem incL_snoc (P:List Int)(js:List Int)(j:Int):incL P (js++ [j])=(incL P js).set j.toNat ((incL P js).getD j.toNat 0+1):=by simp[incL]
theorem sum_nonneg {l:List Int}(h:∀x ∈ l,0≤x):0≤l.sum:=by
 induction l with
 |nil=>simp
 |cons x l ih=>rw[List.sum_cons];have:=h x (by simp);have:=ih (fun y hy=>h y (by simp[hy]));omega
theorem sum_le {l:List Int}{b:Int}(h:∀x ∈ l,x≤b):l.sum≤b*l.length:=by
 induction l with
 |nil=>simp
 |cons x l ih=>rw[List.sum_cons];have:=h x (by simp);have:=ih (fun y hy=>h y (by simp[hy]));simp only[List.length_cons];rw[show b*((l.length+1:Nat):Int)=b*l.length+b by push_cast;rw[Int.mul_add,Int.mul_one]];omega
theorem s120 (c:Int)(w:List Int)(hc:0≤c∧c≤1000000000)(hw:∀x ∈ w,0≤x∧x≤5761440)(hn:w.length<20)(hs:w.sum≠0)(hleft:0≤leftL c (partG c w) w.length∧leftL c (partG c w) w.length≤w.length):
 FSpec Tryz.prog 71 [.d (.int .i64 c),.d (ints w)] [] (fun y r=>y= .d (ints (splitG c w))∧r= []):=by
 have hs0:0≤w.sum:=sum_nonneg fun x hx=>(hw x hx).1
 have hs1:w.sum≤5761440*w.length:=sum_le fun x hx=>(hw x hx).2
 refine spec_of hT (C:= []) Tryz.func71 rfl Tryz.call71 rfl rfl rfl ?_;conv=>whnf
 refine LoopX.rule hT (C:= []) (ι:=Nat) (fun i=>i≤w.length) (fun i=>mkSt [(2,.ptr 2 0),(3,.ptr 3 0),(5,.ptr 5 0),(15,.d (ints w)),(16,.d (.int .i64 w.length)),(17,.d (.int .i64 i))]
  [(2,.cells 3 [.d (.int .i64 c)]),(3,.cells 22 [.d (ints w)]),(5,.cells 3 [.d (.int .i64 (w.take i).sum)])]) (fun i=>w.length - i) 0 (by omega) ?_ ?_
 · exact Entails.mk' [(2,2),(3,3),(5,5)] rfl rfl ⟨lr,lr,lr,lr,lr,lr,trivial⟩ ⟨rr,rr,rr,trivial⟩
 intro i p1;conv=>whnf
 refine br_intro (fun h=> ?_) (fun h=> ?_)
 · simp only[decide_eq_true_eq]at h;have hi:i<w.length:=by omega
   have b1:=hw _ (List.getElem_mem hi);have b2:0≤(w.take i).sum:=sum_nonneg fun x hx=>(hw x (List.mem_of_mem_take hx)).1
   have b3:(w.take i).sum≤5761440*(w.take i).length:=sum_le fun x hx=>(hw x (List.mem_of_mem_take hx)).2
   have b4:(w.take i).length=i:=by simp;omega
   have b5:w.getD (i:Int).toNat 0=w[i]:=getD_toNat hi;conv=>whnf
   repeat (refine And.intro (by(try unfold inI64);(try dsimp only);(try simp only[List.length_cons,List.length_append,List.length_singleton,List.length_nil]);omega) ?_;conv=>whnf)
   refine⟨i+1,hi,by omega,?_⟩;refine Entails.mk' [(2,2),(3,3),(5,5)] rfl rfl ⟨lr,lr,lr,lr,lr,lr,trivial⟩ ⟨rr,rr,?_,trivial⟩;show Res.le (.cells 3 [.d (.int .i64 ((w.take i).sum+w.getD (i:Int).toNat 0))]) (.cells 3 [.d (.int .i64 (w.take (i+1)).sum)]);rw[b5,sum_take hi];exact rr
 simp only[decide_eq_false_iff_not]at h;have e1:i=w.length:=by omega
 subst e1;rw[List.take_length];conv=>whnf
 refine RegX.rule hT rfl [] oQCoF71_7 (by decide+kernel) ?_;conv=>whnf
 refine And.intro ⟨by omega,by omega,by show(8:Int)*w.length≤_;omega,by omega⟩ ?_;conv=>whnf
 refine And.intro ⟨by omega,by omega,by show(8:Int)*w.length≤_;omega,by omega⟩ ?_;conv=>whnf
 have hg0:∀j,j<w.length→0≤c*w.getD j 0∧c*w.getD j 0≤1000000000*5761440:=fun j hj=>by
  have:=hw _ (getD_mem (x:=(0:Int)) hj);exact⟨Int.mul_nonneg hc.1 this.1,Int.mul_le_mul hc.2 this.2 this.1 (by omega)⟩
 have hg1:∀j,j<w.length→0≤partG c w j∧partG c w j≤1000000000*5761440:=fun j hj=>by
  have:=hg0 j hj;exact⟨Int.tdiv_nonneg this.1 hs0,Int.le_trans (Int.tdiv_le_self _ this.1) this.2⟩
 have hl1:∀i,i≤w.length→c - 1000000000*5761440*i≤leftL c (partG c w) i∧leftL c (partG c w) i≤c:=fun i=>by
  induction i with
  |zero=>intro _;simp[leftL]
  |succ i ih=>intro hi;have:=ih (by omega);have:=hg1 i (by omega);rw[leftL_succ];omega
 refine LoopX.rule hT (C:= []) (ι:=Nat) (fun i=>i≤w.length) (fun i=>mkSt [(2,.ptr 2 0),(3,.ptr 3 0),(5,.ptr 5 0),(8,.buf 27),(9,.buf 30),(10,.d (.int .i64 (leftL c (partG c w) i))),(32,.d (ints w)),(33,.d (.int .i64 w.length)),(34,.d (.int .i64 i))]
  [(2,.cells 3 [.d (.int .i64 c)]),(3,.cells 22 [.d (ints w)]),(5,.cells 3 [.d (.int .i64 w.sum)]),(27,seqB 3 1 iF 0 (fillL (partG c w) w.length i)),(30,seqB 3 1 iF 0 (fillL (fun j=>(j:Int)) w.length i))]) (fun i=>w.length - i) 0 (by omega) ?_ ?_
 · exact Entails.mk' [(2,2),(3,3),(5,5),(27,27),(30,30)] rfl rfl ⟨lr,lr,lr,lr,lr,SV.le_int (by simp[leftL]),lr,lr,lr,trivial⟩
    ⟨rr,rr,rr,fillL_zero (by rfl) (fun _=>rfl),fillL_zero (by rfl) (fun _=>rfl),trivial⟩
 clear p1 h;intro i p1;conv=>whnf
 refine br_intro (fun h=> ?_) (fun h=> ?_)
 · simp only[decide_eq_true_eq]at h;have hi:i<w.length:=by omega
   have b0:=hg0 i hi;have b1:=hg1 i hi;have b2:=hl1 i p1;have e1:(i:Int).toNat=i:=Int.toNat_natCast i;have l1:=fillL_length (partG c w) w.length i;have l2:=fillL_length (fun j=>(j:Int)) w.length i;conv=>whnf
   repeat (refine And.intro (by(try unfold inI64);(try dsimp only);(try simp only[e1,l1,l2,List.length_cons,List.length_append,List.length_singleton,List.length_nil]);omega) ?_;conv=>whnf)
   refine And.intro (by show inI64 (partG c w i);unfold inI64;omega) ?_;conv=>whnf
   repeat (refine And.intro (by(try unfold inI64);(try dsimp only);(try simp only[e1,l1,l2,List.length_cons,List.length_append,List.length_singleton,List.length_nil]);omega) ?_;conv=>whnf)
   simp only[e1,Nat.beq_refl,cond_true];conv=>whnf
   refine And.intro (by show inI64 (leftL c (partG c w) i - partG c w i);unfold inI64;omega) ?_;conv=>whnf
   refine And.intro (by unfold inI64;omega) ?_;conv=>whnf
   refine⟨i+1,hi,by omega,?_⟩
   have r1:Res.le (.buf 3 1 (fillL (partG c w) w.length i).length fun j=>bif Nat.beq j i then setAtD (rowF iF 0 (fillL (partG c w) w.length i) j) 0 [.int .i64 (partG c w i)]else rowF iF 0 (fillL (partG c w) w.length i) j) (seqB 3 1 iF 0 (fillL (partG c w) w.length (i+1))):=by
    rw[←fillL_set];exact Res.le_putF (fun _ _=>rfl)
   have r2:Res.le (.buf 3 1 (fillL (fun j=>(j:Int)) w.length i).length fun j=>bif Nat.beq j i then setAtD (rowF iF 0 (fillL (fun j=>(j:Int)) w.length i) j) 0 [.int .i64 (i:Int)]else rowF iF 0 (fillL (fun j=>(j:Int)) w.length i) j) (seqB 3 1 iF 0 (fillL (fun j=>(j:Int)) w.length (i+1))):=by
    rw[←fillL_set];exact Res.le_putF (fun _ _=>rfl)
   exact Entails.mk' [(2,2),(3,3),(5,5),(27,27),(30,30)] rfl rfl ⟨lr,lr,lr,lr,lr,SV.le_int (leftL_succ c (partG c w) i).symm,lr,lr,lr,trivial⟩
    ⟨rr,rr,rr,r1,r2,trivial⟩
 simp only[decide_eq_false_iff_not]at h;have e1:i=w.length:=by omega
 subst e1;conv=>whnf
 have hlen:(fillL (fun j=>(j:Int)) w.length w.length).length=w.length:=fillL_length _ _ _
 have hmemo:∀p,p ∈ fillL (fun j=>(j:Int)) w.length w.length→∃j:Nat,p=j∧j<w.length:=fun p hp=>by
  simp only[fillL,List.mem_map,List.mem_range]at hp;obtain⟨j,hj,rfl⟩:=hp;exact⟨j,by simp[hj],hj⟩
 refine CallX.of (s173 118 (.int .i64 c) (ints w) (.int .i64 w.sum) 3 22 3 (cmpG c w) (fillL (fun j=>(j:Int)) w.length w.length) (by omega) (fun p q hp hq=>by
  obtain⟨j,rfl,hj⟩:=hmemo p hp;obtain⟨k,rfl,hk⟩:=hmemo q hq
  exact s174 c w.sum w hc hw (by omega) (by omega) j k hj hk)) [(1000001,30),(1000002,2),(1000003,3),(1000004,5)] rfl ⟨lr,lr,trivial⟩ ⟨rr,rr,rr,rr,trivial⟩ rfl rfl ?_
 rintro x rout ⟨rfl,rfl⟩;refine⟨rfl,?_⟩;conv=>whnf
 have hol:(orderG c w).length=w.length:=by unfold orderG isort;rw[List.length_reverse,isortR_length,fillL_length]
 refine SliceX.freeze _ _ _ _ rfl ?_;conv=>whnf
 refine And.intro ⟨by omega,hleft.1,by show _≤((orderG c w).length:Int);rw[hol];exact hleft.2⟩ ?_;conv=>whnf
 obtain⟨idx,hidx⟩:∃idx,idx=(orderG c w).take (leftL c (partG c w) w.length).toNat:=⟨_,rfl⟩;have hil:idx.length=(leftL c (partG c w) w.length).toNat:=by rw[hidx,List.length_take,hol];omega
 have him:∀p ∈ idx,∃j:Nat,p=j∧j<w.length:=fun p hp=>by
  rw[hidx]at hp;have:=List.mem_of_mem_take hp;unfold orderG isort at this;rw[List.mem_reverse,isortR_mem]at this;exact hmemo p this
 refine LoopX.rule hT (C:= []) (ι:=Nat×List Int) (fun p=>p.1≤idx.length∧p.2=incL (fillL (partG c w) w.length w.length) (idx.take p.1)∧p.2.length=w.length∧(∀x ∈ p.2,0≤x∧x≤1000000000*5761440+p.1))
  (fun p=>mkSt [(8,.buf 27),(63,.d (ints idx)),(64,.d (.int .i64 idx.length)),(65,.d (.int .i64 p.1))] [(27,seqB 3 1 iF 0 p.2)]) (fun p=>idx.length - p.1) (0,fillL (partG c w) w.length w.length) ⟨by simp,by simp[incL],fillL_length _ _ _,?_⟩ ?_ ?_
 · intro x hx;simp only[fillL,List.mem_map,List.mem_range]at hx;obtain⟨j,hj,rfl⟩:=hx;have:=hg1 j hj;simp[hj];omega
 · refine Entails.mk' [(27,27)] rfl rfl ⟨lr,SV.le_ro ?_ (fun i hi=> ?_),SV.le_int ?_,lr,trivial⟩ ⟨rr,trivial⟩
   · rw[hil];omega
   · change rowF iF 0 (orderG c w) (Int.toNat 0+i)=_
     rw[rowF_lt (show Int.toNat 0+i<(orderG c w).length by simp only[Int.toNat_zero];omega),rowF_lt (show i<idx.length by omega)];subst hidx;simp[orderG]
   · rw[hil];omega
 rintro⟨i,P⟩ ⟨p1,p2,p3,p4⟩;simp only at p1 p2 p3 p4;conv=>whnf
 refine br_intro (fun h=> ?_) (fun h=> ?_)
 · simp only[decide_eq_true_eq]at h;have hi:i<idx.length:=by omega
   obtain⟨j,hj,hjw⟩:=him _ (List.getElem_mem hi);have e0:(i:Int).toNat=i:=Int.toNat_natCast i;have e1:idx.getD (i:Int).toNat 0=j:=by rw[getD_toNat hi,hj]
   have e2:(j:Int).toNat=j:=Int.toNat_natCast j;conv=>whnf
   repeat (refine And.intro (by(try unfold inI64);(try dsimp only);(try simp only[e1,e2,List.length_cons,List.length_append,List.length_singleton,List.length_nil]);omega) ?_;conv=>whnf)
   have hjP:j<P.length:=by omega
   have bP:=p4 _ (getD_mem (x:=(0:Int)) hjP);refine And.intro (by simp only[e1,e2];unfold inI64;omega) ?_;conv=>whnf
   repeat (refine And.intro (by(try unfold inI64);(try dsimp only);(try simp only[e1,e2,List.length_cons,List.length_append,List.length_singleton,List.length_nil]);omega) ?_;conv=>whnf)
   refine⟨(i+1,P.set j (P.getD j 0+1)),⟨hi,?_,by simp only[List.length_set];exact p3,?_⟩,by simp only;omega,?_⟩
   · simp only;rw[take_snoc hi,incL_snoc,←p2,hj,e2]
   · simp only;intro x hx;rcases List.mem_or_eq_of_mem_set hx with q|q
     · have:=p4 x q;omega
     · subst q;omega
   · have r1:Res.le (.buf 3 1 P.length fun k=>bif Nat.beq k (idx.getD (i:Int).toNat 0).toNat then setAtD (rowF iF 0 P k) 0 [.int .i64 (P.getD (idx.getD (i:Int).toNat 0).toNat 0+1)]else rowF iF 0 P k) (seqB 3 1 iF 0 (P.set j (P.getD j 0+1))):=by
      rw[e1,e2];exact Res.le_putF (fun _ _=>rfl)
     exact Entails.mk' [(27,27)] rfl rfl ⟨lr,lr,lr,lr,trivial⟩ ⟨r1,trivial⟩
 simp only[decide_eq_false_iff_not]at h;have e1:i=idx.length:=by omega
 subst e1;conv=>whnf
 rw[List.take_length,hidx]at p2;refine .freeze _ 27 3 1 _ _ rfl ?_;refine .ret _ ?_;conv=>whnf
 refine⟨[],⟨?_,rfl⟩,trivial⟩;conv=>lhs;whnf
 show SV.d (ints P)=SV.d (ints (splitG c w));rw[p2];rfl
theorem left_sum (c:Int)(w:List Int)(hc:0≤c)(hw:∀x ∈ w,0≤x)(hs:0<w.sum):∀i,i≤w.length→∃R,0≤R∧R≤w.sum*i∧w.sum*((List.range i).map (partG c w)).sum+R=c*(w.take i).sum:=by
 intro i
 induction i with
 |zero=>intro _;exact⟨0,by omega,by simp,by simp⟩
 | succ i ih=>
   intro hi;obtain⟨R,h1,h2,h3⟩:=ih (by omega);have hx:w.getD i 0=w[i]:=by rw[List.getD_eq_getElem?_getD];simp[show i<w.length by omega]
   have h4:=Int.tmod_add_mul_tdiv (c*w[i]) w.sum;have h5:0≤c*w[i]:=Int.mul_nonneg hc (hw _ (List.getElem_mem _));have h6:=Int.tmod_nonneg w.sum h5;have h7:=Int.tmod_lt_of_pos (c*w[i]) hs;refine⟨R+(c*w[i]).tmod w.sum,by omega,?_,?_⟩
   · rw[show((i+1:Nat):Int)=(i:Int)+1 by push_cast;rfl,Int.mul_add,Int.mul_one];omega
   · rw[sum_take (show i<w.length by omega),Int.mul_add,←h3,List.range_succ,List.map_append,List.sum_append,List.map_singleton,List.sum_singleton,Int.mul_add];have:partG c w i=(c*w[i]).tdiv w.sum:=by unfold partG;rw[hx]
     rw[this];omega
theorem left_bound (c:Int)(w:List Int)(hc:0≤c)(hw:∀x ∈ w,0≤x)(hs:0<w.sum):0≤leftL c (partG c w) w.length∧leftL c (partG c w) w.length≤w.length:=by
 obtain⟨R,h1,h2,h3⟩:=left_sum c w hc hw hs w.length (Nat.le_refl _);rw[List.take_length]at h3
 have e:w.sum*leftL c (partG c w) w.length=R:=by
  unfold leftL;rw[Int.mul_sub,Int.mul_comm w.sum c];omega
 constructor
 · refine Int.not_lt.1 fun h=> ?_
   have:=Int.mul_neg_of_pos_of_neg hs h;omega
 · exact Int.le_of_mul_le_mul_left (by rw[e];exact h2) hs
theorem s35 (c:Int)(w:List Int)(hn:w.length<20):FSpec Tryz.prog 35 [.d (.int .i64 c),.d (ints w)] []
 (fun y r=>y= .tup [.d (if splitF c w=0 then ints (splitG c w)else .nilsl),.d (.int .i64 (splitF c w))]∧r= []):=by
 refine spec_of hT (C:= []) Tryz.func35 rfl Tryz.call35 rfl rfl rfl ?_;conv=>whnf
 refine CallX.pure (s119 _ _ _) ⟨lr,lr,lr,trivial⟩ rfl ?_;conv=>whnf
 refine CallX.pure (s107 _ _) ⟨lr,lr,trivial⟩ rfl ?_;conv=>whnf
 refine CallX.pure (s107 _ _) ⟨lr,lr,trivial⟩ rfl ?_;conv=>whnf
 refine CallX.pure (s105 [_,_] (by simp)) ⟨SV.le_lit (by rfl) (by rfl),trivial⟩ rfl ?_;have hnl:¬ (50<w.length):=by omega
 generalize he:firstE _=e
 have he2:e=if 0≤c∧c≤1000000000 then 0 else 1:=by
  rw[←he];simp only[firstE]
  by_cases h:0≤c∧c≤1000000000<;>simp[h]<;>omega
 conv=>whnf
 refine br_intro (fun h=> ?_) (fun h=> ?_)
 · simp at h;conv=>whnf
   refine .ret _ ?_;conv=>whnf
   refine⟨[],⟨?_,rfl⟩,trivial⟩;show SV.tup [.d .nilsl,.d (.int .i64 e)]=_;have hc:¬ (0≤c∧c≤1000000000):=fun q=>h (by rw[he2,if_pos q])
   rw[if_neg hc]at he2;have:splitF c w=1:=by simp only[splitF];rw[if_pos hc]
   rw[this,he2];rfl
 simp at h;have hc:0≤c∧c≤1000000000:=Classical.byContradiction fun q=>by rw[if_neg q]at he2;omega
 conv=>whnf
 refine LoopX.rule hT (C:= []) (ι:=Nat) (fun i=>i≤w.length∧(∀x ∈ w.take i,0≤x∧x≤5761440)) (fun i=>mkSt [(0,.d (.int .i64 c)),(1,.d (ints w)),(7,.d (.int .i64 (w.take i).sum)),(23,.d (ints w)),(24,.d (.int .i64 w.length)),(25,.d (.int .i64 i))] []) (fun i=>w.length - i) 0 ⟨by omega,by simp⟩ ?_ ?_
 · refine Entails.mk' [] rfl rfl ⟨lr,lr,lr,lr,lr,lr,trivial⟩ trivial
 rintro i ⟨p1,p2⟩;conv=>whnf
 refine br_intro (fun h=> ?_) (fun h=> ?_)
 · simp only[decide_eq_true_eq]at h;have hi:i<w.length:=by omega
   have b2:0≤(w.take i).sum:=sum_nonneg fun x hx=>(p2 x hx).1
   have b3:(w.take i).sum≤5761440*(w.take i).length:=sum_le fun x hx=>(p2 x hx).2
   have b4:(w.take i).length=i:=by simp;omega
   conv=>whnf
   repeat (refine And.intro (by(try unfold inI64);(try dsimp only);(try simp only[List.length_cons,List.length_append,List.length_singleton,List.length_nil]);omega) ?_;conv=>whnf)
   refine CallX.pure (s119 _ _ _) ⟨lr,lr,lr,trivial⟩ rfl ?_;rw[getD_toNat hi];conv=>whnf
   refine br_intro (fun h2=> ?_) (fun h2=> ?_)
   · conv=>whnf
     refine .ret _ ?_;conv=>whnf
     refine⟨[],⟨?_,rfl⟩,trivial⟩;show SV.tup [.d .nilsl,.d (.int .i64 1)]=_
     have:splitF c w=1:=by
      simp only[splitF];rw[if_neg (by omega),if_neg hnl,if_pos];rw[List.any_eq_true];exact⟨w[i],List.getElem_mem hi,h2⟩
     rw[this];rfl
   · simp at h2;conv=>whnf
     repeat (refine And.intro (by(try unfold inI64);(try dsimp only);(try simp only[List.length_cons,List.length_append,List.length_singleton,List.length_nil]);omega) ?_;conv=>whnf)
     refine⟨i+1,⟨hi,fun x hx=> ?_⟩,by omega,?_⟩
     · rw[←List.take_append_getElem hi]at hx;rcases List.mem_append.1 hx with q|q
       · exact p2 x q
       · simp at q;subst q;omega
     · exact Entails.mk' [] rfl rfl ⟨lr,lr,SV.le_int (sum_take hi).symm,lr,lr,lr,trivial⟩ trivial
 simp only[decide_eq_false_iff_not]at h;have e1:i=w.length:=by omega
 subst e1;rw[List.take_length]at p2 ⊢
 have hany:w.any (fun x=> !decide (0≤x∧x≤5761440))=false:=by
  rw[List.any_eq_false];intro x hx;have:=p2 x hx;simp;omega
 conv=>whnf
 refine br_intro (fun h2=> ?_) (fun h2=> ?_)
 · conv=>whnf
   refine .ret _ ?_;conv=>whnf
   refine⟨[],⟨?_,rfl⟩,trivial⟩;show SV.tup [.d .nilsl,.d (.int .i64 8)]=_;simp at h2
   have:splitF c w=8:=by
    simp only[splitF];rw[if_neg (by omega),if_neg hnl,hany,if_neg (by simp),if_pos h2]
   rw[this];rfl
 · simp at h2;have hs0:0≤w.sum:=sum_nonneg fun x hx=>(p2 x hx).1
   conv=>whnf
   refine pAx (s120 c w hc p2 hn h2 (left_bound c w hc.1 (fun x hx=>(p2 x hx).1) (by omega))) ?_;conv=>whnf
   refine .ret _ ?_;conv=>whnf
   refine⟨[],⟨?_,rfl⟩,trivial⟩;show SV.tup [.d (ints (splitG c w)),.d (.int .i64 0)]=_
   have:splitF c w=0:=by
    simp only[splitF];rw[if_neg (by omega),if_neg hnl,hany,if_neg (by simp),if_neg h2]
   rw[this];rfl
section
variable {α:Type} (cmp:α→α→Int)
theorem insR_perm (x:α):∀l:List α,(insR cmp x l).Perm (x::l):=by
 intro l
 induction l with
 |nil=>exact .refl _
 | cons y r ih=>
   simp only[insR];split
   · exact(ih.cons y).trans (.swap x y r)
   · exact .refl _
theorem isortR_perm (l:List α):(isortR cmp l).Perm l:=by
 have:∀ (l acc:List α),(l.foldl (fun acc x=>insR cmp x acc) acc).Perm (l++acc):=by
  intro l
  induction l with
  |nil=>intro acc;exact .refl _
  | cons x l ih=>
    intro acc;rw[List.foldl_cons];refine(ih _).trans (((insR_perm cmp x acc).append_left l).trans ?_);exact List.perm_middle
 have h:=this l [];rw[List.append_nil]at h;exact h
theorem isort_perm (l:List α):(isort cmp l).Perm l:=(List.reverse_perm _).trans (isortR_perm cmp l)
variable (R:α→α→Prop) (tr:∀a b c,R a b→R b c→R a c)
include tr in
theorem insR_pairwise (x:α):∀l:List α,l.Pairwise (fun a b=>R b a)→(∀y ∈ l,(cmp x y<0→R x y)∧(¬cmp x y<0→R y x))→(insR cmp x l).Pairwise (fun a b=>R b a):=by
 intro l
 induction l with
 |nil=>intro _ _;simp[insR]
 | cons y r ih=>
   intro h hc;have h':=List.pairwise_cons.1 h;simp only[insR];split
   · rename_i hlt;rw[List.pairwise_cons];refine⟨fun z hz=> ?_,ih h'.2 (fun z hz=>hc z (by simp[hz]))⟩;rcases(insR_mem cmp x z).1 hz with q|q
     · subst q;exact(hc y (by simp)).1 hlt
     · exact h'.1 z q
   · rename_i hlt;have hyx:=(hc y (by simp)).2 hlt;rw[List.pairwise_cons];refine⟨fun z hz=> ?_,h⟩;rcases List.mem_cons.1 hz with q|q
     · subst q;exact hyx
     · exact tr _ _ _ (h'.1 z q) hyx
include tr in
theorem isort_pairwise:∀l:List α,l.Pairwise (fun y x=>(cmp x y<0→R x y)∧(¬cmp x y<0→R y x))→(isort cmp l).Pairwise R:=by
 intro l h;unfold isort;rw[List.pairwise_reverse]
 have:∀n,n≤l.length→(isortR cmp (l.take n)).Pairwise (fun a b=>R b a):=by
  intro n
  induction n with
  |zero=>intro _;simp[isortR]
  | succ n ih=>
    intro hn;rw[take_snoc hn,isortR_snoc];refine insR_pairwise cmp R tr _ _ (ih (by omega)) (fun y hy=> ?_);have hy:=(isortR_mem cmp _).1 hy;have hp:(l.take (n+1)).Pairwise (fun y x=>(cmp x y<0→R x y)∧(¬cmp x y<0→R y x)):=h.sublist (List.take_sublist _ _);rw[take_snoc hn,List.pairwise_append]at hp;exact hp.2.2 y hy _ (by simp)
 have:=this l.length (Nat.le_refl _);rwa [List.take_length]at this
end
theorem eq_of_getD {α:Type}{l m:List α}(d:α)(hl:l.length=m.length)(h:∀j,j<l.length→l.getD j d=m.getD j d):l=m:=by
 refine List.ext_getElem hl (fun i h1 h2=> ?_);have:=h i h1;rwa [List.getD_eq_getElem?_getD,List.getD_eq_getElem?_getD,List.getElem?_eq_getElem h1,List.getElem?_eq_getElem h2]at this
theorem all_step {p:Nat→Prop}{i:Nat}(h:∀j,j<i→p j)(h1:p i):∀j,j<i+1→p j:=fun j hj=>by
 rcases Nat.lt_or_ge j i with q|q
 · exact h j q
 · have:j=i:=by omega
   subst this;exact h1
theorem splitF_31:splitF 3 [1,1]=0:=by decide+kernel
theorem splitG_31:splitG 3 [1,1]= [2,1]:=by decide+kernel
structure Gate where
 key:List UInt8
 area:List UInt8
 clock:Int
structure Pas where
 tm:Int
 gate:List UInt8
 plate:List UInt8
 cents:Int
def plCh (c:UInt8):Bool:=(decide (65≤c.toNat)&&decide (c.toNat≤90))||(decide (48≤c.toNat)&&decide (c.toNat≤57))
def isPlateB (s:List UInt8):Bool:=s.all plCh&&decide (2≤s.length)&&decide (s.length≤10)
theorem s185 (s:List UInt8)(hl:s.length≤2^40):FSpec Tryz.prog 119 [.d (.str s)] [] (fun x r=>x= .d (.bool (isPlateB s))∧r= []):=by
 refine spec_of hT (C:= []) Tryz.func119 rfl Tryz.call119 rfl rfl rfl ?_;conv=>whnf
 refine LoopX.rule hT (C:= []) (ι:=Nat) (fun i=>i≤s.length∧∀j,j<i→plCh (s.getD j 0)=true) (fun i=>mkSt [(0,.d (.str s)),(6,.d (.int .i64 s.length)),(7,.d (.int .i64 i))] []) (fun i=>s.length - i) 0 ⟨by omega,by omega⟩ (by exact eAx []) ?_;rintro i ⟨p1,p2⟩;have e1:(i:Int).toNat=i:=Int.toNat_natCast i
 have hbad:i<s.length→plCh (s.getD i 0)=false→isPlateB s=false:=fun hi h=>by
  have:s.all plCh=false:=by
   rw[List.all_eq_false];exact⟨s.getD i 0,getD_mem hi,by rw[h];simp⟩
  simp only[isPlateB,this,Bool.false_and]
 have hall:i=s.length→s.all plCh=true:=fun hi=>by
  rw[List.all_eq_true];intro c hc;obtain⟨j,hj,rfl⟩:=mem_getD (d:=0) hc;exact p2 j (by omega)
 conv=>whnf
 repeat' (first|((first|(refine br_intro ?_ ?_<;>intro hb<;>try simp only[brs]at hb)|omega|refine sAx ?_|decide|assumption)<;>conv=>whnf))
 all_goals first
  |(refine⟨i+1,⟨by omega,all_step p2 (by clear p2 hbad hall;simp only[e1]at*;simp only[plCh];grind)⟩,by omega,(by exact eAx [])⟩)
  | (refine .ret _ ?_
     conv=>whnf
     refine⟨[],⟨?_,rfl⟩,trivial⟩;conv=>lhs;whnf
     congr 2
     first
      |(rw[hbad (by omega) (by clear p2 hbad hall;simp only[e1]at*;simp only[plCh];grind)])
      |(unfold isPlateB;rw[hall (by omega)];clear p2 hbad hall;grind))
def cmpI (a b:Int):Int:=if a<b then -1 else if b<a then 1 else 0
def cmpS (a b:List UInt8):Int:=if Op.bytesLess a b=true then -1 else if Op.bytesLess b a=true then 1 else 0
theorem s210 (a:Int):FSpec Tryz.prog 128 [.d (.int .i64 a)] [] (fun x r=>x= .d (.bool false)∧r= []):=by
 refine spec_of hT (C:= []) Tryz.func128 rfl Tryz.call128 rfl rfl rfl ?_;conv=>whnf
 refine .ret _ ?_;conv=>whnf
 refine⟨[],⟨?_,rfl⟩,trivial⟩;conv=>lhs;whnf
 simp
theorem s211 (a:List UInt8):FSpec Tryz.prog 86 [.d (.str a)] [] (fun x r=>x= .d (.bool false)∧r= []):=by
 refine spec_of hT (C:= []) Tryz.func86 rfl Tryz.call86 rfl rfl rfl ?_;conv=>whnf
 refine .ret _ ?_;conv=>whnf
 refine⟨[],⟨?_,rfl⟩,trivial⟩;conv=>lhs;whnf
 simp
theorem s183 (a b:Int):FSpec Tryz.prog 85 [.d (.int .i64 a),.d (.int .i64 b)] [] (fun x r=>x= .d (.int .i64 (cmpI a b))∧r= []):=by
 refine spec_of hT (C:= []) Tryz.func85 rfl Tryz.call85 rfl rfl rfl ?_;conv=>whnf
 repeat' (first|(refine CallX.exact (s210 _) rfl rfl ?_;rotate_right;conv=>whnf)|((first|(refine br_intro ?_ ?_<;>intro hb<;>try simp only[brs]at hb)|omega|refine sAx ?_|decide|assumption)<;>conv=>whnf))
 all_goals
  refine .ret _ ?_;conv=>whnf
  refine⟨[],⟨?_,rfl⟩,trivial⟩;conv=>lhs;whnf
  congr 2;unfold cmpI;grind
theorem less_tri:∀ (a b:List UInt8),Op.bytesLess a b=false→a≠b→Op.bytesLess b a=true:=by
 intro a
 induction a with
 | nil=>intro b h hn;cases b with
   |nil=>exact absurd rfl hn
   |cons y ys=>simp[Op.bytesLess]at h
 | cons x xs ih=>
   intro b h hn
   cases b with
   |nil=>simp[Op.bytesLess]
   | cons y ys=>
     simp only[Op.bytesLess]at h ⊢;grind
theorem s184 (a b:List UInt8):FSpec Tryz.prog 46 [.d (.str a),.d (.str b)] [] (fun x r=>x= .d (.int .i64 (cmpS a b))∧r= []):=by
 refine spec_of hT (C:= []) Tryz.func46 rfl Tryz.call46 rfl rfl rfl ?_;conv=>whnf
 repeat' (first|(refine CallX.exact (s211 _) rfl rfl ?_;rotate_right;conv=>whnf)|((first|(refine br_intro ?_ ?_<;>intro hb<;>try simp only[brs]at hb)|omega|refine sAx ?_|decide|assumption)<;>conv=>whnf))
 all_goals
  refine .ret _ ?_;conv=>whnf
  refine⟨[],⟨?_,rfl⟩,trivial⟩;conv=>lhs;whnf
  congr 2;unfold cmpS;grind [less_tri]
theorem s182 (l:List Int)(hl:l.length≤2^40):FSpec Tryz.prog 44 [.d (ints l)] [] (fun x r=>x= .d (.int .i64 (firstE l))∧r= []):=by
 refine spec_of hT (C:= []) Tryz.func44 rfl Tryz.call44 rfl rfl rfl ?_;conv=>whnf
 refine LoopX.rule hT (C:= []) (ι:=Nat) (fun i=>i≤l.length∧firstE l=firstE (l.drop i)) (fun i=>mkSt [(3,.d (.int .i64 0)),(6,.d (ints l)),(7,.d (.int .i64 l.length)),(8,.d (.int .i64 i))] []) (fun i=>l.length - i) 0 ⟨by omega,by simp⟩ (by exact eAx []) ?_;rintro i ⟨p1,p2⟩;have hd:i<l.length→l.drop i=l.getD i 0::l.drop (i+1):=fun hi=>by rw[List.drop_eq_getElem_cons hi,List.getD_eq_getElem?_getD,List.getElem?_eq_getElem hi];rfl
 conv=>whnf
 repeat' (first|((first|(refine br_intro ?_ ?_<;>intro hb<;>try simp only[brs]at hb)|omega|refine sAx ?_|decide|assumption)<;>conv=>whnf))
 · refine .ret _ ?_;conv=>whnf
   refine⟨[],⟨?_,rfl⟩,trivial⟩;conv=>lhs;whnf
   congr 2;rw[p2,hd (by omega),firstE,if_neg hb,Int.toNat_natCast]
 · exact⟨i+1,⟨by omega,by rw[p2,hd (by omega),firstE,if_pos hb]⟩,by omega,(by exact eAx [])⟩
 · refine .ret _ ?_;conv=>whnf
   refine⟨[],⟨?_,rfl⟩,trivial⟩;conv=>lhs;whnf
   congr 2;rw[p2,List.drop_eq_nil_iff.2 (by omega)];rfl
end Go.Proofs.YtophabkpfpbadaaGreatDoor
