/- TopDamagePaid is proved: for every input the law returns true, and its argument reads afterwards as it read before. Conditions: those of the given row alone. -/
import Derived.Shelf.LaysM
import Derived.Shelf.LaysC
import Derived.Shelf.Strconv.Itoa3
import Derived.Shelf.Strconv.AtoiAll
import Derived.Shelf.Strings.Prefix
import Derived.Shelf.Strings.Split
import Derived.Test.YtghhghijalcdfaaGreatDoorProg
import Derived.Test.YtghhghijalcdfaaGreatDoorAdEngTwo
import Derived.Below
import Derived.Lib.SplitLaws
import Derived.Shelf.Strings.SlTrimAscii
set_option linter.unusedVariables false
set_option linter.unusedSimpArgs false
set_option maxHeartbeats 16000000
namespace Go.Proofs
open Go.Shelf
def Tryz.laysM171_ren:Go.Shelf.Ren:=⟨fun|171=>81|243=>113|246=>156|283=>180|284=>181|285=>182|286=>183|129=>143|317=>201|318=>202|319=>203|320=>204|337=>218|338=>219|n=>n,fun|3=>3|9=>9|2=>2|4=>4|171=>267|0=>0|53=>229|37=>269|5=>5|173=>270|212=>291|51=>227|20=>20|213=>292|46=>178|232=>312|233=>313|n=>n,fun|17=>1|18=>2|19=>3|n=>n⟩
theorem Tryz.laysM171:Go.Proofs.LaysM.n171 Tryz.prog Tryz.laysM171_ren:={
 mixed:=by kernel_rfl
 f129:=Tryz.func143.trans (congrArg some (by kernel_rfl))
 f171:=Tryz.func81.trans (congrArg some (by kernel_rfl))
 f243:=Tryz.func113.trans (congrArg some (by kernel_rfl))
 f246:=Tryz.func156.trans (congrArg some (by kernel_rfl))
 f283:=Tryz.func180.trans (congrArg some (by kernel_rfl))
 f284:=Tryz.func181.trans (congrArg some (by kernel_rfl))
 f285:=Tryz.func182.trans (congrArg some (by kernel_rfl))
 f286:=Tryz.func183.trans (congrArg some (by kernel_rfl))
 f317:=Tryz.func201.trans (congrArg some (by kernel_rfl))
 f318:=Tryz.func202.trans (congrArg some (by kernel_rfl))
 f319:=Tryz.func203.trans (congrArg some (by kernel_rfl))
 f320:=Tryz.func204.trans (congrArg some (by kernel_rfl))
 f337:=Tryz.func218.trans (congrArg some (by kernel_rfl))
 f338:=Tryz.func219.trans (congrArg some (by kernel_rfl))
 t0:=Tryz.underlying0
 a0:=Tryz.isAgg0
 z0:=Tryz.sizeOf0
 v0:=Tryz.zeroValue0
 t2:=Tryz.underlying2
 a2:=Tryz.isAgg2
 z2:=Tryz.sizeOf2
 v2:=Tryz.zeroValue2
 t3:=Tryz.underlying3
 a3:=Tryz.isAgg3
 z3:=Tryz.sizeOf3
 v3:=Tryz.zeroValue3
 t4:=Tryz.underlying4
 a4:=Tryz.isAgg4
 z4:=Tryz.sizeOf4
 v4:=Tryz.zeroValue4
 t5:=Tryz.underlying5
 a5:=Tryz.isAgg5
 z5:=Tryz.sizeOf5
 v5:=Tryz.zeroValue5
 t9:=Tryz.underlying9
 a9:=Tryz.isAgg9
 z9:=Tryz.sizeOf9
 v9:=Tryz.zeroValue9
 t20:=Tryz.underlying20
 a20:=Tryz.isAgg20
 z20:=Tryz.sizeOf20
 v20:=Tryz.zeroValue20
 t37:=Tryz.underlying269
 a37:=Tryz.isAgg269
 z37:=Tryz.sizeOf269
 v37:=Tryz.zeroValue269
 t46:=Tryz.underlying178
 a46:=Tryz.isAgg178
 z46:=Tryz.sizeOf178
 v46:=Tryz.zeroValue178
 t51:=Tryz.underlying227
 a51:=Tryz.isAgg227
 z51:=Tryz.sizeOf227
 v51:=Tryz.zeroValue227
 t53:=Tryz.underlying229
 a53:=Tryz.isAgg229
 z53:=Tryz.sizeOf229
 v53:=Tryz.zeroValue229
 t171:=Tryz.underlying267
 a171:=Tryz.isAgg267
 z171:=Tryz.sizeOf267
 v171:=Tryz.zeroValue267
 t173:=Tryz.underlying270
 a173:=Tryz.isAgg270
 z173:=Tryz.sizeOf270
 v173:=Tryz.zeroValue270
 t212:=Tryz.underlying291
 a212:=Tryz.isAgg291
 z212:=Tryz.sizeOf291
 v212:=Tryz.zeroValue291
 t213:=Tryz.underlying292
 a213:=Tryz.isAgg292
 z213:=Tryz.sizeOf292
 t232:=Tryz.underlying312
 a232:=Tryz.isAgg312
 z232:=Tryz.sizeOf312
 v232:=Tryz.zeroValue312
 t233:=Tryz.underlying313
 a233:=Tryz.isAgg313
 z233:=Tryz.sizeOf313
 v233:=Tryz.zeroValue313
 g17:=by kernel_rfl
 g18:=by kernel_rfl
 g19:=by kernel_rfl
 i0:=by kernel_rfl
 i2:=by kernel_rfl
 i3:=by kernel_rfl
 i4:=by kernel_rfl
 i5:=by kernel_rfl
 i9:=by kernel_rfl
 i20:=by kernel_rfl
 i37:=by kernel_rfl
 i46:=by kernel_rfl
 i51:=by kernel_rfl
 i53:=by kernel_rfl
 i171:=by kernel_rfl
 i173:=by kernel_rfl
 i212:=by kernel_rfl
 i232:=by kernel_rfl
 i233:=by kernel_rfl
 m17:=by kernel_rfl
 m18:=by kernel_rfl
 m19:=by kernel_rfl}
def Tryz.laysC172_ren:Go.Shelf.Ren:=⟨fun|172=>193|244=>210|245=>211|247=>226|279=>227|280=>228|281=>229|282=>230|287=>241|316=>242|171=>81|205=>243|321=>246|322=>247|243=>113|246=>156|283=>180|284=>181|285=>182|286=>183|129=>143|317=>201|318=>202|319=>203|320=>204|337=>218|338=>219|n=>n,fun|9=>9|3=>3|75=>281|76=>282|4=>4|5=>5|167=>305|37=>269|0=>0|85=>306|2=>2|168=>308|53=>229|175=>321|46=>178|210=>325|127=>328|145=>331|143=>329|21=>21|171=>267|173=>270|212=>291|51=>227|20=>20|213=>292|232=>312|233=>313|80=>334|n=>n,fun|15=>6|16=>7|17=>1|18=>2|19=>3|n=>n⟩
theorem Tryz.laysC172:Go.Proofs.LaysC.n172 Tryz.prog Tryz.laysC172_ren:={
 mixed:=by kernel_rfl
 f129:=Tryz.func143.trans (congrArg some (by kernel_rfl))
 f171:=Tryz.func81.trans (congrArg some (by kernel_rfl))
 f172:=Tryz.func193.trans (congrArg some (by kernel_rfl))
 f205:=Tryz.func243.trans (congrArg some (by kernel_rfl))
 f243:=Tryz.func113.trans (congrArg some (by kernel_rfl))
 f244:=Tryz.func210.trans (congrArg some (by kernel_rfl))
 f245:=Tryz.func211.trans (congrArg some (by kernel_rfl))
 f246:=Tryz.func156.trans (congrArg some (by kernel_rfl))
 f247:=Tryz.func226.trans (congrArg some (by kernel_rfl))
 f279:=Tryz.func227.trans (congrArg some (by kernel_rfl))
 f280:=Tryz.func228.trans (congrArg some (by kernel_rfl))
 f281:=Tryz.func229.trans (congrArg some (by kernel_rfl))
 f282:=Tryz.func230.trans (congrArg some (by kernel_rfl))
 f283:=Tryz.func180.trans (congrArg some (by kernel_rfl))
 f284:=Tryz.func181.trans (congrArg some (by kernel_rfl))
 f285:=Tryz.func182.trans (congrArg some (by kernel_rfl))
 f286:=Tryz.func183.trans (congrArg some (by kernel_rfl))
 f287:=Tryz.func241.trans (congrArg some (by kernel_rfl))
 f316:=Tryz.func242.trans (congrArg some (by kernel_rfl))
 f317:=Tryz.func201.trans (congrArg some (by kernel_rfl))
 f318:=Tryz.func202.trans (congrArg some (by kernel_rfl))
 f319:=Tryz.func203.trans (congrArg some (by kernel_rfl))
 f320:=Tryz.func204.trans (congrArg some (by kernel_rfl))
 f321:=Tryz.func246.trans (congrArg some (by kernel_rfl))
 f322:=Tryz.func247.trans (congrArg some (by kernel_rfl))
 f337:=Tryz.func218.trans (congrArg some (by kernel_rfl))
 f338:=Tryz.func219.trans (congrArg some (by kernel_rfl))
 t0:=Tryz.underlying0
 a0:=Tryz.isAgg0
 z0:=Tryz.sizeOf0
 v0:=Tryz.zeroValue0
 t2:=Tryz.underlying2
 a2:=Tryz.isAgg2
 z2:=Tryz.sizeOf2
 v2:=Tryz.zeroValue2
 t3:=Tryz.underlying3
 a3:=Tryz.isAgg3
 z3:=Tryz.sizeOf3
 v3:=Tryz.zeroValue3
 t4:=Tryz.underlying4
 a4:=Tryz.isAgg4
 z4:=Tryz.sizeOf4
 v4:=Tryz.zeroValue4
 t5:=Tryz.underlying5
 a5:=Tryz.isAgg5
 z5:=Tryz.sizeOf5
 v5:=Tryz.zeroValue5
 t9:=Tryz.underlying9
 a9:=Tryz.isAgg9
 z9:=Tryz.sizeOf9
 v9:=Tryz.zeroValue9
 t20:=Tryz.underlying20
 a20:=Tryz.isAgg20
 z20:=Tryz.sizeOf20
 v20:=Tryz.zeroValue20
 t21:=Tryz.underlying21
 a21:=Tryz.isAgg21
 z21:=Tryz.sizeOf21
 v21:=Tryz.zeroValue21
 t37:=Tryz.underlying269
 a37:=Tryz.isAgg269
 z37:=Tryz.sizeOf269
 v37:=Tryz.zeroValue269
 t46:=Tryz.underlying178
 a46:=Tryz.isAgg178
 z46:=Tryz.sizeOf178
 v46:=Tryz.zeroValue178
 t51:=Tryz.underlying227
 a51:=Tryz.isAgg227
 z51:=Tryz.sizeOf227
 v51:=Tryz.zeroValue227
 t53:=Tryz.underlying229
 a53:=Tryz.isAgg229
 z53:=Tryz.sizeOf229
 v53:=Tryz.zeroValue229
 t75:=Tryz.underlying281
 a75:=Tryz.isAgg281
 z75:=Tryz.sizeOf281
 v75:=Tryz.zeroValue281
 t76:=Tryz.underlying282
 a76:=Tryz.isAgg282
 z76:=Tryz.sizeOf282
 v76:=Tryz.zeroValue282
 t85:=Tryz.underlying306
 a85:=Tryz.isAgg306
 z85:=Tryz.sizeOf306
 v85:=Tryz.zeroValue306
 t127:=Tryz.underlying328
 a127:=Tryz.isAgg328
 z127:=Tryz.sizeOf328
 v127:=Tryz.zeroValue328
 t143:=Tryz.underlying329
 a143:=Tryz.isAgg329
 z143:=Tryz.sizeOf329
 v143:=Tryz.zeroValue329
 t145:=Tryz.underlying331
 a145:=Tryz.isAgg331
 z145:=Tryz.sizeOf331
 v145:=Tryz.zeroValue331
 t167:=Tryz.underlying305
 a167:=Tryz.isAgg305
 z167:=Tryz.sizeOf305
 v167:=Tryz.zeroValue305
 t168:=Tryz.underlying308
 a168:=Tryz.isAgg308
 z168:=Tryz.sizeOf308
 v168:=Tryz.zeroValue308
 t171:=Tryz.underlying267
 a171:=Tryz.isAgg267
 z171:=Tryz.sizeOf267
 v171:=Tryz.zeroValue267
 t173:=Tryz.underlying270
 a173:=Tryz.isAgg270
 z173:=Tryz.sizeOf270
 v173:=Tryz.zeroValue270
 t175:=Tryz.underlying321
 a175:=Tryz.isAgg321
 z175:=Tryz.sizeOf321
 v175:=Tryz.zeroValue321
 t210:=Tryz.underlying325
 a210:=Tryz.isAgg325
 z210:=Tryz.sizeOf325
 v210:=Tryz.zeroValue325
 t212:=Tryz.underlying291
 a212:=Tryz.isAgg291
 z212:=Tryz.sizeOf291
 v212:=Tryz.zeroValue291
 t213:=Tryz.underlying292
 a213:=Tryz.isAgg292
 z213:=Tryz.sizeOf292
 t232:=Tryz.underlying312
 a232:=Tryz.isAgg312
 z232:=Tryz.sizeOf312
 v232:=Tryz.zeroValue312
 t233:=Tryz.underlying313
 a233:=Tryz.isAgg313
 z233:=Tryz.sizeOf313
 v233:=Tryz.zeroValue313
 g15:=by kernel_rfl
 g16:=by kernel_rfl
 g17:=by kernel_rfl
 g18:=by kernel_rfl
 g19:=by kernel_rfl
 t80:=Tryz.underlying334
 a80:=Tryz.isAgg334
 z80:=Tryz.sizeOf334
 v80:=Tryz.zeroValue334
 i0:=by kernel_rfl
 i2:=by kernel_rfl
 i3:=by kernel_rfl
 i4:=by kernel_rfl
 i5:=by kernel_rfl
 i9:=by kernel_rfl
 i20:=by kernel_rfl
 i21:=by kernel_rfl
 i37:=by kernel_rfl
 i46:=by kernel_rfl
 i51:=by kernel_rfl
 i53:=by kernel_rfl
 i75:=by kernel_rfl
 i76:=by kernel_rfl
 i80:=by kernel_rfl
 i85:=by kernel_rfl
 i127:=by kernel_rfl
 i143:=by kernel_rfl
 i145:=by kernel_rfl
 i167:=by kernel_rfl
 i168:=by kernel_rfl
 i171:=by kernel_rfl
 i173:=by kernel_rfl
 i175:=by kernel_rfl
 i210:=by kernel_rfl
 i212:=by kernel_rfl
 i232:=by kernel_rfl
 i233:=by kernel_rfl
 m15:=by kernel_rfl
 m16:=by kernel_rfl
 m17:=by kernel_rfl
 m18:=by kernel_rfl
 m19:=by kernel_rfl
 c0:=by kernel_rfl
 c2:=by kernel_rfl
 c3:=by kernel_rfl
 c4:=by kernel_rfl
 c5:=by kernel_rfl
 c9:=by kernel_rfl
 c20:=by kernel_rfl
 c21:=by kernel_rfl
 c37:=by kernel_rfl
 c46:=by kernel_rfl
 c51:=by kernel_rfl
 c53:=by kernel_rfl
 c75:=by kernel_rfl
 c76:=by kernel_rfl
 c80:=by kernel_rfl
 c85:=by kernel_rfl
 c127:=by kernel_rfl
 c143:=by kernel_rfl
 c145:=by kernel_rfl
 c167:=by kernel_rfl
 c168:=by kernel_rfl
 c171:=by kernel_rfl
 c173:=by kernel_rfl
 c175:=by kernel_rfl
 c210:=by kernel_rfl
 c212:=by kernel_rfl
 c213:=by kernel_rfl
 c232:=by kernel_rfl
 c233:=by kernel_rfl}
def Tryz.laysM146_ren:Go.Shelf.Ren:=⟨fun|146=>192|221=>209|268=>223|138=>224|143=>225|195=>238|197=>206|218=>239|219=>240|260=>220|217=>244|225=>237|224=>236|267=>245|266=>248|314=>249|n=>n,fun|9=>9|31=>71|3=>3|4=>4|0=>0|105=>294|21=>21|5=>5|46=>178|119=>314|139=>317|138=>316|146=>332|51=>227|n=>n,fun|1=>0|3=>4|4=>5|n=>n⟩
theorem Tryz.laysM146:Go.Proofs.LaysM.n146 Tryz.prog Tryz.laysM146_ren:={
 mixed:=by kernel_rfl
 f138:=Tryz.func224.trans (congrArg some (by kernel_rfl))
 f143:=Tryz.func225.trans (congrArg some (by kernel_rfl))
 f146:=Tryz.func192.trans (congrArg some (by kernel_rfl))
 f195:=Tryz.func238.trans (congrArg some (by kernel_rfl))
 f197:=Tryz.func206.trans (congrArg some (by kernel_rfl))
 f217:=Tryz.func244.trans (congrArg some (by kernel_rfl))
 f218:=Tryz.func239.trans (congrArg some (by kernel_rfl))
 f219:=Tryz.func240.trans (congrArg some (by kernel_rfl))
 f221:=Tryz.func209.trans (congrArg some (by kernel_rfl))
 f224:=Tryz.func236.trans (congrArg some (by kernel_rfl))
 f225:=Tryz.func237.trans (congrArg some (by kernel_rfl))
 f260:=Tryz.func220.trans (congrArg some (by kernel_rfl))
 f266:=Tryz.func248.trans (congrArg some (by kernel_rfl))
 f267:=Tryz.func245.trans (congrArg some (by kernel_rfl))
 f268:=Tryz.func223.trans (congrArg some (by kernel_rfl))
 f314:=Tryz.func249.trans (congrArg some (by kernel_rfl))
 t0:=Tryz.underlying0
 a0:=Tryz.isAgg0
 z0:=Tryz.sizeOf0
 v0:=Tryz.zeroValue0
 t3:=Tryz.underlying3
 a3:=Tryz.isAgg3
 z3:=Tryz.sizeOf3
 v3:=Tryz.zeroValue3
 t4:=Tryz.underlying4
 a4:=Tryz.isAgg4
 z4:=Tryz.sizeOf4
 v4:=Tryz.zeroValue4
 t5:=Tryz.underlying5
 a5:=Tryz.isAgg5
 z5:=Tryz.sizeOf5
 v5:=Tryz.zeroValue5
 t9:=Tryz.underlying9
 a9:=Tryz.isAgg9
 z9:=Tryz.sizeOf9
 v9:=Tryz.zeroValue9
 t21:=Tryz.underlying21
 a21:=Tryz.isAgg21
 z21:=Tryz.sizeOf21
 v21:=Tryz.zeroValue21
 t31:=Tryz.underlying71
 a31:=Tryz.isAgg71
 z31:=Tryz.sizeOf71
 v31:=Tryz.zeroValue71
 t46:=Tryz.underlying178
 a46:=Tryz.isAgg178
 z46:=Tryz.sizeOf178
 v46:=Tryz.zeroValue178
 t51:=Tryz.underlying227
 a51:=Tryz.isAgg227
 z51:=Tryz.sizeOf227
 v51:=Tryz.zeroValue227
 t105:=Tryz.underlying294
 a105:=Tryz.isAgg294
 z105:=Tryz.sizeOf294
 v105:=Tryz.zeroValue294
 t119:=Tryz.underlying314
 a119:=Tryz.isAgg314
 z119:=Tryz.sizeOf314
 t138:=Tryz.underlying316
 a138:=Tryz.isAgg316
 z138:=Tryz.sizeOf316
 v138:=Tryz.zeroValue316
 t139:=Tryz.underlying317
 a139:=Tryz.isAgg317
 z139:=Tryz.sizeOf317
 v139:=Tryz.zeroValue317
 t146:=Tryz.underlying332
 a146:=Tryz.isAgg332
 z146:=Tryz.sizeOf332
 v146:=Tryz.zeroValue332
 g1:=by kernel_rfl
 g3:=by kernel_rfl
 g4:=by kernel_rfl
 i0:=by kernel_rfl
 i3:=by kernel_rfl
 i4:=by kernel_rfl
 i5:=by kernel_rfl
 i9:=by kernel_rfl
 i21:=by kernel_rfl
 i31:=by kernel_rfl
 i46:=by kernel_rfl
 i51:=by kernel_rfl
 i105:=by kernel_rfl
 i138:=by kernel_rfl
 i139:=by kernel_rfl
 i146:=by kernel_rfl
 m1:=by kernel_rfl
 s1_3:=fun w h=>Go.Proofs.cell_of_shapedOpen_int (zero:=#[.int .i64 0]) (t:=3) h (of_decide_eq_true (by kernel_rfl)) (by kernel_rfl) rfl (by kernel_rfl) (by kernel_rfl) Tryz.underlying3
 m3:=by kernel_rfl
 m4:=by kernel_rfl}
def Tryz.lays146_ren:Go.Shelf.Ren:=⟨fun|146=>192|221=>209|268=>223|138=>224|143=>225|195=>238|197=>206|218=>239|219=>240|260=>220|217=>244|225=>237|224=>236|267=>245|266=>248|314=>249|n=>n,fun|9=>9|31=>71|3=>3|4=>4|0=>0|105=>294|21=>21|5=>5|46=>178|119=>314|139=>317|138=>316|146=>332|51=>227|n=>n,fun|1=>0|3=>4|4=>5|n=>n⟩
theorem Tryz.lays146:Go.Proofs.Lays.n146 Tryz.prog Tryz.lays146_ren:={
 mixed:=by kernel_rfl
 f138:=Tryz.func224.trans (congrArg some (by kernel_rfl))
 f143:=Tryz.func225.trans (congrArg some (by kernel_rfl))
 f146:=Tryz.func192.trans (congrArg some (by kernel_rfl))
 f195:=Tryz.func238.trans (congrArg some (by kernel_rfl))
 f197:=Tryz.func206.trans (congrArg some (by kernel_rfl))
 f217:=Tryz.func244.trans (congrArg some (by kernel_rfl))
 f218:=Tryz.func239.trans (congrArg some (by kernel_rfl))
 f219:=Tryz.func240.trans (congrArg some (by kernel_rfl))
 f221:=Tryz.func209.trans (congrArg some (by kernel_rfl))
 f224:=Tryz.func236.trans (congrArg some (by kernel_rfl))
 f225:=Tryz.func237.trans (congrArg some (by kernel_rfl))
 f260:=Tryz.func220.trans (congrArg some (by kernel_rfl))
 f266:=Tryz.func248.trans (congrArg some (by kernel_rfl))
 f267:=Tryz.func245.trans (congrArg some (by kernel_rfl))
 f268:=Tryz.func223.trans (congrArg some (by kernel_rfl))
 f314:=Tryz.func249.trans (congrArg some (by kernel_rfl))
 t0:=Tryz.underlying0
 a0:=Tryz.isAgg0
 z0:=Tryz.sizeOf0
 v0:=Tryz.zeroValue0
 t3:=Tryz.underlying3
 a3:=Tryz.isAgg3
 z3:=Tryz.sizeOf3
 v3:=Tryz.zeroValue3
 t4:=Tryz.underlying4
 a4:=Tryz.isAgg4
 z4:=Tryz.sizeOf4
 v4:=Tryz.zeroValue4
 t5:=Tryz.underlying5
 a5:=Tryz.isAgg5
 z5:=Tryz.sizeOf5
 v5:=Tryz.zeroValue5
 t9:=Tryz.underlying9
 a9:=Tryz.isAgg9
 z9:=Tryz.sizeOf9
 v9:=Tryz.zeroValue9
 t21:=Tryz.underlying21
 a21:=Tryz.isAgg21
 z21:=Tryz.sizeOf21
 v21:=Tryz.zeroValue21
 t31:=Tryz.underlying71
 a31:=Tryz.isAgg71
 z31:=Tryz.sizeOf71
 v31:=Tryz.zeroValue71
 t46:=Tryz.underlying178
 a46:=Tryz.isAgg178
 z46:=Tryz.sizeOf178
 v46:=Tryz.zeroValue178
 t51:=Tryz.underlying227
 a51:=Tryz.isAgg227
 z51:=Tryz.sizeOf227
 v51:=Tryz.zeroValue227
 t105:=Tryz.underlying294
 a105:=Tryz.isAgg294
 z105:=Tryz.sizeOf294
 v105:=Tryz.zeroValue294
 t119:=Tryz.underlying314
 a119:=Tryz.isAgg314
 z119:=Tryz.sizeOf314
 t138:=Tryz.underlying316
 a138:=Tryz.isAgg316
 z138:=Tryz.sizeOf316
 v138:=Tryz.zeroValue316
 t139:=Tryz.underlying317
 a139:=Tryz.isAgg317
 z139:=Tryz.sizeOf317
 v139:=Tryz.zeroValue317
 t146:=Tryz.underlying332
 a146:=Tryz.isAgg332
 z146:=Tryz.sizeOf332
 v146:=Tryz.zeroValue332
 g1:=by kernel_rfl
 g3:=by kernel_rfl
 g4:=by kernel_rfl}
def Tryz.lays101_ren:Go.Shelf.Ren:=⟨fun|101=>194|208=>212|206=>231|n=>n,fun|9=>9|4=>4|3=>3|n=>n,fun|n=>n⟩
theorem Tryz.lays101:Go.Proofs.Lays.n101 Tryz.prog Tryz.lays101_ren:={
 mixed:=by kernel_rfl
 f101:=Tryz.func194.trans (congrArg some (by kernel_rfl))
 f206:=Tryz.func231.trans (congrArg some (by kernel_rfl))
 f208:=Tryz.func212.trans (congrArg some (by kernel_rfl))
 t3:=Tryz.underlying3
 a3:=Tryz.isAgg3
 z3:=Tryz.sizeOf3
 v3:=Tryz.zeroValue3
 t4:=Tryz.underlying4
 a4:=Tryz.isAgg4
 z4:=Tryz.sizeOf4
 v4:=Tryz.zeroValue4
 t9:=Tryz.underlying9
 a9:=Tryz.isAgg9
 z9:=Tryz.sizeOf9
 v9:=Tryz.zeroValue9}
def Tryz.lays190_ren:Go.Shelf.Ren:=⟨fun|190=>53|125=>100|258=>99|128=>142|129=>143|302=>133|303=>134|304=>135|305=>136|306=>137|307=>138|308=>139|309=>140|310=>141|333=>172|329=>173|330=>174|334=>175|335=>176|336=>110|344=>199|n=>n,fun|31=>71|9=>9|3=>3|46=>178|0=>0|51=>227|53=>229|4=>4|183=>221|182=>220|131=>141|5=>5|218=>260|222=>185|228=>287|229=>288|n=>n,fun|n=>n⟩
theorem Tryz.lays190:Go.Proofs.Lays.n190 Tryz.prog Tryz.lays190_ren:={
 mixed:=by kernel_rfl
 f125:=Tryz.func100.trans (congrArg some (by kernel_rfl))
 f128:=Tryz.func142.trans (congrArg some (by kernel_rfl))
 f129:=Tryz.func143.trans (congrArg some (by kernel_rfl))
 f190:=Tryz.func53.trans (congrArg some (by kernel_rfl))
 f258:=Tryz.func99.trans (congrArg some (by kernel_rfl))
 f302:=Tryz.func133.trans (congrArg some (by kernel_rfl))
 f303:=Tryz.func134.trans (congrArg some (by kernel_rfl))
 f304:=Tryz.func135.trans (congrArg some (by kernel_rfl))
 f305:=Tryz.func136.trans (congrArg some (by kernel_rfl))
 f306:=Tryz.func137.trans (congrArg some (by kernel_rfl))
 f307:=Tryz.func138.trans (congrArg some (by kernel_rfl))
 f308:=Tryz.func139.trans (congrArg some (by kernel_rfl))
 f309:=Tryz.func140.trans (congrArg some (by kernel_rfl))
 f310:=Tryz.func141.trans (congrArg some (by kernel_rfl))
 f329:=Tryz.func173.trans (congrArg some (by kernel_rfl))
 f330:=Tryz.func174.trans (congrArg some (by kernel_rfl))
 f333:=Tryz.func172.trans (congrArg some (by kernel_rfl))
 f334:=Tryz.func175.trans (congrArg some (by kernel_rfl))
 f335:=Tryz.func176.trans (congrArg some (by kernel_rfl))
 f336:=Tryz.func110.trans (congrArg some (by kernel_rfl))
 f344:=Tryz.func199.trans (congrArg some (by kernel_rfl))
 t0:=Tryz.underlying0
 a0:=Tryz.isAgg0
 z0:=Tryz.sizeOf0
 v0:=Tryz.zeroValue0
 t3:=Tryz.underlying3
 a3:=Tryz.isAgg3
 z3:=Tryz.sizeOf3
 v3:=Tryz.zeroValue3
 t4:=Tryz.underlying4
 a4:=Tryz.isAgg4
 z4:=Tryz.sizeOf4
 v4:=Tryz.zeroValue4
 t5:=Tryz.underlying5
 a5:=Tryz.isAgg5
 z5:=Tryz.sizeOf5
 v5:=Tryz.zeroValue5
 t9:=Tryz.underlying9
 a9:=Tryz.isAgg9
 z9:=Tryz.sizeOf9
 v9:=Tryz.zeroValue9
 t31:=Tryz.underlying71
 a31:=Tryz.isAgg71
 z31:=Tryz.sizeOf71
 v31:=Tryz.zeroValue71
 t46:=Tryz.underlying178
 a46:=Tryz.isAgg178
 z46:=Tryz.sizeOf178
 v46:=Tryz.zeroValue178
 t51:=Tryz.underlying227
 a51:=Tryz.isAgg227
 z51:=Tryz.sizeOf227
 v51:=Tryz.zeroValue227
 t53:=Tryz.underlying229
 a53:=Tryz.isAgg229
 z53:=Tryz.sizeOf229
 v53:=Tryz.zeroValue229
 t131:=Tryz.underlying141
 a131:=Tryz.isAgg141
 z131:=Tryz.sizeOf141
 v131:=Tryz.zeroValue141
 t182:=Tryz.underlying220
 a182:=Tryz.isAgg220
 z182:=Tryz.sizeOf220
 v182:=Tryz.zeroValue220
 t183:=Tryz.underlying221
 a183:=Tryz.isAgg221
 z183:=Tryz.sizeOf221
 v183:=Tryz.zeroValue221
 t218:=Tryz.underlying260
 a218:=Tryz.isAgg260
 z218:=Tryz.sizeOf260
 v218:=Tryz.zeroValue260
 t222:=Tryz.underlying185
 a222:=Tryz.isAgg185
 z222:=Tryz.sizeOf185
 v222:=Tryz.zeroValue185
 t228:=Tryz.underlying287
 a228:=Tryz.isAgg287
 z228:=Tryz.sizeOf287
 v228:=Tryz.zeroValue287
 t229:=Tryz.underlying288
 a229:=Tryz.isAgg288
 z229:=Tryz.sizeOf288
 v229:=Tryz.zeroValue288}
end Go.Proofs
set_option maxRecDepth 20000
namespace Go.Proofs.YtghhghijalcdfaaGreatDoor
open Go Go.Eng
def oACoA18_4:OL:= [(0,[]),(1,[]),(2,[]),(3,[]),(4,[]),(5,rg 5),(6,rg 5),(7,rg 5),(8,rg 5),(9,rg 5),(10,[]),(11,[])]
def oACoA18_5:OL:= [(0,[]),(1,[]),(2,[]),(3,[]),(4,[]),(5,rg 5),(6,rg 5),(7,rg 5),(8,rg 5),(9,rg 5),(10,[]),(11,[])]
def eqTab:List Nat:= [123,171,146,214,135,285,55,137,190]
theorem eqTab_ok:eqTab.all (eqFits Tryz.prog)=true:=by decide+kernel
noncomputable def T:Tab:=tiOf Tryz.prog (mem eqTab)
theorem hT:TabOk Tryz.prog T:=⟨mem eqTab,fun _ _ h=>h,fun t ht=>List.all_eq_true.1 eqTab_ok t ((mem_iff _ _).1 ht)⟩
abbrev i64 (n:Int):DV:=.int .i64 n
def strm (n:Nat)(L:Nat→Int)(at':Int):Res:=.cells 25 [.d (.ro 1 n fun i=> [.int .i64 (L i)]),.d (.int .i64 at')]
def Rok (n:Nat)(L:Nat→Int):Prop:=n≤maxLen∧∀i,-2^63≤L i∧L i<2^63
theorem s148 (x n:Int)(hn:n≤2^40):FSpec Tryz.prog 49 [.d (.int .i64 x),.d (.int .i64 n)] [] (fun y r=>(∃m:Int,0≤m∧(1≤n→m<n)∧(n<1→m=0)∧y= .d (.int .i64 m))∧r= []):=by
 refine spAx hT Tryz.func49 Tryz.call49 ?_;conv=>whnf
 refine br_intro (fun h=> ?_) (fun h=> ?_)
 · conv=>whnf
   refine .ret _ ?_;conv=>whnf
   refine⟨[],⟨⟨_,?_,?_,?_,rfl⟩,rfl⟩,trivial⟩;all_goals (simp at h;omega)
 · conv=>whnf
   refine⟨?_,?_⟩
   · simp at h;omega
   conv=>whnf
   simp at h;have h1:=Int.tmod_lt_of_pos x (b:=n) (by omega);have h2:=Int.lt_tmod_of_pos x (b:=n) (by omega);refine br_intro (fun h2=> ?_) (fun h2=> ?_)
   · conv=>whnf
     simp at h2;refine⟨?_,?_⟩
     · unfold inI64;omega
     · conv=>whnf
       refine .ret _ ?_;conv=>whnf
       refine⟨[],⟨⟨_,?_,?_,?_,rfl⟩,rfl⟩,trivial⟩;all_goals omega
   · conv=>whnf
     simp at h2;refine .ret _ ?_;conv=>whnf
     refine⟨[],⟨⟨_,?_,?_,?_,rfl⟩,rfl⟩,trivial⟩;all_goals omega
theorem nextB {a n:Int}(h0:0≤a)(hn:1≤n):0≤a.tdiv n∧a.tdiv n≤a∧0≤a.tmod n∧a.tmod n<n∧0≤a.tdiv n*a.tmod n∧a.tdiv n*a.tmod n≤a∧a.tmod n≤a:=by
 have h1:0≤a.tdiv n:=Int.tdiv_nonneg h0 (by omega);have h2:0≤a.tmod n:=Int.tmod_nonneg _ h0;have h3:a.tmod n<n:=Int.tmod_lt_of_pos _ (by omega);have h4:=Int.tmod_add_mul_tdiv a n;have h5:a.tdiv n*1≤a.tdiv n*n:=Int.mul_le_mul_of_nonneg_left hn h1;have h6:a.tdiv n*a.tmod n≤a.tdiv n*n:=Int.mul_le_mul_of_nonneg_left (by omega) h1;have h7:0≤a.tdiv n*a.tmod n:=Int.mul_nonneg h1 h2;rw[Int.mul_comm]at h4;have h8:0≤a.tdiv n*n:=Int.mul_nonneg h1 (by omega);refine⟨h1,?_,h2,h3,h7,?_,?_⟩<;>omega
theorem s86 (n:Nat)(L:Nat→Int)(hL:Rok n L)(a:Int)(h0:0≤a)(ha:a≤2^40)(m:Int)(hm:m≤2^40):
 FSpec Tryz.prog 18 [.ptr 1000000 0,.d (.int .i64 m)] [(1000000,strm n L a)] (fun y r=>(∃j:Int,0≤j∧(1≤m→j<m)∧(m<1→j=0)∧y= .d (.int .i64 j))∧r= [(1000000,strm n L (a+1))]):=by
 refine spAx hT Tryz.func18 Tryz.call18 ?_;conv=>whnf
 refine⟨by unfold inI64;omega,?_⟩;conv=>whnf
 refine br_intro (fun h=> ?_) (fun h=> ?_)
 · conv=>whnf
   refine⟨by unfold inI64;omega,?_⟩;conv=>whnf
   refine oAx (s148 _ _ hm) [] ?_;rintro x rout ⟨⟨j,j1,j2,j3,rfl⟩,rfl⟩;refine⟨rfl,?_⟩;conv=>whnf
   refine .ret _ ?_;conv=>whnf
   exact⟨[(1000000,strm n L (a+1))],⟨⟨_,j1,j2,j3,rfl⟩,rfl⟩,rr,trivial⟩
 · conv=>whnf
   simp at h;have hnp:(1:Int)≤n:=by omega
   refine RegX.rule hT rfl [] oACoA18_4 (by decide+kernel) ?_;conv=>whnf
   refine⟨by unfold inI64;omega,?_⟩;conv=>whnf
   refine⟨by omega,?_⟩;conv=>whnf
   have ea:a+1 - 1=a:=by omega
   obtain⟨b1,b2,b3,b4,b5,b6,b7⟩:=nextB h0 hnp;refine RegX.rule hT rfl [] oACoA18_5 (by decide+kernel) ?_;conv=>whnf
   refine⟨by unfold inI64;omega,?_⟩;conv=>whnf
   refine⟨by omega,?_⟩;conv=>whnf
   refine⟨by unfold inI64;rw[ea];omega,?_⟩;conv=>whnf
   rw[ea];refine⟨⟨b3,b4⟩,?_⟩;conv=>whnf
   refine CallX.of (s148 _ _ (by omega)) [] rfl ⟨lr,lr,trivial⟩ trivial rfl rfl ?_;rintro x rout ⟨⟨j,j1,j2,j3,rfl⟩,rfl⟩;refine⟨rfl,?_⟩;conv=>whnf
   refine⟨by unfold inI64;omega,?_⟩;conv=>whnf
   have e2:a.tdiv n*(7919+a.tmod n)=7919*a.tdiv n+a.tdiv n*a.tmod n:=by rw[Int.mul_add,Int.mul_comm _ 7919]
   rw[e2];refine⟨by unfold inI64;omega,?_⟩;conv=>whnf
   refine⟨by unfold inI64;omega,?_⟩;conv=>whnf
   refine oAx (s148 _ _ hm) [] ?_;rintro x rout ⟨⟨j,k1,k2,k3,rfl⟩,rfl⟩;refine⟨rfl,?_⟩;conv=>whnf
   refine .ret _ ?_;conv=>whnf
   exact⟨[(1000000,strm n L (a+1))],⟨⟨_,k1,k2,k3,rfl⟩,rfl⟩,rr,trivial⟩
def Moved (n:Nat)(L:Nat→Int)(a:Int)(c:Int)(r:List (Nat×Res)):Prop:=∃b,a≤b∧b≤a+c∧r= [(1000000,strm n L b)]
theorem s64 (n:Nat)(L:Nat→Int)(hL:Rok n L)(a:Int)(h0:0≤a)(ha:a≤2^40)(lo hi:Int)(h1: -2^41≤lo)(h2:hi≤lo+2^40 - 1)(h3:lo≤2^41)(h4:lo≤hi):
 FSpec Tryz.prog 6 [.ptr 1000000 0,.d (.int .i64 lo),.d (.int .i64 hi)] [(1000000,strm n L a)] (fun y r=>(∃j:Int,lo≤j∧j≤hi∧y= .d (.int .i64 j))∧Moved n L a 1 r):=by
 refine spAx hT Tryz.func6 Tryz.call6 ?_;conv=>whnf
 refine br_intro (fun h=> ?_) (fun h=> ?_)
 · simp at h;omega
 conv=>whnf
 refine⟨by unfold inI64;omega,?_⟩;conv=>whnf
 refine⟨by unfold inI64;omega,?_⟩;conv=>whnf
 refine CallX.of (s86 n L hL a h0 ha _ (by omega)) [(1000000,1000000)] rfl ⟨lr,lr,trivial⟩ ⟨rr,trivial⟩ rfl rfl ?_;rintro x rout ⟨⟨j,k1,k2,k3,rfl⟩,rfl⟩;refine⟨rfl,?_⟩;conv=>whnf
 refine⟨by unfold inI64;omega,?_⟩;conv=>whnf
 refine .ret _ ?_;conv=>whnf
 exact⟨[(1000000,strm n L (a+1))],⟨⟨_,by omega,by omega,rfl⟩,a+1,by omega,by omega,rfl⟩,rr,trivial⟩
theorem s84 (n:Nat)(L:Nat→Int)(hL:Rok n L)(a:Int)(h0:0≤a)(ha:a≤2^40)(m:Int)(hm:m≤2^40):
 FSpec Tryz.prog 35 [.ptr 1000000 0,.d (.int .i64 m)] [(1000000,strm n L a)] (fun y r=>(∃b:Bool,y= .d (.bool b))∧Moved n L a 1 r):=by
 refine spAx hT Tryz.func35 Tryz.call35 ?_;conv=>whnf
 refine CallX.of (s86 n L hL a h0 ha _ (by omega)) [(1000000,1000000)] rfl ⟨lr,lr,trivial⟩ ⟨rr,trivial⟩ rfl rfl ?_;rintro x rout ⟨⟨j,k1,k2,k3,rfl⟩,rfl⟩;refine⟨rfl,?_⟩;conv=>whnf
 refine .ret _ ?_;conv=>whnf
 exact⟨[(1000000,strm n L (a+1))],⟨⟨_,rfl⟩,a+1,by omega,by omega,rfl⟩,rr,trivial⟩
theorem s33 (n:Nat)(L:Nat→Int)(hL:Rok n L)(a:Int)(h0:0≤a)(ha:a≤2^40)(l:List Int)(hl:1≤l.length)(hl2:l.length≤2^40):
 FSpec Tryz.prog 41 [.ptr 1000000 0,.d (ints l)] [(1000000,strm n L a)] (fun y r=>(∃x ∈ l,y= .d (.int .i64 x))∧Moved n L a 1 r):=by
 refine spAx hT Tryz.func41 Tryz.call41 ?_;conv=>whnf
 refine oAx (s86 n L hL a h0 ha l.length (by omega)) [(1000000,1000000)] ?_;rintro x rout ⟨⟨j,k1,k2,k3,rfl⟩,rfl⟩;refine⟨rfl,?_⟩;conv=>whnf
 refine⟨⟨k1,by omega⟩,?_⟩;conv=>whnf
 refine .ret _ ?_;conv=>whnf
 exact⟨[(1000000,strm n L (a+1))],⟨⟨_,getD_mem (by omega),rfl⟩,a+1,by omega,by omega,rfl⟩,rr,trivial⟩
theorem s15 (n:Nat)(L:Nat→Int)(hL:Rok n L)(a:Int)(h0:0≤a)(ha:a≤2^40)(l:List (List UInt8))(hl:1≤l.length)(hl2:l.length≤2^40):
 FSpec Tryz.prog 13 [.ptr 1000000 0,.d (strs l)] [(1000000,strm n L a)] (fun y r=>(∃x ∈ l,y= .d (.str x))∧Moved n L a 1 r):=by
 refine spAx hT Tryz.func13 Tryz.call13 ?_;conv=>whnf
 refine oAx (s86 n L hL a h0 ha l.length (by omega)) [(1000000,1000000)] ?_;rintro x rout ⟨⟨j,k1,k2,k3,rfl⟩,rfl⟩;refine⟨rfl,?_⟩;conv=>whnf
 refine⟨⟨k1,by omega⟩,?_⟩;conv=>whnf
 refine .ret _ ?_;conv=>whnf
 exact⟨[(1000000,strm n L (a+1))],⟨⟨_,getD_mem (by omega),rfl⟩,a+1,by omega,by omega,rfl⟩,rr,trivial⟩
theorem Moved.trans {n:Nat}{L:Nat→Int}{a c:Int}{r:List (Nat×Res)}{b d:Int}(h1:a≤b)(h2:b+d≤a+c)(h:Moved n L b d r):Moved n L a c r:=by
 obtain⟨e,q1,q2,rfl⟩:=h;exact⟨e,by omega,by omega,rfl⟩
theorem s104 (n:Nat)(L:Nat→Int)(hL:Rok n L)(a:Int)(h0:0≤a)(ha:a≤2^39)(lo hi:Int)(h1: -2^38≤lo)(h2:lo≤hi)(h3:hi≤2^39):
 FSpec Tryz.prog 43 [.ptr 1000000 0,.d (.int .i64 lo),.d (.int .i64 hi)] [(1000000,strm n L a)] (fun y r=>(∃j:Int,-2^40≤j∧j≤2^40∧y= .d (.int .i64 j))∧Moved n L a 2 r):=by
 refine spAx hT Tryz.func43 Tryz.call43 ?_;conv=>whnf
 refine oAx (s84 n L hL a h0 (by omega) 12 (by omega)) [(1000000,1000000)] ?_;rintro x rout ⟨⟨f,rfl⟩,⟨b,b1,b2,rfl⟩⟩;refine⟨rfl,?_⟩;conv=>whnf
 refine br_intro (fun hf=> ?_) (fun hf=> ?_)
 · conv=>whnf
   refine⟨by unfold inI64;omega,?_⟩;conv=>whnf
   refine⟨by unfold inI64;omega,?_⟩;conv=>whnf
   refine CallX.of (s33 n L hL b (by omega) (by omega) [lo - 1,hi+1,lo,hi,-1099511627776,1099511627776] (by simp) (by simp)) [(1000000,1000000)] rfl ⟨lr,SV.le_lit (by rfl) (by rfl),trivial⟩ ⟨rr,trivial⟩ rfl rfl ?_;rintro x rout ⟨⟨j,hj,rfl⟩,⟨c,c1,c2,rfl⟩⟩;refine⟨rfl,?_⟩;conv=>whnf
   refine .ret _ ?_;conv=>whnf
   exact⟨[(1000000,strm n L c)],⟨⟨j,by simp at hj;omega,by simp at hj;omega,rfl⟩,c,by omega,by omega,rfl⟩,rr,trivial⟩
 · conv=>whnf
   refine oAx (s64 n L hL b (by omega) (by omega) lo hi (by omega) (by omega) (by omega) h2) [(1000000,1000000)] ?_;rintro x rout ⟨⟨j,j1,j2,rfl⟩,⟨c,c1,c2,rfl⟩⟩;refine⟨rfl,?_⟩;conv=>whnf
   refine .ret _ ?_;conv=>whnf
   exact⟨[(1000000,strm n L c)],⟨⟨j,by omega,by omega,rfl⟩,c,by omega,by omega,rfl⟩,rr,trivial⟩
end Go.Proofs.YtghhghijalcdfaaGreatDoor
namespace Go.Eng
open Go
end Go.Eng
namespace Go.Eng
open Go
end Go.Eng
namespace Go.Eng
open Go
end Go.Eng
namespace Go.Eng
open Go Go.RowKit
theorem know_look {Q:Hp→Prop}(d:Nat)(r:Res)(hd:lookL [((1000009:Nat),Res.know Q)] d=some r):d=1000009∧r= .know Q:=by
 simp only[lookL]at hd
 cases hq:Nat.beq d 1000009 with
 |false=>rw[hq]at hd;cases hd
 |true=>rw[hq]at hd;cases hd;exact⟨Nat.eq_of_beq_eq_true hq,rfl⟩
theorem FSpec.ofKnow {P:Program}{f:FuncId}{args:List SV}{y:SV}{Q:Hp→Prop}(henter:∀args w,(callFunc f args).run P w= .ok (.enter f args) w)
 (h:∀ (G:Hp) (β:Env) (w:World) (vs:List Value),Q G→(∀b o,G b=some o→w.heap[b]? =some o)→vs.length=args.length→(∀ (i:Nat) x v,args[i]? =some x→vs[i]? =some v→SV.Den G β x v)→
   ∃u,(∀G β,SV.Den G β y u)∧Calls P f vs.toArray w fun e w' =>e= .returned u∧Below w.heap.size w w'):FSpec P f args [(1000009,.know Q)] (fun x r=>x=y∧r= [(1000009,.know Q)]):=by
 refine⟨henter,fun G β w vs hpre hl hd=> ?_⟩;have hR:lookL [((1000009:Nat),Res.know Q)] 1000009=some (.know Q):=by simp[lookL]
 have hq:ResOk G β w 1000009 (.know Q):=hpre.rs _ _ hR;obtain⟨u,hu,hc⟩:=h G β w vs (hq.2 G (Hp.le_refl G)) hpre.gw hl hd;refine hc.mono ?_;rintro e w' ⟨rfl,hb⟩;refine⟨u,y,_,G,β,rfl,⟨rfl,rfl⟩,⟨Hp.le_refl G,Env.le_refl β,fun b o hg=> ?_,fun b o hg=>.inl hg,⟨hb.os,hb.tape,hb.output,hb.size,fun b hlt _=>hb.block b hlt⟩,fun d r hd=> ?_,fun d d' r r' v v' b h1 h2 o1=> ?_,fun d r v b h1 o1=> ?_⟩,hu G β⟩
 · have:=hpre.gw b o hg;have hlt:b<w.heap.size:=(Array.getElem?_eq_some_iff.1 this).1;rw[hb.block b hlt];exact this
 · obtain⟨rfl,rfl⟩:=know_look d r hd;exact⟨hq.1,hq.2⟩
 · obtain⟨_,rfl⟩:=know_look d r h1;cases o1
 · obtain⟨_,rfl⟩:=know_look d r h1;cases o1
theorem FSpec.atStart {P:Program}{f:FuncId}{args:List SV}{post:SV→Prop}{Q:Hp→Prop}(h:FSpec P f args [(1000009,.know Q)] (fun x r=>post x∧r= [(1000009,.know Q)]))(W:World)(hQ:∀G,(Hp.le (fun b=>W.heap[b]?) G)→Q G):
 Pre (fun b=>W.heap[b]?) (fun d=>if d=1000009 then some (.bool true)else none) W (lookL [((1000009:Nat),Res.know Q)]):=by
 refine⟨fun _ _ e=>e,fun d r hd=> ?_,fun d d' r r' v v' b h1 h2 o1=> ?_,fun d r v b h1 o1=> ?_,fun d v hd=> ?_⟩
 · obtain⟨rfl,rfl⟩:=know_look d r hd;exact⟨⟨_,if_pos rfl⟩,hQ⟩
 · obtain⟨_,rfl⟩:=know_look d r h1;cases o1
 · obtain⟨_,rfl⟩:=know_look d r h1;cases o1
 · by_cases q:d=1000009
   · subst q;exact⟨_,rfl⟩
   · rw[if_neg q]at hd;cases hd
end Go.Eng
namespace Go.Eng
open Go Go.RowKit
def facts (F:World→Prop):Hp→Prop:=fun G=>∀w:World,(∀ (b:Nat) (o:Obj),G b=some o→w.heap[b]? =some o)→F w
theorem facts_start {F:World→Prop}{W:World}(h:∀w:World,(∀ (b:Nat) (o:Obj),W.heap[b]? =some o→w.heap[b]? =some o)→F w)(G:Hp)(hG:Hp.le (fun b=>W.heap[b]?) G):facts F G:=
 fun w hw=>h w (fun b o e=>hw b o (hG b o e))
mutual
theorem okN_more:∀x:SV,SV.okN [] x=true→SV.okN [((1000009:Nat),(1000009:Nat))] x=true
 | .any,_=>rfl
 | .bad,_=>rfl
 | .undef,_=>rfl
 | .d _,_=>rfl
 | .agg l,h=>by simp only[SV.okN]at h ⊢;exact okNL_more l h
 | .tup l,h=>by simp only[SV.okN]at h ⊢;exact okNL_more l h
 | .ptr _ _,h=>by simp[SV.okN,lookN]at h
 | .buf _,h=>by simp[SV.okN,lookN]at h
 | .bel _ _ _ _,h=>by simp[SV.okN,lookN]at h
 | .mp _,h=>by simp[SV.okN,lookN]at h
 | .fn f caps,h=>by simp only[SV.okN]at h ⊢;exact okNL_more caps h
 | .sub _ _ _ _,h=>by simp[SV.okN,lookN]at h
theorem okNL_more:∀l:List SV,SV.okNL [] l=true→SV.okNL [((1000009:Nat),(1000009:Nat))] l=true
 | [],_=>rfl
 | x::l,h=>by
   simp only[SV.okNL,Bool.and_eq_true]at h ⊢;exact⟨okN_more x h.1,okNL_more l h.2⟩
end
theorem FSpec.ofKnowP {P:Program}{f:FuncId}{args:List SV}{Q:Hp→Prop}{post:SV→Prop}(henter:∀args w,(callFunc f args).run P w= .ok (.enter f args) w)
 (h:∀ (G:Hp) (β:Env) (w:World) (vs:List Value),Q G→(∀b o,G b=some o→w.heap[b]? =some o)→vs.length=args.length→(∀ (i:Nat) x v,args[i]? =some x→vs[i]? =some v→SV.Den G β x v)→
   Calls P f vs.toArray w fun e w' =>∃u y G',e= .returned u∧post y∧G.le G'∧(∀b o,G' b=some o→w'.heap[b]? =some o)∧(∀b o,G' b=some o→G b=some o∨w.heap.size≤b)∧(∀β,SV.Den G' β y u)∧Below w.heap.size w w'):
 FSpec P f args [(1000009,.know Q)] (fun x r=>post x∧r= [(1000009,.know Q)]):=by
 refine⟨henter,fun G β w vs hpre hl hd=> ?_⟩;have hR:lookL [((1000009:Nat),Res.know Q)] 1000009=some (.know Q):=by simp[lookL]
 have hq:ResOk G β w 1000009 (.know Q):=hpre.rs _ _ hR;refine(h G β w vs (hq.2 G (Hp.le_refl G)) hpre.gw hl hd).mono ?_;rintro e w' ⟨u,y,G',rfl,hy,hle,hgw,hgn,hden,hb⟩;refine⟨u,y,_,G',β,rfl,⟨hy,rfl⟩,⟨hle,Env.le_refl β,hgw,fun b o hg=>(hgn b o hg).elim .inl (fun q=>.inr (.inr q)),⟨hb.os,hb.tape,hb.output,hb.size,fun b hlt _=>hb.block b hlt⟩,fun d r hd=> ?_,fun d d' r r' v v' b h1 h2 o1=> ?_,fun d r v b h1 o1=> ?_⟩,hden β⟩
 · obtain⟨rfl,rfl⟩:=know_look d r hd;exact⟨hq.1,fun G'' h2=>hq.2 G'' (Hp.le_trans hle h2)⟩
 · obtain⟨_,rfl⟩:=know_look d r h1;cases o1
 · obtain⟨_,rfl⟩:=know_look d r h1;cases o1
theorem FSpec.ofKnowB {P:Program}{f:FuncId}{args:List SV}{Q:Hp→Prop}{post:SV→Prop}(henter:∀args w,(callFunc f args).run P w= .ok (.enter f args) w)
 (h:∀ (G:Hp) (β:Env) (w:World) (vs:List Value),Q G→(∀b o,G b=some o→w.heap[b]? =some o)→vs.length=args.length→(∀ (i:Nat) x v,args[i]? =some x→vs[i]? =some v→SV.Den G β x v)→
   Calls P f vs.toArray w fun e w' =>∃u y,e= .returned u∧post y∧(∀G β,SV.Den G β y u)∧Below w.heap.size w w'):
 FSpec P f args [(1000009,.know Q)] (fun x r=>post x∧r= [(1000009,.know Q)]):=
 FSpec.ofKnowP henter fun G β w vs hq hg hl hd=>(h G β w vs hq hg hl hd).mono fun e w' =>by
  rintro⟨u,y,he,hy,hden,hb⟩;refine⟨u,y,G,he,hy,Hp.le_refl G,fun b o e=> ?_,fun b o e=>.inl e,hden G,hb⟩;have:=hg b o e;have hlt:b<w.heap.size:=(Array.getElem?_eq_some_iff.1 this).1;rw[hb.block b hlt];exact this
theorem CallX.kn {P:Program}{f:FuncId}{dst:Option Nat}{args:List SV}{s:St}{av:List Nat}{k:Upd→Prop}{y:SV}{Q:Hp→Prop}
 (hs:FSpec P f args [(1000009,.know Q)] fun x r=>x=y∧r= [(1000009,.know Q)])(hR:s.res 1000009=some (.know Q))(hargs:SV.okNL [] args=true)(hav:mem av 1099512627785=false)(hy:SV.okN [] y=true)
 (hk:k ⟨dst,y,[],[]⟩):CallX P f dst args s av k:=by
 have up:∀ {x:SV},SV.okN [] x=true→SV.okN [((1000009:Nat),(1000009:Nat))] x=true∧x.ren [((1000009:Nat),(1000009:Nat))]=x:=by
  have idr:∀d c,lookN [((1000009:Nat),(1000009:Nat))] d=some c→c=d:=by
   intro d c hd;simp only[lookN]at hd
   cases hq:Nat.beq d 1000009 with
   |false=>rw[hq]at hd;cases hd
   |true=>rw[hq]at hd;cases hd;exact(Nat.eq_of_beq_eq_true hq).symm
  have mono:∀x:SV,SV.okN [] x=true→SV.okN [((1000009:Nat),(1000009:Nat))] x=true:=okN_more;exact fun{x} hx=>⟨mono x hx,ren_id idr x (mono x hx)⟩
 refine CallX.look hs [(1000009,1000009)] rfl ?_ ⟨⟨1000009,rfl,hR⟩,trivial⟩ rfl (by simp[hav]) (by simp[(up hy).1,outN,lookN,Res.okN]) ?_
 · have:∀l:List SV,SV.okNL [] l=true→argsLe [((1000009:Nat),(1000009:Nat))] l l:=by
    intro l
    induction l with
    |nil=>intro _;trivial
    | cons x l ih=>
      intro h;simp only[SV.okNL,Bool.and_eq_true]at h;exact⟨by rw[(up h.1).2];exact SV.le_refl _,ih h.2⟩
   exact this args hargs
 · rw[(up hy).2];exact hk
end Go.Eng
set_option maxRecDepth 20000
namespace Go.Proofs.YtghhghijalcdfaaGreatDoor
open Go Go.Eng Go.Shelf Go.RowKit
def FX (w:World):Prop:=(∀n:Int,-9223372036854775808≤n→n≤9223372036854775807→Calls Tryz.prog 81 #[.int .i64 n] w fun e w' =>e= .returned (.string ⟨(Lib.itoa n).toArray⟩)∧∃k os,w' =Go.Sort.grow (w.drewN k) os)∧(∃m,w.cell? ⟨Tryz.lays146_ren.g 1,0,none⟩=some (.int .i64 m))∧
 (∃v,w.cell? ⟨Tryz.laysC172_ren.g 15,0,none⟩=some v∧(v= .nilIface∨∃t p,v= .iface t p))∧(∃v,w.cell? ⟨Tryz.laysC172_ren.g 16,0,none⟩=some v∧(v= .nilIface∨∃t p,v= .iface t p))
abbrev KX:Res:=.know (facts FX)
abbrev kx:List (Nat×Res):= [(1000009,KX)]
theorem bsz (l:List UInt8):(⟨l.toArray⟩:ByteArray).size=l.length:=by simp[ByteArray.size]
theorem below_grow {w:World}(n:Nat)(os:Array Obj):Below w.heap.size w (Go.Sort.grow (w.drewN n) os):=
 ⟨rfl,rfl,rfl,by simp[Go.Sort.grow,World.drewN],fun k hk=>by
   show(w.heap++os)[k]? =_
   rw[Array.getElem?_append_left hk]⟩
theorem zItoa (n:Int)(h0: -9223372036854775808≤n)(h1:n≤9223372036854775807):FSpec Tryz.prog 81 [.d (.int .i64 n)] kx (fun x r=>x= .d (.str (Lib.itoa n))∧r=kx):=by
 refine FSpec.ofKnow Tryz.call81 (fun G β w vs hq hg hvl hd=> ?_)
 match vs,hvl with
 | [u],_=>
   have h0':=hd 0 _ u rfl rfl
   cases h0' with|d _ _ h0' =>cases h0' with|int _ _=>
   have hF:=hq w hg;refine⟨.string ⟨(Lib.itoa n).toArray⟩,fun _ _=>.d _ _ (.str _),?_⟩;have hcon:=hF.1 n h0 h1;refine hcon.mono ?_;rintro e' w' ⟨rfl,k,os,rfl⟩;exact⟨rfl,below_grow k os⟩
def atoiX (s:List UInt8)(y:SV):Prop:=
 match Lib.atoiAll s with
 | .ok v=>y= .tup [.d (.int .i64 v),.d (.opq .nilIface)]
 | .range=>∃t p,y= .tup [.d (.int .i64 (Lib.atoiSat s)),.d (.opq (.iface t p))]
 |_=>∃t p,y= .tup [.d (.int .i64 0),.d (.opq (.iface t p))]
theorem tup2_den {G:Hp}{β:Env}{p q:SV}{a b:Value}(ha:SV.Den G β p a)(hb:SV.Den G β q b):SV.Den G β (.tup [p,q]) (.tuple #[a,b]):=
 .tup [p,q] [a,b] rfl (fun i x v hx hv=>by
  match i,hx,hv with
  |0,hx,hv=>simp at hx hv;subst hx;subst hv;exact ha
  |1,hx,hv=>simp at hx hv;subst hx;subst hv;exact hb)
theorem zAtoi (s:List UInt8)(hl:s.length≤2^40):FSpec Tryz.prog 193 [.d (.str s)] kx (fun x r=>atoiX s x∧r=kx):=by
 refine FSpec.ofKnowB Tryz.call193 (fun G β w vs hq hg hvl hd=> ?_)
 match vs,hvl with
 | [u],_=>
   have h0:=hd 0 _ u rfl rfl
   cases h0 with|d _ _ h0=>cases h0 with|str _=>
   obtain⟨_,_,⟨v1,c1,d1⟩,⟨v2,c2,d2⟩⟩:=hq w hg;have e:Tryz.laysC172_ren.f 172=193:=rfl
   cases hA:Lib.atoiAll s with
   | ok v=>
     have hcon:=Any.strconv_Atoi_ok Tryz.laysC172 ⟨s.toArray⟩ (by rw[bsz];omega) v (by simpa using hA) w;rw[e]at hcon;refine hcon.mono ?_;rintro e' w' ⟨rfl,hw⟩;refine⟨_,_,rfl,by unfold atoiX;rw[hA],fun _ _=>tup2_den (.d _ _ (.int _ _)) (.d _ _ (.opq _ rfl)),?_⟩;rcases hw with rfl|⟨t,rfl⟩
     · exact Below.refl _ _
     · exact Lib.bytesWorld_below _ _ _
   | range=>
     have hcon:=Any.strconv_Atoi_range Tryz.laysC172 ⟨s.toArray⟩ (by rw[bsz];omega) (by simpa using hA) v2 w c2 d2;rw[e]at hcon;refine hcon.mono ?_;rintro e' w' ⟨N,rfl,_,_,hb⟩;refine⟨_,_,rfl,by unfold atoiX;rw[hA];exact⟨_,_,rfl⟩,fun _ _=>tup2_den ?_ (.d _ _ (.opq _ rfl)),hb⟩
     simpa using SV.Den.d _ _ (DV.Den.int .i64 (Lib.atoiSat s))
   | _=>
     have hcon:=Any.strconv_Atoi_syntax Tryz.laysC172 ⟨s.toArray⟩ (by rw[bsz];omega) (by simpa using hA) v1 w c1 d1;rw[e]at hcon;refine hcon.mono ?_;rintro e' w' ⟨N,rfl,_,_,hb⟩;exact⟨_,_,rfl,by unfold atoiX;rw[hA];exact⟨_,_,rfl⟩,fun _ _=>tup2_den (.d _ _ (.int _ _)) (.d _ _ (.opq _ rfl)),hb⟩
theorem zTrimP (s p:List UInt8):FSpec Tryz.prog 194 [.d (.str s),.d (.str p)] [] (fun x r=>x= .d (.str (Lib.trimPrefix s p))∧r= []):=by
 refine FSpec.ofBelow Tryz.call194 (fun G β w vs _ hvl hd=> ?_)
 match vs,hvl with
 | [u,v],_=>
   have h0:=hd 0 _ u rfl rfl;have h1:=hd 1 _ v rfl rfl
   cases h0 with|d _ _ h0=>cases h0 with|str _=>
   cases h1 with|d _ _ h1=>cases h1 with|str _=>
   refine⟨.string ⟨(Lib.trimPrefix s p).toArray⟩,fun _ _=>.d _ _ (.str _),?_⟩;have hcon:=Any.strings_TrimPrefix Tryz.lays101 ⟨s.toArray⟩ ⟨p.toArray⟩ w;have e:Tryz.lays101_ren.f 101=194:=rfl;rw[e]at hcon;refine hcon.mono ?_;rintro e' w' ⟨rfl,rfl⟩;exact⟨rfl,Below.refl _ _⟩
theorem newRow_den {G:Hp}{w:World}(hG:∀b o,G b=some o→w.heap[b]? =some o)(L:List ByteArray)(N:Nat)(hL:L.length≤N)(hN:N≤maxLen)(cs:Array Value)(e:TypeId)(hc:∀i,i<L.length→cs[i]? =some (.string (L.getD i ByteArray.empty))):
 ∃G',G.le G'∧(∀b o,G' b=some o→(w.alloc (.cells cs e)).heap[b]? =some o)∧(∀b o,G' b=some o→G b=some o∨w.heap.size≤b)∧(∀β,SV.Den G' β (.d (strs (L.map (·.data.toList)))) (.slice (some ⟨w.heap.size,0,none⟩) L.length N)):=by
 have hfree:G w.heap.size=none:=by
  cases hg:G w.heap.size with
  |none=>rfl
  |some o=>have:=(Array.getElem?_eq_some_iff.1 (hG _ _ hg)).1;omega
 refine⟨G.add w.heap.size (.cells cs e),Hp.le_add hfree,fun b o hb=> ?_,fun b o hb=> ?_,fun β=>.d _ _ ?_⟩
 · unfold Hp.add at hb;split at hb
   · rename_i q;subst q;cases hb;exact heap_alloc_new w _
   · rw[heap_alloc_old w _ (Array.getElem?_eq_some_iff.1 (hG _ _ hb)).1];exact hG _ _ hb
 · unfold Hp.add at hb;split at hb
   · rename_i q;subst q;exact .inr (Nat.le_refl _)
   · exact .inl hb
 · have hlen:(L.map (·.data.toList)).length=L.length:=by simp
   unfold strs seqD;rw[hlen];refine .ro 1 L.length _ _ N (fun i _=>.string (L.getD i ByteArray.empty)) rfl hL hN (fun i _=>rfl) (fun i j x hi hx=> ?_) (fun i j x hi hx=> ?_)
   · have hj:j=0:=by
      have:=(List.getElem?_eq_some_iff.1 hx).1;simp[rowF,sF]at this;omega
     subst hj;refine⟨cs,e,(0,0),?_,?_,?_⟩
     · rw[Eng.Addr.add_block];simp[Hp.add]
     · exact Addr.add_spot _ rfl _
     · rw[Addr.add_lit];simpa using hc i hi
   · have hj:j=0:=by
      have:=(List.getElem?_eq_some_iff.1 hx).1;simp[rowF,sF]at this;omega
     subst hj;simp only[rowF,sF,List.getElem?_cons_zero,Option.some.injEq]at hx;subst hx
     have h1:(L.map (·.data.toList)).getD i []=(L.getD i ByteArray.empty).data.toList:=by
      simp[List.getD_eq_getElem?_getD,hi]
     rw[h1];generalize L.getD i ByteArray.empty=ba;have:=DV.Den.str (G:=G.add w.heap.size (.cells cs e)) ba.data.toList;rw[show(⟨ba.data.toList.toArray⟩:ByteArray)=ba from Lib.mk_data _]at this;exact this
theorem zSplit (s p:List UInt8)(hl:s.length≤2^31)(hp:1≤p.length):FSpec Tryz.prog 192 [.d (.str s),.d (.str p)] kx (fun x r=>x= .d (strs (Lib.split s p))∧r=kx):=by
 refine FSpec.ofKnowP (post:=fun x=>x= .d (strs (Lib.split s p))) Tryz.call192 (fun G β w vs hq hg hvl hd=> ?_)
 match vs,hvl with
 | [u,v],_=>
   have h0:=hd 0 _ u rfl rfl;have h1:=hd 1 _ v rfl rfl
   cases h0 with|d _ _ h0=>cases h0 with|str _=>
   cases h1 with|d _ _ h1=>cases h1 with|str _=>
   obtain⟨_,⟨m,c0⟩,_⟩:=hq w hg;have hcon:=Any.strings_Split Tryz.lays146 (by kernel_rfl) ⟨s.toArray⟩ ⟨p.toArray⟩ m w (by rw[bsz];omega) c0 (by rw[bsz];exact hp);have e:Tryz.lays146_ren.f 146=192:=rfl;rw[e]at hcon
   have hdat:(Lib.splitB ⟨p.toArray⟩ 0 (Lib.countB ⟨s.toArray⟩ ⟨p.toArray⟩) ⟨s.toArray⟩).map (·.data.toList)=Lib.split s p:=by
    rw[Lib.splitB_data];simp[Lib.split]
   have hle:=Lib.count_le s p;have hlen:(Lib.splitB ⟨p.toArray⟩ 0 (Lib.countB ⟨s.toArray⟩ ⟨p.toArray⟩) ⟨s.toArray⟩).length=Lib.countB ⟨s.toArray⟩ ⟨p.toArray⟩+1:=Lib.splitB_all _ (by rw[bsz];exact hp) 0 _ _ rfl;generalize hLL:Lib.splitB ⟨p.toArray⟩ 0 (Lib.countB ⟨s.toArray⟩ ⟨p.toArray⟩) ⟨s.toArray⟩=LL at hcon hdat hlen;have hcn:Lib.countB ⟨s.toArray⟩ ⟨p.toArray⟩=Lib.count s p:=by simp
   obtain⟨G',g1,g2,g3,g4⟩:=newRow_den hg LL LL.length (Nat.le_refl _) (by rw[hlen,hcn];unfold maxLen;omega) (LL.map Value.string).toArray (Tryz.lays146_ren.t 9) (fun i hi=>by simp[List.getD_eq_getElem?_getD,hi]);rw[←hlen]at hcon;refine hcon.mono ?_;rintro e' w' ⟨rfl,rfl⟩;rw[hdat]at g4;exact⟨_,_,G',rfl,rfl,g1,g2,g3,g4,(Below.refl _ _).alloc (Nat.le_refl _) _⟩
theorem s119 (n lo hi:Int):FSpec Tryz.prog 29 [.d (.int .i64 n),.d (.int .i64 lo),.d (.int .i64 hi)] [] (fun x r=>x= .d (.bool (decide (lo≤n∧n≤hi)))∧r= []):=by
 refine spAx hT Tryz.func29 Tryz.call29 ?_;conv=>whnf
 refine br_intro (fun h=> ?_) (fun h=> ?_)
 · conv=>whnf
   refine .ret _ ?_;conv=>whnf
   refine⟨[],⟨?_,rfl⟩,trivial⟩;conv=>lhs;whnf
   simp at h ⊢;simp[h]
 · conv=>whnf
   refine .ret _ ?_;conv=>whnf
   refine⟨[],⟨?_,rfl⟩,trivial⟩;conv=>lhs;whnf
   simp at h ⊢;omega
theorem s109 (n lo hi:Int):FSpec Tryz.prog 87 [.d (.int .i64 n),.d (.int .i64 lo),.d (.int .i64 hi)] [] (fun x r=>x= .d (.bool (decide (lo≤n∧n≤hi)))∧r= []):=by
 refine spAx hT Tryz.func87 Tryz.call87 ?_;conv=>whnf
 refine br_intro (fun h=> ?_) (fun h=> ?_)
 · conv=>whnf
   refine .ret _ ?_;conv=>whnf
   refine⟨[],⟨?_,rfl⟩,trivial⟩;conv=>lhs;whnf
   simp at h ⊢;simp[h]
 · conv=>whnf
   refine .ret _ ?_;conv=>whnf
   refine⟨[],⟨?_,rfl⟩,trivial⟩;conv=>lhs;whnf
   simp at h ⊢;omega
theorem s107 (b:Bool)(e:Int):FSpec Tryz.prog 22 [.d (.bool b),.d (.int .i64 e)] [] (fun x r=>x= .d (.int .i64 (if b then e else 0))∧r= []):=by
 refine spAx hT Tryz.func22 Tryz.call22 ?_;conv=>whnf
 refine br_intro (fun h=> ?_) (fun h=> ?_)
 · conv=>whnf
   refine .ret _ ?_;conv=>whnf
   refine⟨[],⟨?_,rfl⟩,trivial⟩;conv=>lhs;whnf
   simp[h]
 · conv=>whnf
   refine .ret _ ?_;conv=>whnf
   refine⟨[],⟨?_,rfl⟩,trivial⟩;conv=>lhs;whnf
   simp[h]
theorem getD_toNat {α:Type}{l:List α}{i:Nat}{d:α}(h:i<l.length):l.getD (i:Int).toNat d=l[i]:=by
 rw[Int.toNat_natCast,List.getD_eq_getElem?_getD];simp[h]
theorem sum_take {l:List Int}{i:Nat}(hi:i<l.length):(l.take (i+1)).sum=(l.take i).sum+l[i]:=by
 rw[←List.take_append_getElem hi,List.sum_append];simp
def firstE:List Int→Int
 | []=>0
 |x::l=>if x=0 then firstE l else x
theorem s161 (l:List Int)(hl:l.length≤2^40):FSpec Tryz.prog 54 [.d (ints l)] [] (fun x r=>x= .d (.int .i64 (firstE l))∧r= []):=by
 refine spAx hT Tryz.func54 Tryz.call54 ?_;conv=>whnf
 refine LoopX.rule hT (C:= []) (ι:=Nat) (fun i=>i≤l.length∧firstE l=firstE (l.drop i)) (fun i=>mkSt [(3,.d (.int .i64 0)),(6,.d (ints l)),(7,.d (.int .i64 l.length)),(8,.d (.int .i64 i))] []) (fun i=>l.length - i) 0 ⟨by omega,by simp⟩ ?_ ?_
 · refine Entails.mk' [] rfl rfl ⟨lr,lr,lr,lr,trivial⟩ trivial
 rintro i ⟨p1,p2⟩;conv=>whnf
 refine br_intro (fun h=> ?_) (fun h=> ?_)
 · simp only[decide_eq_true_eq]at h;conv=>whnf
   refine⟨⟨by omega,by omega⟩,?_⟩;conv=>whnf
   have hi:i<l.length:=by omega
   have hd:l.drop i=l[i]::l.drop (i+1):=List.drop_eq_getElem_cons hi;refine br_intro (fun h2=> ?_) (fun h2=> ?_)
   · conv=>whnf
     refine .ret _ ?_;conv=>whnf
     refine⟨[],⟨?_,rfl⟩,trivial⟩;conv=>lhs;whnf
     rw[getD_toNat hi]at h2 ⊢;simp at h2;rw[p2,hd,firstE,if_neg h2]
   · conv=>whnf
     rw[getD_toNat hi]at h2;simp at h2;refine⟨by unfold inI64;omega,?_⟩;conv=>whnf
     refine⟨i+1,⟨hi,?_⟩,by omega,?_⟩
     · rw[p2,hd,firstE,if_pos h2]
     · exact Entails.mk' [] rfl rfl ⟨lr,lr,lr,lr,trivial⟩ trivial
 · simp only[decide_eq_false_iff_not]at h;conv=>whnf
   refine .ret _ ?_;conv=>whnf
   refine⟨[],⟨?_,rfl⟩,trivial⟩;conv=>lhs;whnf
   rw[p2,List.drop_eq_nil_iff.2 (by omega)];rfl
theorem s105 (l:List Int)(hl:l.length≤2^40):FSpec Tryz.prog 21 [.d (ints l)] [] (fun x r=>x= .d (.int .i64 (firstE l))∧r= []):=by
 refine spAx hT Tryz.func21 Tryz.call21 ?_;conv=>whnf
 refine pAx (s161 l hl) ?_;conv=>whnf
 refine .ret _ ?_;conv=>whnf
 exact⟨[],⟨rfl,rfl⟩,trivial⟩
def keyCh (i:Nat)(c:UInt8):Bool:=(decide (97≤c.toNat)&&decide (c.toNat≤122))||(!decide (i=0)&&((decide (48≤c.toNat)&&decide (c.toNat≤57))||decide (c.toNat=45)||decide (c.toNat=95)))
def isKeyB (s:List UInt8):Bool:=(List.range s.length).all (fun i=>keyCh i (s.getD i 0))&& !s.isEmpty&&decide (s.length≤40)
theorem keyCh_iff {i:Nat}{c:UInt8}:keyCh i c=true↔((97≤(c.toNat:Int)∧(c.toNat:Int)≤122)∨((i:Int)≠0∧((48≤(c.toNat:Int)∧(c.toNat:Int)≤57)∨(c.toNat:Int)=45∨(c.toNat:Int)=95))):=by
 simp only[keyCh,Bool.or_eq_true,Bool.and_eq_true,decide_eq_true_eq,Bool.not_eq_true',decide_eq_false_iff_not];omega
theorem s108 (s:List UInt8)(hl:s.length≤2^40):FSpec Tryz.prog 23 [.d (.str s)] [] (fun x r=>x= .d (.bool (isKeyB s))∧r= []):=by
 refine spAx hT Tryz.func23 Tryz.call23 ?_;conv=>whnf
 refine LoopX.rule hT (C:= []) (ι:=Nat) (fun i=>i≤s.length∧∀j,j<i→keyCh j (s.getD j 0)=true) (fun i=>mkSt [(0,.d (.str s)),(7,.d (.int .i64 s.length)),(8,.d (.int .i64 i))] []) (fun i=>s.length - i) 0 ⟨by omega,by omega⟩ ?_ ?_
 · exact Entails.mk' [] rfl rfl ⟨lr,lr,lr,trivial⟩ trivial
 rintro i ⟨p1,p2⟩;conv=>whnf
 refine br_intro (fun h=> ?_) (fun h=> ?_)
 · simp only[decide_eq_true_eq]at h;have hi:i<s.length:=by omega
   have e1:=tnc i;conv=>whnf
   repeat (refine And.intro (by(try unfold inI64);(try dsimp only);(try simp only[e1,List.length_cons,List.length_append,List.length_singleton,List.length_nil]);omega) ?_;conv=>whnf)
   have hbad:keyCh i (s.getD i 0)=false→isKeyB s=false:=fun h=>by
    have:(List.range s.length).all (fun i=>keyCh i (s.getD i 0))=false:=by
     rw[List.all_eq_false];exact⟨i,List.mem_range.2 hi,by rw[h];simp⟩
    simp only[isKeyB,this,Bool.false_and]
   have hgood:keyCh i (s.getD i 0)=true→∀j,j<i+1→keyCh j (s.getD j 0)=true:=fun h j hj=>by
    rcases Nat.lt_or_ge j i with q|q
    · exact p2 j q
    · have:j=i:=by omega
      subst this;exact h
   repeat' (refine br_intro (fun _=> ?_) (fun _=> ?_)<;>(conv=>whnf))
   all_goals first
    | (refine And.intro (by unfold inI64;omega) ?_
       conv=>whnf
       refine⟨i+1,⟨hi,hgood ?_⟩,by omega,Entails.mk' [] rfl rfl ⟨lr,lr,lr,trivial⟩ trivial⟩;rw[keyCh_iff];simp only[decide_eq_true_eq,decide_eq_false_iff_not,Bool.not_eq_true',Bool.not_eq_false',e1]at*
       omega)
    | (refine .ret _ ?_
       conv=>whnf
       refine⟨[],⟨?_,rfl⟩,trivial⟩;conv=>lhs;whnf
       rw[hbad]
       cases hq:keyCh i (s.getD i 0)with
       |false=>rfl
       | true=>
         rw[keyCh_iff]at hq;simp only[decide_eq_true_eq,decide_eq_false_iff_not,Bool.not_eq_true',Bool.not_eq_false',e1]at*
         omega)
    |skip
 simp only[decide_eq_false_iff_not]at h;have e1:i=s.length:=by omega
 subst e1
 have hall:(List.range s.length).all (fun i=>keyCh i (s.getD i 0))=true:=by
  rw[List.all_eq_true];intro j hj;exact p2 j (List.mem_range.1 hj)
 conv=>whnf
 repeat' (refine br_intro (fun _=> ?_) (fun _=> ?_)<;>(conv=>whnf))
 all_goals (refine .ret _ ?_;conv=>whnf)
 all_goals (refine⟨[],⟨?_,rfl⟩,trivial⟩;conv=>lhs;whnf)
 · rename_i hq
   have:s.isEmpty=false:=by
    cases s with
    |nil=>exact absurd hq (by decide)
    |cons x l=>rfl
   unfold isKeyB;rw[hall,this];simp;omega
 · rename_i hq
   have:s.isEmpty=true:=by
    cases s with
    |nil=>rfl
    |cons x l=>exact absurd hq (by simp)
   unfold isKeyB;rw[hall,this];rfl
abbrev Pair:=List UInt8×Int
def pF:Pair→List DV:=fun p=> [.str p.1,.int .i64 p.2]
abbrev pairs (l:List Pair):DV:=seqD 2 pF ([],0) l
def strLe (a b:List UInt8):Bool:=Op.bytesLess a b||a==b
def firstAt (f:Nat→Int):Nat→Int
 |0=>0
 |n+1=>if firstAt f n=0 then f n else firstAt f n
theorem firstAt_zero {f:Nat→Int}:∀ {n:Nat},(∀j,j<n→f j=0)→firstAt f n=0:=by
 intro n
 induction n with
 |zero=>intro _;rfl
 |succ n ih=>intro h;rw[firstAt,if_pos (ih fun j hj=>h j (by omega))];exact h n (by omega)
theorem firstAt_eq {f:Nat→Int}{n i:Nat}{e:Int}(hi:i<n)(h:∀j,j<i→f j=0)(h1:e≠0)(h2:f i=e):firstAt f n=e:=by
 induction n with
 |zero=>omega
 | succ n ih=>
   rw[firstAt]
   by_cases q:i<n
   · rw[ih q,if_neg h1]
   · have:i=n:=by omega
     subst this;rw[if_pos (firstAt_zero h)];exact h2
end Go.Proofs.YtghhghijalcdfaaGreatDoor
namespace Go.Proofs
open Go.Shelf
def Tryz.lays160_ren:Go.Shelf.Ren:=⟨fun|160=>159|232=>186|231=>185|227=>187|234=>189|233=>188|236=>191|235=>190|228=>205|271=>208|151=>207|197=>206|120=>222|152=>221|260=>220|137=>234|119=>235|224=>236|225=>237|217=>244|266=>248|n=>n,fun|9=>9|4=>4|3=>3|5=>5|117=>275|116=>274|0=>0|124=>278|21=>21|105=>294|46=>178|119=>314|139=>317|138=>316|n=>n,fun|3=>4|4=>5|n=>n⟩
theorem Tryz.lays160:Go.Proofs.Lays.n160 Tryz.prog Tryz.lays160_ren:={
 mixed:=by kernel_rfl
 f119:=Tryz.func235.trans (congrArg some (by kernel_rfl))
 f120:=Tryz.func222.trans (congrArg some (by kernel_rfl))
 f137:=Tryz.func234.trans (congrArg some (by kernel_rfl))
 f151:=Tryz.func207.trans (congrArg some (by kernel_rfl))
 f152:=Tryz.func221.trans (congrArg some (by kernel_rfl))
 f160:=Tryz.func159.trans (congrArg some (by kernel_rfl))
 f197:=Tryz.func206.trans (congrArg some (by kernel_rfl))
 f217:=Tryz.func244.trans (congrArg some (by kernel_rfl))
 f224:=Tryz.func236.trans (congrArg some (by kernel_rfl))
 f225:=Tryz.func237.trans (congrArg some (by kernel_rfl))
 f227:=Tryz.func187.trans (congrArg some (by kernel_rfl))
 f228:=Tryz.func205.trans (congrArg some (by kernel_rfl))
 f231:=Tryz.func185.trans (congrArg some (by kernel_rfl))
 f232:=Tryz.func186.trans (congrArg some (by kernel_rfl))
 f233:=Tryz.func188.trans (congrArg some (by kernel_rfl))
 f234:=Tryz.func189.trans (congrArg some (by kernel_rfl))
 f235:=Tryz.func190.trans (congrArg some (by kernel_rfl))
 f236:=Tryz.func191.trans (congrArg some (by kernel_rfl))
 f260:=Tryz.func220.trans (congrArg some (by kernel_rfl))
 f266:=Tryz.func248.trans (congrArg some (by kernel_rfl))
 f271:=Tryz.func208.trans (congrArg some (by kernel_rfl))
 t0:=Tryz.underlying0
 a0:=Tryz.isAgg0
 z0:=Tryz.sizeOf0
 v0:=Tryz.zeroValue0
 t3:=Tryz.underlying3
 a3:=Tryz.isAgg3
 z3:=Tryz.sizeOf3
 v3:=Tryz.zeroValue3
 t4:=Tryz.underlying4
 a4:=Tryz.isAgg4
 z4:=Tryz.sizeOf4
 v4:=Tryz.zeroValue4
 t5:=Tryz.underlying5
 a5:=Tryz.isAgg5
 z5:=Tryz.sizeOf5
 v5:=Tryz.zeroValue5
 t9:=Tryz.underlying9
 a9:=Tryz.isAgg9
 z9:=Tryz.sizeOf9
 v9:=Tryz.zeroValue9
 t21:=Tryz.underlying21
 a21:=Tryz.isAgg21
 z21:=Tryz.sizeOf21
 v21:=Tryz.zeroValue21
 t46:=Tryz.underlying178
 a46:=Tryz.isAgg178
 z46:=Tryz.sizeOf178
 v46:=Tryz.zeroValue178
 t105:=Tryz.underlying294
 a105:=Tryz.isAgg294
 z105:=Tryz.sizeOf294
 v105:=Tryz.zeroValue294
 t116:=Tryz.underlying274
 a116:=Tryz.isAgg274
 z116:=Tryz.sizeOf274
 t117:=Tryz.underlying275
 a117:=Tryz.isAgg275
 z117:=Tryz.sizeOf275
 v117:=Tryz.zeroValue275
 t119:=Tryz.underlying314
 a119:=Tryz.isAgg314
 z119:=Tryz.sizeOf314
 t124:=Tryz.underlying278
 a124:=Tryz.isAgg278
 z124:=Tryz.sizeOf278
 v124:=Tryz.zeroValue278
 t138:=Tryz.underlying316
 a138:=Tryz.isAgg316
 z138:=Tryz.sizeOf316
 v138:=Tryz.zeroValue316
 t139:=Tryz.underlying317
 a139:=Tryz.isAgg317
 z139:=Tryz.sizeOf317
 v139:=Tryz.zeroValue317
 g3:=by kernel_rfl
 g4:=by kernel_rfl}
end Go.Proofs
set_option maxRecDepth 20000
namespace Go.Proofs.YtghhghijalcdfaaGreatDoor
open Go Go.Eng Go.Shelf
theorem s162 (s cs:List UInt8)(hl:s.length≤2^40)(hc:cs.length≤2^20)(ha:cs.all (fun b=>decide (b.toNat<128))=true):FSpec Tryz.prog 159 [.d (.str s),.d (.str cs)] [] (fun x r=>x= .d (.str (Lib.trimS s cs))∧r= []):=by
 refine FSpec.ofBelow Tryz.call159 (fun G β w vs _ hvl hd=> ?_)
 match vs,hvl with
 | [u,v],_=>
   have h0:=hd 0 _ u rfl rfl;have h1:=hd 1 _ v rfl rfl
   cases h0 with|d _ _ h0=>cases h0 with|str _=>
   cases h1 with|d _ _ h1=>cases h1 with|str _=>
   refine⟨.string ⟨(Lib.trimS s cs).toArray⟩,fun _ _=>.d _ _ (.str _),?_⟩;have hcon:=Any.strings_Trim_laid Tryz.lays160 (by kernel_rfl) ⟨s.toArray⟩ ⟨cs.toArray⟩ w (by simp[ByteArray.size];omega) (by simp[ByteArray.size];omega) (ascii_of_all (by simpa using ha));have e:Tryz.lays160_ren.f 160=159:=rfl;rw[e]at hcon;simpa using hcon
theorem dropWhile_nil {p:UInt8→Bool}{l:List UInt8}:l.dropWhile p= []↔∀b ∈ l,p b=true:=by
 induction l with
 |nil=>simp
 |cons a l ih=>by_cases h:p a=true<;>simp[List.dropWhile_cons,h,ih]
theorem trimS_nil {s cs:List UInt8}:Lib.trimS s cs= []↔∀b ∈ s,cs.contains b=true:=by
 unfold Lib.trimS Lib.trimLeftS Lib.trimRightS;rw[dropWhile_nil];constructor
 · intro h b hb;have h1:s.reverse.dropWhile (cs.contains ·)= []∨¬s.reverse.dropWhile (cs.contains ·)= []:=Classical.em _;rcases h1 with h1|h1
   · exact dropWhile_nil.1 h1 b (by simpa using hb)
   · obtain⟨c,m,hc⟩:=List.exists_cons_of_ne_nil h1
     have h3:cs.contains c=false:=by
      have:=List.head_dropWhile_not (cs.contains ·) (l:=s.reverse) h1;simp only[hc,List.head_cons]at this;exact this
     have h4:=h c (by rw[List.mem_reverse,hc];exact List.mem_cons_self);rw[h3]at h4;cases h4
 · intro h b hb;rw[List.mem_reverse]at hb;exact h b (by simpa using(List.dropWhile_sublist _).subset hb)
def onlyB (s cs:List UInt8):Bool:=s.all (cs.contains ·)
theorem s111 (s cs:List UInt8)(hl:s.length≤2^40)(hc:cs.length≤2^20)(ha:cs.all (fun b=>decide (b.toNat<128))=true):FSpec Tryz.prog 117 [.d (.str s),.d (.str cs)] [] (fun x r=>x= .d (.bool (onlyB s cs))∧r= []):=by
 refine spAx hT Tryz.func117 Tryz.call117 ?_;conv=>whnf
 refine CallX.pure (s162 _ _ hl hc ha) ⟨lr,lr,trivial⟩ rfl ?_;conv=>whnf
 refine .ret _ ?_;conv=>whnf
 refine⟨[],⟨?_,rfl⟩,trivial⟩;show SV.d (.bool (Lib.trimS s cs== []))=_;congr 2
 rw[Bool.eq_iff_iff];simp only[beq_iff_eq,trimS_nil,onlyB,List.all_eq_true]
theorem s110 (a b c:Int):FSpec Tryz.prog 80 [.d (.int .i64 a),.d (.int .i64 b),.d (.int .i64 c)] [] (fun x r=>x= .d (.bool (decide (b≤a∧a≤c)))∧r= []):=by
 refine spAx hT Tryz.func80 Tryz.call80 ?_;conv=>whnf
 repeat' (refine br_intro (fun _=> ?_) (fun _=> ?_)<;>(conv=>whnf))
 all_goals
  refine .ret _ ?_;conv=>whnf
  refine⟨[],⟨?_,rfl⟩,trivial⟩;conv=>lhs;whnf
  congr 2
  grind
def smallsL:List UInt8:= [97,98,99,100,101,102,103,104,105,106,107,108,109,110,111,112,113,114,115,116,117,118,119,120,121,122]
def keyL:List UInt8:=smallsL++ [48,49,50,51,52,53,54,55,56,57,45,95]
theorem u8_all {p:UInt8→Bool}(h:(List.range 256).all (fun n=>p (UInt8.ofNat n))=true)(c:UInt8):p c=true:=by
 have:=List.all_eq_true.1 h c.toNat (List.mem_range.2 c.toNat_lt);simpa using this
theorem small_iff (c:UInt8):smallsL.contains c=keyCh 0 c:=by
 have:=u8_all (p:=fun c=>smallsL.contains c==keyCh 0 c) (by decide+kernel) c;simpa using this
theorem key_iff (c:UInt8):keyL.contains c=keyCh 1 c:=by
 have:=u8_all (p:=fun c=>keyL.contains c==keyCh 1 c) (by decide+kernel) c;simpa using this
theorem keyCh_succ (i:Nat)(c:UInt8):keyCh (i+1) c=keyCh 1 c:=by simp[keyCh]
theorem keyCh_one {c:UInt8}(h:keyCh 0 c=true):keyCh 1 c=true:=by
 simp only[keyCh]at h ⊢;simp at h;simp[h]
theorem isKey_eq (s:List UInt8):isKeyB s=(decide (1≤(s.length:Int)∧(s.length:Int)≤40)&&onlyB (s.take 1) smallsL&&onlyB s keyL):=by
 cases s with
 |nil=>rfl
 | cons c l=>
   have h1:onlyB ((c::l).take 1) smallsL=keyCh 0 c:=by simp only[onlyB,List.take_succ_cons,List.take_zero,List.all_cons,List.all_nil,Bool.and_true,small_iff]
   have h2:onlyB (c::l) keyL=(keyCh 1 c&&l.all (keyCh 1 ·)):=by simp only[onlyB,List.all_cons,key_iff]
   have h3:(List.range (c::l).length).all (fun i=>keyCh i ((c::l).getD i 0))=(keyCh 0 c&&l.all (keyCh 1 ·)):=by
    rw[List.length_cons,List.range_succ_eq_map,List.all_cons,List.all_map];congr 1
    rw[Bool.eq_iff_iff,List.all_eq_true,List.all_eq_true];constructor
    · intro h x hx;obtain⟨i,hi,rfl⟩:=List.getElem_of_mem hx;have:=h i (List.mem_range.2 hi);simp only[Function.comp,List.getD_cons_succ,keyCh_succ]at this;rwa [List.getD_eq_getElem?_getD,List.getElem?_eq_getElem hi]at this
    · intro h i hi;have hi:=List.mem_range.1 hi;simp only[Function.comp,List.getD_cons_succ,keyCh_succ];rw[List.getD_eq_getElem?_getD,List.getElem?_eq_getElem hi];exact h _ (List.getElem_mem hi)
   unfold isKeyB;rw[h1,h2,h3,Bool.eq_iff_iff];simp only[Bool.and_eq_true,decide_eq_true_eq,Bool.not_eq_true',List.isEmpty_cons,List.length_cons];constructor
   · rintro⟨⟨⟨a,b⟩,_⟩,d⟩;exact⟨⟨⟨by omega,by omega⟩,a⟩,keyCh_one a,b⟩
   · rintro⟨⟨⟨_,d⟩,a⟩,_,b⟩;exact⟨⟨⟨a,b⟩,trivial⟩,by omega⟩
theorem s21 (s:List UInt8)(hl:s.length≤2^40):FSpec Tryz.prog 86 [.d (.str s)] [] (fun x r=>x= .d (.bool (isKeyB s))∧r= []):=by
 refine spAx hT Tryz.func86 Tryz.call86 ?_;conv=>whnf
 repeat' (first|(refine CallX.exact (s110 _ _ _) rfl rfl ?_;rotate_right;conv=>whnf)|(refine CallX.exact (s111 s keyL hl ?_ ?_) rfl rfl ?_;rotate_right;conv=>whnf)|(refine CallX.exact (s111 _ smallsL ?_ ?_ ?_) rfl rfl ?_;rotate_right;conv=>whnf)|((first|refine br_intro ?_ ?_<;>intro hb<;>try simp only[brs]at hb|omega|refine sAx ?_|decide|assumption)<;>conv=>whnf))
 all_goals try(simp;omega)
 all_goals
  refine .ret _ ?_;conv=>whnf
  refine⟨[],⟨?_,rfl⟩,trivial⟩;conv=>lhs;whnf
  rw[isKey_eq];congr 2;grind
theorem first_step {f:Nat→Int}{i:Nat}(p:∀j,j<i→f j=0)(h:f i=0):∀j,j<i+1→f j=0:=fun j hj=>by
 rcases Nat.lt_or_ge j i with q|q
 · exact p j q
 · have:j=i:=by omega
   subst this;exact h
theorem toNat_pred (i:Nat):((i:Int) - 1).toNat=i - 1:=by omega
theorem take_snocD {α:Type}{l:List α}{i:Nat}{d:α}(h:i<l.length):l.take (i+1)=l.take i++ [l.getD i d]:=by
 rw[List.take_succ_eq_append_getElem h,List.getD_eq_getElem?_getD,List.getElem?_eq_getElem h];rfl
theorem firstAt_all {f:Nat→Int}:∀ {n:Nat},firstAt f n=0→∀j,j<n→f j=0:=by
 intro n
 induction n with
 |zero=>intro _ j hj;omega
 | succ n ih=>
   intro h j hj;rw[firstAt]at h;split at h
   · rename_i q;rcases Nat.lt_or_ge j n with r|r
     · exact ih q j r
     · have:j=n:=by omega
       subst this;exact h
   · omega
theorem mem_getD {α:Type}{l:List α}{x d:α}(h:x ∈ l):∃j,j<l.length∧l.getD j d=x:=by
 obtain⟨j,hj,rfl⟩:=List.getElem_of_mem h;exact⟨j,hj,by rw[List.getD_eq_getElem?_getD,List.getElem?_eq_getElem hj];rfl⟩
def oACoD146_4:OL:= [(0,[]),(1,[0]),(2,[]),(3,[]),(4,[]),(5,[4]),(6,[4,5]),(7,[4]),(8,[4]),(9,[4,5,6,7,8]),(10,[4,5,6,7,8,9]),(11,[4,5,6,7,8,9]),(12,[4,5,6,7,8]),(13,[4,5,6,7,8]),(14,[]),(15,[]),(16,[])]
def oACoD146_6:OL:= [(0,[]),(1,[0]),(2,[0,1]),(3,[0,1,2]),(4,[0,1,2]),(5,rg 5),(6,rg 6),(7,rg 6),(8,rg 5),(9,rg 5),(10,rg 10),(11,rg 11),(12,rg 10),(13,rg 10),(14,[2,3,4]),(15,[2,3,4]),(16,[]),(17,[])]
section
variable {α:Type} (cmp:α→α→Int)
def insR (x:α):List α→List α
 | []=> [x]
 |y::r=>if cmp x y<0 then y::insR x r else x::y::r
def isortR (l:List α):List α:=l.foldl (fun acc x=>insR cmp x acc) []
def isort (l:List α):List α:=(isortR cmp l).reverse
theorem insR_length (x:α):∀l:List α,(insR cmp x l).length=l.length+1:=by
 intro l
 induction l with
 |nil=>rfl
 |cons y r ih=>simp only[insR];split<;>simp[ih]
theorem isortR_snoc (l:List α)(x:α):isortR cmp (l++ [x])=insR cmp x (isortR cmp l):=by simp[isortR]
theorem isortR_length (l:List α):(isortR cmp l).length=l.length:=by
 have:∀ (l acc:List α),(l.foldl (fun acc x=>insR cmp x acc) acc).length=acc.length+l.length:=by
  intro l
  induction l with
  |nil=>intro acc;simp
  |cons x l ih=>intro acc;rw[List.foldl_cons,ih,insR_length];simp;omega
 rw[isortR,this];simp
theorem insR_mem (x y:α):∀ {l:List α},y ∈ insR cmp x l↔y=x∨y ∈ l:=by
 intro l
 induction l with
 |nil=>simp[insR]
 | cons z r ih=>
   simp only[insR];split
   · simp only[List.mem_cons,ih];constructor
     · rintro(h|h|h)
       · exact .inr (.inl h)
       · exact .inl h
       · exact .inr (.inr h)
     · rintro(h|h|h)
       · exact .inr (.inl h)
       · exact .inl h
       · exact .inr (.inr h)
   · simp
theorem isortR_mem {y:α}(l:List α):y ∈ isortR cmp l↔y ∈ l:=by
 have:∀ (l acc:List α),y ∈ (l.foldl (fun acc x=>insR cmp x acc) acc)↔y ∈ acc∨y ∈ l:=by
  intro l
  induction l with
  |nil=>intro acc;simp
  | cons x l ih=>
    intro acc;rw[List.foldl_cons,ih,insR_mem,List.mem_cons];constructor
    · rintro((h|h)|h)
      · exact .inr (.inl h)
      · exact .inl h
      · exact .inr (.inr h)
    · rintro(h|h|h)
      · exact .inl (.inr h)
      · exact .inl (.inl h)
      · exact .inr h
 rw[isortR,this];simp
end
def cap3 (x y z:SV)(e1 e2 e3:TypeId):List (Nat×Res):= [(1000002,.cells e1 [x]),(1000003,.cells e2 [y]),(1000004,.cells e3 [z])]
theorem take_snoc {α:Type}{l:List α}{i:Nat}(h:i<l.length):l.take (i+1)=l.take i++ [l[i]]:=(List.take_append_getElem h).symm
theorem getD_mid {α:Type}(A B:List α)(x d:α){i:Nat}(h:i=A.length):(A++x::B).getD i d=x:=by
 subst h;rw[List.getD_eq_getElem?_getD];simp
theorem swap_lemma {α:Type}(A B:List α)(x y:α):(((A++ [y]++ [x]++B).set (A.length+1) y).set A.length x)=A++ [x]++ [y]++B:=by
 simp[List.set_append]
theorem s228 (g:FuncId)(x1 x2 x3:DV)(e1 e2 e3:TypeId)(cmp:Int→Int→Int)(l:List Int)(hl:l.length≤2^40)
 (hcmp:∀p q,p ∈ l→q ∈ l→FSpec Tryz.prog g [.d (.int .i64 p),.d (.int .i64 q),.ptr 1000002 0,.ptr 1000003 0,.ptr 1000004 0] (cap3 (.d x1) (.d x2) (.d x3) e1 e2 e3)
   (fun y r=>y= .d (.int .i64 (cmp p q))∧r=cap3 (.d x1) (.d x2) (.d x3) e1 e2 e3)):
 FSpec Tryz.prog 146 [.buf 1000001,.d (.int .i64 0),.d (.int .i64 l.length),.fn g [.ptr 1000002 0,.ptr 1000003 0,.ptr 1000004 0]] ((1000001,seqB 3 1 iF 0 l)::cap3 (.d x1) (.d x2) (.d x3) e1 e2 e3)
  (fun y r=>y= .tup []∧r=(1000001,seqB 3 1 iF 0 (isort cmp l))::cap3 (.d x1) (.d x2) (.d x3) e1 e2 e3):=by
 refine spAx hT Tryz.func146 Tryz.call146 ?_;conv=>whnf
 refine⟨by unfold inI64;omega,?_⟩;conv=>whnf
 refine LoopX.rule hT (C:= []) (ι:=Nat×List Int) (fun p=>1≤p.1∧(p.1≤l.length∨p.1=1)∧p.2=(isortR cmp (l.take p.1)).reverse++l.drop p.1)
  (fun p=>mkSt [(0,.buf 1000001),(1,.d (.int .i64 0)),(2,.d (.int .i64 l.length)),(3,.fn g [.ptr 1000002 0,.ptr 1000003 0,.ptr 1000004 0]),(8,.d (.int .i64 p.1))] ((1000001,seqB 3 1 iF 0 p.2)::cap3 (.d x1) (.d x2) (.d x3) e1 e2 e3))
  (fun p=>l.length - p.1) (1,l) ⟨by simp,by simp,?_⟩ ?_ ?_
 · simp only
   cases l with
   |nil=>rfl
   |cons x l=>simp[isortR,insR]
 · exact Entails.mk' rq0 rfl rfl ⟨lr,lr,lr,lr,lr,trivial⟩ ⟨rr,rr,rr,rr,trivial⟩
 rintro⟨i,c⟩ ⟨p1,p2,p3⟩;simp only at p1 p2 p3;conv=>whnf
 refine br_intro (fun h=> ?_) (fun h=> ?_)
 · simp only[decide_eq_true_eq]at h;have hi:i<l.length:=by omega
   conv=>whnf
   have hx:l[i] ∈ l:=List.getElem_mem hi;have hmem:∀y ∈ isortR cmp (l.take i),y ∈ l:=fun y hy=>List.mem_of_mem_take ((isortR_mem cmp _).1 hy)
   refine LoopX.rule hT (C:= []) (ι:=List Int×List Int) (fun p=>insR cmp l[i] (isortR cmp (l.take i))=p.2.reverse++insR cmp l[i] p.1∧p.1.length+p.2.length=i∧∀y ∈ p.1,y ∈ l)
    (fun p=>mkSt [(0,.buf 1000001),(1,.d (.int .i64 0)),(2,.d (.int .i64 l.length)),(3,.fn g [.ptr 1000002 0,.ptr 1000003 0,.ptr 1000004 0]),(8,.d (.int .i64 i)),(9,.d (.int .i64 p.1.length))]
      ((1000001,seqB 3 1 iF 0 (p.1.reverse++ [l[i]]++p.2++l.drop (i+1)))::cap3 (.d x1) (.d x2) (.d x3) e1 e2 e3))
    (fun p=>p.1.length) (isortR cmp (l.take i),[]) ⟨by simp,?_,hmem⟩ ?_ ?_
   · simp[isortR_length];omega
   · refine Entails.mk' rq0 rfl rfl ⟨lr,lr,lr,lr,lr,SV.le_int ?_,trivial⟩ ⟨?_,rr,rr,rr,trivial⟩
     · simp[isortR_length];omega
     · have:c=(isortR cmp (l.take i)).reverse++ [l[i]]++ []++l.drop (i+1):=by rw[p3,List.drop_eq_getElem_cons hi];simp
       show Res.le (seqB 3 1 iF 0 c) _;rw[this];exact rr
   rintro⟨A,B⟩ ⟨q1,q2,q3⟩;simp only at q1 q2 q3;have hlen:(A.reverse++ [l[i]]++B++l.drop (i+1)).length=l.length:=by simp;omega
   conv=>whnf
   refine RegX.rule hT rfl [] oACoD146_4 (by decide+kernel) ?_;conv=>whnf
   refine br_intro (fun h2=> ?_) (fun h2=> ?_)
   · conv=>whnf
     cases A with
     |nil=>simp at h2
     |cons y A=>
     have g1:((y::A).reverse++ [l[i]]++B++l.drop (i+1)).getD (((y::A).length:Int)).toNat 0=l[i]:=by
      rw[show(y::A).reverse++ [l[i]]++B++l.drop (i+1)=(y::A).reverse++l[i]::(B++l.drop (i+1))by simp];exact getD_mid _ _ _ _ (by simp)
     have g2:((y::A).reverse++ [l[i]]++B++l.drop (i+1)).getD ((((y::A).length:Int)) - 1).toNat 0=y:=by
      rw[show(y::A).reverse++ [l[i]]++B++l.drop (i+1)=A.reverse++y::([l[i]]++B++l.drop (i+1))by simp];exact getD_mid _ _ _ _ (by simp)
     have hA:(y::A).length=A.length+1:=rfl;refine⟨⟨by omega,by simp only[hlen];omega⟩,?_⟩;conv=>whnf
     refine⟨by simp only[hlen];omega,?_⟩;conv=>whnf
     refine⟨by unfold inI64;simp only[List.length_cons];omega,?_⟩;conv=>whnf
     refine⟨⟨by simp only[List.length_cons];omega,by simp only[hlen,List.length_cons];omega⟩,?_⟩;conv=>whnf
     refine⟨by simp only[hlen,List.length_cons];omega,?_⟩;conv=>whnf
     refine CallX.of (hcmp l[i] y hx (q3 y (by simp))) [(1000002,1000002),(1000003,1000003),(1000004,1000004)] rfl ⟨SV.le_int g1,SV.le_int g2,lr,lr,lr,trivial⟩ ⟨rr,rr,rr,trivial⟩ rfl rfl ?_;rintro x rout ⟨rfl,rfl⟩;refine⟨rfl,?_⟩;conv=>whnf
     refine br_intro (fun h3=> ?_) (fun h3=> ?_)
     · simp only[decide_eq_true_eq]at h3;conv=>whnf
       refine RegX.rule hT rfl [] oACoD146_6 (by decide+kernel) ?_;conv=>whnf
       repeat (refine And.intro (by(try unfold inI64);(try dsimp only);(try simp only[hlen,List.length_cons,List.length_append,List.length_singleton,List.length_nil]);omega) ?_;conv=>whnf)
       have hsw:(((y::A).reverse++ [l[i]]++B++l.drop (i+1)).set (((y::A).length:Int)).toNat y).set ((((y::A).length:Int)) - 1).toNat l[i]=A.reverse++ [l[i]]++(y::B)++l.drop (i+1):=by
        have k1:(((y::A).length:Int)).toNat=A.reverse.length+1:=by simp
        have k2:((((y::A).length:Int)) - 1).toNat=A.reverse.length:=by simp
        rw[k1,k2];have:=swap_lemma A.reverse (B++l.drop (i+1)) l[i] y;simp only[List.reverse_cons,List.append_assoc,List.singleton_append,List.cons_append,List.nil_append]at this ⊢;exact this
       refine⟨(A,y::B),⟨?_,by simp only[List.length_cons]at q2 ⊢;omega,fun z hz=>q3 z (by simp[hz])⟩,by simp only[List.length_cons];omega,?_⟩
       · rw[q1];simp[insR,h3]
       · refine Entails.mk' rq0 rfl rfl ⟨lr,lr,lr,lr,lr,SV.le_int (by simp only[List.length_cons];omega),trivial⟩ ⟨?_,rr,rr,rr,trivial⟩;show Res.le _ (seqB 3 1 iF 0 (A.reverse++ [l[i]]++(y::B)++l.drop (i+1)));rw[←hsw];refine Res.le_buf (by simp) (fun k hk=> ?_);have e1:=rows_putG (f:=iF) (d:=0) (l:=((y::A).reverse++ [l[i]]++B++l.drop (i+1))) (x:=y) (j:=((((y::A).length:Int)).toNat)) (off:=0) (ds:= [.int .i64 (((y::A).reverse++ [l[i]]++B++l.drop (i+1)).getD ((((y::A).length:Int) - 1).toNat) 0)]) (get:=rowF iF 0 ((y::A).reverse++ [l[i]]++B++l.drop (i+1))) (fun _ _=>rfl) (fun z _=>by rw[g2];rfl)
         have e2:=rows_putG (f:=iF) (d:=0) (l:=((y::A).reverse++ [l[i]]++B++l.drop (i+1)).set ((((y::A).length:Int)).toNat) y) (x:=l[i]) (j:=((((y::A).length:Int) - 1).toNat)) (off:=0) (ds:= [.int .i64 (((y::A).reverse++ [l[i]]++B++l.drop (i+1)).getD ((((y::A).length:Int)).toNat) 0)])
          (get:=fun k=>bif Nat.beq k ((((y::A).length:Int)).toNat)then setAtD (rowF iF 0 ((y::A).reverse++ [l[i]]++B++l.drop (i+1)) k) 0 [.int .i64 (((y::A).reverse++ [l[i]]++B++l.drop (i+1)).getD ((((y::A).length:Int) - 1).toNat) 0)]else rowF iF 0 ((y::A).reverse++ [l[i]]++B++l.drop (i+1)) k) (fun k hk=>e1 k (by simpa using hk)) (fun z _=>by rw[g1];rfl)
         exact e2 k (by simpa using hk)
     · simp only[decide_eq_false_iff_not]at h3;conv=>whnf
       refine⟨by unfold inI64;omega,?_⟩;conv=>whnf
       refine⟨(i+1,(y::A).reverse++ [l[i]]++B++l.drop (i+1)),⟨by simp only;omega,by simp only;omega,?_⟩,by simp only;omega,?_⟩
       · simp only;rw[take_snoc hi,isortR_snoc,q1];simp[insR,h3]
       · exact Entails.mk' rq0 rfl rfl ⟨lr,lr,lr,lr,lr,trivial⟩ ⟨rr,rr,rr,rr,trivial⟩
   · conv=>whnf
     refine⟨by unfold inI64;omega,?_⟩;conv=>whnf
     have hA:A= []:=by cases A<;>simp at h2 ⊢
     subst hA;refine⟨(i+1,[].reverse++ [l[i]]++B++l.drop (i+1)),⟨by simp only;omega,by simp only;omega,?_⟩,by simp only;omega,?_⟩
     · simp only;rw[take_snoc hi,isortR_snoc,q1];simp[insR]
     · exact Entails.mk' rq0 rfl rfl ⟨lr,lr,lr,lr,lr,trivial⟩ ⟨rr,rr,rr,rr,trivial⟩
 · conv=>whnf
   have e1:c=isort cmp l:=by
    simp only[decide_eq_false_iff_not]at h;rw[p3,List.take_of_length_le (by omega),List.drop_eq_nil_iff.2 (by omega),List.append_nil];rfl
   refine .ret _ ?_;conv=>whnf
   subst e1;exact⟨_,⟨rfl,rfl⟩,rr,rr,rr,rr,trivial⟩
theorem s207 (g:FuncId)(x1 x2 x3:DV)(e1 e2 e3:TypeId)(cmp:Int→Int→Int)(l:List Int)(hl:l.length<20)
 (hcmp:∀p q,p ∈ l→q ∈ l→FSpec Tryz.prog g [.d (.int .i64 p),.d (.int .i64 q),.ptr 1000002 0,.ptr 1000003 0,.ptr 1000004 0] (cap3 (.d x1) (.d x2) (.d x3) e1 e2 e3)
   (fun y r=>y= .d (.int .i64 (cmp p q))∧r=cap3 (.d x1) (.d x2) (.d x3) e1 e2 e3)):
 FSpec Tryz.prog 103 [.buf 1000001,.d (.int .i64 l.length),.fn g [.ptr 1000002 0,.ptr 1000003 0,.ptr 1000004 0]] ((1000001,seqB 3 1 iF 0 l)::cap3 (.d x1) (.d x2) (.d x3) e1 e2 e3)
  (fun y r=>y= .tup []∧r=(1000001,seqB 3 1 iF 0 (isort cmp l))::cap3 (.d x1) (.d x2) (.d x3) e1 e2 e3):=by
 refine spAx hT Tryz.func103 Tryz.call103 ?_;conv=>whnf
 refine LoopX.unroll hT (C:= []) (fun _ _ h=>h) (fun _ h=>h) ?_;conv=>whnf
 refine br_intro (fun h=> ?_) (fun h=> ?_)
 · simp at h;omega
 conv=>whnf
 refine oEx (s228 g x1 x2 x3 e1 e2 e3 cmp l (by omega) hcmp) rq0 ?_;conv=>whnf
 refine LoopX.unroll hT (C:= []) (fun _ _ h=>h) (fun _ h=>h) ?_;conv=>whnf
 refine br_intro (fun h=> ?_) (fun h=> ?_)
 · simp at h;omega
 conv=>whnf
 refine .ret _ ?_;conv=>whnf
 exact⟨_,⟨rfl,rfl⟩,rr,rr,rr,rr,trivial⟩
theorem s173 (g:FuncId)(x1 x2 x3:DV)(e1 e2 e3:TypeId)(cmp:Int→Int→Int)(l:List Int)(hl:l.length<20)
 (hcmp:∀p q,p ∈ l→q ∈ l→FSpec Tryz.prog g [.d (.int .i64 p),.d (.int .i64 q),.ptr 1000002 0,.ptr 1000003 0,.ptr 1000004 0] (cap3 (.d x1) (.d x2) (.d x3) e1 e2 e3)
   (fun y r=>y= .d (.int .i64 (cmp p q))∧r=cap3 (.d x1) (.d x2) (.d x3) e1 e2 e3)):
 FSpec Tryz.prog 57 [.buf 1000001,.fn g [.ptr 1000002 0,.ptr 1000003 0,.ptr 1000004 0]] ((1000001,seqB 3 1 iF 0 l)::cap3 (.d x1) (.d x2) (.d x3) e1 e2 e3)
  (fun y r=>y= .tup []∧r=(1000001,seqB 3 1 iF 0 (isort cmp l))::cap3 (.d x1) (.d x2) (.d x3) e1 e2 e3):=by
 refine spAx hT Tryz.func57 Tryz.call57 ?_;conv=>whnf
 refine oEx (s207 g x1 x2 x3 e1 e2 e3 cmp l (by omega) hcmp) rq0 ?_;conv=>whnf
 refine .ret _ ?_;conv=>whnf
 exact⟨_,⟨rfl,rfl⟩,rr,rr,rr,rr,trivial⟩
def fillL (g:Nat→Int)(n i:Nat):List Int:=(List.range n).map fun j=>if j<i then g j else 0
theorem fillL_length (g:Nat→Int)(n i:Nat):(fillL g n i).length=n:=by simp[fillL]
theorem fillL_get {g:Nat→Int}{n i j:Nat}(h:j<n):(fillL g n i)[j]'(by rw[fillL_length];exact h)=if j<i then g j else 0:=by simp[fillL]
theorem fillL_zero {e:Nat}{g:Nat→Int}{n m:Nat}{get:Nat→List DV}(hm:m=n)(hg:∀i,get i=iF 0):Res.le (.buf e 1 m get) (seqB e 1 iF 0 (fillL g n 0)):=
 Res.le_buf (by rw[fillL_length,hm]) (fun i hi=>by rw[rowF_lt (by rw[fillL_length];omega),hg i,fillL_get (by omega)];simp)
theorem fillL_set (g:Nat→Int)(n i:Nat):(fillL g n i).set i (g i)=fillL g n (i+1):=by
 apply List.ext_getElem
 · simp[fillL]
 · intro j h1 h2;simp only[fillL,List.getElem_set,List.getElem_map,List.getElem_range]
   by_cases e:i=j
   · subst e;simp
   · by_cases q:j<i
     · have:j<i+1:=by omega
       simp[e,q,this]
     · have:¬j<i+1:=by omega
       simp[e,q,this]
def leftL (c:Int)(g:Nat→Int)(i:Nat):Int:=c - ((List.range i).map g).sum
theorem leftL_succ (c:Int)(g:Nat→Int)(i:Nat):leftL c g (i+1)=leftL c g i - g i:=by
 simp[leftL,List.range_succ,List.sum_append];omega
def partG (c:Int)(w:List Int)(j:Nat):Int:=(c*w.getD j 0).tdiv w.sum
def cmpG (c:Int)(w:List Int)(p q:Int):Int:=(c*w.getD q.toNat 0).tmod w.sum - (c*w.getD p.toNat 0).tmod w.sum
def orderG (c:Int)(w:List Int):List Int:=isort (cmpG c w) (fillL (fun j=>(j:Int)) w.length w.length)
def incL (P:List Int)(js:List Int):List Int:=js.foldl (fun P j=>P.set j.toNat (P.getD j.toNat 0+1)) P
def splitG (c:Int)(w:List Int):List Int:=incL (fillL (partG c w) w.length w.length) ((orderG c w).take (leftL c (partG c w) w.length).toNat)
theorem incL_snoc (P:List Int)(js:List Int)(j:Int):incL P (js++ [j])=(incL P js).set j.toNat ((incL P js).getD j.toNat 0+1):=by simp[incL]
theorem sum_nonneg {l:List Int}(h:∀x ∈ l,0≤x):0≤l.sum:=by
 induction l with
 |nil=>simp
 |cons x l ih=>rw[List.sum_cons];have:=h x (by simp);have:=ih (fun y hy=>h y (by simp[hy]));omega
theorem sum_le {l:List Int}{b:Int}(h:∀x ∈ l,x≤b):l.sum≤b*l.length:=by
 induction l with
 |nil=>simp
 |cons x l ih=>rw[List.sum_cons];have:=h x (by simp);have:=ih (fun y hy=>h y (by simp[hy]));simp only[List.length_cons];rw[show b*((l.length+1:Nat):Int)=b*l.length+b by push_cast;rw[Int.mul_add,Int.mul_one]];omega
theorem left_sum (c:Int)(w:List Int)(hc:0≤c)(hw:∀x ∈ w,0≤x)(hs:0<w.sum):∀i,i≤w.length→∃R,0≤R∧R≤w.sum*i∧w.sum*((List.range i).map (partG c w)).sum+R=c*(w.take i).sum:=by
 intro i
 induction i with
 |zero=>intro _;exact⟨0,by omega,by simp,by simp⟩
 | succ i ih=>
   intro hi;obtain⟨R,h1,h2,h3⟩:=ih (by omega);have hx:w.getD i 0=w[i]:=by rw[List.getD_eq_getElem?_getD];simp[show i<w.length by omega]
   have h4:=Int.tmod_add_mul_tdiv (c*w[i]) w.sum;have h5:0≤c*w[i]:=Int.mul_nonneg hc (hw _ (List.getElem_mem _));have h6:=Int.tmod_nonneg w.sum h5;have h7:=Int.tmod_lt_of_pos (c*w[i]) hs;refine⟨R+(c*w[i]).tmod w.sum,by omega,?_,?_⟩
   · rw[show((i+1:Nat):Int)=(i:Int)+1 by push_cast;rfl,Int.mul_add,Int.mul_one];omega
   · rw[sum_take (show i<w.length by omega),Int.mul_add,←h3,List.range_succ,List.map_append,List.sum_append,List.map_singleton,List.sum_singleton,Int.mul_add];have:partG c w i=(c*w[i]).tdiv w.sum:=by unfold partG;rw[hx]
     rw[this];omega
theorem left_bound (c:Int)(w:List Int)(hc:0≤c)(hw:∀x ∈ w,0≤x)(hs:0<w.sum):0≤leftL c (partG c w) w.length∧leftL c (partG c w) w.length≤w.length:=by
 obtain⟨R,h1,h2,h3⟩:=left_sum c w hc hw hs w.length (Nat.le_refl _);rw[List.take_length]at h3
 have e:w.sum*leftL c (partG c w) w.length=R:=by
  unfold leftL;rw[Int.mul_sub,Int.mul_comm w.sum c];omega
 constructor
 · refine Int.not_lt.1 fun h=> ?_
   have:=Int.mul_neg_of_pos_of_neg hs h;omega
 · exact Int.le_of_mul_le_mul_left (by rw[e];exact h2) hs
def remG (c:Int)(w:List Int)(j:Nat):Int:=(c*w.getD j 0).tmod w.sum
def aheadB (c:Int)(w:List Int)(i k:Nat):Bool:=decide (remG c w i<remG c w k)||(decide (remG c w k=remG c w i)&&decide (k<i))
def aheadG (c:Int)(w:List Int)(i m:Nat):Int:=((List.range m).map fun k=>if aheadB c w i k then(1:Int)else 0).sum
theorem aheadG_succ (c:Int)(w:List Int)(i m:Nat):aheadG c w i (m+1)=aheadG c w i m+if aheadB c w i m then 1 else 0:=by
 simp[aheadG,List.range_succ,List.sum_append]
def splitE (c:Int)(w:List Int)(j:Nat):Int:=partG c w j+if aheadG c w j w.length<leftL c (partG c w) w.length then 1 else 0
def rngL (g:Nat→Int)(n:Nat):List Int:=(List.range n).map g
theorem rngL_length (g:Nat→Int)(n:Nat):(rngL g n).length=n:=by simp[rngL]
section
variable {α:Type} (cmp:α→α→Int)
theorem insR_perm (x:α):∀l:List α,(insR cmp x l).Perm (x::l):=by
 intro l
 induction l with
 |nil=>exact .refl _
 | cons y r ih=>
   simp only[insR];split
   · exact(ih.cons y).trans (.swap x y r)
   · exact .refl _
theorem isortR_perm (l:List α):(isortR cmp l).Perm l:=by
 have:∀ (l acc:List α),(l.foldl (fun acc x=>insR cmp x acc) acc).Perm (l++acc):=by
  intro l
  induction l with
  |nil=>intro acc;exact .refl _
  | cons x l ih=>
    intro acc;rw[List.foldl_cons];refine(ih _).trans (((insR_perm cmp x acc).append_left l).trans ?_);exact List.perm_middle
 have h:=this l [];rw[List.append_nil]at h;exact h
theorem isort_perm (l:List α):(isort cmp l).Perm l:=(List.reverse_perm _).trans (isortR_perm cmp l)
variable (R:α→α→Prop) (tr:∀a b c,R a b→R b c→R a c)
include tr in
theorem insR_pairwise (x:α):∀l:List α,l.Pairwise (fun a b=>R b a)→(∀y ∈ l,(cmp x y<0→R x y)∧(¬cmp x y<0→R y x))→(insR cmp x l).Pairwise (fun a b=>R b a):=by
 intro l
 induction l with
 |nil=>intro _ _;simp[insR]
 | cons y r ih=>
   intro h hc;have h':=List.pairwise_cons.1 h;simp only[insR];split
   · rename_i hlt;rw[List.pairwise_cons];refine⟨fun z hz=> ?_,ih h'.2 (fun z hz=>hc z (by simp[hz]))⟩;rcases(insR_mem cmp x z).1 hz with q|q
     · subst q;exact(hc y (by simp)).1 hlt
     · exact h'.1 z q
   · rename_i hlt;have hyx:=(hc y (by simp)).2 hlt;rw[List.pairwise_cons];refine⟨fun z hz=> ?_,h⟩;rcases List.mem_cons.1 hz with q|q
     · subst q;exact hyx
     · exact tr _ _ _ (h'.1 z q) hyx
include tr in
theorem isort_pairwise:∀l:List α,l.Pairwise (fun y x=>(cmp x y<0→R x y)∧(¬cmp x y<0→R y x))→(isort cmp l).Pairwise R:=by
 intro l h;unfold isort;rw[List.pairwise_reverse]
 have:∀n,n≤l.length→(isortR cmp (l.take n)).Pairwise (fun a b=>R b a):=by
  intro n
  induction n with
  |zero=>intro _;simp[isortR]
  | succ n ih=>
    intro hn;rw[take_snoc hn,isortR_snoc];refine insR_pairwise cmp R tr _ _ (ih (by omega)) (fun y hy=> ?_);have hy:=(isortR_mem cmp _).1 hy;have hp:(l.take (n+1)).Pairwise (fun y x=>(cmp x y<0→R x y)∧(¬cmp x y<0→R y x)):=h.sublist (List.take_sublist _ _);rw[take_snoc hn,List.pairwise_append]at hp;exact hp.2.2 y hy _ (by simp)
 have:=this l.length (Nat.le_refl _);rwa [List.take_length]at this
theorem mem_take_of_pairwise (R:α→α→Bool)(ir:∀a,R a a=false)(asy:∀a b,R a b=true→R b a=false){S:List α}(h:S.Pairwise (fun a b=>R a b=true)){k:α}(hk:k ∈ S)(m:Nat):k ∈ S.take m↔S.countP (fun a=>R a k)<m:=by
 obtain⟨A,B,rfl⟩:=List.append_of_mem hk;rw[List.pairwise_append,List.pairwise_cons]at h;obtain⟨h1,⟨h2,_⟩,h3⟩:=h;have hA:A.countP (fun a=>R a k)=A.length:=List.countP_eq_length.2 fun a ha=>h3 a ha k (by simp)
 have hB:B.countP (fun a=>R a k)=0:=List.countP_eq_zero.2 fun b hb=>by simp[asy _ _ (h2 b hb)]
 have hkA:k ∉ A:=fun q=>by have:=h3 k q k (by simp);rw[ir]at this;cases this
 rw[List.countP_append,List.countP_cons,hA,hB,ir];simp only[Nat.zero_add,Bool.false_eq_true,if_false,Nat.add_zero];constructor
 · intro hm;refine Nat.lt_of_not_le fun q=> ?_
   rw[List.take_append_of_le_length q]at hm;exact hkA (List.mem_of_mem_take hm)
 · intro hm;rw[List.take_append];have:m - A.length=(m - A.length - 1)+1:=by omega
   rw[this];simp
end
theorem incL_get (js:List Int)(hn:js.Nodup):∀P:List Int,(∀j ∈ js,0≤j∧j.toNat<P.length)→(incL P js).length=P.length∧∀k:Nat,k<P.length→(incL P js).getD k 0=P.getD k 0+if(k:Int) ∈ js then 1 else 0:=by
 induction js with
 |nil=>intro P _;simp[incL]
 | cons j js ih=>
   intro P h;rw[List.nodup_cons]at hn;have hj:=h j (by simp);have e:incL P (j::js)=incL (P.set j.toNat (P.getD j.toNat 0+1)) js:=rfl;obtain⟨h1,h2⟩:=ih hn.2 (P.set j.toNat (P.getD j.toNat 0+1)) (fun i hi=>by rw[List.length_set];exact h i (by simp[hi]));rw[List.length_set]at h1 h2;rw[e];refine⟨h1,fun k hk=> ?_⟩;rw[h2 k hk]
   by_cases q:(k:Int)=j
   · subst q;have:(k:Int) ∉ js:=hn.1;simp[this,hk]
   · have q2:¬j.toNat=k:=by omega
     simp[List.getD_eq_getElem?_getD,List.getElem?_set,q2,q]
def remI (c:Int)(w:List Int)(p:Int):Int:=(c*w.getD p.toNat 0).tmod w.sum
def befI (c:Int)(w:List Int)(a b:Int):Bool:=decide (remI c w b<remI c w a)||(decide (remI c w a=remI c w b)&&decide (a<b))
theorem befI_iff {c:Int}{w:List Int}{a b:Int}:befI c w a b=true↔(remI c w b<remI c w a∨(remI c w a=remI c w b∧a<b)):=by
 simp[befI]
theorem aheadG_count (c:Int)(w:List Int)(k m:Nat):aheadG c w k m=((List.range m).countP (fun j:Nat=>befI c w (j:Int) (k:Int)):Int):=by
 induction m with
 |zero=>simp[aheadG]
 | succ m ih=>
   rw[aheadG_succ,ih,List.range_succ,List.countP_append,List.countP_singleton];have:aheadB c w k m=befI c w (m:Int) (k:Int):=by simp[aheadB,befI,remI,remG]
   rw[this];split<;>simp
theorem splitG_eq (c:Int)(w:List Int)(hl:0≤leftL c (partG c w) w.length∧leftL c (partG c w) w.length≤w.length):splitG c w=rngL (splitE c w) w.length:=by
 have hF:fillL (fun j=>(j:Int)) w.length w.length=(List.range w.length).map (fun j:Nat=>(j:Int)):=by
  unfold fillL;exact List.map_congr_left fun j hj=>by rw[if_pos (List.mem_range.1 hj)]
 have hperm:(orderG c w).Perm ((List.range w.length).map (fun j:Nat=>(j:Int))):=by rw[←hF];exact isort_perm _ _
 have hpw:(orderG c w).Pairwise (fun a b=>befI c w a b=true):=by
  unfold orderG;rw[hF];refine isort_pairwise _ _ (fun a b d h1 h2=> ?_) _ ?_
  · rw[befI_iff]at h1 h2 ⊢;omega
  · rw[List.pairwise_map];refine List.pairwise_lt_range.imp (fun{a b} hab=> ?_);rw[befI_iff,befI_iff];have:cmpG c w (b:Int) (a:Int)=remI c w a - remI c w b:=rfl;rw[this];constructor<;>intro _<;>omega
 have hnd:(orderG c w).Nodup:=hperm.nodup_iff.2 (by
  rw[List.nodup_iff_pairwise_ne,List.pairwise_map]
  exact List.pairwise_lt_range.imp (fun{a b} hab=>by omega))
 have hmem:∀j ∈ (orderG c w).take (leftL c (partG c w) w.length).toNat,0≤j∧j.toNat<(fillL (partG c w) w.length w.length).length:=fun j hj=>by
  have:=hperm.mem_iff.1 (List.mem_of_mem_take hj);simp only[List.mem_map,List.mem_range]at this;obtain⟨i,hi,rfl⟩:=this;rw[fillL_length];omega
 obtain⟨g1,g2⟩:=incL_get _ (hnd.sublist (List.take_sublist _ _)) _ hmem;rw[fillL_length]at g1 g2;apply List.ext_getElem
 · rw[rngL_length];exact g1
 · intro k h1 h2;have hk:k<w.length:=by rw[rngL_length]at h2;exact h2
   have e1:(splitG c w)[k]=(splitG c w).getD k 0:=by rw[List.getD_eq_getElem?_getD];simp[h1]
   rw[e1];unfold splitG;rw[g2 k hk]
   have e2:(fillL (partG c w) w.length w.length).getD k 0=partG c w k:=by
    rw[List.getD_eq_getElem?_getD];simp[fillL,hk]
   have e3:(rngL (splitE c w) w.length)[k]=splitE c w k:=by simp[rngL]
   rw[e2,e3,splitE];congr 1
   have hkm:(k:Int) ∈ orderG c w:=hperm.mem_iff.2 (by simp only[List.mem_map,List.mem_range];exact⟨k,hk,rfl⟩)
   have hpos:=mem_take_of_pairwise (befI c w) (fun a=>by simp[befI]) (fun a b h=>by
    cases hq:befI c w b a with
    |false=>rfl
    |true=>rw[befI_iff]at h hq;omega) hpw hkm (leftL c (partG c w) w.length).toNat
   have hc:(orderG c w).countP (fun a=>befI c w a (k:Int))=(List.range w.length).countP (fun j:Nat=>befI c w (j:Int) (k:Int)):=by
    rw[hperm.countP_eq,List.countP_map];rfl
   have ha:=aheadG_count c w k w.length;rw[hc]at hpos
   by_cases q:aheadG c w k w.length<leftL c (partG c w) w.length
   · rw[if_pos q,if_pos (hpos.2 (by omega))]
   · rw[if_neg q,if_neg (fun h=>q (by have:=hpos.1 h;omega))]
theorem eq_of_getD {α:Type}{l m:List α}(d:α)(hl:l.length=m.length)(h:∀j,j<l.length→l.getD j d=m.getD j d):l=m:=by
 refine List.ext_getElem hl (fun i h1 h2=> ?_);have:=h i h1;rwa [List.getD_eq_getElem?_getD,List.getD_eq_getElem?_getD,List.getElem?_eq_getElem h1,List.getElem?_eq_getElem h2]at this
theorem all_step {p:Nat→Prop}{i:Nat}(h:∀j,j<i→p j)(h1:p i):∀j,j<i+1→p j:=fun j hj=>by
 rcases Nat.lt_or_ge j i with q|q
 · exact h j q
 · have:j=i:=by omega
   subst this;exact h1
structure Gate where
 key:List UInt8
 area:List UInt8
 clock:Int
def g0:Gate:=⟨[],[],0⟩
structure Pas where
 tm:Int
 gate:List UInt8
 plate:List UInt8
 cents:Int
def plCh (c:UInt8):Bool:=(decide (65≤c.toNat)&&decide (c.toNat≤90))||(decide (48≤c.toNat)&&decide (c.toNat≤57))
def isPlateB (s:List UInt8):Bool:=s.all plCh&&decide (2≤s.length)&&decide (s.length≤10)
theorem s185 (s:List UInt8)(hl:s.length≤2^40):FSpec Tryz.prog 152 [.d (.str s)] [] (fun x r=>x= .d (.bool (isPlateB s))∧r= []):=by
 refine spAx hT Tryz.func152 Tryz.call152 ?_;conv=>whnf
 refine LoopX.rule hT (C:= []) (ι:=Nat) (fun i=>i≤s.length∧∀j,j<i→plCh (s.getD j 0)=true) (fun i=>mkSt [(0,.d (.str s)),(6,.d (.int .i64 s.length)),(7,.d (.int .i64 i))] []) (fun i=>s.length - i) 0 ⟨by omega,by omega⟩ (by exact eAx []) ?_;rintro i ⟨p1,p2⟩;have e1:=tnc i
 have hbad:i<s.length→plCh (s.getD i 0)=false→isPlateB s=false:=fun hi h=>by
  have:s.all plCh=false:=by
   rw[List.all_eq_false];exact⟨s.getD i 0,getD_mem hi,by rw[h];simp⟩
  simp only[isPlateB,this,Bool.false_and]
 have hall:i=s.length→s.all plCh=true:=fun hi=>by
  rw[List.all_eq_true];intro c hc;obtain⟨j,hj,rfl⟩:=mem_getD (d:=0) hc;exact p2 j (by omega)
 conv=>whnf
 repeat' ((first|refine br_intro ?_ ?_<;>intro hb<;>try simp only[brs]at hb|omega|refine sAx ?_|decide|assumption)<;>conv=>whnf)
 all_goals first
  |(refine⟨i+1,⟨by omega,all_step p2 (by clear p2 hbad hall;simp only[e1]at*;simp only[plCh];grind)⟩,by omega,(by exact eAx [])⟩)
  | (refine .ret _ ?_
     conv=>whnf
     refine⟨[],⟨?_,rfl⟩,trivial⟩;conv=>lhs;whnf
     congr 2
     first
      |(rw[hbad (by omega) (by clear p2 hbad hall;simp only[e1]at*;simp only[plCh];grind)])
      |(unfold isPlateB;rw[hall (by omega)];clear p2 hbad hall;grind))
def cmpI (a b:Int):Int:=if a<b then -1 else if b<a then 1 else 0
def cmpS (a b:List UInt8):Int:=if Op.bytesLess a b=true then -1 else if Op.bytesLess b a=true then 1 else 0
theorem s210 (a:Int):FSpec Tryz.prog 132 [.d (.int .i64 a)] [] (fun x r=>x= .d (.bool false)∧r= []):=by
 refine spAx hT Tryz.func132 Tryz.call132 ?_;conv=>whnf
 refine .ret _ ?_;conv=>whnf
 refine⟨[],⟨?_,rfl⟩,trivial⟩;conv=>lhs;whnf
 simp
theorem s211 (a:List UInt8):FSpec Tryz.prog 110 [.d (.str a)] [] (fun x r=>x= .d (.bool false)∧r= []):=by
 refine spAx hT Tryz.func110 Tryz.call110 ?_;conv=>whnf
 refine .ret _ ?_;conv=>whnf
 refine⟨[],⟨?_,rfl⟩,trivial⟩;conv=>lhs;whnf
 simp
theorem s183 (a b:Int):FSpec Tryz.prog 98 [.d (.int .i64 a),.d (.int .i64 b)] [] (fun x r=>x= .d (.int .i64 (cmpI a b))∧r= []):=by
 refine spAx hT Tryz.func98 Tryz.call98 ?_;conv=>whnf
 repeat' (first|(refine CallX.exact (s210 _) rfl rfl ?_;rotate_right;conv=>whnf)|((first|refine br_intro ?_ ?_<;>intro hb<;>try simp only[brs]at hb|omega|refine sAx ?_|decide|assumption)<;>conv=>whnf))
 all_goals
  refine .ret _ ?_;conv=>whnf
  refine⟨[],⟨?_,rfl⟩,trivial⟩;conv=>lhs;whnf
  congr 2;unfold cmpI;grind
theorem less_tri:∀ (a b:List UInt8),Op.bytesLess a b=false→a≠b→Op.bytesLess b a=true:=by
 intro a
 induction a with
 | nil=>intro b h hn;cases b with
   |nil=>exact absurd rfl hn
   |cons y ys=>simp[Op.bytesLess]at h
 | cons x xs ih=>
   intro b h hn
   cases b with
   |nil=>simp[Op.bytesLess]
   | cons y ys=>
     simp only[Op.bytesLess]at h ⊢;grind
theorem s184 (a b:List UInt8):FSpec Tryz.prog 63 [.d (.str a),.d (.str b)] [] (fun x r=>x= .d (.int .i64 (cmpS a b))∧r= []):=by
 refine spAx hT Tryz.func63 Tryz.call63 ?_;conv=>whnf
 repeat' (first|(refine CallX.exact (s211 _) rfl rfl ?_;rotate_right;conv=>whnf)|((first|refine br_intro ?_ ?_<;>intro hb<;>try simp only[brs]at hb|omega|refine sAx ?_|decide|assumption)<;>conv=>whnf))
 all_goals
  refine .ret _ ?_;conv=>whnf
  refine⟨[],⟨?_,rfl⟩,trivial⟩;conv=>lhs;whnf
  congr 2;unfold cmpS;grind [less_tri]
theorem s182 (l:List Int)(hl:l.length≤2^40):FSpec Tryz.prog 97 [.d (ints l)] [] (fun x r=>x= .d (.int .i64 (firstE l))∧r= []):=by
 refine spAx hT Tryz.func97 Tryz.call97 ?_;conv=>whnf
 refine LoopX.rule hT (C:= []) (ι:=Nat) (fun i=>i≤l.length∧firstE l=firstE (l.drop i)) (fun i=>mkSt [(3,.d (.int .i64 0)),(6,.d (ints l)),(7,.d (.int .i64 l.length)),(8,.d (.int .i64 i))] []) (fun i=>l.length - i) 0 ⟨by omega,by simp⟩ (by exact eAx []) ?_;rintro i ⟨p1,p2⟩;have hd:i<l.length→l.drop i=l.getD i 0::l.drop (i+1):=fun hi=>by rw[List.drop_eq_getElem_cons hi,List.getD_eq_getElem?_getD,List.getElem?_eq_getElem hi];rfl
 conv=>whnf
 repeat' ((first|refine br_intro ?_ ?_<;>intro hb<;>try simp only[brs]at hb|omega|refine sAx ?_|decide|assumption)<;>conv=>whnf)
 · refine .ret _ ?_;conv=>whnf
   refine⟨[],⟨?_,rfl⟩,trivial⟩;conv=>lhs;whnf
   congr 2;rw[p2,hd (by omega),firstE,if_neg hb,Int.toNat_natCast]
 · exact⟨i+1,⟨by omega,by rw[p2,hd (by omega),firstE,if_pos hb]⟩,by omega,(by exact eAx [])⟩
 · refine .ret _ ?_;conv=>whnf
   refine⟨[],⟨?_,rfl⟩,trivial⟩;conv=>lhs;whnf
   congr 2;rw[p2,List.drop_eq_nil_iff.2 (by omega)];rfl
def ixF (p:Nat→Bool):Nat→Int
 |0=> -1
 |n+1=>if ixF p n= -1 then(if p n=true then n else -1)else ixF p n
theorem ixF_none {p:Nat→Bool}:∀ {n:Nat},(∀j,j<n→p j=false)→ixF p n= -1:=by
 intro n
 induction n with
 |zero=>intro _;rfl
 |succ n ih=>intro h;rw[ixF,if_pos (ih fun j hj=>h j (by omega)),h n (by omega)];rfl
theorem ixF_hit {p:Nat→Bool}{n i:Nat}(hi:i<n)(h:∀j,j<i→p j=false)(h1:p i=true):ixF p n=i:=by
 induction n with
 |zero=>omega
 | succ n ih=>
   rw[ixF]
   by_cases q:i<n
   · rw[ih q,if_neg (by omega)]
   · have:i=n:=by omega
     subst this;rw[if_pos (ixF_none h),if_pos h1]
theorem ixF_bd {p:Nat→Bool}:∀ {n:Nat},-1≤ixF p n∧ixF p n<n∧(0≤ixF p n→p (ixF p n).toNat=true):=by
 intro n
 induction n with
 |zero=>simp[ixF]
 | succ n ih=>
   rw[ixF];split
   · split
     · rename_i h;exact⟨by omega,by omega,fun _=>by simpa using h⟩
     · exact⟨by omega,by omega,fun h=>by omega⟩
   · exact⟨ih.1,by omega,ih.2.2⟩
theorem s154 (n:Int):FSpec Tryz.prog 91 [.d (.int .i64 n)] [] (fun x r=>x= .d (.bool (decide (0≤n∧n≤5761439)))∧r= []):=by
 refine spAx hT Tryz.func91 Tryz.call91 ?_;conv=>whnf
 repeat' (first|(refine CallX.exact (s119 _ _ _) rfl rfl ?_;rotate_right;conv=>whnf)|((first|refine br_intro ?_ ?_<;>intro hb<;>try simp only[brs]at hb|omega|refine sAx ?_|decide|assumption)<;>conv=>whnf))
 refine .ret _ ?_;conv=>whnf
 refine⟨[],⟨?_,rfl⟩,trivial⟩;conv=>lhs;whnf
structure Chg where
 hire:List UInt8
 vehicle:List UInt8
 pas:Int
 cents:Int
structure Lin where
 kind:Int
 key:List UInt8
 cents:Int
deriving DecidableEq
theorem mem_len {l:List (List UInt8)}{u:List UInt8}(h:u ∈ l)(q:l.all (fun x=>decide (x.length≤8))=true):u.length≤8:=by
 have:=List.all_eq_true.1 q u h;exact of_decide_eq_true this
theorem s133 (n:Int):FSpec Tryz.prog 85 [.d (.int .i64 n)] [] (fun x r=>x= .d (.bool (decide (0≤n∧n≤5761439)))∧r= []):=by
 refine spAx hT Tryz.func85 Tryz.call85 ?_;conv=>whnf
 repeat' (first|(refine CallX.exact (s110 _ _ _) rfl rfl ?_;rotate_right;conv=>whnf)|((first|refine br_intro ?_ ?_<;>intro hb<;>try simp only[brs]at hb|omega|refine sAx ?_|decide|assumption)<;>conv=>whnf))
 refine .ret _ ?_;conv=>whnf
 refine⟨[],⟨?_,rfl⟩,trivial⟩;conv=>lhs;whnf
theorem isKey_nil:isKeyB []=false:=by decide
theorem less_nil (a:List UInt8):Op.bytesLess a []=false:=by cases a<;>rfl
def oAHiA145:TL:= [(1,[(0,[]),(1,[]),(3,[0,1]),(4,[0,1]),(8,[0,1,3,4]),(9,[0,1,3,4]),(2,[3,4,8,9]),(5,[8,9]),(6,[8,9]),(7,[8,9]),(10,[]),(11,[]),(12,[]),(13,[]),(14,[]),(15,[]),(16,[]),(17,[]),(18,[]),(19,[]),(20,[]),(21,[])])]
def oAHiA102:TL:= [(2,[(0,[]),(1,[]),(5,[0,1]),(6,[0,1]),(2,[5,6]),(3,[5,6]),(4,[5,6]),(7,[]),(8,[]),(9,[]),(10,[])]),(16,[(0,[]),(1,[]),(2,[0,1]),(3,[]),(5,rg 4),(6,[0,1,2,3,5]),(7,[0,1,2,3,5]),(8,[0,1,2,3,5]),(9,[0,1,2,3,5]),(10,rg 4),(4,[5,6,7,8,9,10]),(11,[]),(12,[]),(13,[]),(14,[])]),(17,[(0,[]),(1,[]),(3,[0,1]),(4,[0,1]),(5,[0,1]),(6,[0,1,3,4,5]),(7,[0,1,3,4,5]),(8,[0,1,3,4,5]),(9,[0,1]),(2,[3,4,5,6,7,8,9]),(10,[]),(11,[]),(12,[]),(13,[])])]
def oAHiA55:TL:= [(1,[(0,[]),(1,[]),(11,[0,1]),(12,[0,1]),(2,[11,12]),(3,[11,12]),(4,[11,12]),(5,[11,12]),(6,[11,12]),(7,[11,12]),(8,[11,12]),(9,[11,12]),(10,[11,12]),(13,[]),(14,[]),(15,[]),(16,[])])]
def oAHiA25:TL:= [(6,[(0,[]),(2,[0]),(3,[0]),(1,[2,3]),(4,[]),(5,[]),(6,[]),(7,[5,6]),(8,[5,6,7]),(9,[5,6,7]),(10,[5,6,7]),(11,[5,6]),(12,[5,6]),(13,[5,6]),(14,[]),(15,[]),(16,[]),(17,[]),(18,[]),(19,[])])]
structure Rdg where
 tm:Int
 st:List UInt8
 meter:Int
 fuel:Int
def rgF:Rdg→List DV:=fun r=> [.int .i64 r.tm,.str r.st,.int .i64 r.meter,.int .i64 r.fuel]
structure Leg where
 veh:List UInt8
 out:Rdg
 inn:Rdg
def lgF:Leg→List DV:=fun x=> [.str x.veh,.int .i64 x.out.tm,.str x.out.st,.int .i64 x.out.meter,.int .i64 x.out.fuel,.int .i64 x.inn.tm,.str x.inn.st,.int .i64 x.inn.meter,.int .i64 x.inn.fuel]
def rg0:Rdg:=⟨0,[],0,0⟩
def lg0:Leg:=⟨[],rg0,rg0⟩
abbrev legs (l:List Leg):DV:=seqD 9 lgF lg0 l
structure Hir where
 key:List UInt8
 drv:List UInt8
 frm:Int
 to:Int
 legs:List Leg
def hiF:Hir→List DV:=fun h=> [.str h.key,.str h.drv,.int .i64 h.frm,.int .i64 h.to,Go.Proofs.YtghhghijalcdfaaGreatDoor.legs h.legs]
def hi0:Hir:=⟨[],[],0,0,[]⟩
abbrev hirs (l:List Hir):DV:=seqD 5 hiF hi0 l
abbrev hcell (h:Hir):Res:=.cells 85 [.d (.str h.key),.d (.str h.drv),.d (.int .i64 h.frm),.d (.int .i64 h.to),.d (Go.Proofs.YtghhghijalcdfaaGreatDoor.legs h.legs)]
def lgK (x:Leg):Prop:=x.veh.length≤2^40∧x.out.st.length≤2^40∧x.inn.st.length≤2^40
def hiK (h:Hir):Prop:=h.key.length≤2^40∧h.drv.length≤2^40∧h.legs.length≤2^40∧∀x ∈ h.legs,lgK x
def hiOk (l:List Hir):Prop:=l.length≤2^40∧∀h ∈ l,hiK h
def rdgE (r:Rdg):Int:=if ¬ (0≤r.tm∧r.tm≤5761439)then 1 else if isKeyB r.st=false then 5 else if ¬ ((0≤r.meter∧r.meter≤999999)∧(0≤r.fuel∧r.fuel≤8))then 1 else 0
def timE (a b:Int):Int:=if a<0∨b≤a∨5761439<b then 1 else if 172800<b - a then 2 else 0
def winE (a b:Int):Int:=if(0≤a∧a≤b)∧b≤5761440 then 0 else 1
def legE (h:Hir)(i:Nat):Int:=
 if isKeyB (h.legs.getD i lg0).veh=false then 5
 else if rdgE (h.legs.getD i lg0).out≠0 then rdgE (h.legs.getD i lg0).out
 else if i=0∧(h.legs.getD i lg0).out.tm≠h.frm then 7
 else if 0<i∧(h.legs.getD i lg0).out.tm≠(h.legs.getD (i - 1) lg0).inn.tm then 7
 else if 0<i∧(h.legs.getD i lg0).veh=(h.legs.getD (i - 1) lg0).veh then 16
 else if 0<i∧(h.legs.getD i lg0).out.st≠(h.legs.getD (i - 1) lg0).inn.st then 8
 else if(h.legs.getD i lg0).inn.tm= -1 then(if ¬ ((h.legs.getD i lg0).inn.st= []∧(h.legs.getD i lg0).inn.meter=0∧(h.legs.getD i lg0).inn.fuel=0)then 3 else if(i:Int)<(h.legs.length:Int) - 1 then 11 else 0)
 else if rdgE (h.legs.getD i lg0).inn≠0 then rdgE (h.legs.getD i lg0).inn
 else if(h.legs.getD i lg0).inn.tm≤(h.legs.getD i lg0).out.tm then 7 else 0
def hirE (h:Hir):Int:=
 if isKeyB h.key=false∨isKeyB h.drv=false then 5 else if timE h.frm h.to≠0 then timE h.frm h.to
 else if h.legs.length=0 then 3 else if 20<h.legs.length then 2 else firstAt (legE h) h.legs.length
def hirsE1 (l:List Hir)(i:Nat):Int:=if hirE (l.getD i hi0)≠0 then hirE (l.getD i hi0)else if 0<i∧strLe (l.getD i hi0).key (l.getD (i - 1) hi0).key=true then 7 else 0
def hirsE (l:List Hir):Int:=if 500<l.length then 2 else firstAt (hirsE1 l) l.length
theorem z220 (n:Int):FSpec Tryz.prog 68 [.d (.int .i64 n)] [] (fun x o=>x= .d (.int .i64 (if 0≤n∧n≤5761439 then 0 else 1))∧o= []):=by
 refine spAx hT Tryz.func68 Tryz.call68 ?_;conv=>whnf
 repeat' (first|(refine CallX.exact (s154 _) rfl rfl ?_;rotate_right;conv=>whnf)|(refine CallX.exact (s107 _ _) rfl rfl ?_;rotate_right;conv=>whnf)|((first|refine br_intro ?_ ?_<;>intro hb<;>try simp only[brs]at hb|omega|refine sAx ?_|decide|assumption)<;>conv=>whnf))
 refine .ret _ ?_;conv=>whnf
 refine⟨[],⟨?_,rfl⟩,trivial⟩;conv=>lhs;whnf
 congr 2
 grind
theorem z312 (r:Rdg)(h:r.st.length≤2^40):FSpec Tryz.prog 145 [.agg ((rgF r).map .d)] [] (fun x o=>x= .d (.int .i64 (rdgE r))∧o= []):=by
 refine spAx hT Tryz.func145 Tryz.call145 ?_;conv=>whnf
 repeat' (first|(refine CallX.exact (z220 _) rfl rfl ?_;rotate_right;conv=>whnf)|(refine CallX.exact (s108 _ h) rfl rfl ?_;rotate_right;conv=>whnf)|(refine CallX.exact (s119 _ _ _) rfl rfl ?_;rotate_right;conv=>whnf)|(refine CallX.exact (s107 _ _) rfl rfl ?_;rotate_right;conv=>whnf)|((first|refine CallX.pure (s105 [_,_,_] (by simp)) ⟨SV.le_lit (by rfl) (by rfl),trivial⟩ rfl ?_|refine br_intro ?_ ?_<;>intro hb<;>try simp only[brs]at hb|refine tAx hT oAHiA145 ?_|omega|refine sAx ?_|decide|assumption)<;>conv=>whnf))
 all_goals
  refine .ret _ ?_;conv=>whnf
  refine⟨[],⟨?_,rfl⟩,trivial⟩;conv=>lhs;whnf
  congr 2
  unfold rdgE;simp only[firstE];grind
def daysW (a b:Int):Int:=(b - a+1440 - 1).tdiv 1440
theorem daysW_lt {a b:Int}(h:a<b):120<daysW a b↔172800<b - a:=by
 unfold daysW;rw[Int.tdiv_eq_ediv_of_nonneg (by omega)];omega
theorem z311 (a b:Int)(h:0≤a∧a<b∧b≤5761439):FSpec Tryz.prog 144 [.agg [.d (.int .i64 a),.d (.int .i64 b)]] [] (fun x o=>x= .d (.int .i64 (daysW a b))∧o= []):=by
 obtain⟨h1,h2,h3⟩:=h;have hd:inI64 ((b - a+1440 - 1).tdiv 1440):=by unfold inI64;rw[Int.tdiv_eq_ediv_of_nonneg (by omega)];omega
 refine spAx hT Tryz.func144 Tryz.call144 ?_;conv=>whnf
 repeat' ((first|refine And.intro hd ?_|refine br_intro ?_ ?_<;>intro hb<;>try simp only[brs]at hb|omega|refine sAx ?_|decide|assumption)<;>conv=>whnf)
 refine .ret _ ?_;conv=>whnf
 refine⟨[],⟨?_,rfl⟩,trivial⟩;conv=>lhs;whnf
 rfl
theorem z263 (a b:Int):FSpec Tryz.prog 101 [.agg [.d (.int .i64 a),.d (.int .i64 b)]] [] (fun x o=>x= .d (.int .i64 (timE a b))∧o= []):=by
 have hd:=daysW_lt (a:=a) (b:=b);refine spAx hT Tryz.func101 Tryz.call101 ?_;conv=>whnf
 repeat' (first|(refine CallX.exact (z311 a b ⟨by omega,by omega,by omega⟩) rfl rfl ?_;rotate_right;conv=>whnf)|(refine CallX.exact (s107 _ _) rfl rfl ?_;rotate_right;conv=>whnf)|((first|refine br_intro ?_ ?_<;>intro hb<;>try simp only[brs]at hb|omega|refine sAx ?_|decide|assumption)<;>conv=>whnf))
 all_goals
  refine .ret _ ?_;conv=>whnf
  refine⟨[],⟨?_,rfl⟩,trivial⟩;conv=>lhs;whnf
  congr 2
  unfold timE;grind
theorem z264 (h:Hir)(hk:hiK h)(i:Nat)(hi:i<h.legs.length):FSpec Tryz.prog 102 [.agg ((hiF h).map .d),.d (.int .i64 i)] [] (fun x o=>x= .d (.int .i64 (legE h i))∧o= []):=by
 have e1:=tnc i;have hl:=hk.2.2.1;have hx:lgK (h.legs.getD (i:Int).toNat lg0):=hk.2.2.2 _ (getD_mem (by omega));refine spAx hT Tryz.func102 Tryz.call102 ?_;conv=>whnf
 repeat' (first|(refine CallX.exact (s108 _ hx.1) rfl rfl ?_;rotate_right;conv=>whnf)|(refine CallX.exact (z312 (h.legs.getD (i:Int).toNat lg0).out hx.2.1) rfl rfl ?_;rotate_right;conv=>whnf)|(refine CallX.exact (z312 (h.legs.getD (i:Int).toNat lg0).inn hx.2.2) rfl rfl ?_;rotate_right;conv=>whnf)|(refine CallX.exact (s107 _ _) rfl rfl ?_;rotate_right;conv=>whnf)|((first|refine CallX.pure (s105 [_,_] (by simp)) ⟨SV.le_lit (by rfl) (by rfl),trivial⟩ rfl ?_|refine br_intro ?_ ?_<;>intro hb<;>try simp only[brs]at hb|refine tAx hT oAHiA102 ?_|omega|refine sAx ?_|decide|assumption)<;>conv=>whnf))
 all_goals
  refine .ret _ ?_;conv=>whnf
  refine⟨[],⟨?_,rfl⟩,trivial⟩;conv=>lhs;whnf
  congr 2
  clear hx hk;simp only[e1,toNat_pred,firstE]at*;unfold legE;grind
theorem hirE_bad {h:Hir}(q:isKeyB h.key=false∨isKeyB h.drv=false):hirE h=5:=by unfold hirE;rw[if_pos q]
theorem hirE_time {h:Hir}(q1:isKeyB h.key=true)(q2:isKeyB h.drv=true)(q:timE h.frm h.to≠0):hirE h=timE h.frm h.to:=by
 unfold hirE;rw[if_neg (by rw[q1,q2];simp),if_pos q]
theorem hirE_legs {h:Hir}(q1:isKeyB h.key=true)(q2:isKeyB h.drv=true)(q:timE h.frm h.to=0):hirE h=if h.legs.length=0 then 3 else if 20<h.legs.length then 2 else firstAt (legE h) h.legs.length:=by
 unfold hirE;rw[if_neg (by rw[q1,q2];simp),if_neg (by omega)]
theorem z210 (h:Hir)(hk:hiK h):FSpec Tryz.prog 55 [.agg ((hiF h).map .d)] [] (fun x o=>x= .d (.int .i64 (hirE h))∧o= []):=by
 have c1:=s108 h.key hk.1;have c2:=s108 h.drv hk.2.1;have c3:=z263 h.frm h.to;have hl:=hk.2.2.1;have c5:=s105 [5,timE h.frm h.to] (by simp);rw[show firstE [5,timE h.frm h.to]=5 from rfl]at c5;have c6:=s105 [0,timE h.frm h.to] (by simp);rw[show firstE [0,timE h.frm h.to]=timE h.frm h.to from by simp only[firstE];grind]at c6
 cases q1:isKeyB h.key with
 | false=>
   rw[hirE_bad (.inl q1)];rw[q1]at c1;generalize timE h.frm h.to=E at c3 c5 c6;refine spAx hT Tryz.func55 Tryz.call55 ?_;conv=>whnf
   repeat' (first|(refine CallX.exact (c1) rfl rfl ?_;rotate_right;conv=>whnf)|(refine CallX.exact (c3) rfl rfl ?_;rotate_right;conv=>whnf)|(refine CallX.exact (s107 _ _) rfl rfl ?_;rotate_right;conv=>whnf)|((first|refine CallX.pure c5 ⟨SV.le_lit (by rfl) (by rfl),trivial⟩ rfl ?_|refine br_intro ?_ ?_<;>intro hb<;>try simp only[brs]at hb|refine tAx hT oAHiA55 ?_|omega|refine sAx ?_|decide|assumption)<;>conv=>whnf))
   refine .ret _ ?_;conv=>whnf
   refine⟨[],⟨?_,rfl⟩,trivial⟩
   conv=>lhs;whnf
 |true=>
 rw[q1]at c1
 cases q2:isKeyB h.drv with
 | false=>
   rw[hirE_bad (.inr q2)];rw[q2]at c2;generalize timE h.frm h.to=E at c3 c5 c6;refine spAx hT Tryz.func55 Tryz.call55 ?_;conv=>whnf
   repeat' (first|(refine CallX.exact (c1) rfl rfl ?_;rotate_right;conv=>whnf)|(refine CallX.exact (c2) rfl rfl ?_;rotate_right;conv=>whnf)|(refine CallX.exact (c3) rfl rfl ?_;rotate_right;conv=>whnf)|(refine CallX.exact (s107 _ _) rfl rfl ?_;rotate_right;conv=>whnf)|((first|refine CallX.pure c5 ⟨SV.le_lit (by rfl) (by rfl),trivial⟩ rfl ?_|refine br_intro ?_ ?_<;>intro hb<;>try simp only[brs]at hb|refine tAx hT oAHiA55 ?_|omega|refine sAx ?_|decide|assumption)<;>conv=>whnf))
   refine .ret _ ?_;conv=>whnf
   refine⟨[],⟨?_,rfl⟩,trivial⟩
   conv=>lhs;whnf
 |true=>
 rw[q2]at c2
 by_cases q3:timE h.frm h.to=0
 · have hE:=hirE_legs q1 q2 q3;rw[hE];clear hE;rw[q3]at c3 c6
   by_cases q4:h.legs.length=0
   · rw[if_pos q4];refine spAx hT Tryz.func55 Tryz.call55 ?_;conv=>whnf
     repeat' (first|(refine CallX.exact (c1) rfl rfl ?_;rotate_right;conv=>whnf)|(refine CallX.exact (c2) rfl rfl ?_;rotate_right;conv=>whnf)|(refine CallX.exact (c3) rfl rfl ?_;rotate_right;conv=>whnf)|(refine CallX.exact (s107 _ _) rfl rfl ?_;rotate_right;conv=>whnf)|((first|refine CallX.pure c6 ⟨SV.le_lit (by rfl) (by rfl),trivial⟩ rfl ?_|refine br_intro ?_ ?_<;>intro hb<;>try simp only[brs]at hb|refine tAx hT oAHiA55 ?_|omega|refine sAx ?_|decide|assumption)<;>conv=>whnf))
     all_goals first
      |(exfalso;omega)
      | (refine .ret _ ?_
         conv=>whnf
         refine⟨[],⟨?_,rfl⟩,trivial⟩;conv=>lhs;whnf
         all_goals rfl)
   by_cases q5:20<h.legs.length
   · rw[if_neg q4,if_pos q5];refine spAx hT Tryz.func55 Tryz.call55 ?_;conv=>whnf
     repeat' (first|(refine CallX.exact (c1) rfl rfl ?_;rotate_right;conv=>whnf)|(refine CallX.exact (c2) rfl rfl ?_;rotate_right;conv=>whnf)|(refine CallX.exact (c3) rfl rfl ?_;rotate_right;conv=>whnf)|(refine CallX.exact (s107 _ _) rfl rfl ?_;rotate_right;conv=>whnf)|((first|refine CallX.pure c6 ⟨SV.le_lit (by rfl) (by rfl),trivial⟩ rfl ?_|refine br_intro ?_ ?_<;>intro hb<;>try simp only[brs]at hb|refine tAx hT oAHiA55 ?_|omega|refine sAx ?_|decide|assumption)<;>conv=>whnf))
     all_goals first
      |(exfalso;omega)
      | (refine .ret _ ?_
         conv=>whnf
         refine⟨[],⟨?_,rfl⟩,trivial⟩;conv=>lhs;whnf
         all_goals rfl)
   obtain⟨F,hfin⟩:∃F:Int,F=firstAt (legE h) h.legs.length:=⟨_,rfl⟩;rw[if_neg q4,if_neg q5,←hfin];refine spAx hT Tryz.func55 Tryz.call55 ?_;conv=>whnf
   repeat' (first|(refine CallX.exact (c1) rfl rfl ?_;rotate_right;conv=>whnf)|(refine CallX.exact (c2) rfl rfl ?_;rotate_right;conv=>whnf)|(refine CallX.exact (c3) rfl rfl ?_;rotate_right;conv=>whnf)|(refine CallX.exact (s107 _ _) rfl rfl ?_;rotate_right;conv=>whnf)|((first|refine CallX.pure c6 ⟨SV.le_lit (by rfl) (by rfl),trivial⟩ rfl ?_|refine br_intro ?_ ?_<;>intro hb<;>try simp only[brs]at hb|refine tAx hT oAHiA55 ?_|omega|refine sAx ?_|decide|assumption)<;>conv=>whnf))
   all_goals first
    |(exfalso;omega)
    |skip
   refine LoopX.rule hT (C:= []) (ι:=Nat) (fun i=>i≤h.legs.length∧∀j,j<i→legE h j=0) (fun i=>mkSt [(1,.ptr 1 0),(37,.d (.int .i64 h.legs.length)),(38,.d (.int .i64 i))] [(1,hcell h)]) (fun i=>h.legs.length - i) 0 ⟨by omega,by omega⟩ (by exact eAx [(1,1)]) ?_;rintro i ⟨p1,p2⟩;have e1:=tnc i;conv=>whnf
   repeat' ((first|refine pAx (z264 h hk i (by omega)) ?_|refine br_intro ?_ ?_<;>intro hb<;>try simp only[brs]at hb|refine tAx hT oAHiA55 ?_|omega|refine sAx ?_|decide|assumption)<;>conv=>whnf)
   · refine .ret _ ?_;conv=>whnf
     refine⟨[],⟨?_,rfl⟩,trivial⟩;conv=>lhs;whnf
     congr 2
     rw[hfin];exact(firstAt_eq (by omega) p2 (by simpa using hb) rfl).symm
   · exact⟨i+1,⟨by omega,first_step p2 (by simpa using hb)⟩,by omega,(by exact eAx [(1,1)])⟩
   · refine .ret _ ?_;conv=>whnf
     refine⟨[],⟨?_,rfl⟩,trivial⟩;conv=>lhs;whnf
     congr 2
     have:i=h.legs.length:=by omega
     subst this;rw[hfin,firstAt_zero p2]
 · rw[hirE_time q1 q2 q3];generalize timE h.frm h.to=E at c3 q3 c5 c6;refine spAx hT Tryz.func55 Tryz.call55 ?_;conv=>whnf
   repeat' (first|(refine CallX.exact (c1) rfl rfl ?_;rotate_right;conv=>whnf)|(refine CallX.exact (c2) rfl rfl ?_;rotate_right;conv=>whnf)|(refine CallX.exact (c3) rfl rfl ?_;rotate_right;conv=>whnf)|(refine CallX.exact (s107 _ _) rfl rfl ?_;rotate_right;conv=>whnf)|((first|refine CallX.pure c6 ⟨SV.le_lit (by rfl) (by rfl),trivial⟩ rfl ?_|refine br_intro ?_ ?_<;>intro hb<;>try simp only[brs]at hb|refine tAx hT oAHiA55 ?_|omega|refine sAx ?_|decide|assumption)<;>conv=>whnf))
   all_goals first
    |(exfalso;omega)
    | (refine .ret _ ?_
       conv=>whnf
       refine⟨[],⟨?_,rfl⟩,trivial⟩;conv=>lhs;whnf
       all_goals rfl)
theorem z124 (l:List Hir)(hk:hiOk l):FSpec Tryz.prog 25 [.d (hirs l)] [] (fun x r=>x= .d (.int .i64 (hirsE l))∧r= []):=by
 refine spAx hT Tryz.func25 Tryz.call25 ?_;conv=>whnf
 refine br_intro (fun h0=> ?_) (fun h0=> ?_)
 · simp at h0;conv=>whnf
   refine .ret _ ?_;conv=>whnf
   refine⟨[],⟨?_,rfl⟩,trivial⟩;conv=>lhs;whnf
   unfold hirsE;rw[if_pos (by omega)]
 simp at h0;conv=>whnf
 refine LoopX.rule hT (C:= []) (ι:=Nat) (fun i=>i≤l.length∧∀j,j<i→hirsE1 l j=0) (fun i=>mkSt [(0,.d (hirs l)),(9,.d (hirs l)),(10,.d (.int .i64 l.length)),(11,.d (.int .i64 i))] []) (fun i=>l.length - i) 0 ⟨by omega,by omega⟩ (by exact eAx []) ?_;rintro i ⟨p1,p2⟩;have hx:(i:Int)<l.length→hiK (l.getD (i:Int).toNat hi0):=fun hi=>hk.2 _ (getD_mem (by omega))
 have e1:=tnc i;have em:(max ((i:Int) - 1) 0).toNat=i - 1:=by omega
 have hbad:∀e:Int,i<l.length→e≠0→hirsE1 l i=e→hirsE l=e:=fun e h h1 h2=>by
  unfold hirsE;rw[if_neg (by omega)];exact firstAt_eq h p2 h1 h2
 conv=>whnf
 repeat' (first|((first|refine And.intro (show 0≤max ((i:Int) - 1) 0∧max ((i:Int) - 1) 0<(l.length:Int)from by omega) ?_|refine pAx (z210 (l.getD (i:Int).toNat hi0) (hx (by omega))) ?_)<;>conv=>whnf)|(refine CallX.exact (s107 _ _) rfl rfl ?_;rotate_right;conv=>whnf)|((first|refine CallX.pure (s105 [_,_] (by simp)) ⟨SV.le_lit (by rfl) (by rfl),trivial⟩ rfl ?_|refine br_intro ?_ ?_<;>intro hb<;>try simp only[brs]at hb|refine tAx hT oAHiA25 ?_|omega|refine sAx ?_|decide|assumption)<;>conv=>whnf))
 all_goals first
  |(refine⟨i+1,⟨by omega,first_step p2 (by clear p2 hbad hk hx;simp only[e1,em,cond_true,firstE]at*;unfold hirsE1 strLe;grind)⟩,by omega,(by exact eAx [])⟩)
  | (refine .ret _ ?_
     conv=>whnf
     refine⟨[],⟨?_,rfl⟩,trivial⟩;conv=>lhs;whnf
     congr 2
     first
      |exact(hbad _ (by omega) (by clear p2 hbad hk hx;simp only[e1,em,cond_true,firstE]at*;grind) (by clear p2 hbad hk hx;simp only[e1,em,cond_true,firstE]at*;unfold hirsE1 strLe;grind)).symm
      | (have:i=l.length:=by omega
         subst this
         unfold hirsE;rw[if_neg (by omega),firstAt_zero p2]))
theorem Res.le_put2 {α:Type}{f:α→List DV}{d:α}{l:List α}{x y:α}{e k j1 j2:Nat}{ds1 ds2:List DV}(h1:∀z,setAtD (f z) 0 ds1=f x)(h2:∀z,setAtD (f z) 0 ds2=f y):
 Res.le (.buf e k l.length fun i=>bif Nat.beq i j2 then setAtD (bif Nat.beq i j1 then setAtD (rowF f d l i) 0 ds1 else rowF f d l i) 0 ds2 else bif Nat.beq i j1 then setAtD (rowF f d l i) 0 ds1 else rowF f d l i) (seqB e k f d ((l.set j1 x).set j2 y)):=by
 refine Res.le_buf (by simp) (fun k hk=> ?_);have e1:=rows_putG (f:=f) (d:=d) (l:=l) (x:=x) (j:=j1) (off:=0) (ds:=ds1) (get:=rowF f d l) (fun _ _=>rfl) (fun z _=>h1 z);have e2:=rows_putG (f:=f) (d:=d) (l:=l.set j1 x) (x:=y) (j:=j2) (off:=0) (ds:=ds2) (get:=fun i=>bif Nat.beq i j1 then setAtD (rowF f d l i) 0 ds1 else rowF f d l i) (fun k hk=>e1 k (by simpa using hk)) (fun z _=>h2 z);exact e2 k (by simpa using hk)
theorem mem_bd {l:List Int}{u:Int}(h:u ∈ l)(q:l.all (fun x=>decide (-2^40≤x∧x≤2^40))=true): -2^40≤u∧u≤2^40:=by
 have:=List.all_eq_true.1 q u h;exact of_decide_eq_true this
theorem SV.le_upd {α:Type}{f:α→List DV}{d:α}{l:List α}{k j off:Nat}{ds:List DV}(g:α→α)(hg:∀y,setAtD (f y) off ds=f (g y)):
 SV.le (.d (.ro k l.length fun i=>bif Nat.beq i j then setAtD (rowF f d l i) off ds else rowF f d l i)) (.d (seqD k f d (l.set j (g (l.getD j d))))):=
 SV.le_putF fun y hy=>by rw[hg,List.getD_eq_getElem?_getD,hy];rfl
end Go.Proofs.YtghhghijalcdfaaGreatDoor
