/- BooksBalance is proved: for every input the law returns true, and its argument reads afterwards as it read before. Conditions: those of the given row alone. -/
import Derived.Shelf.LaysM
import Derived.Shelf.LaysC
import Derived.Shelf.Strconv.Itoa3
import Derived.Shelf.Strconv.AtoiAll
import Derived.Shelf.Strings.Prefix
import Derived.Shelf.Strings.Split
import Derived.Test.YtodakofifpaljaaGreatDoorProg
import Derived.Test.YtodakofifpaljaaGreatDoorBbEngTwo
import Derived.Below
import Derived.Lib.SplitLaws
import Derived.Shelf.Strings.SlTrimAscii
set_option linter.unusedVariables false
set_option linter.unusedSimpArgs false
namespace Go.Proofs
open Go.Shelf
def pg:Go.Shelf.Ren:=⟨fun|171=>87|243=>132|246=>188|283=>228|284=>229|285=>230|286=>231|129=>164|317=>260|318=>261|319=>262|320=>263|337=>281|338=>282|n=>n,fun|3=>3|9=>9|2=>2|4=>4|171=>345|0=>0|53=>277|37=>347|5=>5|173=>348|212=>381|51=>275|20=>20|213=>382|46=>202|232=>403|233=>404|n=>n,fun|17=>1|18=>2|19=>3|n=>n⟩
theorem uU:Go.Proofs.LaysM.n171 Tryz.prog pg:={
 mixed:=by kernel_rfl
 f129:=Tryz.func164.trans (congrArg some (by kernel_rfl))
 f171:=Tryz.func87.trans (congrArg some (by kernel_rfl))
 f243:=Tryz.func132.trans (congrArg some (by kernel_rfl))
 f246:=Tryz.func188.trans (congrArg some (by kernel_rfl))
 f283:=Tryz.func228.trans (congrArg some (by kernel_rfl))
 f284:=Tryz.func229.trans (congrArg some (by kernel_rfl))
 f285:=Tryz.func230.trans (congrArg some (by kernel_rfl))
 f286:=Tryz.func231.trans (congrArg some (by kernel_rfl))
 f317:=Tryz.func260.trans (congrArg some (by kernel_rfl))
 f318:=Tryz.func261.trans (congrArg some (by kernel_rfl))
 f319:=Tryz.func262.trans (congrArg some (by kernel_rfl))
 f320:=Tryz.func263.trans (congrArg some (by kernel_rfl))
 f337:=Tryz.func281.trans (congrArg some (by kernel_rfl))
 f338:=Tryz.func282.trans (congrArg some (by kernel_rfl))
 t0:=Tryz.underlying0
 a0:=Tryz.isAgg0
 z0:=Tryz.sizeOf0
 v0:=Tryz.zeroValue0
 t2:=Tryz.underlying2
 a2:=Tryz.isAgg2
 z2:=Tryz.sizeOf2
 v2:=Tryz.zeroValue2
 t3:=Tryz.underlying3
 a3:=Tryz.isAgg3
 z3:=Tryz.sizeOf3
 v3:=Tryz.zeroValue3
 t4:=Tryz.underlying4
 a4:=Tryz.isAgg4
 z4:=Tryz.sizeOf4
 v4:=Tryz.zeroValue4
 t5:=Tryz.underlying5
 a5:=Tryz.isAgg5
 z5:=Tryz.sizeOf5
 v5:=Tryz.zeroValue5
 t9:=Tryz.underlying9
 a9:=Tryz.isAgg9
 z9:=Tryz.sizeOf9
 v9:=Tryz.zeroValue9
 t20:=Tryz.underlying20
 a20:=Tryz.isAgg20
 z20:=Tryz.sizeOf20
 v20:=Tryz.zeroValue20
 t37:=Tryz.underlying347
 a37:=Tryz.isAgg347
 z37:=Tryz.sizeOf347
 v37:=Tryz.zeroValue347
 t46:=Tryz.underlying202
 a46:=Tryz.isAgg202
 z46:=Tryz.sizeOf202
 v46:=Tryz.zeroValue202
 t51:=Tryz.underlying275
 a51:=Tryz.isAgg275
 z51:=Tryz.sizeOf275
 v51:=Tryz.zeroValue275
 t53:=Tryz.underlying277
 a53:=Tryz.isAgg277
 z53:=Tryz.sizeOf277
 v53:=Tryz.zeroValue277
 t171:=Tryz.underlying345
 a171:=Tryz.isAgg345
 z171:=Tryz.sizeOf345
 v171:=Tryz.zeroValue345
 t173:=Tryz.underlying348
 a173:=Tryz.isAgg348
 z173:=Tryz.sizeOf348
 v173:=Tryz.zeroValue348
 t212:=Tryz.underlying381
 a212:=Tryz.isAgg381
 z212:=Tryz.sizeOf381
 v212:=Tryz.zeroValue381
 t213:=Tryz.underlying382
 a213:=Tryz.isAgg382
 z213:=Tryz.sizeOf382
 t232:=Tryz.underlying403
 a232:=Tryz.isAgg403
 z232:=Tryz.sizeOf403
 v232:=Tryz.zeroValue403
 t233:=Tryz.underlying404
 a233:=Tryz.isAgg404
 z233:=Tryz.sizeOf404
 v233:=Tryz.zeroValue404
 g17:=by kernel_rfl
 g18:=by kernel_rfl
 g19:=by kernel_rfl
 i0:=by kernel_rfl
 i2:=by kernel_rfl
 i3:=by kernel_rfl
 i4:=by kernel_rfl
 i5:=by kernel_rfl
 i9:=by kernel_rfl
 i20:=by kernel_rfl
 i37:=by kernel_rfl
 i46:=by kernel_rfl
 i51:=by kernel_rfl
 i53:=by kernel_rfl
 i171:=by kernel_rfl
 i173:=by kernel_rfl
 i212:=by kernel_rfl
 i232:=by kernel_rfl
 i233:=by kernel_rfl
 m17:=by kernel_rfl
 m18:=by kernel_rfl
 m19:=by kernel_rfl}
def bS:Go.Shelf.Ren:=⟨fun|172=>244|244=>269|245=>270|247=>289|279=>290|280=>291|281=>292|282=>293|287=>304|316=>305|171=>87|205=>306|321=>309|322=>310|243=>132|246=>188|283=>228|284=>229|285=>230|286=>231|129=>164|317=>260|318=>261|319=>262|320=>263|337=>281|338=>282|n=>n,fun|9=>9|3=>3|75=>362|76=>363|4=>4|5=>5|167=>396|37=>347|0=>0|85=>397|2=>2|168=>399|53=>277|175=>412|46=>202|210=>416|127=>419|145=>422|143=>420|21=>21|171=>345|173=>348|212=>381|51=>275|20=>20|213=>382|232=>403|233=>404|80=>425|n=>n,fun|15=>6|16=>7|17=>1|18=>2|19=>3|n=>n⟩
theorem jI:Go.Proofs.LaysC.n172 Tryz.prog bS:={
 mixed:=by kernel_rfl
 f129:=Tryz.func164.trans (congrArg some (by kernel_rfl))
 f171:=Tryz.func87.trans (congrArg some (by kernel_rfl))
 f172:=Tryz.func244.trans (congrArg some (by kernel_rfl))
 f205:=Tryz.func306.trans (congrArg some (by kernel_rfl))
 f243:=Tryz.func132.trans (congrArg some (by kernel_rfl))
 f244:=Tryz.func269.trans (congrArg some (by kernel_rfl))
 f245:=Tryz.func270.trans (congrArg some (by kernel_rfl))
 f246:=Tryz.func188.trans (congrArg some (by kernel_rfl))
 f247:=Tryz.func289.trans (congrArg some (by kernel_rfl))
 f279:=Tryz.func290.trans (congrArg some (by kernel_rfl))
 f280:=Tryz.func291.trans (congrArg some (by kernel_rfl))
 f281:=Tryz.func292.trans (congrArg some (by kernel_rfl))
 f282:=Tryz.func293.trans (congrArg some (by kernel_rfl))
 f283:=Tryz.func228.trans (congrArg some (by kernel_rfl))
 f284:=Tryz.func229.trans (congrArg some (by kernel_rfl))
 f285:=Tryz.func230.trans (congrArg some (by kernel_rfl))
 f286:=Tryz.func231.trans (congrArg some (by kernel_rfl))
 f287:=Tryz.func304.trans (congrArg some (by kernel_rfl))
 f316:=Tryz.func305.trans (congrArg some (by kernel_rfl))
 f317:=Tryz.func260.trans (congrArg some (by kernel_rfl))
 f318:=Tryz.func261.trans (congrArg some (by kernel_rfl))
 f319:=Tryz.func262.trans (congrArg some (by kernel_rfl))
 f320:=Tryz.func263.trans (congrArg some (by kernel_rfl))
 f321:=Tryz.func309.trans (congrArg some (by kernel_rfl))
 f322:=Tryz.func310.trans (congrArg some (by kernel_rfl))
 f337:=Tryz.func281.trans (congrArg some (by kernel_rfl))
 f338:=Tryz.func282.trans (congrArg some (by kernel_rfl))
 t0:=Tryz.underlying0
 a0:=Tryz.isAgg0
 z0:=Tryz.sizeOf0
 v0:=Tryz.zeroValue0
 t2:=Tryz.underlying2
 a2:=Tryz.isAgg2
 z2:=Tryz.sizeOf2
 v2:=Tryz.zeroValue2
 t3:=Tryz.underlying3
 a3:=Tryz.isAgg3
 z3:=Tryz.sizeOf3
 v3:=Tryz.zeroValue3
 t4:=Tryz.underlying4
 a4:=Tryz.isAgg4
 z4:=Tryz.sizeOf4
 v4:=Tryz.zeroValue4
 t5:=Tryz.underlying5
 a5:=Tryz.isAgg5
 z5:=Tryz.sizeOf5
 v5:=Tryz.zeroValue5
 t9:=Tryz.underlying9
 a9:=Tryz.isAgg9
 z9:=Tryz.sizeOf9
 v9:=Tryz.zeroValue9
 t20:=Tryz.underlying20
 a20:=Tryz.isAgg20
 z20:=Tryz.sizeOf20
 v20:=Tryz.zeroValue20
 t21:=Tryz.underlying21
 a21:=Tryz.isAgg21
 z21:=Tryz.sizeOf21
 v21:=Tryz.zeroValue21
 t37:=Tryz.underlying347
 a37:=Tryz.isAgg347
 z37:=Tryz.sizeOf347
 v37:=Tryz.zeroValue347
 t46:=Tryz.underlying202
 a46:=Tryz.isAgg202
 z46:=Tryz.sizeOf202
 v46:=Tryz.zeroValue202
 t51:=Tryz.underlying275
 a51:=Tryz.isAgg275
 z51:=Tryz.sizeOf275
 v51:=Tryz.zeroValue275
 t53:=Tryz.underlying277
 a53:=Tryz.isAgg277
 z53:=Tryz.sizeOf277
 v53:=Tryz.zeroValue277
 t75:=Tryz.underlying362
 a75:=Tryz.isAgg362
 z75:=Tryz.sizeOf362
 v75:=Tryz.zeroValue362
 t76:=Tryz.underlying363
 a76:=Tryz.isAgg363
 z76:=Tryz.sizeOf363
 v76:=Tryz.zeroValue363
 t85:=Tryz.underlying397
 a85:=Tryz.isAgg397
 z85:=Tryz.sizeOf397
 v85:=Tryz.zeroValue397
 t127:=Tryz.underlying419
 a127:=Tryz.isAgg419
 z127:=Tryz.sizeOf419
 v127:=Tryz.zeroValue419
 t143:=Tryz.underlying420
 a143:=Tryz.isAgg420
 z143:=Tryz.sizeOf420
 v143:=Tryz.zeroValue420
 t145:=Tryz.underlying422
 a145:=Tryz.isAgg422
 z145:=Tryz.sizeOf422
 v145:=Tryz.zeroValue422
 t167:=Tryz.underlying396
 a167:=Tryz.isAgg396
 z167:=Tryz.sizeOf396
 v167:=Tryz.zeroValue396
 t168:=Tryz.underlying399
 a168:=Tryz.isAgg399
 z168:=Tryz.sizeOf399
 v168:=Tryz.zeroValue399
 t171:=Tryz.underlying345
 a171:=Tryz.isAgg345
 z171:=Tryz.sizeOf345
 v171:=Tryz.zeroValue345
 t173:=Tryz.underlying348
 a173:=Tryz.isAgg348
 z173:=Tryz.sizeOf348
 v173:=Tryz.zeroValue348
 t175:=Tryz.underlying412
 a175:=Tryz.isAgg412
 z175:=Tryz.sizeOf412
 v175:=Tryz.zeroValue412
 t210:=Tryz.underlying416
 a210:=Tryz.isAgg416
 z210:=Tryz.sizeOf416
 v210:=Tryz.zeroValue416
 t212:=Tryz.underlying381
 a212:=Tryz.isAgg381
 z212:=Tryz.sizeOf381
 v212:=Tryz.zeroValue381
 t213:=Tryz.underlying382
 a213:=Tryz.isAgg382
 z213:=Tryz.sizeOf382
 t232:=Tryz.underlying403
 a232:=Tryz.isAgg403
 z232:=Tryz.sizeOf403
 v232:=Tryz.zeroValue403
 t233:=Tryz.underlying404
 a233:=Tryz.isAgg404
 z233:=Tryz.sizeOf404
 v233:=Tryz.zeroValue404
 g15:=by kernel_rfl
 g16:=by kernel_rfl
 g17:=by kernel_rfl
 g18:=by kernel_rfl
 g19:=by kernel_rfl
 t80:=Tryz.underlying425
 a80:=Tryz.isAgg425
 z80:=Tryz.sizeOf425
 v80:=Tryz.zeroValue425
 i0:=by kernel_rfl
 i2:=by kernel_rfl
 i3:=by kernel_rfl
 i4:=by kernel_rfl
 i5:=by kernel_rfl
 i9:=by kernel_rfl
 i20:=by kernel_rfl
 i21:=by kernel_rfl
 i37:=by kernel_rfl
 i46:=by kernel_rfl
 i51:=by kernel_rfl
 i53:=by kernel_rfl
 i75:=by kernel_rfl
 i76:=by kernel_rfl
 i80:=by kernel_rfl
 i85:=by kernel_rfl
 i127:=by kernel_rfl
 i143:=by kernel_rfl
 i145:=by kernel_rfl
 i167:=by kernel_rfl
 i168:=by kernel_rfl
 i171:=by kernel_rfl
 i173:=by kernel_rfl
 i175:=by kernel_rfl
 i210:=by kernel_rfl
 i212:=by kernel_rfl
 i232:=by kernel_rfl
 i233:=by kernel_rfl
 m15:=by kernel_rfl
 m16:=by kernel_rfl
 m17:=by kernel_rfl
 m18:=by kernel_rfl
 m19:=by kernel_rfl
 c0:=by kernel_rfl
 c2:=by kernel_rfl
 c3:=by kernel_rfl
 c4:=by kernel_rfl
 c5:=by kernel_rfl
 c9:=by kernel_rfl
 c20:=by kernel_rfl
 c21:=by kernel_rfl
 c37:=by kernel_rfl
 c46:=by kernel_rfl
 c51:=by kernel_rfl
 c53:=by kernel_rfl
 c75:=by kernel_rfl
 c76:=by kernel_rfl
 c80:=by kernel_rfl
 c85:=by kernel_rfl
 c127:=by kernel_rfl
 c143:=by kernel_rfl
 c145:=by kernel_rfl
 c167:=by kernel_rfl
 c168:=by kernel_rfl
 c171:=by kernel_rfl
 c173:=by kernel_rfl
 c175:=by kernel_rfl
 c210:=by kernel_rfl
 c212:=by kernel_rfl
 c213:=by kernel_rfl
 c232:=by kernel_rfl
 c233:=by kernel_rfl}
def oR:Go.Shelf.Ren:=⟨fun|146=>243|221=>268|268=>286|138=>287|143=>288|195=>301|197=>265|218=>302|219=>303|260=>283|217=>307|225=>300|224=>299|267=>308|266=>311|314=>312|n=>n,fun|9=>9|31=>78|3=>3|4=>4|0=>0|105=>384|21=>21|5=>5|46=>202|119=>405|139=>408|138=>407|146=>423|51=>275|n=>n,fun|1=>0|3=>4|4=>5|n=>n⟩
theorem uT:Go.Proofs.LaysM.n146 Tryz.prog oR:={
 mixed:=by kernel_rfl
 f138:=Tryz.func287.trans (congrArg some (by kernel_rfl))
 f143:=Tryz.func288.trans (congrArg some (by kernel_rfl))
 f146:=Tryz.func243.trans (congrArg some (by kernel_rfl))
 f195:=Tryz.func301.trans (congrArg some (by kernel_rfl))
 f197:=Tryz.func265.trans (congrArg some (by kernel_rfl))
 f217:=Tryz.func307.trans (congrArg some (by kernel_rfl))
 f218:=Tryz.func302.trans (congrArg some (by kernel_rfl))
 f219:=Tryz.func303.trans (congrArg some (by kernel_rfl))
 f221:=Tryz.func268.trans (congrArg some (by kernel_rfl))
 f224:=Tryz.func299.trans (congrArg some (by kernel_rfl))
 f225:=Tryz.func300.trans (congrArg some (by kernel_rfl))
 f260:=Tryz.func283.trans (congrArg some (by kernel_rfl))
 f266:=Tryz.func311.trans (congrArg some (by kernel_rfl))
 f267:=Tryz.func308.trans (congrArg some (by kernel_rfl))
 f268:=Tryz.func286.trans (congrArg some (by kernel_rfl))
 f314:=Tryz.func312.trans (congrArg some (by kernel_rfl))
 t0:=Tryz.underlying0
 a0:=Tryz.isAgg0
 z0:=Tryz.sizeOf0
 v0:=Tryz.zeroValue0
 t3:=Tryz.underlying3
 a3:=Tryz.isAgg3
 z3:=Tryz.sizeOf3
 v3:=Tryz.zeroValue3
 t4:=Tryz.underlying4
 a4:=Tryz.isAgg4
 z4:=Tryz.sizeOf4
 v4:=Tryz.zeroValue4
 t5:=Tryz.underlying5
 a5:=Tryz.isAgg5
 z5:=Tryz.sizeOf5
 v5:=Tryz.zeroValue5
 t9:=Tryz.underlying9
 a9:=Tryz.isAgg9
 z9:=Tryz.sizeOf9
 v9:=Tryz.zeroValue9
 t21:=Tryz.underlying21
 a21:=Tryz.isAgg21
 z21:=Tryz.sizeOf21
 v21:=Tryz.zeroValue21
 t31:=Tryz.underlying78
 a31:=Tryz.isAgg78
 z31:=Tryz.sizeOf78
 v31:=Tryz.zeroValue78
 t46:=Tryz.underlying202
 a46:=Tryz.isAgg202
 z46:=Tryz.sizeOf202
 v46:=Tryz.zeroValue202
 t51:=Tryz.underlying275
 a51:=Tryz.isAgg275
 z51:=Tryz.sizeOf275
 v51:=Tryz.zeroValue275
 t105:=Tryz.underlying384
 a105:=Tryz.isAgg384
 z105:=Tryz.sizeOf384
 v105:=Tryz.zeroValue384
 t119:=Tryz.underlying405
 a119:=Tryz.isAgg405
 z119:=Tryz.sizeOf405
 t138:=Tryz.underlying407
 a138:=Tryz.isAgg407
 z138:=Tryz.sizeOf407
 v138:=Tryz.zeroValue407
 t139:=Tryz.underlying408
 a139:=Tryz.isAgg408
 z139:=Tryz.sizeOf408
 v139:=Tryz.zeroValue408
 t146:=Tryz.underlying423
 a146:=Tryz.isAgg423
 z146:=Tryz.sizeOf423
 v146:=Tryz.zeroValue423
 g1:=by kernel_rfl
 g3:=by kernel_rfl
 g4:=by kernel_rfl
 i0:=by kernel_rfl
 i3:=by kernel_rfl
 i4:=by kernel_rfl
 i5:=by kernel_rfl
 i9:=by kernel_rfl
 i21:=by kernel_rfl
 i31:=by kernel_rfl
 i46:=by kernel_rfl
 i51:=by kernel_rfl
 i105:=by kernel_rfl
 i138:=by kernel_rfl
 i139:=by kernel_rfl
 i146:=by kernel_rfl
 m1:=by kernel_rfl
 s1_3:=fun w h=>Go.Proofs.cell_of_shapedOpen_int (zero:=#[.int .i64 0]) (t:=3) h (of_decide_eq_true (by kernel_rfl)) (by kernel_rfl) rfl (by kernel_rfl) (by kernel_rfl) Tryz.underlying3
 m3:=by kernel_rfl
 m4:=by kernel_rfl}
def ff:Go.Shelf.Ren:=⟨fun|146=>243|221=>268|268=>286|138=>287|143=>288|195=>301|197=>265|218=>302|219=>303|260=>283|217=>307|225=>300|224=>299|267=>308|266=>311|314=>312|n=>n,fun|9=>9|31=>78|3=>3|4=>4|0=>0|105=>384|21=>21|5=>5|46=>202|119=>405|139=>408|138=>407|146=>423|51=>275|n=>n,fun|1=>0|3=>4|4=>5|n=>n⟩
theorem wq:Go.Proofs.Lays.n146 Tryz.prog ff:={
 mixed:=by kernel_rfl
 f138:=Tryz.func287.trans (congrArg some (by kernel_rfl))
 f143:=Tryz.func288.trans (congrArg some (by kernel_rfl))
 f146:=Tryz.func243.trans (congrArg some (by kernel_rfl))
 f195:=Tryz.func301.trans (congrArg some (by kernel_rfl))
 f197:=Tryz.func265.trans (congrArg some (by kernel_rfl))
 f217:=Tryz.func307.trans (congrArg some (by kernel_rfl))
 f218:=Tryz.func302.trans (congrArg some (by kernel_rfl))
 f219:=Tryz.func303.trans (congrArg some (by kernel_rfl))
 f221:=Tryz.func268.trans (congrArg some (by kernel_rfl))
 f224:=Tryz.func299.trans (congrArg some (by kernel_rfl))
 f225:=Tryz.func300.trans (congrArg some (by kernel_rfl))
 f260:=Tryz.func283.trans (congrArg some (by kernel_rfl))
 f266:=Tryz.func311.trans (congrArg some (by kernel_rfl))
 f267:=Tryz.func308.trans (congrArg some (by kernel_rfl))
 f268:=Tryz.func286.trans (congrArg some (by kernel_rfl))
 f314:=Tryz.func312.trans (congrArg some (by kernel_rfl))
 t0:=Tryz.underlying0
 a0:=Tryz.isAgg0
 z0:=Tryz.sizeOf0
 v0:=Tryz.zeroValue0
 t3:=Tryz.underlying3
 a3:=Tryz.isAgg3
 z3:=Tryz.sizeOf3
 v3:=Tryz.zeroValue3
 t4:=Tryz.underlying4
 a4:=Tryz.isAgg4
 z4:=Tryz.sizeOf4
 v4:=Tryz.zeroValue4
 t5:=Tryz.underlying5
 a5:=Tryz.isAgg5
 z5:=Tryz.sizeOf5
 v5:=Tryz.zeroValue5
 t9:=Tryz.underlying9
 a9:=Tryz.isAgg9
 z9:=Tryz.sizeOf9
 v9:=Tryz.zeroValue9
 t21:=Tryz.underlying21
 a21:=Tryz.isAgg21
 z21:=Tryz.sizeOf21
 v21:=Tryz.zeroValue21
 t31:=Tryz.underlying78
 a31:=Tryz.isAgg78
 z31:=Tryz.sizeOf78
 v31:=Tryz.zeroValue78
 t46:=Tryz.underlying202
 a46:=Tryz.isAgg202
 z46:=Tryz.sizeOf202
 v46:=Tryz.zeroValue202
 t51:=Tryz.underlying275
 a51:=Tryz.isAgg275
 z51:=Tryz.sizeOf275
 v51:=Tryz.zeroValue275
 t105:=Tryz.underlying384
 a105:=Tryz.isAgg384
 z105:=Tryz.sizeOf384
 v105:=Tryz.zeroValue384
 t119:=Tryz.underlying405
 a119:=Tryz.isAgg405
 z119:=Tryz.sizeOf405
 t138:=Tryz.underlying407
 a138:=Tryz.isAgg407
 z138:=Tryz.sizeOf407
 v138:=Tryz.zeroValue407
 t139:=Tryz.underlying408
 a139:=Tryz.isAgg408
 z139:=Tryz.sizeOf408
 v139:=Tryz.zeroValue408
 t146:=Tryz.underlying423
 a146:=Tryz.isAgg423
 z146:=Tryz.sizeOf423
 v146:=Tryz.zeroValue423
 g1:=by kernel_rfl
 g3:=by kernel_rfl
 g4:=by kernel_rfl}
def kg:Go.Shelf.Ren:=⟨fun|101=>245|208=>271|206=>294|n=>n,fun|9=>9|4=>4|3=>3|n=>n,fun|n=>n⟩
theorem wm:Go.Proofs.Lays.n101 Tryz.prog kg:={
 mixed:=by kernel_rfl
 f101:=Tryz.func245.trans (congrArg some (by kernel_rfl))
 f206:=Tryz.func294.trans (congrArg some (by kernel_rfl))
 f208:=Tryz.func271.trans (congrArg some (by kernel_rfl))
 t3:=Tryz.underlying3
 a3:=Tryz.isAgg3
 z3:=Tryz.sizeOf3
 v3:=Tryz.zeroValue3
 t4:=Tryz.underlying4
 a4:=Tryz.isAgg4
 z4:=Tryz.sizeOf4
 v4:=Tryz.zeroValue4
 t9:=Tryz.underlying9
 a9:=Tryz.isAgg9
 z9:=Tryz.sizeOf9
 v9:=Tryz.zeroValue9}
def jT:Go.Shelf.Ren:=⟨fun|190=>57|125=>106|258=>108|128=>163|129=>164|302=>165|303=>166|304=>167|305=>168|306=>169|307=>170|308=>171|309=>172|310=>173|333=>213|329=>209|330=>210|334=>214|335=>215|336=>107|344=>252|n=>n,fun|31=>78|9=>9|3=>3|46=>202|0=>0|51=>275|53=>277|4=>4|183=>269|182=>268|131=>163|5=>5|218=>322|222=>326|228=>372|229=>209|n=>n,fun|n=>n⟩
theorem oK:Go.Proofs.Lays.n190 Tryz.prog jT:={
 mixed:=by kernel_rfl
 f125:=Tryz.func106.trans (congrArg some (by kernel_rfl))
 f128:=Tryz.func163.trans (congrArg some (by kernel_rfl))
 f129:=Tryz.func164.trans (congrArg some (by kernel_rfl))
 f190:=Tryz.func57.trans (congrArg some (by kernel_rfl))
 f258:=Tryz.func108.trans (congrArg some (by kernel_rfl))
 f302:=Tryz.func165.trans (congrArg some (by kernel_rfl))
 f303:=Tryz.func166.trans (congrArg some (by kernel_rfl))
 f304:=Tryz.func167.trans (congrArg some (by kernel_rfl))
 f305:=Tryz.func168.trans (congrArg some (by kernel_rfl))
 f306:=Tryz.func169.trans (congrArg some (by kernel_rfl))
 f307:=Tryz.func170.trans (congrArg some (by kernel_rfl))
 f308:=Tryz.func171.trans (congrArg some (by kernel_rfl))
 f309:=Tryz.func172.trans (congrArg some (by kernel_rfl))
 f310:=Tryz.func173.trans (congrArg some (by kernel_rfl))
 f329:=Tryz.func209.trans (congrArg some (by kernel_rfl))
 f330:=Tryz.func210.trans (congrArg some (by kernel_rfl))
 f333:=Tryz.func213.trans (congrArg some (by kernel_rfl))
 f334:=Tryz.func214.trans (congrArg some (by kernel_rfl))
 f335:=Tryz.func215.trans (congrArg some (by kernel_rfl))
 f336:=Tryz.func107.trans (congrArg some (by kernel_rfl))
 f344:=Tryz.func252.trans (congrArg some (by kernel_rfl))
 t0:=Tryz.underlying0
 a0:=Tryz.isAgg0
 z0:=Tryz.sizeOf0
 v0:=Tryz.zeroValue0
 t3:=Tryz.underlying3
 a3:=Tryz.isAgg3
 z3:=Tryz.sizeOf3
 v3:=Tryz.zeroValue3
 t4:=Tryz.underlying4
 a4:=Tryz.isAgg4
 z4:=Tryz.sizeOf4
 v4:=Tryz.zeroValue4
 t5:=Tryz.underlying5
 a5:=Tryz.isAgg5
 z5:=Tryz.sizeOf5
 v5:=Tryz.zeroValue5
 t9:=Tryz.underlying9
 a9:=Tryz.isAgg9
 z9:=Tryz.sizeOf9
 v9:=Tryz.zeroValue9
 t31:=Tryz.underlying78
 a31:=Tryz.isAgg78
 z31:=Tryz.sizeOf78
 v31:=Tryz.zeroValue78
 t46:=Tryz.underlying202
 a46:=Tryz.isAgg202
 z46:=Tryz.sizeOf202
 v46:=Tryz.zeroValue202
 t51:=Tryz.underlying275
 a51:=Tryz.isAgg275
 z51:=Tryz.sizeOf275
 v51:=Tryz.zeroValue275
 t53:=Tryz.underlying277
 a53:=Tryz.isAgg277
 z53:=Tryz.sizeOf277
 v53:=Tryz.zeroValue277
 t131:=Tryz.underlying163
 a131:=Tryz.isAgg163
 z131:=Tryz.sizeOf163
 v131:=Tryz.zeroValue163
 t182:=Tryz.underlying268
 a182:=Tryz.isAgg268
 z182:=Tryz.sizeOf268
 v182:=Tryz.zeroValue268
 t183:=Tryz.underlying269
 a183:=Tryz.isAgg269
 z183:=Tryz.sizeOf269
 v183:=Tryz.zeroValue269
 t218:=Tryz.underlying322
 a218:=Tryz.isAgg322
 z218:=Tryz.sizeOf322
 v218:=Tryz.zeroValue322
 t222:=Tryz.underlying326
 a222:=Tryz.isAgg326
 z222:=Tryz.sizeOf326
 v222:=Tryz.zeroValue326
 t228:=Tryz.underlying372
 a228:=Tryz.isAgg372
 z228:=Tryz.sizeOf372
 v228:=Tryz.zeroValue372
 t229:=Tryz.underlying209
 a229:=Tryz.isAgg209
 z229:=Tryz.sizeOf209
 v229:=Tryz.zeroValue209}
end Go.Proofs
set_option maxRecDepth 20000
namespace Go.Proofs.YtodakofifpaljaaGreatDoor
open Go Go.Eng
def Ev:OL:= [(0,[]),(1,[]),(2,[]),(3,[]),(4,[]),(5,rg 5),(6,rg 5),(7,rg 5),(8,rg 5),(9,rg 5),(10,[]),(11,[])]
def EI:OL:= [(0,[]),(1,[]),(2,[]),(3,[]),(4,[]),(5,rg 5),(6,rg 5),(7,rg 5),(8,rg 5),(9,rg 5),(10,[]),(11,[])]
def FW:List Nat:= [129,68,55,177,198,262,107,370,57,109,235]
theorem F4:FW.all (nB Tryz.prog)=true:=by decide+kernel
noncomputable def T:ci:=GV Tryz.prog (mem FW)
theorem hT:aP Tryz.prog T:=⟨mem FW,fun _ _ h=>h,fun t ht=>List.all_eq_true.1 F4 t ((mem_iff _ _).1 ht)⟩
abbrev i64 (n:Int):DV:=.int .i64 n
def bj (n:Nat)(L:Nat→Int)(at':Int):aY:=.cells 25 [.d (.ro 1 n fun i=> [.int .i64 (L i)]),.d (.int .i64 at')]
def sB (n:Nat)(L:Nat→Int):Prop:=n≤maxLen∧∀i,-2^63≤L i∧L i<2^63
theorem K0 (x n:Int)(hn:n≤2^40):ai Tryz.prog 48 [.d (.int .i64 x),.d (.int .i64 n)] [] (fun y r=>(∃m:Int,0≤m∧(1≤n→m<n)∧(n<1→m=0)∧y= .d (.int .i64 m))∧r= []):=by
 refine af hT (C:= []) Tryz.func48 rfl Tryz.call48 rfl rfl rfl ?_;conv=>whnf
 refine aa (fun h=> ?_) (fun h=> ?_)
 · conv=>whnf
   refine .ret _ ?_;conv=>whnf
   refine⟨[],⟨⟨_,?_,?_,?_,rfl⟩,rfl⟩,trivial⟩;all_goals (simp at h;omega)
 · conv=>whnf
   refine⟨?_,?_⟩
   · simp at h;omega
   conv=>whnf
   simp at h;have h1:=Int.tmod_lt_of_pos x (b:=n) (by omega);have h2:=Int.lt_tmod_of_pos x (b:=n) (by omega);refine aa (fun h2=> ?_) (fun h2=> ?_)
   · conv=>whnf
     simp at h2;refine⟨?_,?_⟩
     · unfold aF;omega
     · conv=>whnf
       refine .ret _ ?_;conv=>whnf
       refine⟨[],⟨⟨_,?_,?_,?_,rfl⟩,rfl⟩,trivial⟩;all_goals omega
   · conv=>whnf
     simp at h2;refine .ret _ ?_;conv=>whnf
     refine⟨[],⟨⟨_,?_,?_,?_,rfl⟩,rfl⟩,trivial⟩;all_goals omega
theorem NN {a n:Int}(h0:0≤a)(hn:1≤n):0≤a.tdiv n∧a.tdiv n≤a∧0≤a.tmod n∧a.tmod n<n∧0≤a.tdiv n*a.tmod n∧a.tdiv n*a.tmod n≤a∧a.tmod n≤a:=by
 have h1:0≤a.tdiv n:=Int.tdiv_nonneg h0 (by omega);have h2:0≤a.tmod n:=Int.tmod_nonneg _ h0;have h3:a.tmod n<n:=Int.tmod_lt_of_pos _ (by omega);have h4:=Int.tmod_add_mul_tdiv a n;have h5:a.tdiv n*1≤a.tdiv n*n:=Int.mul_le_mul_of_nonneg_left hn h1;have h6:a.tdiv n*a.tmod n≤a.tdiv n*n:=Int.mul_le_mul_of_nonneg_left (by omega) h1;have h7:0≤a.tdiv n*a.tmod n:=Int.mul_nonneg h1 h2;rw[Int.mul_comm]at h4;have h8:0≤a.tdiv n*n:=Int.mul_nonneg h1 (by omega);refine⟨h1,?_,h2,h3,h7,?_,?_⟩<;>omega
theorem EP (n:Nat)(L:Nat→Int)(hL:sB n L)(a:Int)(h0:0≤a)(ha:a≤2^40)(m:Int)(hm:m≤2^40):
 ai Tryz.prog 22 [.ptr 1000000 0,.d (.int .i64 m)] [(1000000,bj n L a)] (fun y r=>(∃j:Int,0≤j∧(1≤m→j<m)∧(m<1→j=0)∧y= .d (.int .i64 j))∧r= [(1000000,bj n L (a+1))]):=by
 refine af hT (C:= []) Tryz.func22 rfl Tryz.call22 rfl rfl rfl ?_;conv=>whnf
 refine⟨by unfold aF;omega,?_⟩;conv=>whnf
 refine aa (fun h=> ?_) (fun h=> ?_)
 · conv=>whnf
   refine⟨by unfold aF;omega,?_⟩;conv=>whnf
   refine fz.of (K0 _ _ hm) [] rfl ⟨lr,lr,trivial⟩ trivial rfl rfl ?_;rintro x rout ⟨⟨j,j1,j2,j3,rfl⟩,rfl⟩;refine⟨rfl,?_⟩;conv=>whnf
   refine .ret _ ?_;conv=>whnf
   exact⟨[(1000000,bj n L (a+1))],⟨⟨_,j1,j2,j3,rfl⟩,rfl⟩,rr,trivial⟩
 · conv=>whnf
   simp at h;have hnp:(1:Int)≤n:=by omega
   refine a8 hT rfl [] Ev (by decide+kernel) ?_;conv=>whnf
   refine⟨by unfold aF;omega,?_⟩;conv=>whnf
   refine⟨by omega,?_⟩;conv=>whnf
   have ea:a+1 - 1=a:=by omega
   obtain⟨b1,b2,b3,b4,b5,b6,b7⟩:=NN h0 hnp;refine a8 hT rfl [] EI (by decide+kernel) ?_;conv=>whnf
   refine⟨by unfold aF;omega,?_⟩;conv=>whnf
   refine⟨by omega,?_⟩;conv=>whnf
   refine⟨by unfold aF;rw[ea];omega,?_⟩;conv=>whnf
   rw[ea];refine⟨⟨b3,b4⟩,?_⟩;conv=>whnf
   refine fz.of (K0 _ _ (by omega)) [] rfl ⟨lr,lr,trivial⟩ trivial rfl rfl ?_;rintro x rout ⟨⟨j,j1,j2,j3,rfl⟩,rfl⟩;refine⟨rfl,?_⟩;conv=>whnf
   refine⟨by unfold aF;omega,?_⟩;conv=>whnf
   have e2:a.tdiv n*(7919+a.tmod n)=7919*a.tdiv n+a.tdiv n*a.tmod n:=by rw[Int.mul_add,Int.mul_comm _ 7919]
   rw[e2];refine⟨by unfold aF;omega,?_⟩;conv=>whnf
   refine⟨by unfold aF;omega,?_⟩;conv=>whnf
   refine fz.of (K0 _ _ hm) [] rfl ⟨lr,lr,trivial⟩ trivial rfl rfl ?_;rintro x rout ⟨⟨j,k1,k2,k3,rfl⟩,rfl⟩;refine⟨rfl,?_⟩;conv=>whnf
   refine .ret _ ?_;conv=>whnf
   exact⟨[(1000000,bj n L (a+1))],⟨⟨_,k1,k2,k3,rfl⟩,rfl⟩,rr,trivial⟩
def ik (n:Nat)(L:Nat→Int)(a:Int)(c:Int)(r:List (Nat×aY)):Prop:=∃b,a≤b∧b≤a+c∧r= [(1000000,bj n L b)]
theorem QT (n:Nat)(L:Nat→Int)(hL:sB n L)(a:Int)(h0:0≤a)(ha:a≤2^40)(lo hi:Int)(h1: -2^41≤lo)(h2:hi≤lo+2^40 - 1)(h3:lo≤2^41)(h4:lo≤hi):
 ai Tryz.prog 6 [.ptr 1000000 0,.d (.int .i64 lo),.d (.int .i64 hi)] [(1000000,bj n L a)] (fun y r=>(∃j:Int,lo≤j∧j≤hi∧y= .d (.int .i64 j))∧ik n L a 1 r):=by
 refine af hT (C:= []) Tryz.func6 rfl Tryz.call6 rfl rfl rfl ?_;conv=>whnf
 refine aa (fun h=> ?_) (fun h=> ?_)
 · simp at h;omega
 conv=>whnf
 refine⟨by unfold aF;omega,?_⟩;conv=>whnf
 refine⟨by unfold aF;omega,?_⟩;conv=>whnf
 refine fz.of (EP n L hL a h0 ha _ (by omega)) [(1000000,1000000)] rfl ⟨lr,lr,trivial⟩ ⟨rr,trivial⟩ rfl rfl ?_;rintro x rout ⟨⟨j,k1,k2,k3,rfl⟩,rfl⟩;refine⟨rfl,?_⟩;conv=>whnf
 refine⟨by unfold aF;omega,?_⟩;conv=>whnf
 refine .ret _ ?_;conv=>whnf
 exact⟨[(1000000,bj n L (a+1))],⟨⟨_,by omega,by omega,rfl⟩,a+1,by omega,by omega,rfl⟩,rr,trivial⟩
theorem CD (n:Nat)(L:Nat→Int)(hL:sB n L)(a:Int)(h0:0≤a)(ha:a≤2^40)(m:Int)(hm:m≤2^40):
 ai Tryz.prog 34 [.ptr 1000000 0,.d (.int .i64 m)] [(1000000,bj n L a)] (fun y r=>(∃b:Bool,y= .d (.bool b))∧ik n L a 1 r):=by
 refine af hT (C:= []) Tryz.func34 rfl Tryz.call34 rfl rfl rfl ?_;conv=>whnf
 refine fz.of (EP n L hL a h0 ha _ (by omega)) [(1000000,1000000)] rfl ⟨lr,lr,trivial⟩ ⟨rr,trivial⟩ rfl rfl ?_;rintro x rout ⟨⟨j,k1,k2,k3,rfl⟩,rfl⟩;refine⟨rfl,?_⟩;conv=>whnf
 refine .ret _ ?_;conv=>whnf
 exact⟨[(1000000,bj n L (a+1))],⟨⟨_,rfl⟩,a+1,by omega,by omega,rfl⟩,rr,trivial⟩
theorem jL (n:Nat)(L:Nat→Int)(hL:sB n L)(a:Int)(h0:0≤a)(ha:a≤2^40)(l:List Int)(hl:1≤l.length)(hl2:l.length≤2^40):
 ai Tryz.prog 40 [.ptr 1000000 0,.d (dC l)] [(1000000,bj n L a)] (fun y r=>(∃x ∈ l,y= .d (.int .i64 x))∧ik n L a 1 r):=by
 refine af hT (C:= []) Tryz.func40 rfl Tryz.call40 rfl rfl rfl ?_;conv=>whnf
 refine cj (EP n L hL a h0 ha l.length (by omega)) [(1000000,1000000)] ?_;rintro x rout ⟨⟨j,k1,k2,k3,rfl⟩,rfl⟩;refine⟨rfl,?_⟩;conv=>whnf
 refine⟨⟨k1,by omega⟩,?_⟩;conv=>whnf
 refine .ret _ ?_;conv=>whnf
 exact⟨[(1000000,bj n L (a+1))],⟨⟨_,aq (by omega),rfl⟩,a+1,by omega,by omega,rfl⟩,rr,trivial⟩
theorem ua (n:Nat)(L:Nat→Int)(hL:sB n L)(a:Int)(h0:0≤a)(ha:a≤2^40)(l:List (List UInt8))(hl:1≤l.length)(hl2:l.length≤2^40):
 ai Tryz.prog 17 [.ptr 1000000 0,.d (ir l)] [(1000000,bj n L a)] (fun y r=>(∃x ∈ l,y= .d (.str x))∧ik n L a 1 r):=by
 refine af hT (C:= []) Tryz.func17 rfl Tryz.call17 rfl rfl rfl ?_;conv=>whnf
 refine cj (EP n L hL a h0 ha l.length (by omega)) [(1000000,1000000)] ?_;rintro x rout ⟨⟨j,k1,k2,k3,rfl⟩,rfl⟩;refine⟨rfl,?_⟩;conv=>whnf
 refine⟨⟨k1,by omega⟩,?_⟩;conv=>whnf
 refine .ret _ ?_;conv=>whnf
 exact⟨[(1000000,bj n L (a+1))],⟨⟨_,aq (by omega),rfl⟩,a+1,by omega,by omega,rfl⟩,rr,trivial⟩
theorem ik.trans {n:Nat}{L:Nat→Int}{a c:Int}{r:List (Nat×aY)}{b d:Int}(h1:a≤b)(h2:b+d≤a+c)(h:ik n L b d r):ik n L a c r:=by
 obtain⟨e,q1,q2,rfl⟩:=h;exact⟨e,by omega,by omega,rfl⟩
theorem oe (n:Nat)(L:Nat→Int)(hL:sB n L)(a:Int)(h0:0≤a)(ha:a≤2^39)(lo hi:Int)(h1: -2^38≤lo)(h2:lo≤hi)(h3:hi≤2^39):
 ai Tryz.prog 42 [.ptr 1000000 0,.d (.int .i64 lo),.d (.int .i64 hi)] [(1000000,bj n L a)] (fun y r=>(∃j:Int,-2^40≤j∧j≤2^40∧y= .d (.int .i64 j))∧ik n L a 2 r):=by
 refine af hT (C:= []) Tryz.func42 rfl Tryz.call42 rfl rfl rfl ?_;conv=>whnf
 refine cj (CD n L hL a h0 (by omega) 12 (by omega)) [(1000000,1000000)] ?_;rintro x rout ⟨⟨f,rfl⟩,⟨b,b1,b2,rfl⟩⟩;refine⟨rfl,?_⟩;conv=>whnf
 refine aa (fun hf=> ?_) (fun hf=> ?_)
 · conv=>whnf
   refine⟨by unfold aF;omega,?_⟩;conv=>whnf
   refine⟨by unfold aF;omega,?_⟩;conv=>whnf
   refine fz.of (jL n L hL b (by omega) (by omega) [lo - 1,hi+1,lo,hi,-1099511627776,1099511627776] (by simp) (by simp)) [(1000000,1000000)] rfl ⟨lr,aj (by rfl) (by rfl),trivial⟩ ⟨rr,trivial⟩ rfl rfl ?_;rintro x rout ⟨⟨j,hj,rfl⟩,⟨c,c1,c2,rfl⟩⟩;refine⟨rfl,?_⟩;conv=>whnf
   refine .ret _ ?_;conv=>whnf
   exact⟨[(1000000,bj n L c)],⟨⟨j,by simp at hj;omega,by simp at hj;omega,rfl⟩,c,by omega,by omega,rfl⟩,rr,trivial⟩
 · conv=>whnf
   refine cj (QT n L hL b (by omega) (by omega) lo hi (by omega) (by omega) (by omega) h2) [(1000000,1000000)] ?_;rintro x rout ⟨⟨j,j1,j2,rfl⟩,⟨c,c1,c2,rfl⟩⟩;refine⟨rfl,?_⟩;conv=>whnf
   refine .ret _ ?_;conv=>whnf
   exact⟨[(1000000,bj n L c)],⟨⟨j,by omega,by omega,rfl⟩,c,by omega,by omega,rfl⟩,rr,trivial⟩
end Go.Proofs.YtodakofifpaljaaGreatDoor
namespace Go.Eng
open Go
end Go.Eng
namespace Go.Eng
open Go
theorem DZ {G:Hp}{w:World}{e k n:Nat}{get:Nat→List DV}{v:Value}{xs:List Value}(hown:w.ownsRow 0 e k v n xs)(hlen:∀i,i<n→(get i).length=k)
 (hden:∀i j x,i<n→(get i)[j]? =some x→∃u,xs[i*k+j]? =some u∧aL G x u)(hgn:∀b,io v=some b→G b=none):
 ∃G',G.le G'∧(∀b o,G' b=some o→G b=some o∨(io v=some b∧w.heap[b]? =some o))∧aL G' (.ro k n get) v:=by
 rcases hown.2 with⟨rfl,rfl⟩|⟨g,cap,cur,rfl,_,hg,hnc,hcm,hcs,htake⟩
 · exact⟨G,Hp.le_refl G,fun b o e=>.inl e,.ronil _ _⟩
 · have hle:G.le (G.add g (.cells cur e (0,0))):=iR (hgn g rfl);refine⟨_,hle,?_,?_⟩
   · intro b o hb;unfold Hp.add at hb;split at hb
     · rename_i q;subst q;cases hb;exact .inr ⟨rfl,hg⟩
     · exact .inl hb
   · refine .ro k n get _ cap (fun i j=>xs.getD (i*k+j) Go.undef) rfl hnc hcm hlen ?_ ?_
     · intro i j x hi hx;obtain⟨u,hu,_⟩:=hden i j x hi hx
       have hlt:i*k+j<n*k:=by
        have:=(List.getElem?_eq_some_iff.1 hx).1;rw[hlen i hi]at this
        calc i*k+j<i*k+k:=by omega
         _=(i+1)*k:=by rw[Nat.add_mul,Nat.one_mul]
         _≤n*k:=Nat.mul_le_mul_right _ hi
       refine⟨cur,e,(0,0),?_,?_,?_⟩
       · rw[Addr.add_block];simp[Hp.add]
       · exact cY _ rfl _
       · rw[Addr.add_lit];simp only[Nat.zero_add];rw[←htake,List.getElem?_take_of_lt hlt]at hu;rw[←Array.getElem?_toList,hu];rw[←htake,List.getD_eq_getElem?_getD,List.getElem?_take_of_lt hlt,hu];rfl
     · intro i j x hi hx;obtain⟨u,hu,hd⟩:=hden i j x hi hx;rw[List.getD_eq_getElem?_getD,hu];exact hd.mono hle
def DV.flat:DV→Bool
 | .bool _| .int .. | .str _| .nilsl=>true
 |_=>false
theorem aL.flat {G G':Hp}{x:DV}{v:Value}(h:aL G x v)(hf:x.flat=true):aL G' x v:=by
 cases h<;>first|(constructor;done)|(cases hf)
def SV.flat1 (d:Nat):SV→Bool
 | .d x=>x.flat
 | .buf c=> !(Nat.beq c d)
 |_=>false
def SV.flat (d:Nat):SV→Bool
 | .agg l=>l.all (SV.flat1 d)
 | .tup l=>l.all (SV.flat1 d)
 |x=>SV.flat1 d x
theorem ap.flat1 {G G':Hp}{β β':fk}{d:Nat}(hb:∀c,c≠d→β' c=β c){x:SV}{v:Value}(h:ap G β x v)(hf:SV.flat1 d x=true):ap G' β' x v:=by
 cases h with
 |d x v hx=>exact .d _ _ (hx.flat hf)
 | buf c v hv h1=>
   refine .buf _ _ ?_ h1
   rw[hb c (by rintro rfl;simp[SV.flat1]at hf)];exact hv
 |_=>cases hf
theorem ap.flat {G G':Hp}{β β':fk}{d:Nat}(hb:∀c,c≠d→β' c=β c){x:SV}{v:Value}(h:ap G β x v)(hf:SV.flat d x=true):ap G' β' x v:=by
 cases h with
 | agg l vs hl h=>
   refine .agg _ _ hl (fun i x v hx hv=>(h i x v hx hv).flat1 hb ?_)
   exact List.all_eq_true.1 hf x (List.mem_of_getElem? hx)
 | tup l vs hl h=>
   refine .tup _ _ hl (fun i x v hx hv=>(h i x v hx hv).flat1 hb ?_)
   exact List.all_eq_true.1 hf x (List.mem_of_getElem? hx)
 |d x v hx=>exact(ap.d (β:=β) x v hx).flat1 (d:=d) hb hf
 |buf c v hv h1=>exact(ap.buf (G:=G) c v hv h1).flat1 hb hf
 |_=>cases hf
def SV.nod1 (d:Nat):SV→Bool
 | .d _=>true
 | .buf c=> !(Nat.beq c d)
 |_=>false
def SV.nod (d:Nat):SV→Bool
 | .agg l=>l.all (SV.nod1 d)
 |x=>SV.nod1 d x
theorem ap.nod1 {G:Hp}{β β':fk}{d:Nat}(hb:∀c,c≠d→β' c=β c){x:SV}{v:Value}(h:ap G β x v)(hf:SV.nod1 d x=true):ap G β' x v:=by
 cases h with
 |d x v hx=>exact .d _ _ hx
 | buf c v hv h1=>
   refine .buf _ _ ?_ h1
   rw[hb c (by rintro rfl;simp[SV.nod1]at hf)];exact hv
 |_=>cases hf
theorem ap.nod {G:Hp}{β β':fk}{d:Nat}(hb:∀c,c≠d→β' c=β c){x:SV}{v:Value}(h:ap G β x v)(hf:SV.nod d x=true):ap G β' x v:=by
 cases h with
 | agg l vs hl h=>
   refine .agg _ _ hl (fun i x v hx hv=>(h i x v hx hv).nod1 hb ?_)
   exact List.all_eq_true.1 hf x (List.mem_of_getElem? hx)
 |d x v hx=>exact(ap.d (β:=β) x v hx).nod1 (d:=d) hb hf
 |buf c v hv h1=>exact(ap.buf (G:=G) c v hv h1).nod1 hb hf
 |_=>cases hf
def aY.isBuf:aY→Prop
 | .buf .. =>True
 |_=>False
def aY.flat:aY→Prop
 | .buf _ _ n g=>∀i,i<n→(g i).all DV.flat=true
 |_=>False
theorem ec.flat {G G':Hp}{β β':fk}{w:World}{c:Nat}{r:aY}(hb:β' c=β c)(h:ec G β w c r)(hf:r.flat):ec G' β' w c r:=by
 cases r with
 | buf e k n g=>
   obtain⟨v,xs,h1,h2,h3,h4,h5⟩:=h;refine⟨v,xs,hb.trans h1,h2,h3,h4,fun i j x hi hx=> ?_⟩;obtain⟨u,hu,hd⟩:=h5 i j x hi hx
   exact⟨u,hu,hd.flat (List.all_eq_true.1 (hf i hi) x (List.mem_of_getElem? hx))⟩
 |_=>exact hf.elim
theorem nW {P:Program}{f:FuncId}{args:List SV}{rin:List (Nat×aY)}{post:SV→List (Nat×aY)→Prop}(d e kk n:Nat)(g:Nat→List DV)
 (h:ai P f (args.map (Hk d kk n g)) rin post)(hd:aE rin d=none)(hrin:∀c r,aE rin c=some r→r.isBuf)(hn:(args.map (Hk d kk n g)).all (SV.nod d)=true)
 (hf:∀x r,post x r→x.flat d=true∧(∀c q,aE r c=some q→q.flat)∧aE r d=none):
 ai P f args ((d,.buf e kk n g)::rin) (fun x r=>∃r0,post x r0∧r=(d,.buf e kk n g)::r0):=by
 refine⟨h.enter,fun G β w vs hpre hvl hvd=> ?_⟩
 have hR:∀ (l:List (Nat×aY)) c,aE ((d,aY.buf e kk n g)::l) c=if c=d then some (.buf e kk n g)else aE l c:=by
  intro l c;simp only[aE]
  by_cases q:c=d
  · subst q;simp
  · rw[ax q];simp[q]
 have hdd:aE ((d,aY.buf e kk n g)::rin) d=some (.buf e kk n g):=by rw[hR];simp
 have hne:∀ {c r},aE rin c=some r→c≠d:=by rintro c r q rfl;rw[hd]at q;cases q
 have hin:∀ {c r},aE rin c=some r→aE ((d,aY.buf e kk n g)::rin) c=some r:=by
  intro c r q;rw[hR,if_neg (hne q)];exact q
 have hrd:=hpre.rs d _ hdd;obtain⟨v,xs,hv,hown,hk,hlen,hden⟩:=hrd;obtain⟨G2,hle2,hg2,hro⟩:=DZ (G:=G) hown hlen hden (fun b hb=>hpre.og d _ v b hdd rfl hv (.of hb))
 let β0:fk:=fun c=>if c=d then none else β c
 have hb0:∀c,c≠d→β0 c=β c:=fun c q=>by simp[β0,q]
 have hle0:β0.le β:=by
  intro c u hu
  by_cases q:c=d
  · subst q;simp[β0]at hu
  · rw[hb0 c q]at hu;exact hu
 have hpre2:Nd G2 β0 w (aE rin):=by
  refine⟨fun b o q=> ?_,fun c r q=> ?_,fun c c' r r' v v' b e1 e2 o1 o2 f1 f2 b1 b2=> ?_,fun c r u b q o1 f1 b1=> ?_,fun c u q=> ?_⟩
  · rcases hg2 b o q with p|p
    · exact hpre.gw b o p
    · exact p.2
  · have:=hpre.rs c r (hin q);have k1:=this.keep (w':=w) hle2 (fk.le_refl β) (fun _ _ _ _ _=>rfl);have hc:=hne q
    cases r with
    |buf e' k' n' g' =>obtain⟨v',xs',q1,q2⟩:=k1;exact⟨v',xs',(hb0 c hc).trans q1,q2⟩
    |_=>exact(hrin c _ q).elim
  · exact hpre.dj c c' r r' v v' b (hin e1) (hin e2) o1 o2 (hle0 _ _ f1) (hle0 _ _ f2) b1 b2
  · have h1:=hpre.og c r u b (hin q) o1 (hle0 _ _ f1) b1
    cases hg:G2 b with
    |none=>rfl
    | some o=>
      rcases hg2 b o hg with p|p
      · rw[h1]at p;cases p
      · exact absurd (hpre.dj c d r _ u v b (hin q) hdd o1 rfl (hle0 _ _ f1) hv b1 (.of p.1)) (hne q)
  · have hc:c≠d:=by rintro rfl;simp[β0]at q
    obtain⟨r,hr⟩:=hpre.sc c u (hle0 _ _ q);rw[hR,if_neg hc]at hr;exact⟨r,hr⟩
 have hcall:=h.calls G2 β0 w vs hpre2 (by simpa using hvl) (fun i y u hy hu=>by
  have fc:=List.all_eq_true.1 hn y (List.mem_of_getElem? hy);rw[List.getElem?_map]at hy
  cases hx:args[i]? with
  |none=>rw[hx]at hy;cases hy
  | some x=>
    rw[hx]at hy;simp only[Option.map_some,Option.some.injEq]at hy;subst hy
    exact(C9 ⟨v,hv,hro⟩ ((hvd i x u hx hu).mono hle2 (fk.le_refl β))).nod hb0 fc)
 have hsub:∀b,Eg w β0 (aE rin) b→Eg w β (aE ((d,aY.buf e kk n g)::rin)) b:=by
  rintro b ⟨c,r,u,e1,o1,f1,b1⟩;exact⟨c,r,u,hin e1,o1,hle0 _ _ f1,b1⟩
 have hnT:∀b,io v=some b→¬Eg w β0 (aE rin) b:=by
  rintro b hb ⟨c,r,u,e1,o1,f1,b1⟩;exact hne e1 (hpre.dj c d r _ u v b (hin e1) hdd o1 rfl (hle0 _ _ f1) hv b1 (.of hb))
 have hlt:∀b,io v=some b→b<w.heap.size:=fun b hb=>(hpre.rs d _ hdd).lt rfl hv (.of hb)
 refine hcall.mono ?_;rintro ex w' ⟨u,x,rout,G',β',he,hpost,ho,hx⟩;obtain⟨f1,f2,f3⟩:=hf x rout hpost
 let β'':fk:=fun c=>if c=d then β d else β' c
 have hb2:∀c,c≠d→β'' c=β' c:=fun c q=>by simp[β'',q]
 have hbd:β'' d=β d:=by simp[β'']
 have hne':∀ {c r},aE ((d,aY.buf e kk n g)::rout) c=some r→c≠d→aE rout c=some r:=by
  intro c r q hc;rw[hR,if_neg hc]at q;exact q
 have hrd':∀ {r},aE ((d,aY.buf e kk n g)::rout) d=some r→r= .buf e kk n g:=by
  intro r q;rw[hR,if_pos rfl]at q;cases q;rfl
 have hele:β.le β'':=by
  intro c u hu
  by_cases q:c=d
  · subst q;rw[hbd];exact hu
  · rw[hb2 c q];exact ho.ele c u (by rw[hb0 c q];exact hu)
 refine⟨u,x,(d,.buf e kk n g)::rout,G,β'',he,⟨rout,hpost,rfl⟩,⟨Hp.le_refl G,hele,fun b o q=>ho.gw b o (ho.gle b o (hle2 b o q)),fun b o q=>.inl q,?_,fun c r q=> ?_,?_,?_⟩,hx.flat hb2 f1⟩
 · exact⟨ho.keep.os,ho.keep.tape,ho.keep.output,ho.keep.size,fun b q1 q2=>ho.keep.block b q1 (fun q3=>q2 (hsub b q3))⟩
 · by_cases hc:c=d
   · subst hc;rw[hrd' q]
     exact(hpre.rs c _ hdd).keep (Hp.le_refl G) hele (fun _ u b hu hb=>by
      rw[hv]at hu;cases hu;have hb:=hb.plain rfl
      exact ho.keep.block b (hlt b hb) (hnT b hb))
   · exact(ho.rs c r (hne' q hc)).flat (hb2 c hc) (f2 c r (hne' q hc))
 · intro c c' r r' u u' b e1 e2 o1 o2 g1 g2 b1 b2
   have key:∀ {c r u},c≠d→aE rout c=some r→r.own=true→β'' c=some u→cM w' r u b→∀ {r' u'},aE ((d,aY.buf e kk n g)::rout) d=some r'→β'' d=some u'→cM w' r' u' b→False:=by
    intro c r u hc e1 o1 g1 b1 r' u' e2 g2 b2;rw[hbd,hv]at g2;cases g2;have:=hrd' e2;subst this;have b2:=b2.plain rfl;rw[hb2 c hc]at g1;rcases(ho.og c r u b e1 o1 g1 b1).2 with q|q
    · exact hnT b b2 q
    · exact absurd (hlt b b2) (by omega)
   by_cases hc:c=d
   · by_cases hc':c' =d
     · rw[hc,hc']
     · exact(key hc' (hne' e2 hc') o2 g2 b2 (hc ▸ e1) (hc ▸ g1) b1).elim
   · by_cases hc':c' =d
     · exact(key hc (hne' e1 hc) o1 g1 b1 (hc' ▸ e2) (hc' ▸ g2) b2).elim
     · exact ho.dj c c' r r' u u' b (hne' e1 hc) (hne' e2 hc') o1 o2 (by rw[←hb2 c hc];exact g1) (by rw[←hb2 c' hc'];exact g2) b1 b2
 · intro c r u b e1 o1 g1 b1
   by_cases hc:c=d
   · subst hc;have:=hrd' e1;subst this;rw[hbd]at g1;exact⟨hpre.og c _ u b hdd rfl g1 (.of (b1.plain rfl)),.inl ⟨c,_,u,hdd,rfl,g1,.of (b1.plain rfl)⟩⟩
   · obtain⟨q1,q2⟩:=ho.og c r u b (hne' e1 hc) o1 (by rw[←hb2 c hc];exact g1) b1;refine⟨?_,q2.imp (hsub b) id⟩
     cases hg:G b with
     |none=>rfl
     |some o=>rw[ho.gle b o (hle2 b o hg)]at q1;cases q1
end Go.Eng
namespace Go.Eng
open Go
end Go.Eng
namespace Go.Eng
open Go Go.RowKit
theorem eI {Q:Hp→Prop}(d:Nat)(r:aY)(hd:aE [((1000009:Nat),aY.know Q)] d=some r):d=1000009∧r= .know Q:=by
 simp only[aE]at hd
 cases hq:Nat.beq d 1000009 with
 |false=>rw[hq]at hd;cases hd
 |true=>rw[hq]at hd;cases hd;exact⟨Nat.eq_of_beq_eq_true hq,rfl⟩
theorem wt {P:Program}{f:FuncId}{args:List SV}{y:SV}{Q:Hp→Prop}(henter:∀args w,(callFunc f args).run P w= .ok (.enter f args) w)
 (h:∀ (G:Hp) (β:fk) (w:World) (vs:List Value),Q G→(∀b o,G b=some o→w.heap[b]? =some o)→vs.length=args.length→(∀ (i:Nat) x v,args[i]? =some x→vs[i]? =some v→ap G β x v)→
   ∃u,(∀G β,ap G β y u)∧Calls P f vs.toArray w fun e w' =>e= .returned u∧Below w.heap.size w w'):ai P f args [(1000009,.know Q)] (fun x r=>x=y∧r= [(1000009,.know Q)]):=by
 refine⟨henter,fun G β w vs hpre hl hd=> ?_⟩;have hR:aE [((1000009:Nat),aY.know Q)] 1000009=some (.know Q):=by simp[aE]
 have hq:ec G β w 1000009 (.know Q):=hpre.rs _ _ hR;obtain⟨u,hu,hc⟩:=h G β w vs (hq.2 G (Hp.le_refl G)) hpre.gw hl hd;refine hc.mono ?_;rintro e w' ⟨rfl,hb⟩;refine⟨u,y,_,G,β,rfl,⟨rfl,rfl⟩,⟨Hp.le_refl G,fk.le_refl β,fun b o hg=> ?_,fun b o hg=>.inl hg,⟨hb.os,hb.tape,hb.output,hb.size,fun b hlt _=>hb.block b hlt⟩,fun d r hd=> ?_,fun d d' r r' v v' b h1 h2 o1=> ?_,fun d r v b h1 o1=> ?_⟩,hu G β⟩
 · have:=hpre.gw b o hg;have hlt:b<w.heap.size:=(Array.getElem?_eq_some_iff.1 this).1;rw[hb.block b hlt];exact this
 · obtain⟨rfl,rfl⟩:=eI d r hd;exact⟨hq.1,hq.2⟩
 · obtain⟨_,rfl⟩:=eI d r h1;cases o1
 · obtain⟨_,rfl⟩:=eI d r h1;cases o1
theorem uF {P:Program}{f:FuncId}{args:List SV}{post:SV→Prop}{Q:Hp→Prop}(h:ai P f args [(1000009,.know Q)] (fun x r=>post x∧r= [(1000009,.know Q)]))(W:World)(hQ:∀G,(Hp.le (fun b=>W.heap[b]?) G)→Q G):
 Nd (fun b=>W.heap[b]?) (fun d=>if d=1000009 then some (.bool true)else none) W (aE [((1000009:Nat),aY.know Q)]):=by
 refine⟨fun _ _ e=>e,fun d r hd=> ?_,fun d d' r r' v v' b h1 h2 o1=> ?_,fun d r v b h1 o1=> ?_,fun d v hd=> ?_⟩
 · obtain⟨rfl,rfl⟩:=eI d r hd;exact⟨⟨_,if_pos rfl⟩,hQ⟩
 · obtain⟨_,rfl⟩:=eI d r h1;cases o1
 · obtain⟨_,rfl⟩:=eI d r h1;cases o1
 · by_cases q:d=1000009
   · subst q;exact⟨_,rfl⟩
   · rw[if_neg q]at hd;cases hd
end Go.Eng
namespace Go.Eng
open Go Go.RowKit
def facts (F:World→Prop):Hp→Prop:=fun G=>∀w:World,(∀ (b:Nat) (o:Obj),G b=some o→w.heap[b]? =some o)→F w
theorem xG {F:World→Prop}{W:World}(h:∀w:World,(∀ (b:Nat) (o:Obj),W.heap[b]? =some o→w.heap[b]? =some o)→F w)(G:Hp)(hG:Hp.le (fun b=>W.heap[b]?) G):facts F G:=
 fun w hw=>h w (fun b o e=>hw b o (hG b o e))
mutual
theorem zO:∀x:SV,SV.okN [] x=true→SV.okN [((1000009:Nat),(1000009:Nat))] x=true
 | .any,_=>rfl
 | .bad,_=>rfl
 | .undef,_=>rfl
 | .d _,_=>rfl
 | .agg l,h=>by simp only[SV.okN]at h ⊢;exact mS l h
 | .tup l,h=>by simp only[SV.okN]at h ⊢;exact mS l h
 | .ptr _ _,h=>by simp[SV.okN,aH]at h
 | .buf _,h=>by simp[SV.okN,aH]at h
 | .bel _ _ _ _,h=>by simp[SV.okN,aH]at h
 | .mp _,h=>by simp[SV.okN,aH]at h
 | .fn f caps,h=>by simp only[SV.okN]at h ⊢;exact mS caps h
 | .sub _ _ _ _,h=>by simp[SV.okN,aH]at h
theorem mS:∀l:List SV,db [] l=true→db [((1000009:Nat),(1000009:Nat))] l=true
 | [],_=>rfl
 | x::l,h=>by
   simp only[db,Bool.and_eq_true]at h ⊢;exact⟨zO x h.1,mS l h.2⟩
end
theorem nn {P:Program}{f:FuncId}{args:List SV}{Q:Hp→Prop}{post:SV→Prop}(henter:∀args w,(callFunc f args).run P w= .ok (.enter f args) w)
 (h:∀ (G:Hp) (β:fk) (w:World) (vs:List Value),Q G→(∀b o,G b=some o→w.heap[b]? =some o)→vs.length=args.length→(∀ (i:Nat) x v,args[i]? =some x→vs[i]? =some v→ap G β x v)→
   Calls P f vs.toArray w fun e w' =>∃u y G',e= .returned u∧post y∧G.le G'∧(∀b o,G' b=some o→w'.heap[b]? =some o)∧(∀b o,G' b=some o→G b=some o∨w.heap.size≤b)∧(∀β,ap G' β y u)∧Below w.heap.size w w'):
 ai P f args [(1000009,.know Q)] (fun x r=>post x∧r= [(1000009,.know Q)]):=by
 refine⟨henter,fun G β w vs hpre hl hd=> ?_⟩;have hR:aE [((1000009:Nat),aY.know Q)] 1000009=some (.know Q):=by simp[aE]
 have hq:ec G β w 1000009 (.know Q):=hpre.rs _ _ hR;refine(h G β w vs (hq.2 G (Hp.le_refl G)) hpre.gw hl hd).mono ?_;rintro e w' ⟨u,y,G',rfl,hy,hle,hgw,hgn,hden,hb⟩;refine⟨u,y,_,G',β,rfl,⟨hy,rfl⟩,⟨hle,fk.le_refl β,hgw,fun b o hg=>(hgn b o hg).elim .inl (fun q=>.inr (.inr q)),⟨hb.os,hb.tape,hb.output,hb.size,fun b hlt _=>hb.block b hlt⟩,fun d r hd=> ?_,fun d d' r r' v v' b h1 h2 o1=> ?_,fun d r v b h1 o1=> ?_⟩,hden β⟩
 · obtain⟨rfl,rfl⟩:=eI d r hd;exact⟨hq.1,fun G'' h2=>hq.2 G'' (Hp.le_trans hle h2)⟩
 · obtain⟨_,rfl⟩:=eI d r h1;cases o1
 · obtain⟨_,rfl⟩:=eI d r h1;cases o1
theorem uR {P:Program}{f:FuncId}{args:List SV}{Q:Hp→Prop}{post:SV→Prop}(henter:∀args w,(callFunc f args).run P w= .ok (.enter f args) w)
 (h:∀ (G:Hp) (β:fk) (w:World) (vs:List Value),Q G→(∀b o,G b=some o→w.heap[b]? =some o)→vs.length=args.length→(∀ (i:Nat) x v,args[i]? =some x→vs[i]? =some v→ap G β x v)→
   Calls P f vs.toArray w fun e w' =>∃u y,e= .returned u∧post y∧(∀G β,ap G β y u)∧Below w.heap.size w w'):
 ai P f args [(1000009,.know Q)] (fun x r=>post x∧r= [(1000009,.know Q)]):=
 nn henter fun G β w vs hq hg hl hd=>(h G β w vs hq hg hl hd).mono fun e w' =>by
  rintro⟨u,y,he,hy,hden,hb⟩;refine⟨u,y,G,he,hy,Hp.le_refl G,fun b o e=> ?_,fun b o e=>.inl e,hden G,hb⟩;have:=hg b o e;have hlt:b<w.heap.size:=(Array.getElem?_eq_some_iff.1 this).1;rw[hb.block b hlt];exact this
theorem lW {P:Program}{f:FuncId}{dst:Option Nat}{args:List SV}{s:St}{av:List Nat}{k:cP→Prop}{y:SV}{Q:Hp→Prop}
 (hs:ai P f args [(1000009,.know Q)] fun x r=>x=y∧r= [(1000009,.know Q)])(hR:s.res 1000009=some (.know Q))(hargs:db [] args=true)(hav:mem av 1099512627785=false)(hy:SV.okN [] y=true)
 (hk:k ⟨dst,y,[],[]⟩):fz P f dst args s av k:=by
 have up:∀ {x:SV},SV.okN [] x=true→SV.okN [((1000009:Nat),(1000009:Nat))] x=true∧x.ren [((1000009:Nat),(1000009:Nat))]=x:=by
  have idr:∀d c,aH [((1000009:Nat),(1000009:Nat))] d=some c→c=d:=by
   intro d c hd;simp only[aH]at hd
   cases hq:Nat.beq d 1000009 with
   |false=>rw[hq]at hd;cases hd
   |true=>rw[hq]at hd;cases hd;exact(Nat.eq_of_beq_eq_true hq).symm
  have mono:∀x:SV,SV.okN [] x=true→SV.okN [((1000009:Nat),(1000009:Nat))] x=true:=zO;exact fun{x} hx=>⟨mono x hx,Bv idr x (mono x hx)⟩
 refine fz.look hs [(1000009,1000009)] rfl ?_ ⟨⟨1000009,rfl,hR⟩,trivial⟩ rfl (by simp[hav]) (by simp[(up hy).1,yl,aH,aY.okN]) ?_
 · have:∀l:List SV,db [] l=true→kW [((1000009:Nat),(1000009:Nat))] l l:=by
    intro l
    induction l with
    |nil=>intro _;trivial
    | cons x l ih=>
      intro h;simp only[db,Bool.and_eq_true]at h;exact⟨by rw[(up h.1).2];exact SV.le_refl _,ih h.2⟩
   exact this args hargs
 · rw[(up hy).2];exact hk
end Go.Eng
set_option maxRecDepth 20000
namespace Go.Proofs.YtodakofifpaljaaGreatDoor
open Go Go.Eng Go.Shelf Go.RowKit
def FX (w:World):Prop:=(∀n:Int,-9223372036854775808≤n→n≤9223372036854775807→Calls Tryz.prog 87 #[.int .i64 n] w fun e w' =>e= .returned (.string ⟨(Lib.itoa n).toArray⟩)∧∃k os,w' =Go.Sort.grow (w.drewN k) os)∧(∃m,w.cell? ⟨ff.g 1,0,none⟩=some (.int .i64 m))∧
 (∃v,w.cell? ⟨bS.g 15,0,none⟩=some v∧(v= .nilIface∨∃t p,v= .iface t p))∧(∃v,w.cell? ⟨bS.g 16,0,none⟩=some v∧(v= .nilIface∨∃t p,v= .iface t p))
abbrev KX:aY:=.know (facts FX)
abbrev kx:List (Nat×aY):= [(1000009,KX)]
theorem L5 (l:List UInt8):(⟨l.toArray⟩:ByteArray).size=l.length:=by simp[ByteArray.size]
theorem Bc {w:World}(n:Nat)(os:Array Obj):Below w.heap.size w (Go.Sort.grow (w.drewN n) os):=
 ⟨rfl,rfl,rfl,by simp[Go.Sort.grow,World.drewN],fun k hk=>by
   show(w.heap++os)[k]? =_
   rw[Array.getElem?_append_left hk]⟩
theorem Jw (n:Int)(h0: -9223372036854775808≤n)(h1:n≤9223372036854775807):ai Tryz.prog 87 [.d (.int .i64 n)] kx (fun x r=>x= .d (.str (Lib.itoa n))∧r=kx):=by
 refine wt Tryz.call87 (fun G β w vs hq hg hvl hd=> ?_)
 match vs,hvl with
 | [u],_=>
   have h0':=hd 0 _ u rfl rfl
   cases h0' with|d _ _ h0' =>cases h0' with|int _ _=>
   have hF:=hq w hg;refine⟨.string ⟨(Lib.itoa n).toArray⟩,fun _ _=>.d _ _ (.str _),?_⟩;have hcon:=hF.1 n h0 h1;refine hcon.mono ?_;rintro e' w' ⟨rfl,k,os,rfl⟩;exact⟨rfl,Bc k os⟩
def zE (s:List UInt8)(y:SV):Prop:=
 match Lib.atoiAll s with
 | .ok v=>y= .tup [.d (.int .i64 v),.d (.opq .nilIface)]
 | .range=>∃t p,y= .tup [.d (.int .i64 (Lib.atoiSat s)),.d (.opq (.iface t p))]
 |_=>∃t p,y= .tup [.d (.int .i64 0),.d (.opq (.iface t p))]
theorem sA {G:Hp}{β:fk}{p q:SV}{a b:Value}(ha:ap G β p a)(hb:ap G β q b):ap G β (.tup [p,q]) (.tuple #[a,b]):=
 .tup [p,q] [a,b] rfl (fun i x v hx hv=>by
  match i,hx,hv with
  |0,hx,hv=>simp at hx hv;subst hx;subst hv;exact ha
  |1,hx,hv=>simp at hx hv;subst hx;subst hv;exact hb)
theorem M6 (s:List UInt8)(hl:s.length≤2^40):ai Tryz.prog 244 [.d (.str s)] kx (fun x r=>zE s x∧r=kx):=by
 refine uR Tryz.call244 (fun G β w vs hq hg hvl hd=> ?_)
 match vs,hvl with
 | [u],_=>
   have h0:=hd 0 _ u rfl rfl
   cases h0 with|d _ _ h0=>cases h0 with|str _=>
   obtain⟨_,_,⟨v1,c1,d1⟩,⟨v2,c2,d2⟩⟩:=hq w hg;have e:bS.f 172=244:=rfl
   cases hA:Lib.atoiAll s with
   | ok v=>
     have hcon:=Any.strconv_Atoi_ok jI ⟨s.toArray⟩ (by rw[L5];omega) v (by simpa using hA) w;rw[e]at hcon;refine hcon.mono ?_;rintro e' w' ⟨rfl,hw⟩;refine⟨_,_,rfl,by unfold zE;rw[hA],fun _ _=>sA (.d _ _ (.int _ _)) (.d _ _ (.opq _ rfl)),?_⟩;rcases hw with rfl|⟨t,rfl⟩
     · exact Below.refl _ _
     · exact Lib.bytesWorld_below _ _ _
   | range=>
     have hcon:=Any.strconv_Atoi_range jI ⟨s.toArray⟩ (by rw[L5];omega) (by simpa using hA) v2 w c2 d2;rw[e]at hcon;refine hcon.mono ?_;rintro e' w' ⟨N,rfl,_,_,hb⟩;refine⟨_,_,rfl,by unfold zE;rw[hA];exact⟨_,_,rfl⟩,fun _ _=>sA ?_ (.d _ _ (.opq _ rfl)),hb⟩
     simpa using ap.d _ _ (aL.int .i64 (Lib.atoiSat s))
   | _=>
     have hcon:=Any.strconv_Atoi_syntax jI ⟨s.toArray⟩ (by rw[L5];omega) (by simpa using hA) v1 w c1 d1;rw[e]at hcon;refine hcon.mono ?_;rintro e' w' ⟨N,rfl,_,_,hb⟩;exact⟨_,_,rfl,by unfold zE;rw[hA];exact⟨_,_,rfl⟩,fun _ _=>sA (.d _ _ (.int _ _)) (.d _ _ (.opq _ rfl)),hb⟩
theorem KA (s p:List UInt8):ai Tryz.prog 245 [.d (.str s),.d (.str p)] [] (fun x r=>x= .d (.str (Lib.trimPrefix s p))∧r= []):=by
 refine jJ Tryz.call245 (fun G β w vs _ hvl hd=> ?_)
 match vs,hvl with
 | [u,v],_=>
   have h0:=hd 0 _ u rfl rfl;have h1:=hd 1 _ v rfl rfl
   cases h0 with|d _ _ h0=>cases h0 with|str _=>
   cases h1 with|d _ _ h1=>cases h1 with|str _=>
   refine⟨.string ⟨(Lib.trimPrefix s p).toArray⟩,fun _ _=>.d _ _ (.str _),?_⟩;have hcon:=Any.strings_TrimPrefix wm ⟨s.toArray⟩ ⟨p.toArray⟩ w;have e:kg.f 101=245:=rfl;rw[e]at hcon;refine hcon.mono ?_;rintro e' w' ⟨rfl,rfl⟩;exact⟨rfl,Below.refl _ _⟩
theorem A8 {G:Hp}{w:World}(hG:∀b o,G b=some o→w.heap[b]? =some o)(L:List ByteArray)(N:Nat)(hL:L.length≤N)(hN:N≤maxLen)(cs:Array Value)(e:TypeId)(hc:∀i,i<L.length→cs[i]? =some (.string (L.getD i ByteArray.empty))):
 ∃G',G.le G'∧(∀b o,G' b=some o→(w.alloc (.cells cs e)).heap[b]? =some o)∧(∀b o,G' b=some o→G b=some o∨w.heap.size≤b)∧(∀β,ap G' β (.d (ir (L.map (·.data.toList)))) (.slice (some ⟨w.heap.size,0,none⟩) L.length N)):=by
 have hfree:G w.heap.size=none:=by
  cases hg:G w.heap.size with
  |none=>rfl
  |some o=>have:=(Array.getElem?_eq_some_iff.1 (hG _ _ hg)).1;omega
 refine⟨G.add w.heap.size (.cells cs e),iR hfree,fun b o hb=> ?_,fun b o hb=> ?_,fun β=>.d _ _ ?_⟩
 · unfold Hp.add at hb;split at hb
   · rename_i q;subst q;cases hb;exact heap_alloc_new w _
   · rw[heap_alloc_old w _ (Array.getElem?_eq_some_iff.1 (hG _ _ hb)).1];exact hG _ _ hb
 · unfold Hp.add at hb;split at hb
   · rename_i q;subst q;exact .inr (Nat.le_refl _)
   · exact .inl hb
 · have hlen:(L.map (·.data.toList)).length=L.length:=by simp
   unfold ir dD;rw[hlen];refine .ro 1 L.length _ _ N (fun i _=>.string (L.getD i ByteArray.empty)) rfl hL hN (fun i _=>rfl) (fun i j x hi hx=> ?_) (fun i j x hi hx=> ?_)
   · have hj:j=0:=by
      have:=(List.getElem?_eq_some_iff.1 hx).1;simp[aV,sF]at this;omega
     subst hj;refine⟨cs,e,(0,0),?_,?_,?_⟩
     · rw[Eng.Addr.add_block];simp[Hp.add]
     · exact cY _ rfl _
     · rw[Addr.add_lit];simpa using hc i hi
   · have hj:j=0:=by
      have:=(List.getElem?_eq_some_iff.1 hx).1;simp[aV,sF]at this;omega
     subst hj;simp only[aV,sF,List.getElem?_cons_zero,Option.some.injEq]at hx;subst hx
     have h1:(L.map (·.data.toList)).getD i []=(L.getD i ByteArray.empty).data.toList:=by
      simp[List.getD_eq_getElem?_getD,hi]
     rw[h1];generalize L.getD i ByteArray.empty=ba;have:=aL.str (G:=G.add w.heap.size (.cells cs e)) ba.data.toList;rw[show(⟨ba.data.toList.toArray⟩:ByteArray)=ba from Lib.mk_data _]at this;exact this
theorem KJ (s p:List UInt8)(hl:s.length≤2^31)(hp:1≤p.length):ai Tryz.prog 243 [.d (.str s),.d (.str p)] kx (fun x r=>x= .d (ir (Lib.split s p))∧r=kx):=by
 refine nn (post:=fun x=>x= .d (ir (Lib.split s p))) Tryz.call243 (fun G β w vs hq hg hvl hd=> ?_)
 match vs,hvl with
 | [u,v],_=>
   have h0:=hd 0 _ u rfl rfl;have h1:=hd 1 _ v rfl rfl
   cases h0 with|d _ _ h0=>cases h0 with|str _=>
   cases h1 with|d _ _ h1=>cases h1 with|str _=>
   obtain⟨_,⟨m,c0⟩,_⟩:=hq w hg;have hcon:=Any.strings_Split wq (by kernel_rfl) ⟨s.toArray⟩ ⟨p.toArray⟩ m w (by rw[L5];omega) c0 (by rw[L5];exact hp);have e:ff.f 146=243:=rfl;rw[e]at hcon
   have hdat:(Lib.splitB ⟨p.toArray⟩ 0 (Lib.countB ⟨s.toArray⟩ ⟨p.toArray⟩) ⟨s.toArray⟩).map (·.data.toList)=Lib.split s p:=by
    rw[Lib.splitB_data];simp[Lib.split]
   have hle:=Lib.count_le s p;have hlen:(Lib.splitB ⟨p.toArray⟩ 0 (Lib.countB ⟨s.toArray⟩ ⟨p.toArray⟩) ⟨s.toArray⟩).length=Lib.countB ⟨s.toArray⟩ ⟨p.toArray⟩+1:=Lib.splitB_all _ (by rw[L5];exact hp) 0 _ _ rfl;generalize hLL:Lib.splitB ⟨p.toArray⟩ 0 (Lib.countB ⟨s.toArray⟩ ⟨p.toArray⟩) ⟨s.toArray⟩=LL at hcon hdat hlen;have hcn:Lib.countB ⟨s.toArray⟩ ⟨p.toArray⟩=Lib.count s p:=by simp
   obtain⟨G',g1,g2,g3,g4⟩:=A8 hg LL LL.length (Nat.le_refl _) (by rw[hlen,hcn];unfold maxLen;omega) (LL.map Value.string).toArray (ff.t 9) (fun i hi=>by simp[List.getD_eq_getElem?_getD,hi]);rw[←hlen]at hcon;refine hcon.mono ?_;rintro e' w' ⟨rfl,rfl⟩;rw[hdat]at g4;exact⟨_,_,G',rfl,rfl,g1,g2,g3,g4,(Below.refl _ _).alloc (Nat.le_refl _) _⟩
theorem fA (n lo hi:Int):ai Tryz.prog 62 [.d (.int .i64 n),.d (.int .i64 lo),.d (.int .i64 hi)] [] (fun x r=>x= .d (.bool (decide (lo≤n∧n≤hi)))∧r= []):=by
 refine af hT (C:= []) Tryz.func62 rfl Tryz.call62 rfl rfl rfl ?_;conv=>whnf
 refine aa (fun h=> ?_) (fun h=> ?_)
 · conv=>whnf
   refine .ret _ ?_;conv=>whnf
   refine⟨[],⟨?_,rfl⟩,trivial⟩;conv=>lhs;whnf
   simp at h ⊢;simp[h]
 · conv=>whnf
   refine .ret _ ?_;conv=>whnf
   refine⟨[],⟨?_,rfl⟩,trivial⟩;conv=>lhs;whnf
   simp at h ⊢;omega
theorem NS (n lo hi:Int):ai Tryz.prog 92 [.d (.int .i64 n),.d (.int .i64 lo),.d (.int .i64 hi)] [] (fun x r=>x= .d (.bool (decide (lo≤n∧n≤hi)))∧r= []):=by
 refine af hT (C:= []) Tryz.func92 rfl Tryz.call92 rfl rfl rfl ?_;conv=>whnf
 refine aa (fun h=> ?_) (fun h=> ?_)
 · conv=>whnf
   refine .ret _ ?_;conv=>whnf
   refine⟨[],⟨?_,rfl⟩,trivial⟩;conv=>lhs;whnf
   simp at h ⊢;simp[h]
 · conv=>whnf
   refine .ret _ ?_;conv=>whnf
   refine⟨[],⟨?_,rfl⟩,trivial⟩;conv=>lhs;whnf
   simp at h ⊢;omega
theorem eK (b:Bool)(e:Int):ai Tryz.prog 61 [.d (.bool b),.d (.int .i64 e)] [] (fun x r=>x= .d (.int .i64 (if b then e else 0))∧r= []):=by
 refine af hT (C:= []) Tryz.func61 rfl Tryz.call61 rfl rfl rfl ?_;conv=>whnf
 refine aa (fun h=> ?_) (fun h=> ?_)
 · conv=>whnf
   refine .ret _ ?_;conv=>whnf
   refine⟨[],⟨?_,rfl⟩,trivial⟩;conv=>lhs;whnf
   simp[h]
 · conv=>whnf
   refine .ret _ ?_;conv=>whnf
   refine⟨[],⟨?_,rfl⟩,trivial⟩;conv=>lhs;whnf
   simp[h]
theorem gO {α:Type}{l:List α}{i:Nat}{d:α}(h:i<l.length):l.getD (i:Int).toNat d=l[i]:=by
 rw[Int.toNat_natCast,List.getD_eq_getElem?_getD];simp[h]
theorem sk {l:List Int}{i:Nat}(hi:i<l.length):(l.take (i+1)).sum=(l.take i).sum+l[i]:=by
 rw[←List.take_append_getElem hi,List.sum_append];simp
def al:List Int→Int
 | []=>0
 |x::l=>if x=0 then al l else x
theorem PB (l:List Int)(hl:l.length≤2^40):ai Tryz.prog 94 [.d (dC l)] [] (fun x r=>x= .d (.int .i64 (al l))∧r= []):=by
 refine af hT (C:= []) Tryz.func94 rfl Tryz.call94 rfl rfl rfl ?_;conv=>whnf
 refine ah hT (C:= []) (ι:=Nat) (fun i=>i≤l.length∧al l=al (l.drop i)) (fun i=>aN [(3,.d (.int .i64 0)),(6,.d (dC l)),(7,.d (.int .i64 l.length)),(8,.d (.int .i64 i))] []) (fun i=>l.length - i) 0 ⟨by omega,by simp⟩ ?_ ?_
 · refine ae [] rfl rfl ⟨lr,lr,lr,lr,trivial⟩ trivial
 rintro i ⟨p1,p2⟩;conv=>whnf
 refine aa (fun h=> ?_) (fun h=> ?_)
 · simp only[decide_eq_true_eq]at h;conv=>whnf
   refine⟨⟨by omega,by omega⟩,?_⟩;conv=>whnf
   have hi:i<l.length:=by omega
   have hd:l.drop i=l[i]::l.drop (i+1):=List.drop_eq_getElem_cons hi;refine aa (fun h2=> ?_) (fun h2=> ?_)
   · conv=>whnf
     refine .ret _ ?_;conv=>whnf
     refine⟨[],⟨?_,rfl⟩,trivial⟩;conv=>lhs;whnf
     rw[gO hi]at h2 ⊢;simp at h2;rw[p2,hd,al,if_neg h2]
   · conv=>whnf
     rw[gO hi]at h2;simp at h2;refine⟨by unfold aF;omega,?_⟩;conv=>whnf
     refine⟨i+1,⟨hi,?_⟩,by omega,?_⟩
     · rw[p2,hd,al,if_pos h2]
     · exact ae [] rfl rfl ⟨lr,lr,lr,lr,trivial⟩ trivial
 · simp only[decide_eq_false_iff_not]at h;conv=>whnf
   refine .ret _ ?_;conv=>whnf
   refine⟨[],⟨?_,rfl⟩,trivial⟩;conv=>lhs;whnf
   rw[p2,List.drop_eq_nil_iff.2 (by omega)];rfl
theorem fu (l:List Int)(hl:l.length≤2^40):ai Tryz.prog 49 [.d (dC l)] [] (fun x r=>x= .d (.int .i64 (al l))∧r= []):=by
 refine af hT (C:= []) Tryz.func49 rfl Tryz.call49 rfl rfl rfl ?_;conv=>whnf
 refine rZ (PB l hl) ?_;conv=>whnf
 refine .ret _ ?_;conv=>whnf
 exact⟨[],⟨rfl,rfl⟩,trivial⟩
def jh (cents:Int)(w:List Int):Int:=
 if ¬ (0≤cents∧cents≤1000000000)then 1 else if 50<w.length then 2 else if w.any (fun x=> !decide (0≤x∧x≤5761440))then 1 else if w.sum=0 then 8 else 0
def ez (i:Nat)(c:UInt8):Bool:=(decide (97≤c.toNat)&&decide (c.toNat≤122))||(!decide (i=0)&&((decide (48≤c.toNat)&&decide (c.toNat≤57))||decide (c.toNat=45)||decide (c.toNat=95)))
def aG (s:List UInt8):Bool:=(List.range s.length).all (fun i=>ez i (s.getD i 0))&& !s.isEmpty&&decide (s.length≤40)
theorem vZ {i:Nat}{c:UInt8}:ez i c=true↔((97≤(c.toNat:Int)∧(c.toNat:Int)≤122)∨((i:Int)≠0∧((48≤(c.toNat:Int)∧(c.toNat:Int)≤57)∨(c.toNat:Int)=45∨(c.toNat:Int)=95))):=by
 simp only[ez,Bool.or_eq_true,Bool.and_eq_true,decide_eq_true_eq,Bool.not_eq_true',decide_eq_false_iff_not];omega
theorem gC (s:List UInt8)(hl:s.length≤2^40):ai Tryz.prog 99 [.d (.str s)] [] (fun x r=>x= .d (.bool (aG s))∧r= []):=by
 refine af hT (C:= []) Tryz.func99 rfl Tryz.call99 rfl rfl rfl ?_;conv=>whnf
 refine ah hT (C:= []) (ι:=Nat) (fun i=>i≤s.length∧∀j,j<i→ez j (s.getD j 0)=true) (fun i=>aN [(0,.d (.str s)),(7,.d (.int .i64 s.length)),(8,.d (.int .i64 i))] []) (fun i=>s.length - i) 0 ⟨by omega,by omega⟩ ?_ ?_
 · exact ae [] rfl rfl ⟨lr,lr,lr,trivial⟩ trivial
 rintro i ⟨p1,p2⟩;conv=>whnf
 refine aa (fun h=> ?_) (fun h=> ?_)
 · simp only[decide_eq_true_eq]at h;have hi:i<s.length:=by omega
   have e1:(i:Int).toNat=i:=Int.toNat_natCast i;conv=>whnf
   repeat (refine And.intro (by(try unfold aF);(try dsimp only);(try simp only[e1,List.length_cons,List.length_append,List.length_singleton,List.length_nil]);omega) ?_;conv=>whnf)
   have hbad:ez i (s.getD i 0)=false→aG s=false:=fun h=>by
    have:(List.range s.length).all (fun i=>ez i (s.getD i 0))=false:=by
     rw[List.all_eq_false];exact⟨i,List.mem_range.2 hi,by rw[h];simp⟩
    simp only[aG,this,Bool.false_and]
   have hgood:ez i (s.getD i 0)=true→∀j,j<i+1→ez j (s.getD j 0)=true:=fun h j hj=>by
    rcases Nat.lt_or_ge j i with q|q
    · exact p2 j q
    · have:j=i:=by omega
      subst this;exact h
   repeat' (refine aa (fun _=> ?_) (fun _=> ?_)<;>(conv=>whnf))
   all_goals first
    | (refine And.intro (by unfold aF;omega) ?_
       conv=>whnf
       refine⟨i+1,⟨hi,hgood ?_⟩,by omega,ae [] rfl rfl ⟨lr,lr,lr,trivial⟩ trivial⟩;rw[vZ];simp only[decide_eq_true_eq,decide_eq_false_iff_not,Bool.not_eq_true',Bool.not_eq_false',e1]at*
       omega)
    | (refine .ret _ ?_
       conv=>whnf
       refine⟨[],⟨?_,rfl⟩,trivial⟩;conv=>lhs;whnf
       rw[hbad]
       cases hq:ez i (s.getD i 0)with
       |false=>rfl
       | true=>
         rw[vZ]at hq;simp only[decide_eq_true_eq,decide_eq_false_iff_not,Bool.not_eq_true',Bool.not_eq_false',e1]at*
         omega)
    |skip
 simp only[decide_eq_false_iff_not]at h;have e1:i=s.length:=by omega
 subst e1
 have fc:(List.range s.length).all (fun i=>ez i (s.getD i 0))=true:=by
  rw[List.all_eq_true];intro j hj;exact p2 j (List.mem_range.1 hj)
 conv=>whnf
 repeat' (refine aa (fun _=> ?_) (fun _=> ?_)<;>(conv=>whnf))
 all_goals (refine .ret _ ?_;conv=>whnf)
 all_goals (refine⟨[],⟨?_,rfl⟩,trivial⟩;conv=>lhs;whnf)
 · rename_i hq
   have:s.isEmpty=false:=by
    cases s with
    |nil=>exact absurd hq (by decide)
    |cons x l=>rfl
   unfold aG;rw[fc,this];simp;omega
 · rename_i hq
   have:s.isEmpty=true:=by
    cases s with
    |nil=>rfl
    |cons x l=>exact absurd hq (by simp)
   unfold aG;rw[fc,this];rfl
def cV (a b:List UInt8):Bool:=Op.bytesLess a b||a==b
def aX (f:Nat→Int):Nat→Int
 |0=>0
 |n+1=>if aX f n=0 then f n else aX f n
theorem aC {f:Nat→Int}:∀ {n:Nat},(∀j,j<n→f j=0)→aX f n=0:=by
 intro n
 induction n with
 |zero=>intro _;rfl
 |succ n ih=>intro h;rw[aX,if_pos (ih fun j hj=>h j (by omega))];exact h n (by omega)
theorem aT {f:Nat→Int}{n i:Nat}{e:Int}(hi:i<n)(h:∀j,j<i→f j=0)(h1:e≠0)(h2:f i=e):aX f n=e:=by
 induction n with
 |zero=>omega
 | succ n ih=>
   rw[aX]
   by_cases q:i<n
   · rw[ih q,if_neg h1]
   · have:i=n:=by omega
     subst this;rw[if_pos (aC h)];exact h2
end Go.Proofs.YtodakofifpaljaaGreatDoor
namespace Go.Proofs
open Go.Shelf
def jY:Go.Shelf.Ren:=⟨fun|160=>190|232=>234|231=>233|227=>235|234=>237|233=>236|236=>239|235=>238|228=>264|271=>267|151=>266|197=>265|120=>285|152=>284|260=>283|137=>297|119=>298|224=>299|225=>300|217=>307|266=>311|n=>n,fun|9=>9|4=>4|3=>3|5=>5|117=>353|116=>352|0=>0|124=>356|21=>21|105=>384|46=>202|119=>405|139=>408|138=>407|n=>n,fun|3=>4|4=>5|n=>n⟩
theorem xb:Go.Proofs.Lays.n160 Tryz.prog jY:={
 mixed:=by kernel_rfl
 f119:=Tryz.func298.trans (congrArg some (by kernel_rfl))
 f120:=Tryz.func285.trans (congrArg some (by kernel_rfl))
 f137:=Tryz.func297.trans (congrArg some (by kernel_rfl))
 f151:=Tryz.func266.trans (congrArg some (by kernel_rfl))
 f152:=Tryz.func284.trans (congrArg some (by kernel_rfl))
 f160:=Tryz.func190.trans (congrArg some (by kernel_rfl))
 f197:=Tryz.func265.trans (congrArg some (by kernel_rfl))
 f217:=Tryz.func307.trans (congrArg some (by kernel_rfl))
 f224:=Tryz.func299.trans (congrArg some (by kernel_rfl))
 f225:=Tryz.func300.trans (congrArg some (by kernel_rfl))
 f227:=Tryz.func235.trans (congrArg some (by kernel_rfl))
 f228:=Tryz.func264.trans (congrArg some (by kernel_rfl))
 f231:=Tryz.func233.trans (congrArg some (by kernel_rfl))
 f232:=Tryz.func234.trans (congrArg some (by kernel_rfl))
 f233:=Tryz.func236.trans (congrArg some (by kernel_rfl))
 f234:=Tryz.func237.trans (congrArg some (by kernel_rfl))
 f235:=Tryz.func238.trans (congrArg some (by kernel_rfl))
 f236:=Tryz.func239.trans (congrArg some (by kernel_rfl))
 f260:=Tryz.func283.trans (congrArg some (by kernel_rfl))
 f266:=Tryz.func311.trans (congrArg some (by kernel_rfl))
 f271:=Tryz.func267.trans (congrArg some (by kernel_rfl))
 t0:=Tryz.underlying0
 a0:=Tryz.isAgg0
 z0:=Tryz.sizeOf0
 v0:=Tryz.zeroValue0
 t3:=Tryz.underlying3
 a3:=Tryz.isAgg3
 z3:=Tryz.sizeOf3
 v3:=Tryz.zeroValue3
 t4:=Tryz.underlying4
 a4:=Tryz.isAgg4
 z4:=Tryz.sizeOf4
 v4:=Tryz.zeroValue4
 t5:=Tryz.underlying5
 a5:=Tryz.isAgg5
 z5:=Tryz.sizeOf5
 v5:=Tryz.zeroValue5
 t9:=Tryz.underlying9
 a9:=Tryz.isAgg9
 z9:=Tryz.sizeOf9
 v9:=Tryz.zeroValue9
 t21:=Tryz.underlying21
 a21:=Tryz.isAgg21
 z21:=Tryz.sizeOf21
 v21:=Tryz.zeroValue21
 t46:=Tryz.underlying202
 a46:=Tryz.isAgg202
 z46:=Tryz.sizeOf202
 v46:=Tryz.zeroValue202
 t105:=Tryz.underlying384
 a105:=Tryz.isAgg384
 z105:=Tryz.sizeOf384
 v105:=Tryz.zeroValue384
 t116:=Tryz.underlying352
 a116:=Tryz.isAgg352
 z116:=Tryz.sizeOf352
 t117:=Tryz.underlying353
 a117:=Tryz.isAgg353
 z117:=Tryz.sizeOf353
 v117:=Tryz.zeroValue353
 t119:=Tryz.underlying405
 a119:=Tryz.isAgg405
 z119:=Tryz.sizeOf405
 t124:=Tryz.underlying356
 a124:=Tryz.isAgg356
 z124:=Tryz.sizeOf356
 v124:=Tryz.zeroValue356
 t138:=Tryz.underlying407
 a138:=Tryz.isAgg407
 z138:=Tryz.sizeOf407
 v138:=Tryz.zeroValue407
 t139:=Tryz.underlying408
 a139:=Tryz.isAgg408
 z139:=Tryz.sizeOf408
 v139:=Tryz.zeroValue408
 g3:=by kernel_rfl
 g4:=by kernel_rfl}
end Go.Proofs
set_option maxRecDepth 20000
namespace Go.Proofs.YtodakofifpaljaaGreatDoor
open Go Go.Eng Go.Shelf
theorem OV (s cs:List UInt8)(hl:s.length≤2^40)(hc:cs.length≤2^20)(ha:cs.all (fun b=>decide (b.toNat<128))=true):ai Tryz.prog 190 [.d (.str s),.d (.str cs)] [] (fun x r=>x= .d (.str (Lib.trimS s cs))∧r= []):=by
 refine jJ Tryz.call190 (fun G β w vs _ hvl hd=> ?_)
 match vs,hvl with
 | [u,v],_=>
   have h0:=hd 0 _ u rfl rfl;have h1:=hd 1 _ v rfl rfl
   cases h0 with|d _ _ h0=>cases h0 with|str _=>
   cases h1 with|d _ _ h1=>cases h1 with|str _=>
   refine⟨.string ⟨(Lib.trimS s cs).toArray⟩,fun _ _=>.d _ _ (.str _),?_⟩;have hcon:=Any.strings_Trim_laid xb (by kernel_rfl) ⟨s.toArray⟩ ⟨cs.toArray⟩ w (by simp[ByteArray.size];omega) (by simp[ByteArray.size];omega) (ascii_of_all (by simpa using ha));have e:jY.f 160=190:=rfl;rw[e]at hcon;simpa using hcon
theorem nu {p:UInt8→Bool}{l:List UInt8}:l.dropWhile p= []↔∀b ∈ l,p b=true:=by
 induction l with
 |nil=>simp
 |cons a l ih=>by_cases h:p a=true<;>simp[List.dropWhile_cons,h,ih]
theorem Em {s cs:List UInt8}:Lib.trimS s cs= []↔∀b ∈ s,cs.contains b=true:=by
 unfold Lib.trimS Lib.trimLeftS Lib.trimRightS;rw[nu];constructor
 · intro h b hb;have h1:s.reverse.dropWhile (cs.contains ·)= []∨¬s.reverse.dropWhile (cs.contains ·)= []:=Classical.em _;rcases h1 with h1|h1
   · exact nu.1 h1 b (by simpa using hb)
   · obtain⟨c,m,hc⟩:=List.exists_cons_of_ne_nil h1
     have h3:cs.contains c=false:=by
      have:=List.head_dropWhile_not (cs.contains ·) (l:=s.reverse) h1;simp only[hc,List.head_cons]at this;exact this
     have h4:=h c (by rw[List.mem_reverse,hc];exact List.mem_cons_self);rw[h3]at h4;cases h4
 · intro h b hb;rw[List.mem_reverse]at hb;exact h b (by simpa using(List.dropWhile_sublist _).subset hb)
def qK (s cs:List UInt8):Bool:=s.all (cs.contains ·)
theorem NX (s cs:List UInt8)(hl:s.length≤2^40)(hc:cs.length≤2^20)(ha:cs.all (fun b=>decide (b.toNat<128))=true):ai Tryz.prog 135 [.d (.str s),.d (.str cs)] [] (fun x r=>x= .d (.bool (qK s cs))∧r= []):=by
 refine af hT (C:= []) Tryz.func135 rfl Tryz.call135 rfl rfl rfl ?_;conv=>whnf
 refine ao (OV _ _ hl hc ha) ⟨lr,lr,trivial⟩ rfl ?_;conv=>whnf
 refine .ret _ ?_;conv=>whnf
 refine⟨[],⟨?_,rfl⟩,trivial⟩;show SV.d (.bool (Lib.trimS s cs== []))=_;congr 2
 rw[Bool.eq_iff_iff];simp only[beq_iff_eq,Em,qK,List.all_eq_true]
theorem zC (a b c:Int):ai Tryz.prog 86 [.d (.int .i64 a),.d (.int .i64 b),.d (.int .i64 c)] [] (fun x r=>x= .d (.bool (decide (b≤a∧a≤c)))∧r= []):=by
 refine af hT (C:= []) Tryz.func86 rfl Tryz.call86 rfl rfl rfl ?_;conv=>whnf
 repeat' (refine aa (fun _=> ?_) (fun _=> ?_)<;>(conv=>whnf))
 all_goals
  refine .ret _ ?_;conv=>whnf
  refine⟨[],⟨?_,rfl⟩,trivial⟩;conv=>lhs;whnf
  congr 2
  grind
def mD:List UInt8:= [97,98,99,100,101,102,103,104,105,106,107,108,109,110,111,112,113,114,115,116,117,118,119,120,121,122]
def EW:List UInt8:=mD++ [48,49,50,51,52,53,54,55,56,57,45,95]
theorem Gd {p:UInt8→Bool}(h:(List.range 256).all (fun n=>p (UInt8.ofNat n))=true)(c:UInt8):p c=true:=by
 have:=List.all_eq_true.1 h c.toNat (List.mem_range.2 c.toNat_lt);simpa using this
theorem Dx (c:UInt8):mD.contains c=ez 0 c:=by
 have:=Gd (p:=fun c=>mD.contains c==ez 0 c) (by decide+kernel) c;simpa using this
theorem HK (c:UInt8):EW.contains c=ez 1 c:=by
 have:=Gd (p:=fun c=>EW.contains c==ez 1 c) (by decide+kernel) c;simpa using this
theorem tk (i:Nat)(c:UInt8):ez (i+1) c=ez 1 c:=by simp[ez]
theorem D8 {c:UInt8}(h:ez 0 c=true):ez 1 c=true:=by
 simp only[ez]at h ⊢;simp at h;simp[h]
theorem E9 (s:List UInt8):aG s=(decide (1≤(s.length:Int)∧(s.length:Int)≤40)&&qK (s.take 1) mD&&qK s EW):=by
 cases s with
 |nil=>rfl
 | cons c l=>
   have h1:qK ((c::l).take 1) mD=ez 0 c:=by simp only[qK,List.take_succ_cons,List.take_zero,List.all_cons,List.all_nil,Bool.and_true,Dx]
   have h2:qK (c::l) EW=(ez 1 c&&l.all (ez 1 ·)):=by simp only[qK,List.all_cons,HK]
   have h3:(List.range (c::l).length).all (fun i=>ez i ((c::l).getD i 0))=(ez 0 c&&l.all (ez 1 ·)):=by
    rw[List.length_cons,List.range_succ_eq_map,List.all_cons,List.all_map];congr 1
    rw[Bool.eq_iff_iff,List.all_eq_true,List.all_eq_true];constructor
    · intro h x hx;obtain⟨i,hi,rfl⟩:=List.getElem_of_mem hx;have:=h i (List.mem_range.2 hi);simp only[Function.comp,List.getD_cons_succ,tk]at this;rwa [List.getD_eq_getElem?_getD,List.getElem?_eq_getElem hi]at this
    · intro h i hi;have hi:=List.mem_range.1 hi;simp only[Function.comp,List.getD_cons_succ,tk];rw[List.getD_eq_getElem?_getD,List.getElem?_eq_getElem hi];exact h _ (List.getElem_mem hi)
   unfold aG;rw[h1,h2,h3,Bool.eq_iff_iff];simp only[Bool.and_eq_true,decide_eq_true_eq,Bool.not_eq_true',List.isEmpty_cons,List.length_cons];constructor
   · rintro⟨⟨⟨a,b⟩,_⟩,d⟩;exact⟨⟨⟨by omega,by omega⟩,a⟩,D8 a,b⟩
   · rintro⟨⟨⟨_,d⟩,a⟩,_,b⟩;exact⟨⟨⟨a,b⟩,trivial⟩,by omega⟩
theorem Jr (s:List UInt8)(hl:s.length≤2^40):ai Tryz.prog 91 [.d (.str s)] [] (fun x r=>x= .d (.bool (aG s))∧r= []):=by
 refine af hT (C:= []) Tryz.func91 rfl Tryz.call91 rfl rfl rfl ?_;conv=>whnf
 repeat' (first|(refine ac (zC _ _ _) rfl rfl ?_;rotate_right;conv=>whnf)|(refine ac (NX s EW hl ?_ ?_) rfl rfl ?_;rotate_right;conv=>whnf)|(refine ac (NX _ mD ?_ ?_ ?_) rfl rfl ?_;rotate_right;conv=>whnf)|((first|(refine aa ?_ ?_<;>intro hb<;>try simp only[az]at hb)|omega|refine aA ?_|decide|assumption)<;>conv=>whnf))
 all_goals try(simp;omega)
 all_goals
  refine .ret _ ?_;conv=>whnf
  refine⟨[],⟨?_,rfl⟩,trivial⟩;conv=>lhs;whnf
  rw[E9];congr 2;grind
theorem aQ {f:Nat→Int}{i:Nat}(p:∀j,j<i→f j=0)(h:f i=0):∀j,j<i+1→f j=0:=fun j hj=>by
 rcases Nat.lt_or_ge j i with q|q
 · exact p j q
 · have:j=i:=by omega
   subst this;exact h
theorem aJ (i:Nat):((i:Int) - 1).toNat=i - 1:=by omega
theorem dG {α:Type}{l:List α}{i:Nat}{d:α}(h:i<l.length):l.take (i+1)=l.take i++ [l.getD i d]:=by
 rw[List.take_succ_eq_append_getElem h,List.getD_eq_getElem?_getD,List.getElem?_eq_getElem h];rfl
theorem cg {f:Nat→Int}:∀ {n:Nat},aX f n=0→∀j,j<n→f j=0:=by
 intro n
 induction n with
 |zero=>intro _ j hj;omega
 | succ n ih=>
   intro h j hj;rw[aX]at h;split at h
   · rename_i q;rcases Nat.lt_or_ge j n with r|r
     · exact ih q j r
     · have:j=n:=by omega
       subst this;exact h
   · omega
theorem bQ {α:Type}{l:List α}{x d:α}(h:x ∈ l):∃j,j<l.length∧l.getD j d=x:=by
 obtain⟨j,hj,rfl⟩:=List.getElem_of_mem h;exact⟨j,hj,by rw[List.getD_eq_getElem?_getD,List.getElem?_eq_getElem hj];rfl⟩
section
variable {α:Type} (cmp:α→α→Int)
def fC (x:α):List α→List α
 | []=> [x]
 |y::r=>if cmp x y<0 then y::fC x r else x::y::r
def bF (l:List α):List α:=l.foldl (fun acc x=>fC cmp x acc) []
def di (l:List α):List α:=(bF cmp l).reverse
theorem zm (x:α):∀l:List α,(fC cmp x l).length=l.length+1:=by
 intro l
 induction l with
 |nil=>rfl
 |cons y r ih=>simp only[fC];split<;>simp[ih]
theorem ij (l:List α)(x:α):bF cmp (l++ [x])=fC cmp x (bF cmp l):=by simp[bF]
theorem fy (l:List α):(bF cmp l).length=l.length:=by
 have:∀ (l acc:List α),(l.foldl (fun acc x=>fC cmp x acc) acc).length=acc.length+l.length:=by
  intro l
  induction l with
  |nil=>intro acc;simp
  |cons x l ih=>intro acc;rw[List.foldl_cons,ih,zm];simp;omega
 rw[bF,this];simp
theorem za (x y:α):∀ {l:List α},y ∈ fC cmp x l↔y=x∨y ∈ l:=by
 intro l
 induction l with
 |nil=>simp[fC]
 | cons z r ih=>
   simp only[fC];split
   · simp only[List.mem_cons,ih];constructor
     · rintro(h|h|h)
       · exact .inr (.inl h)
       · exact .inl h
       · exact .inr (.inr h)
     · rintro(h|h|h)
       · exact .inr (.inl h)
       · exact .inl h
       · exact .inr (.inr h)
   · simp
theorem jg {y:α}(l:List α):y ∈ bF cmp l↔y ∈ l:=by
 have:∀ (l acc:List α),y ∈ (l.foldl (fun acc x=>fC cmp x acc) acc)↔y ∈ acc∨y ∈ l:=by
  intro l
  induction l with
  |nil=>intro acc;simp
  | cons x l ih=>
    intro acc;rw[List.foldl_cons,ih,za,List.mem_cons];constructor
    · rintro((h|h)|h)
      · exact .inr (.inl h)
      · exact .inl h
      · exact .inr (.inr h)
    · rintro(h|h|h)
      · exact .inl (.inr h)
      · exact .inl (.inl h)
      · exact .inr h
 rw[bF,this];simp
end
def na (x y z:SV)(e1 e2 e3:TypeId):List (Nat×aY):= [(1000002,.cells e1 [x]),(1000003,.cells e2 [y]),(1000004,.cells e3 [z])]
theorem gQ {α:Type}{l:List α}{i:Nat}(h:i<l.length):l.take (i+1)=l.take i++ [l[i]]:=(List.take_append_getElem h).symm
theorem pF {α:Type}(A B:List α)(x d:α){i:Nat}(h:i=A.length):(A++x::B).getD i d=x:=by
 subst h;rw[List.getD_eq_getElem?_getD];simp
theorem t8 {α:Type}(A B:List α)(x y:α):(((A++ [y]++ [x]++B).set (A.length+1) y).set A.length x)=A++ [x]++ [y]++B:=by
 simp[List.set_append]
def ee (g:Nat→Int)(n i:Nat):List Int:=(List.range n).map fun j=>if j<i then g j else 0
theorem dU (g:Nat→Int)(n i:Nat):(ee g n i).length=n:=by simp[ee]
theorem DI {g:Nat→Int}{n i j:Nat}(h:j<n):(ee g n i)[j]'(by rw[dU];exact h)=if j<i then g j else 0:=by simp[ee]
theorem tg {e:Nat}{g:Nat→Int}{n m:Nat}{get:Nat→List DV}(hm:m=n)(hg:∀i,get i=iF 0):aY.le (.buf e 1 m get) (aM e 1 iF 0 (ee g n 0)):=
 bB (by rw[dU,hm]) (fun i hi=>by rw[gp (by rw[dU];omega),hg i,DI (by omega)];simp)
theorem vp (g:Nat→Int)(n i:Nat):(ee g n i).set i (g i)=ee g n (i+1):=by
 apply List.ext_getElem
 · simp[ee]
 · intro j h1 h2;simp only[ee,List.getElem_set,List.getElem_map,List.getElem_range]
   by_cases e:i=j
   · subst e;simp
   · by_cases q:j<i
     · have:j<i+1:=by omega
       simp[e,q,this]
     · have:¬j<i+1:=by omega
       simp[e,q,this]
def gH (c:Int)(g:Nat→Int)(i:Nat):Int:=c - ((List.range i).map g).sum
theorem sK (c:Int)(g:Nat→Int)(i:Nat):gH c g (i+1)=gH c g i - g i:=by
 simp[gH,List.range_succ,List.sum_append];omega
def dN (c:Int)(w:List Int)(j:Nat):Int:=(c*w.getD j 0).tdiv w.sum
def MM (c:Int)(w:List Int)(p q:Int):Int:=(c*w.getD q.toNat 0).tmod w.sum - (c*w.getD p.toNat 0).tmod w.sum
def lk (c:Int)(w:List Int):List Int:=di (MM c w) (ee (fun j=>(j:Int)) w.length w.length)
def Al (P:List Int)(js:List Int):List Int:=js.foldl (fun P j=>P.set j.toNat (P.getD j.toNat 0+1)) P
def sS (c:Int)(w:List Int):List Int:=Al (ee (dN c w) w.length w.length) ((lk c w).take (gH c (dN c w) w.length).toNat)
theorem DK (P:List Int)(js:List Int)(j:Int):Al P (js++ [j])=(Al P js).set j.toNat ((Al P js).getD j.toNat 0+1):=by simp[Al]
theorem lu {l:List Int}(h:∀x ∈ l,0≤x):0≤l.sum:=by
 induction l with
 |nil=>simp
 |cons x l ih=>rw[List.sum_cons];have:=h x (by simp);have:=ih (fun y hy=>h y (by simp[hy]));omega
theorem Am {l:List Int}{b:Int}(h:∀x ∈ l,x≤b):l.sum≤b*l.length:=by
 induction l with
 |nil=>simp
 |cons x l ih=>rw[List.sum_cons];have:=h x (by simp);have:=ih (fun y hy=>h y (by simp[hy]));simp only[List.length_cons];rw[show b*((l.length+1:Nat):Int)=b*l.length+b by push_cast;rw[Int.mul_add,Int.mul_one]];omega
theorem GL (c:Int)(w:List Int)(hc:0≤c)(hw:∀x ∈ w,0≤x)(hs:0<w.sum):∀i,i≤w.length→∃R,0≤R∧R≤w.sum*i∧w.sum*((List.range i).map (dN c w)).sum+R=c*(w.take i).sum:=by
 intro i
 induction i with
 |zero=>intro _;exact⟨0,by omega,by simp,by simp⟩
 | succ i ih=>
   intro hi;obtain⟨R,h1,h2,h3⟩:=ih (by omega);have hx:w.getD i 0=w[i]:=by rw[List.getD_eq_getElem?_getD];simp[show i<w.length by omega]
   have h4:=Int.tmod_add_mul_tdiv (c*w[i]) w.sum;have h5:0≤c*w[i]:=Int.mul_nonneg hc (hw _ (List.getElem_mem _));have h6:=Int.tmod_nonneg w.sum h5;have h7:=Int.tmod_lt_of_pos (c*w[i]) hs;refine⟨R+(c*w[i]).tmod w.sum,by omega,?_,?_⟩
   · rw[show((i+1:Nat):Int)=(i:Int)+1 by push_cast;rfl,Int.mul_add,Int.mul_one];omega
   · rw[sk (show i<w.length by omega),Int.mul_add,←h3,List.range_succ,List.map_append,List.sum_append,List.map_singleton,List.sum_singleton,Int.mul_add];have:dN c w i=(c*w[i]).tdiv w.sum:=by unfold dN;rw[hx]
     rw[this];omega
theorem z8 (c:Int)(w:List Int)(hc:0≤c)(hw:∀x ∈ w,0≤x)(hs:0<w.sum):0≤gH c (dN c w) w.length∧gH c (dN c w) w.length≤w.length:=by
 obtain⟨R,h1,h2,h3⟩:=GL c w hc hw hs w.length (Nat.le_refl _);rw[List.take_length]at h3
 have e:w.sum*gH c (dN c w) w.length=R:=by
  unfold gH;rw[Int.mul_sub,Int.mul_comm w.sum c];omega
 constructor
 · refine Int.not_lt.1 fun h=> ?_
   have:=Int.mul_neg_of_pos_of_neg hs h;omega
 · exact Int.le_of_mul_le_mul_left (by rw[e];exact h2) hs
section
variable {α:Type} (cmp:α→α→Int)
theorem DT (x:α):∀l:List α,(fC cmp x l).Perm (x::l):=by
 intro l
 induction l with
 |nil=>exact .refl _
 | cons y r ih=>
   simp only[fC];split
   · exact(ih.cons y).trans (.swap x y r)
   · exact .refl _
theorem y0 (l:List α):(bF cmp l).Perm l:=by
 have:∀ (l acc:List α),(l.foldl (fun acc x=>fC cmp x acc) acc).Perm (l++acc):=by
  intro l
  induction l with
  |nil=>intro acc;exact .refl _
  | cons x l ih=>
    intro acc;rw[List.foldl_cons];refine(ih _).trans (((DT cmp x acc).append_left l).trans ?_);exact List.perm_middle
 have h:=this l [];rw[List.append_nil]at h;exact h
theorem dH (l:List α):(di cmp l).Perm l:=(List.reverse_perm _).trans (y0 cmp l)
variable (R:α→α→Prop) (tr:∀a b c,R a b→R b c→R a c)
include tr in
theorem uD (x:α):∀l:List α,l.Pairwise (fun a b=>R b a)→(∀y ∈ l,(cmp x y<0→R x y)∧(¬cmp x y<0→R y x))→(fC cmp x l).Pairwise (fun a b=>R b a):=by
 intro l
 induction l with
 |nil=>intro _ _;simp[fC]
 | cons y r ih=>
   intro h hc;have h':=List.pairwise_cons.1 h;simp only[fC];split
   · rename_i hlt;rw[List.pairwise_cons];refine⟨fun z hz=> ?_,ih h'.2 (fun z hz=>hc z (by simp[hz]))⟩;rcases(za cmp x z).1 hz with q|q
     · subst q;exact(hc y (by simp)).1 hlt
     · exact h'.1 z q
   · rename_i hlt;have hyx:=(hc y (by simp)).2 hlt;rw[List.pairwise_cons];refine⟨fun z hz=> ?_,h⟩;rcases List.mem_cons.1 hz with q|q
     · subst q;exact hyx
     · exact tr _ _ _ (h'.1 z q) hyx
include tr in
theorem tK:∀l:List α,l.Pairwise (fun y x=>(cmp x y<0→R x y)∧(¬cmp x y<0→R y x))→(di cmp l).Pairwise R:=by
 intro l h;unfold di;rw[List.pairwise_reverse]
 have:∀n,n≤l.length→(bF cmp (l.take n)).Pairwise (fun a b=>R b a):=by
  intro n
  induction n with
  |zero=>intro _;simp[bF]
  | succ n ih=>
    intro hn;rw[gQ hn,ij];refine uD cmp R tr _ _ (ih (by omega)) (fun y hy=> ?_);have hy:=(jg cmp _).1 hy;have hp:(l.take (n+1)).Pairwise (fun y x=>(cmp x y<0→R x y)∧(¬cmp x y<0→R y x)):=h.sublist (List.take_sublist _ _);rw[gQ hn,List.pairwise_append]at hp;exact hp.2.2 y hy _ (by simp)
 have:=this l.length (Nat.le_refl _);rwa [List.take_length]at this
end
theorem bH {p:Nat→Prop}{i:Nat}(h:∀j,j<i→p j)(h1:p i):∀j,j<i+1→p j:=fun j hj=>by
 rcases Nat.lt_or_ge j i with q|q
 · exact h j q
 · have:j=i:=by omega
   subst this;exact h1
theorem DO:jh 3 [1,1]=0:=by decide+kernel
theorem Ds:sS 3 [1,1]= [2,1]:=by decide+kernel
structure QK where
 tm:Int
 gate:List UInt8
 plate:List UInt8
 cents:Int
def AW (c:UInt8):Bool:=(decide (65≤c.toNat)&&decide (c.toNat≤90))||(decide (48≤c.toNat)&&decide (c.toNat≤57))
def i7 (s:List UInt8):Bool:=s.all AW&&decide (2≤s.length)&&decide (s.length≤10)
theorem Mf (s:List UInt8)(hl:s.length≤2^40):ai Tryz.prog 122 [.d (.str s)] [] (fun x r=>x= .d (.bool (i7 s))∧r= []):=by
 refine af hT (C:= []) Tryz.func122 rfl Tryz.call122 rfl rfl rfl ?_;conv=>whnf
 refine ah hT (C:= []) (ι:=Nat) (fun i=>i≤s.length∧∀j,j<i→AW (s.getD j 0)=true) (fun i=>aN [(0,.d (.str s)),(6,.d (.int .i64 s.length)),(7,.d (.int .i64 i))] []) (fun i=>s.length - i) 0 ⟨by omega,by omega⟩ (by exact bz []) ?_;rintro i ⟨p1,p2⟩;have e1:(i:Int).toNat=i:=Int.toNat_natCast i
 have hbad:i<s.length→AW (s.getD i 0)=false→i7 s=false:=fun hi h=>by
  have:s.all AW=false:=by
   rw[List.all_eq_false];exact⟨s.getD i 0,aq hi,by rw[h];simp⟩
  simp only[i7,this,Bool.false_and]
 have fc:i=s.length→s.all AW=true:=fun hi=>by
  rw[List.all_eq_true];intro c hc;obtain⟨j,hj,rfl⟩:=bQ (d:=0) hc;exact p2 j (by omega)
 conv=>whnf
 repeat' (first|((first|(refine aa ?_ ?_<;>intro hb<;>try simp only[az]at hb)|omega|refine aA ?_|decide|assumption)<;>conv=>whnf))
 all_goals first
  |(refine⟨i+1,⟨by omega,bH p2 (by clear p2 hbad fc;simp only[e1]at*;simp only[AW];grind)⟩,by omega,(by exact bz [])⟩)
  | (refine .ret _ ?_
     conv=>whnf
     refine⟨[],⟨?_,rfl⟩,trivial⟩;conv=>lhs;whnf
     congr 2
     first
      |(rw[hbad (by omega) (by clear p2 hbad fc;simp only[e1]at*;simp only[AW];grind)])
      |(unfold i7;rw[fc (by omega)];clear p2 hbad fc;grind))
def eU (a b:Int):Int:=if a<b then -1 else if b<a then 1 else 0
def dM (a b:List UInt8):Int:=if Op.bytesLess a b=true then -1 else if Op.bytesLess b a=true then 1 else 0
theorem PJ (a:Int):ai Tryz.prog 154 [.d (.int .i64 a)] [] (fun x r=>x= .d (.bool false)∧r= []):=by
 refine af hT (C:= []) Tryz.func154 rfl Tryz.call154 rfl rfl rfl ?_;conv=>whnf
 refine .ret _ ?_;conv=>whnf
 refine⟨[],⟨?_,rfl⟩,trivial⟩;conv=>lhs;whnf
 simp
theorem O5 (a:List UInt8):ai Tryz.prog 107 [.d (.str a)] [] (fun x r=>x= .d (.bool false)∧r= []):=by
 refine af hT (C:= []) Tryz.func107 rfl Tryz.call107 rfl rfl rfl ?_;conv=>whnf
 refine .ret _ ?_;conv=>whnf
 refine⟨[],⟨?_,rfl⟩,trivial⟩;conv=>lhs;whnf
 simp
theorem FC (a b:Int):ai Tryz.prog 104 [.d (.int .i64 a),.d (.int .i64 b)] [] (fun x r=>x= .d (.int .i64 (eU a b))∧r= []):=by
 refine af hT (C:= []) Tryz.func104 rfl Tryz.call104 rfl rfl rfl ?_;conv=>whnf
 repeat' (first|(refine ac (PJ _) rfl rfl ?_;rotate_right;conv=>whnf)|((first|(refine aa ?_ ?_<;>intro hb<;>try simp only[az]at hb)|omega|refine aA ?_|decide|assumption)<;>conv=>whnf))
 all_goals
  refine .ret _ ?_;conv=>whnf
  refine⟨[],⟨?_,rfl⟩,trivial⟩;conv=>lhs;whnf
  congr 2;unfold eU;grind
theorem gu:∀ (a b:List UInt8),Op.bytesLess a b=false→a≠b→Op.bytesLess b a=true:=by
 intro a
 induction a with
 | nil=>intro b h hn;cases b with
   |nil=>exact absurd rfl hn
   |cons y ys=>simp[Op.bytesLess]at h
 | cons x xs ih=>
   intro b h hn
   cases b with
   |nil=>simp[Op.bytesLess]
   | cons y ys=>
     simp only[Op.bytesLess]at h ⊢;grind
theorem yE (a b:List UInt8):ai Tryz.prog 56 [.d (.str a),.d (.str b)] [] (fun x r=>x= .d (.int .i64 (dM a b))∧r= []):=by
 refine af hT (C:= []) Tryz.func56 rfl Tryz.call56 rfl rfl rfl ?_;conv=>whnf
 repeat' (first|(refine ac (O5 _) rfl rfl ?_;rotate_right;conv=>whnf)|((first|(refine aa ?_ ?_<;>intro hb<;>try simp only[az]at hb)|omega|refine aA ?_|decide|assumption)<;>conv=>whnf))
 all_goals
  refine .ret _ ?_;conv=>whnf
  refine⟨[],⟨?_,rfl⟩,trivial⟩;conv=>lhs;whnf
  congr 2;unfold dM;grind [gu]
theorem A5 (l:List Int)(hl:l.length≤2^40):ai Tryz.prog 73 [.d (dC l)] [] (fun x r=>x= .d (.int .i64 (al l))∧r= []):=by
 refine af hT (C:= []) Tryz.func73 rfl Tryz.call73 rfl rfl rfl ?_;conv=>whnf
 refine ah hT (C:= []) (ι:=Nat) (fun i=>i≤l.length∧al l=al (l.drop i)) (fun i=>aN [(3,.d (.int .i64 0)),(6,.d (dC l)),(7,.d (.int .i64 l.length)),(8,.d (.int .i64 i))] []) (fun i=>l.length - i) 0 ⟨by omega,by simp⟩ (by exact bz []) ?_;rintro i ⟨p1,p2⟩;have hd:i<l.length→l.drop i=l.getD i 0::l.drop (i+1):=fun hi=>by rw[List.drop_eq_getElem_cons hi,List.getD_eq_getElem?_getD,List.getElem?_eq_getElem hi];rfl
 conv=>whnf
 repeat' (first|((first|(refine aa ?_ ?_<;>intro hb<;>try simp only[az]at hb)|omega|refine aA ?_|decide|assumption)<;>conv=>whnf))
 · refine .ret _ ?_;conv=>whnf
   refine⟨[],⟨?_,rfl⟩,trivial⟩;conv=>lhs;whnf
   congr 2;rw[p2,hd (by omega),al,if_neg hb,Int.toNat_natCast]
 · exact⟨i+1,⟨by omega,by rw[p2,hd (by omega),al,if_pos hb]⟩,by omega,(by exact bz [])⟩
 · refine .ret _ ?_;conv=>whnf
   refine⟨[],⟨?_,rfl⟩,trivial⟩;conv=>lhs;whnf
   congr 2;rw[p2,List.drop_eq_nil_iff.2 (by omega)];rfl
def j7 (p:Nat→Bool):Nat→Int
 |0=> -1
 |n+1=>if j7 p n= -1 then(if p n=true then n else -1)else j7 p n
theorem eG {p:Nat→Bool}:∀ {n:Nat},(∀j,j<n→p j=false)→j7 p n= -1:=by
 intro n
 induction n with
 |zero=>intro _;rfl
 |succ n ih=>intro h;rw[j7,if_pos (ih fun j hj=>h j (by omega)),h n (by omega)];rfl
theorem gm {p:Nat→Bool}{n i:Nat}(hi:i<n)(h:∀j,j<i→p j=false)(h1:p i=true):j7 p n=i:=by
 induction n with
 |zero=>omega
 | succ n ih=>
   rw[j7]
   by_cases q:i<n
   · rw[ih q,if_neg (by omega)]
   · have:i=n:=by omega
     subst this;rw[if_pos (eG h),if_pos h1]
theorem e6 {p:Nat→Bool}:∀ {n:Nat},-1≤j7 p n∧j7 p n<n∧(0≤j7 p n→p (j7 p n).toNat=true):=by
 intro n
 induction n with
 |zero=>simp[j7]
 | succ n ih=>
   rw[j7];split
   · split
     · rename_i h;exact⟨by omega,by omega,fun _=>by simpa using h⟩
     · exact⟨by omega,by omega,fun h=>by omega⟩
   · exact⟨ih.1,by omega,ih.2.2⟩
theorem Ex (n:Int):ai Tryz.prog 98 [.d (.int .i64 n)] [] (fun x r=>x= .d (.bool (decide (0≤n∧n≤5761439)))∧r= []):=by
 refine af hT (C:= []) Tryz.func98 rfl Tryz.call98 rfl rfl rfl ?_;conv=>whnf
 repeat' (first|(refine ac (fA _ _ _) rfl rfl ?_;rotate_right;conv=>whnf)|((first|(refine aa ?_ ?_<;>intro hb<;>try simp only[az]at hb)|omega|refine aA ?_|decide|assumption)<;>conv=>whnf))
 refine .ret _ ?_;conv=>whnf
 refine⟨[],⟨?_,rfl⟩,trivial⟩;conv=>lhs;whnf
structure gR where
 kind:Int
 key:List UInt8
 cents:Int
deriving DecidableEq
def Jn:gR→List DV:=fun c=> [.int .i64 c.kind,.str c.key,.int .i64 c.cents]
def j5:gR:=⟨0,[],0⟩
abbrev jK (l:List gR):DV:=dD 3 Jn j5 l
theorem bV {l:List (List UInt8)}{u:List UInt8}(h:u ∈ l)(q:l.all (fun x=>decide (x.length≤8))=true):u.length≤8:=by
 have:=List.all_eq_true.1 q u h;exact of_decide_eq_true this
theorem PK (n:Int):ai Tryz.prog 90 [.d (.int .i64 n)] [] (fun x r=>x= .d (.bool (decide (0≤n∧n≤5761439)))∧r= []):=by
 refine af hT (C:= []) Tryz.func90 rfl Tryz.call90 rfl rfl rfl ?_;conv=>whnf
 repeat' (first|(refine ac (zC _ _ _) rfl rfl ?_;rotate_right;conv=>whnf)|((first|(refine aa ?_ ?_<;>intro hb<;>try simp only[az]at hb)|omega|refine aA ?_|decide|assumption)<;>conv=>whnf))
 refine .ret _ ?_;conv=>whnf
 refine⟨[],⟨?_,rfl⟩,trivial⟩;conv=>lhs;whnf
theorem wc:aG []=false:=by decide
theorem xX (a:List UInt8):Op.bytesLess a []=false:=by cases a<;>rfl
theorem fU {α:Type}{f:α→List DV}{d:α}{l:List α}{x y:α}{e k j1 j2:Nat}{ds1 ds2:List DV}(h1:∀z,bR (f z) 0 ds1=f x)(h2:∀z,bR (f z) 0 ds2=f y):
 aY.le (.buf e k l.length fun i=>bif Nat.beq i j2 then bR (bif Nat.beq i j1 then bR (aV f d l i) 0 ds1 else aV f d l i) 0 ds2 else bif Nat.beq i j1 then bR (aV f d l i) 0 ds1 else aV f d l i) (aM e k f d ((l.set j1 x).set j2 y)):=by
 refine bB (by simp) (fun k hk=> ?_);have e1:=ku (f:=f) (d:=d) (l:=l) (x:=x) (j:=j1) (off:=0) (ds:=ds1) (get:=aV f d l) (fun _ _=>rfl) (fun z _=>h1 z);have e2:=ku (f:=f) (d:=d) (l:=l.set j1 x) (x:=y) (j:=j2) (off:=0) (ds:=ds2) (get:=fun i=>bif Nat.beq i j1 then bR (aV f d l i) 0 ds1 else aV f d l i) (fun k hk=>e1 k (by simpa using hk)) (fun z _=>h2 z);exact e2 k (by simpa using hk)
theorem Fl {l:List Int}{u:Int}(h:u ∈ l)(q:l.all (fun x=>decide (-2^40≤x∧x≤2^40))=true): -2^40≤u∧u≤2^40:=by
 have:=List.all_eq_true.1 q u h;exact of_decide_eq_true this
theorem vr {α:Type}{f:α→List DV}{d:α}{l:List α}{k j off:Nat}{ds:List DV}(g:α→α)(hg:∀y,bR (f y) off ds=f (g y)):
 SV.le (.d (.ro k l.length fun i=>bif Nat.beq i j then bR (aV f d l i) off ds else aV f d l i)) (.d (dD k f d (l.set j (g (l.getD j d))))):=
 sN fun y hy=>by rw[hg,List.getD_eq_getElem?_getD,hy];rfl
end Go.Proofs.YtodakofifpaljaaGreatDoor
namespace Go.Proofs
open Go.Shelf
end Go.Proofs
set_option maxRecDepth 20000
namespace Go.Proofs.YtodakofifpaljaaGreatDoor
open Go Go.Eng Go.RowKit
theorem xI {α:Type}{f:α→List DV}{d:α}{l m:List α}{e k:Nat}:aY.le (.buf e k (l.length+m.length) (eT l.length (aV f d l) (aV f d m))) (aM e k f d (l++m)):=by
 refine bB (by simp) (fun i hi=> ?_)
 by_cases h:i<l.length
 · rw[iO h];simp only[aV];rw[List.getD_eq_getElem?_getD,List.getD_eq_getElem?_getD,List.getElem?_append_left h]
 · rw[fg (by omega)];simp only[aV];rw[List.getD_eq_getElem?_getD,List.getD_eq_getElem?_getD,List.getElem?_append_right (by omega)]
theorem K7 {a b:QK}:a=b↔a.tm=b.tm∧a.gate=b.gate∧a.plate=b.plate∧a.cents=b.cents:=by cases a;cases b;simp
instance:DecidableEq QK:=fun _ _=>decidable_of_iff _ K7.symm
structure PV where
 v:List UInt8
 fr:Int
 to:Int
def Re:PV:=⟨[],0,0⟩
structure O4 where
 v:List UInt8
 day:Int
def Ra:O4:=⟨[],0⟩
def LD (w:List PV)(l:List O4):Prop:=w.length=l.length∧∀i,i<w.length→(w.getD i Re).v=(l.getD i Ra).v
instance (w:List PV)(l:List O4):Decidable (LD w l):=inferInstanceAs (Decidable (_∧_))
theorem An {α:Type}{f:α→List DV}{d:α}{l:List α}{k j m:Nat}(hm:m=(l.drop j).length):SV.le (.d (.ro k m fun i=>aV f d l (j+i))) (.d (dD k f d (l.drop j))):=
 bt hm (fun i hi=>by simp only[aV];rw[List.getD_eq_getElem?_getD,List.getD_eq_getElem?_getD,List.getElem?_drop])
theorem Bt {α:Type}{f:α→List DV}{d:α}{l:List α}{e k j off:Nat}{ds:List DV}(g:α→α)(hg:∀y,bR (f y) off ds=f (g y)):
 aY.le (.buf e k l.length fun i=>bif Nat.beq i j then bR (aV f d l i) off ds else aV f d l i) (aM e k f d (l.set j (g (l.getD j d)))):=
 g8 fun y hy=>by rw[hg,List.getD_eq_getElem?_getD,hy];rfl
def dW {α:Type}(K:α→Prop)(k:Nat)(l:List α):Prop:=l.length≤k∧∀x ∈ l,K x
theorem fi {α:Type}{K:α→Prop}{l:List α}{k m:Nat}{x:α}(h:dW K k l)(hm:k+1≤m)(hx:K x):dW K m (l++ [x]):=by
 refine⟨by rw[List.length_append];have:=h.1;simp;omega,fun p hp=> ?_⟩;rcases List.mem_append.1 hp with q|q
 · exact h.2 p q
 · simp at q;subst q;exact hx
theorem dJ {α:Type}{K:α→Prop}{l:List α}{k m:Nat}(h:dW K k l)(hm:k≤m):dW K m l:=⟨by have:=h.1;omega,h.2⟩
theorem iZ {α:Type}{K:α→Prop}{l:List α}{k j:Nat}{d:α}{g:α→α}(h:dW K k l)(hg:∀y,K y→K (g y)):dW K k (l.set j (g (l.getD j d))):=by
 refine⟨by rw[List.length_set];exact h.1,fun p hp=> ?_⟩
 by_cases hj:j<l.length
 · rcases List.mem_or_eq_of_mem_set hp with q|q
   · exact h.2 p q
   · subst q;exact hg _ (h.2 _ (aq hj))
 · rw[List.set_eq_of_length_le (by omega)]at hp;exact h.2 p hp
theorem f8 {α:Type}{f:α→List DV}{d:α}{l:List α}{j off:Nat}{ds:List DV}{get:Nat→List DV}(hg:∀i,i<l.length→get i=aV f d l i)(g:α→α)(h:∀y,bR (f y) off ds=f (g y)):
 ∀i,i<(l.set j (g (l.getD j d))).length→(bif Nat.beq i j then bR (get i) off ds else get i)=aV f d (l.set j (g (l.getD j d))) i:=by
 rw[List.length_set];exact ku hg (fun y hy=>by rw[h,List.getD_eq_getElem?_getD,hy];rfl)
abbrev mi {α:Type}(l:List α)(j:Nat)(d:α)(g:α→α):List α:=l.set j (g (l.getD j d))
structure Hf where
 st:List UInt8
 many:Int
def Rg:Hf→List DV:=fun s=> [.str s.st,.int .i64 s.many]
def N6:Hf:=⟨[],0⟩
abbrev At (l:List Hf):DV:=dD 2 Rg N6 l
structure rX where
 a:List UInt8
 b:List UInt8
 car:Int
 ride:Int
def QQ:rX→List DV:=fun s=> [.str s.a,.str s.b,.int .i64 s.car,.int .i64 s.ride]
def Ed:rX:=⟨[],[],0,0⟩
abbrev wA (l:List rX):DV:=dD 4 QQ Ed l
structure Fk where
 a:List UInt8
 b:List UInt8
 many:Int
def Rf:Fk→List DV:=fun s=> [.str s.a,.str s.b,.int .i64 s.many]
def Ph:Fk:=⟨[],[],0⟩
abbrev M1 (l:List Fk):DV:=dD 3 Rf Ph l
def Mk (l:List Hf)(i:Nat):Int:=
 let x:=l.getD i N6
 if aG x.st=false then 5 else if 0<i∧cV x.st (l.getD (i - 1) N6).st=true then 7 else if ¬ (-20≤x.many∧x.many≤20)then 1 else 0
def AB (l:List Hf):Int:=if 10<l.length then 2 else aX (Mk l) l.length
def O9 (x:Hf):Prop:=x.st.length≤2^40
def MW (l:List Hf):Prop:=l.length≤2^40∧∀x ∈ l,O9 x
def Jz (a b c d:List UInt8):Int:=al [dM a c,dM b d]
def Mu (l:List rX)(i:Nat):Int:=
 let x:=l.getD i Ed
 if aG x.a=false∨aG x.b=false then 5 else if x.a=x.b then 14 else if 0<i∧0≤Jz (l.getD (i - 1) Ed).a (l.getD (i - 1) Ed).b x.a x.b then 7 else if ¬ ((0≤x.car∧x.car≤1000000)∧(0≤x.ride∧x.ride≤1000000))then 1 else 0
def AV (l:List rX):Int:=if 2500<l.length then 2 else aX (Mu l) l.length
def Pu (x:rX):Prop:=x.a.length≤2^40∧x.b.length≤2^40
def Mx (l:List rX):Prop:=l.length≤2^40∧∀x ∈ l,Pu x
def tN:List Hf:= [⟨[97],1⟩,⟨[98],-1⟩]
def tR:List rX:= [⟨[97],[98],4,0⟩]
structure zR where
 frm:Int
 veh:List UInt8
 plt:List UInt8
deriving DecidableEq
structure QZ where
 veh:List UInt8
 frm:Int
 til:Int
def Np (L:List zR)(p:List UInt8):Option zR:=L.find? fun e=>decide (e.plt=p)
structure HS where
 live:List zR
 out:List UInt8→List QZ
def xH (s:HS)(p:List UInt8)(t:Int):HS:=
 match Np s.live p with
 |none=>s
 |some e=>⟨s.live.filter fun e=> !decide (e.plt=p),fun q=>if q=p∧e.frm<t then s.out q++ [⟨e.veh,e.frm,t⟩]else s.out q⟩
def Nn (L:List zR)(v:List UInt8):Option zR:=L.find? fun e=>decide (e.veh=v)
def NP (s:HS)(x:zR):HS:=match Nn s.live x.veh with|none=>s|some e=>xH s e.plt x.frm
def Ce (s:HS)(x:zR):HS:=⟨(xH (NP s x) x.plt x.frm).live++ [x],(xH (NP s x) x.plt x.frm).out⟩
def kA:HS:=⟨[],fun _=> []⟩
def fc (l:List zR):HS:=l.foldl Ce kA
end Go.Proofs.YtodakofifpaljaaGreatDoor
