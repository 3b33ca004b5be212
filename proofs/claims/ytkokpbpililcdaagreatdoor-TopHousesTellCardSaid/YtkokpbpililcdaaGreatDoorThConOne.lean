/- TopHousesTell is proved: for every input the law returns true, and its argument reads afterwards as it read before. Conditions: those of the given row alone. -/
import Derived.Shelf.LaysM
import Derived.Shelf.LaysC
import Derived.Shelf.Strconv.Itoa3
import Derived.Shelf.Strconv.AtoiAll
import Derived.Shelf.Strings.Prefix
import Derived.Shelf.Strings.Split
import Derived.Test.YtkokpbpililcdaaGreatDoorProg
import Derived.Test.YtkokpbpililcdaaGreatDoorThEngTwo
import Derived.Below
import Derived.Lib.SplitLaws
import Derived.Shelf.Strings.SlTrimAscii
import Derived.Shelf.Spec.SlicesGrow
import Derived.Shelf.Small.Strs
set_option linter.unusedVariables false
set_option linter.unusedSimpArgs false
namespace Go.Proofs
open Go.Shelf
def oU:Go.Shelf.Ren:=⟨fun|171=>117|243=>170|246=>218|283=>258|284=>259|285=>260|286=>261|129=>210|317=>291|318=>292|319=>293|320=>294|337=>308|338=>309|n=>n,fun|3=>3|9=>9|2=>2|4=>4|171=>347|0=>0|53=>309|37=>142|5=>5|173=>349|212=>377|51=>307|20=>20|213=>378|46=>246|232=>402|233=>403|n=>n,fun|17=>1|18=>6|19=>7|n=>n⟩
theorem uQ:Go.Proofs.LaysM.n171 Tryz.prog oU:={
 mixed:=by kernel_rfl
 f129:=Tryz.func210.trans (congrArg some (by kernel_rfl))
 f171:=Tryz.func117.trans (congrArg some (by kernel_rfl))
 f243:=Tryz.func170.trans (congrArg some (by kernel_rfl))
 f246:=Tryz.func218.trans (congrArg some (by kernel_rfl))
 f283:=Tryz.func258.trans (congrArg some (by kernel_rfl))
 f284:=Tryz.func259.trans (congrArg some (by kernel_rfl))
 f285:=Tryz.func260.trans (congrArg some (by kernel_rfl))
 f286:=Tryz.func261.trans (congrArg some (by kernel_rfl))
 f317:=Tryz.func291.trans (congrArg some (by kernel_rfl))
 f318:=Tryz.func292.trans (congrArg some (by kernel_rfl))
 f319:=Tryz.func293.trans (congrArg some (by kernel_rfl))
 f320:=Tryz.func294.trans (congrArg some (by kernel_rfl))
 f337:=Tryz.func308.trans (congrArg some (by kernel_rfl))
 f338:=Tryz.func309.trans (congrArg some (by kernel_rfl))
 t0:=Tryz.underlying0
 a0:=Tryz.isAgg0
 z0:=Tryz.sizeOf0
 v0:=Tryz.zeroValue0
 t2:=Tryz.underlying2
 a2:=Tryz.isAgg2
 z2:=Tryz.sizeOf2
 v2:=Tryz.zeroValue2
 t3:=Tryz.underlying3
 a3:=Tryz.isAgg3
 z3:=Tryz.sizeOf3
 v3:=Tryz.zeroValue3
 t4:=Tryz.underlying4
 a4:=Tryz.isAgg4
 z4:=Tryz.sizeOf4
 v4:=Tryz.zeroValue4
 t5:=Tryz.underlying5
 a5:=Tryz.isAgg5
 z5:=Tryz.sizeOf5
 v5:=Tryz.zeroValue5
 t9:=Tryz.underlying9
 a9:=Tryz.isAgg9
 z9:=Tryz.sizeOf9
 v9:=Tryz.zeroValue9
 t20:=Tryz.underlying20
 a20:=Tryz.isAgg20
 z20:=Tryz.sizeOf20
 v20:=Tryz.zeroValue20
 t37:=Tryz.underlying142
 a37:=Tryz.isAgg142
 z37:=Tryz.sizeOf142
 v37:=Tryz.zeroValue142
 t46:=Tryz.underlying246
 a46:=Tryz.isAgg246
 z46:=Tryz.sizeOf246
 v46:=Tryz.zeroValue246
 t51:=Tryz.underlying307
 a51:=Tryz.isAgg307
 z51:=Tryz.sizeOf307
 v51:=Tryz.zeroValue307
 t53:=Tryz.underlying309
 a53:=Tryz.isAgg309
 z53:=Tryz.sizeOf309
 v53:=Tryz.zeroValue309
 t171:=Tryz.underlying347
 a171:=Tryz.isAgg347
 z171:=Tryz.sizeOf347
 v171:=Tryz.zeroValue347
 t173:=Tryz.underlying349
 a173:=Tryz.isAgg349
 z173:=Tryz.sizeOf349
 v173:=Tryz.zeroValue349
 t212:=Tryz.underlying377
 a212:=Tryz.isAgg377
 z212:=Tryz.sizeOf377
 v212:=Tryz.zeroValue377
 t213:=Tryz.underlying378
 a213:=Tryz.isAgg378
 z213:=Tryz.sizeOf378
 t232:=Tryz.underlying402
 a232:=Tryz.isAgg402
 z232:=Tryz.sizeOf402
 v232:=Tryz.zeroValue402
 t233:=Tryz.underlying403
 a233:=Tryz.isAgg403
 z233:=Tryz.sizeOf403
 v233:=Tryz.zeroValue403
 g17:=by kernel_rfl
 g18:=by kernel_rfl
 g19:=by kernel_rfl
 i0:=by kernel_rfl
 i2:=by kernel_rfl
 i3:=by kernel_rfl
 i4:=by kernel_rfl
 i5:=by kernel_rfl
 i9:=by kernel_rfl
 i20:=by kernel_rfl
 i37:=by kernel_rfl
 i46:=by kernel_rfl
 i51:=by kernel_rfl
 i53:=by kernel_rfl
 i171:=by kernel_rfl
 i173:=by kernel_rfl
 i212:=by kernel_rfl
 i232:=by kernel_rfl
 i233:=by kernel_rfl
 m17:=by kernel_rfl
 m18:=by kernel_rfl
 m19:=by kernel_rfl}
def bP:Go.Shelf.Ren:=⟨fun|172=>176|244=>224|245=>225|247=>268|279=>269|280=>270|281=>271|282=>272|287=>297|316=>298|171=>117|205=>299|321=>310|322=>311|243=>170|246=>218|283=>258|284=>259|285=>260|286=>261|129=>210|317=>291|318=>292|319=>293|320=>294|337=>308|338=>309|n=>n,fun|9=>9|3=>3|75=>146|76=>147|4=>4|5=>5|167=>352|37=>142|0=>0|85=>353|2=>2|168=>355|53=>309|175=>385|46=>246|210=>388|127=>217|145=>399|143=>397|21=>21|171=>347|173=>349|212=>377|51=>307|20=>20|213=>378|232=>402|233=>403|80=>151|n=>n,fun|15=>4|16=>5|17=>1|18=>6|19=>7|n=>n⟩
theorem jL:Go.Proofs.LaysC.n172 Tryz.prog bP:={
 mixed:=by kernel_rfl
 f129:=Tryz.func210.trans (congrArg some (by kernel_rfl))
 f171:=Tryz.func117.trans (congrArg some (by kernel_rfl))
 f172:=Tryz.func176.trans (congrArg some (by kernel_rfl))
 f205:=Tryz.func299.trans (congrArg some (by kernel_rfl))
 f243:=Tryz.func170.trans (congrArg some (by kernel_rfl))
 f244:=Tryz.func224.trans (congrArg some (by kernel_rfl))
 f245:=Tryz.func225.trans (congrArg some (by kernel_rfl))
 f246:=Tryz.func218.trans (congrArg some (by kernel_rfl))
 f247:=Tryz.func268.trans (congrArg some (by kernel_rfl))
 f279:=Tryz.func269.trans (congrArg some (by kernel_rfl))
 f280:=Tryz.func270.trans (congrArg some (by kernel_rfl))
 f281:=Tryz.func271.trans (congrArg some (by kernel_rfl))
 f282:=Tryz.func272.trans (congrArg some (by kernel_rfl))
 f283:=Tryz.func258.trans (congrArg some (by kernel_rfl))
 f284:=Tryz.func259.trans (congrArg some (by kernel_rfl))
 f285:=Tryz.func260.trans (congrArg some (by kernel_rfl))
 f286:=Tryz.func261.trans (congrArg some (by kernel_rfl))
 f287:=Tryz.func297.trans (congrArg some (by kernel_rfl))
 f316:=Tryz.func298.trans (congrArg some (by kernel_rfl))
 f317:=Tryz.func291.trans (congrArg some (by kernel_rfl))
 f318:=Tryz.func292.trans (congrArg some (by kernel_rfl))
 f319:=Tryz.func293.trans (congrArg some (by kernel_rfl))
 f320:=Tryz.func294.trans (congrArg some (by kernel_rfl))
 f321:=Tryz.func310.trans (congrArg some (by kernel_rfl))
 f322:=Tryz.func311.trans (congrArg some (by kernel_rfl))
 f337:=Tryz.func308.trans (congrArg some (by kernel_rfl))
 f338:=Tryz.func309.trans (congrArg some (by kernel_rfl))
 t0:=Tryz.underlying0
 a0:=Tryz.isAgg0
 z0:=Tryz.sizeOf0
 v0:=Tryz.zeroValue0
 t2:=Tryz.underlying2
 a2:=Tryz.isAgg2
 z2:=Tryz.sizeOf2
 v2:=Tryz.zeroValue2
 t3:=Tryz.underlying3
 a3:=Tryz.isAgg3
 z3:=Tryz.sizeOf3
 v3:=Tryz.zeroValue3
 t4:=Tryz.underlying4
 a4:=Tryz.isAgg4
 z4:=Tryz.sizeOf4
 v4:=Tryz.zeroValue4
 t5:=Tryz.underlying5
 a5:=Tryz.isAgg5
 z5:=Tryz.sizeOf5
 v5:=Tryz.zeroValue5
 t9:=Tryz.underlying9
 a9:=Tryz.isAgg9
 z9:=Tryz.sizeOf9
 v9:=Tryz.zeroValue9
 t20:=Tryz.underlying20
 a20:=Tryz.isAgg20
 z20:=Tryz.sizeOf20
 v20:=Tryz.zeroValue20
 t21:=Tryz.underlying21
 a21:=Tryz.isAgg21
 z21:=Tryz.sizeOf21
 v21:=Tryz.zeroValue21
 t37:=Tryz.underlying142
 a37:=Tryz.isAgg142
 z37:=Tryz.sizeOf142
 v37:=Tryz.zeroValue142
 t46:=Tryz.underlying246
 a46:=Tryz.isAgg246
 z46:=Tryz.sizeOf246
 v46:=Tryz.zeroValue246
 t51:=Tryz.underlying307
 a51:=Tryz.isAgg307
 z51:=Tryz.sizeOf307
 v51:=Tryz.zeroValue307
 t53:=Tryz.underlying309
 a53:=Tryz.isAgg309
 z53:=Tryz.sizeOf309
 v53:=Tryz.zeroValue309
 t75:=Tryz.underlying146
 a75:=Tryz.isAgg146
 z75:=Tryz.sizeOf146
 v75:=Tryz.zeroValue146
 t76:=Tryz.underlying147
 a76:=Tryz.isAgg147
 z76:=Tryz.sizeOf147
 v76:=Tryz.zeroValue147
 t85:=Tryz.underlying353
 a85:=Tryz.isAgg353
 z85:=Tryz.sizeOf353
 v85:=Tryz.zeroValue353
 t127:=Tryz.underlying217
 a127:=Tryz.isAgg217
 z127:=Tryz.sizeOf217
 v127:=Tryz.zeroValue217
 t143:=Tryz.underlying397
 a143:=Tryz.isAgg397
 z143:=Tryz.sizeOf397
 v143:=Tryz.zeroValue397
 t145:=Tryz.underlying399
 a145:=Tryz.isAgg399
 z145:=Tryz.sizeOf399
 v145:=Tryz.zeroValue399
 t167:=Tryz.underlying352
 a167:=Tryz.isAgg352
 z167:=Tryz.sizeOf352
 v167:=Tryz.zeroValue352
 t168:=Tryz.underlying355
 a168:=Tryz.isAgg355
 z168:=Tryz.sizeOf355
 v168:=Tryz.zeroValue355
 t171:=Tryz.underlying347
 a171:=Tryz.isAgg347
 z171:=Tryz.sizeOf347
 v171:=Tryz.zeroValue347
 t173:=Tryz.underlying349
 a173:=Tryz.isAgg349
 z173:=Tryz.sizeOf349
 v173:=Tryz.zeroValue349
 t175:=Tryz.underlying385
 a175:=Tryz.isAgg385
 z175:=Tryz.sizeOf385
 v175:=Tryz.zeroValue385
 t210:=Tryz.underlying388
 a210:=Tryz.isAgg388
 z210:=Tryz.sizeOf388
 v210:=Tryz.zeroValue388
 t212:=Tryz.underlying377
 a212:=Tryz.isAgg377
 z212:=Tryz.sizeOf377
 v212:=Tryz.zeroValue377
 t213:=Tryz.underlying378
 a213:=Tryz.isAgg378
 z213:=Tryz.sizeOf378
 t232:=Tryz.underlying402
 a232:=Tryz.isAgg402
 z232:=Tryz.sizeOf402
 v232:=Tryz.zeroValue402
 t233:=Tryz.underlying403
 a233:=Tryz.isAgg403
 z233:=Tryz.sizeOf403
 v233:=Tryz.zeroValue403
 g15:=by kernel_rfl
 g16:=by kernel_rfl
 g17:=by kernel_rfl
 g18:=by kernel_rfl
 g19:=by kernel_rfl
 t80:=Tryz.underlying151
 a80:=Tryz.isAgg151
 z80:=Tryz.sizeOf151
 v80:=Tryz.zeroValue151
 i0:=by kernel_rfl
 i2:=by kernel_rfl
 i3:=by kernel_rfl
 i4:=by kernel_rfl
 i5:=by kernel_rfl
 i9:=by kernel_rfl
 i20:=by kernel_rfl
 i21:=by kernel_rfl
 i37:=by kernel_rfl
 i46:=by kernel_rfl
 i51:=by kernel_rfl
 i53:=by kernel_rfl
 i75:=by kernel_rfl
 i76:=by kernel_rfl
 i80:=by kernel_rfl
 i85:=by kernel_rfl
 i127:=by kernel_rfl
 i143:=by kernel_rfl
 i145:=by kernel_rfl
 i167:=by kernel_rfl
 i168:=by kernel_rfl
 i171:=by kernel_rfl
 i173:=by kernel_rfl
 i175:=by kernel_rfl
 i210:=by kernel_rfl
 i212:=by kernel_rfl
 i232:=by kernel_rfl
 i233:=by kernel_rfl
 m15:=by kernel_rfl
 m16:=by kernel_rfl
 m17:=by kernel_rfl
 m18:=by kernel_rfl
 m19:=by kernel_rfl
 c0:=by kernel_rfl
 c2:=by kernel_rfl
 c3:=by kernel_rfl
 c4:=by kernel_rfl
 c5:=by kernel_rfl
 c9:=by kernel_rfl
 c20:=by kernel_rfl
 c21:=by kernel_rfl
 c37:=by kernel_rfl
 c46:=by kernel_rfl
 c51:=by kernel_rfl
 c53:=by kernel_rfl
 c75:=by kernel_rfl
 c76:=by kernel_rfl
 c80:=by kernel_rfl
 c85:=by kernel_rfl
 c127:=by kernel_rfl
 c143:=by kernel_rfl
 c145:=by kernel_rfl
 c167:=by kernel_rfl
 c168:=by kernel_rfl
 c171:=by kernel_rfl
 c173:=by kernel_rfl
 c175:=by kernel_rfl
 c210:=by kernel_rfl
 c212:=by kernel_rfl
 c213:=by kernel_rfl
 c232:=by kernel_rfl
 c233:=by kernel_rfl}
def oQ:Go.Shelf.Ren:=⟨fun|146=>131|221=>120|268=>173|138=>174|143=>175|195=>221|197=>222|218=>223|219=>220|260=>267|217=>263|225=>264|224=>265|267=>266|266=>295|314=>296|n=>n,fun|9=>9|31=>68|3=>3|4=>4|0=>0|105=>318|21=>21|5=>5|46=>246|119=>381|139=>384|138=>383|146=>379|51=>307|n=>n,fun|1=>0|3=>2|4=>3|n=>n⟩
theorem uN:Go.Proofs.LaysM.n146 Tryz.prog oQ:={
 mixed:=by kernel_rfl
 f138:=Tryz.func174.trans (congrArg some (by kernel_rfl))
 f143:=Tryz.func175.trans (congrArg some (by kernel_rfl))
 f146:=Tryz.func131.trans (congrArg some (by kernel_rfl))
 f195:=Tryz.func221.trans (congrArg some (by kernel_rfl))
 f197:=Tryz.func222.trans (congrArg some (by kernel_rfl))
 f217:=Tryz.func263.trans (congrArg some (by kernel_rfl))
 f218:=Tryz.func223.trans (congrArg some (by kernel_rfl))
 f219:=Tryz.func220.trans (congrArg some (by kernel_rfl))
 f221:=Tryz.func120.trans (congrArg some (by kernel_rfl))
 f224:=Tryz.func265.trans (congrArg some (by kernel_rfl))
 f225:=Tryz.func264.trans (congrArg some (by kernel_rfl))
 f260:=Tryz.func267.trans (congrArg some (by kernel_rfl))
 f266:=Tryz.func295.trans (congrArg some (by kernel_rfl))
 f267:=Tryz.func266.trans (congrArg some (by kernel_rfl))
 f268:=Tryz.func173.trans (congrArg some (by kernel_rfl))
 f314:=Tryz.func296.trans (congrArg some (by kernel_rfl))
 t0:=Tryz.underlying0
 a0:=Tryz.isAgg0
 z0:=Tryz.sizeOf0
 v0:=Tryz.zeroValue0
 t3:=Tryz.underlying3
 a3:=Tryz.isAgg3
 z3:=Tryz.sizeOf3
 v3:=Tryz.zeroValue3
 t4:=Tryz.underlying4
 a4:=Tryz.isAgg4
 z4:=Tryz.sizeOf4
 v4:=Tryz.zeroValue4
 t5:=Tryz.underlying5
 a5:=Tryz.isAgg5
 z5:=Tryz.sizeOf5
 v5:=Tryz.zeroValue5
 t9:=Tryz.underlying9
 a9:=Tryz.isAgg9
 z9:=Tryz.sizeOf9
 v9:=Tryz.zeroValue9
 t21:=Tryz.underlying21
 a21:=Tryz.isAgg21
 z21:=Tryz.sizeOf21
 v21:=Tryz.zeroValue21
 t31:=Tryz.underlying68
 a31:=Tryz.isAgg68
 z31:=Tryz.sizeOf68
 v31:=Tryz.zeroValue68
 t46:=Tryz.underlying246
 a46:=Tryz.isAgg246
 z46:=Tryz.sizeOf246
 v46:=Tryz.zeroValue246
 t51:=Tryz.underlying307
 a51:=Tryz.isAgg307
 z51:=Tryz.sizeOf307
 v51:=Tryz.zeroValue307
 t105:=Tryz.underlying318
 a105:=Tryz.isAgg318
 z105:=Tryz.sizeOf318
 v105:=Tryz.zeroValue318
 t119:=Tryz.underlying381
 a119:=Tryz.isAgg381
 z119:=Tryz.sizeOf381
 t138:=Tryz.underlying383
 a138:=Tryz.isAgg383
 z138:=Tryz.sizeOf383
 v138:=Tryz.zeroValue383
 t139:=Tryz.underlying384
 a139:=Tryz.isAgg384
 z139:=Tryz.sizeOf384
 v139:=Tryz.zeroValue384
 t146:=Tryz.underlying379
 a146:=Tryz.isAgg379
 z146:=Tryz.sizeOf379
 v146:=Tryz.zeroValue379
 g1:=by kernel_rfl
 g3:=by kernel_rfl
 g4:=by kernel_rfl
 i0:=by kernel_rfl
 i3:=by kernel_rfl
 i4:=by kernel_rfl
 i5:=by kernel_rfl
 i9:=by kernel_rfl
 i21:=by kernel_rfl
 i31:=by kernel_rfl
 i46:=by kernel_rfl
 i51:=by kernel_rfl
 i105:=by kernel_rfl
 i138:=by kernel_rfl
 i139:=by kernel_rfl
 i146:=by kernel_rfl
 m1:=by kernel_rfl
 s1_3:=fun w h=>Go.Proofs.cell_of_shapedOpen_int (zero:=#[.int .i64 0]) (t:=3) h (of_decide_eq_true (by kernel_rfl)) (by kernel_rfl) rfl (by kernel_rfl) (by kernel_rfl) Tryz.underlying3
 m3:=by kernel_rfl
 m4:=by kernel_rfl}
def fc:Go.Shelf.Ren:=⟨fun|146=>131|221=>120|268=>173|138=>174|143=>175|195=>221|197=>222|218=>223|219=>220|260=>267|217=>263|225=>264|224=>265|267=>266|266=>295|314=>296|n=>n,fun|9=>9|31=>68|3=>3|4=>4|0=>0|105=>318|21=>21|5=>5|46=>246|119=>381|139=>384|138=>383|146=>379|51=>307|n=>n,fun|1=>0|3=>2|4=>3|n=>n⟩
theorem wu:Go.Proofs.Lays.n146 Tryz.prog fc:={
 mixed:=by kernel_rfl
 f138:=Tryz.func174.trans (congrArg some (by kernel_rfl))
 f143:=Tryz.func175.trans (congrArg some (by kernel_rfl))
 f146:=Tryz.func131.trans (congrArg some (by kernel_rfl))
 f195:=Tryz.func221.trans (congrArg some (by kernel_rfl))
 f197:=Tryz.func222.trans (congrArg some (by kernel_rfl))
 f217:=Tryz.func263.trans (congrArg some (by kernel_rfl))
 f218:=Tryz.func223.trans (congrArg some (by kernel_rfl))
 f219:=Tryz.func220.trans (congrArg some (by kernel_rfl))
 f221:=Tryz.func120.trans (congrArg some (by kernel_rfl))
 f224:=Tryz.func265.trans (congrArg some (by kernel_rfl))
 f225:=Tryz.func264.trans (congrArg some (by kernel_rfl))
 f260:=Tryz.func267.trans (congrArg some (by kernel_rfl))
 f266:=Tryz.func295.trans (congrArg some (by kernel_rfl))
 f267:=Tryz.func266.trans (congrArg some (by kernel_rfl))
 f268:=Tryz.func173.trans (congrArg some (by kernel_rfl))
 f314:=Tryz.func296.trans (congrArg some (by kernel_rfl))
 t0:=Tryz.underlying0
 a0:=Tryz.isAgg0
 z0:=Tryz.sizeOf0
 v0:=Tryz.zeroValue0
 t3:=Tryz.underlying3
 a3:=Tryz.isAgg3
 z3:=Tryz.sizeOf3
 v3:=Tryz.zeroValue3
 t4:=Tryz.underlying4
 a4:=Tryz.isAgg4
 z4:=Tryz.sizeOf4
 v4:=Tryz.zeroValue4
 t5:=Tryz.underlying5
 a5:=Tryz.isAgg5
 z5:=Tryz.sizeOf5
 v5:=Tryz.zeroValue5
 t9:=Tryz.underlying9
 a9:=Tryz.isAgg9
 z9:=Tryz.sizeOf9
 v9:=Tryz.zeroValue9
 t21:=Tryz.underlying21
 a21:=Tryz.isAgg21
 z21:=Tryz.sizeOf21
 v21:=Tryz.zeroValue21
 t31:=Tryz.underlying68
 a31:=Tryz.isAgg68
 z31:=Tryz.sizeOf68
 v31:=Tryz.zeroValue68
 t46:=Tryz.underlying246
 a46:=Tryz.isAgg246
 z46:=Tryz.sizeOf246
 v46:=Tryz.zeroValue246
 t51:=Tryz.underlying307
 a51:=Tryz.isAgg307
 z51:=Tryz.sizeOf307
 v51:=Tryz.zeroValue307
 t105:=Tryz.underlying318
 a105:=Tryz.isAgg318
 z105:=Tryz.sizeOf318
 v105:=Tryz.zeroValue318
 t119:=Tryz.underlying381
 a119:=Tryz.isAgg381
 z119:=Tryz.sizeOf381
 t138:=Tryz.underlying383
 a138:=Tryz.isAgg383
 z138:=Tryz.sizeOf383
 v138:=Tryz.zeroValue383
 t139:=Tryz.underlying384
 a139:=Tryz.isAgg384
 z139:=Tryz.sizeOf384
 v139:=Tryz.zeroValue384
 t146:=Tryz.underlying379
 a146:=Tryz.isAgg379
 z146:=Tryz.sizeOf379
 v146:=Tryz.zeroValue379
 g1:=by kernel_rfl
 g3:=by kernel_rfl
 g4:=by kernel_rfl}
def jX:Go.Shelf.Ren:=⟨fun|101=>177|208=>226|206=>273|n=>n,fun|9=>9|4=>4|3=>3|n=>n,fun|n=>n⟩
theorem xu:Go.Proofs.Lays.n101 Tryz.prog jX:={
 mixed:=by kernel_rfl
 f101:=Tryz.func177.trans (congrArg some (by kernel_rfl))
 f206:=Tryz.func273.trans (congrArg some (by kernel_rfl))
 f208:=Tryz.func226.trans (congrArg some (by kernel_rfl))
 t3:=Tryz.underlying3
 a3:=Tryz.isAgg3
 z3:=Tryz.sizeOf3
 v3:=Tryz.zeroValue3
 t4:=Tryz.underlying4
 a4:=Tryz.isAgg4
 z4:=Tryz.sizeOf4
 v4:=Tryz.zeroValue4
 t9:=Tryz.underlying9
 a9:=Tryz.isAgg9
 z9:=Tryz.sizeOf9
 v9:=Tryz.zeroValue9}
end Go.Proofs
set_option maxRecDepth 20000
namespace Go.Proofs.YtkokpbpililcdaaGreatDoor
open Go Go.Eng
def Dx:OL:= [(0,[]),(1,[]),(2,[]),(3,[]),(4,[]),(5,rg 5),(6,rg 5),(7,rg 5),(8,rg 5),(9,rg 5),(10,[]),(11,[])]
def Es:OL:= [(0,[]),(1,[]),(2,[]),(3,[]),(4,[]),(5,rg 5),(6,rg 5),(7,rg 5),(8,rg 5),(9,rg 5),(10,[]),(11,[])]
def Hb:List Nat:= [84,74,96,214,242,294,61,372,52,63,278]
theorem FY:Hb.all (qn Tryz.prog)=true:=by decide+kernel
noncomputable def T:ca:=Jc Tryz.prog (mem Hb)
theorem hT:aR Tryz.prog T:=⟨mem Hb,fun _ _ h=>h,fun t ht=>List.all_eq_true.1 FY t ((mem_iff _ _).1 ht)⟩
abbrev i64 (n:Int):DV:=.int .i64 n
def bp (n:Nat)(L:Nat→Int)(at':Int):aY:=.cells 25 [.d (.ro 1 n fun i=> [.int .i64 (L i)]),.d (.int .i64 at')]
def sJ (n:Nat)(L:Nat→Int):Prop:=n≤maxLen∧∀i,-2^63≤L i∧L i<2^63
theorem Km (x n:Int)(hn:n≤2^40):ai Tryz.prog 87 [.d (.int .i64 x),.d (.int .i64 n)] [] (fun y r=>(∃m:Int,0≤m∧(1≤n→m<n)∧(n<1→m=0)∧y= .d (.int .i64 m))∧r= []):=by
 refine ae hT (C:= []) Tryz.func87 rfl Tryz.call87 rfl rfl rfl ?_;conv=>whnf
 refine aa (fun h=> ?_) (fun h=> ?_)
 · conv=>whnf
   refine .ret _ ?_;conv=>whnf
   refine⟨[],⟨⟨_,?_,?_,?_,rfl⟩,rfl⟩,trivial⟩;all_goals (simp at h;omega)
 · conv=>whnf
   refine⟨?_,?_⟩
   · simp at h;omega
   conv=>whnf
   simp at h;have h1:=Int.tmod_lt_of_pos x (b:=n) (by omega);have h2:=Int.lt_tmod_of_pos x (b:=n) (by omega);refine aa (fun h2=> ?_) (fun h2=> ?_)
   · conv=>whnf
     simp at h2;refine⟨?_,?_⟩
     · unfold aS;omega
     · conv=>whnf
       refine .ret _ ?_;conv=>whnf
       refine⟨[],⟨⟨_,?_,?_,?_,rfl⟩,rfl⟩,trivial⟩;all_goals omega
   · conv=>whnf
     simp at h2;refine .ret _ ?_;conv=>whnf
     refine⟨[],⟨⟨_,?_,?_,?_,rfl⟩,rfl⟩,trivial⟩;all_goals omega
theorem MQ {a n:Int}(h0:0≤a)(hn:1≤n):0≤a.tdiv n∧a.tdiv n≤a∧0≤a.tmod n∧a.tmod n<n∧0≤a.tdiv n*a.tmod n∧a.tdiv n*a.tmod n≤a∧a.tmod n≤a:=by
 have h1:0≤a.tdiv n:=Int.tdiv_nonneg h0 (by omega);have h2:0≤a.tmod n:=Int.tmod_nonneg _ h0;have h3:a.tmod n<n:=Int.tmod_lt_of_pos _ (by omega);have h4:=Int.tmod_add_mul_tdiv a n;have h5:a.tdiv n*1≤a.tdiv n*n:=Int.mul_le_mul_of_nonneg_left hn h1;have h6:a.tdiv n*a.tmod n≤a.tdiv n*n:=Int.mul_le_mul_of_nonneg_left (by omega) h1;have h7:0≤a.tdiv n*a.tmod n:=Int.mul_nonneg h1 h2;rw[Int.mul_comm]at h4;have h8:0≤a.tdiv n*n:=Int.mul_nonneg h1 (by omega);refine⟨h1,?_,h2,h3,h7,?_,?_⟩<;>omega
theorem EQ (n:Nat)(L:Nat→Int)(hL:sJ n L)(a:Int)(h0:0≤a)(ha:a≤2^40)(m:Int)(hm:m≤2^40):
 ai Tryz.prog 32 [.ptr 1000000 0,.d (.int .i64 m)] [(1000000,bp n L a)] (fun y r=>(∃j:Int,0≤j∧(1≤m→j<m)∧(m<1→j=0)∧y= .d (.int .i64 j))∧r= [(1000000,bp n L (a+1))]):=by
 refine ae hT (C:= []) Tryz.func32 rfl Tryz.call32 rfl rfl rfl ?_;conv=>whnf
 refine⟨by unfold aS;omega,?_⟩;conv=>whnf
 refine aa (fun h=> ?_) (fun h=> ?_)
 · conv=>whnf
   refine⟨by unfold aS;omega,?_⟩;conv=>whnf
   refine dQ.of (Km _ _ hm) [] rfl ⟨lr,lr,trivial⟩ trivial rfl rfl ?_;rintro x rout ⟨⟨j,j1,j2,j3,rfl⟩,rfl⟩;refine⟨rfl,?_⟩;conv=>whnf
   refine .ret _ ?_;conv=>whnf
   exact⟨[(1000000,bp n L (a+1))],⟨⟨_,j1,j2,j3,rfl⟩,rfl⟩,rr,trivial⟩
 · conv=>whnf
   simp at h;have hnp:(1:Int)≤n:=by omega
   refine bR hT rfl [] Dx (by decide+kernel) ?_;conv=>whnf
   refine⟨by unfold aS;omega,?_⟩;conv=>whnf
   refine⟨by omega,?_⟩;conv=>whnf
   have ea:a+1 - 1=a:=by omega
   obtain⟨b1,b2,b3,b4,b5,b6,b7⟩:=MQ h0 hnp;refine bR hT rfl [] Es (by decide+kernel) ?_;conv=>whnf
   refine⟨by unfold aS;omega,?_⟩;conv=>whnf
   refine⟨by omega,?_⟩;conv=>whnf
   refine⟨by unfold aS;rw[ea];omega,?_⟩;conv=>whnf
   rw[ea];refine⟨⟨b3,b4⟩,?_⟩;conv=>whnf
   refine dQ.of (Km _ _ (by omega)) [] rfl ⟨lr,lr,trivial⟩ trivial rfl rfl ?_;rintro x rout ⟨⟨j,j1,j2,j3,rfl⟩,rfl⟩;refine⟨rfl,?_⟩;conv=>whnf
   refine⟨by unfold aS;omega,?_⟩;conv=>whnf
   have e2:a.tdiv n*(7919+a.tmod n)=7919*a.tdiv n+a.tdiv n*a.tmod n:=by rw[Int.mul_add,Int.mul_comm _ 7919]
   rw[e2];refine⟨by unfold aS;omega,?_⟩;conv=>whnf
   refine⟨by unfold aS;omega,?_⟩;conv=>whnf
   refine dQ.of (Km _ _ hm) [] rfl ⟨lr,lr,trivial⟩ trivial rfl rfl ?_;rintro x rout ⟨⟨j,k1,k2,k3,rfl⟩,rfl⟩;refine⟨rfl,?_⟩;conv=>whnf
   refine .ret _ ?_;conv=>whnf
   exact⟨[(1000000,bp n L (a+1))],⟨⟨_,k1,k2,k3,rfl⟩,rfl⟩,rr,trivial⟩
def gZ (n:Nat)(L:Nat→Int)(a:Int)(c:Int)(r:List (Nat×aY)):Prop:=∃b,a≤b∧b≤a+c∧r= [(1000000,bp n L b)]
theorem QX (n:Nat)(L:Nat→Int)(hL:sJ n L)(a:Int)(h0:0≤a)(ha:a≤2^40)(lo hi:Int)(h1: -2^41≤lo)(h2:hi≤lo+2^40 - 1)(h3:lo≤2^41)(h4:lo≤hi):
 ai Tryz.prog 7 [.ptr 1000000 0,.d (.int .i64 lo),.d (.int .i64 hi)] [(1000000,bp n L a)] (fun y r=>(∃j:Int,lo≤j∧j≤hi∧y= .d (.int .i64 j))∧gZ n L a 1 r):=by
 refine ae hT (C:= []) Tryz.func7 rfl Tryz.call7 rfl rfl rfl ?_;conv=>whnf
 refine aa (fun h=> ?_) (fun h=> ?_)
 · simp at h;omega
 conv=>whnf
 refine⟨by unfold aS;omega,?_⟩;conv=>whnf
 refine⟨by unfold aS;omega,?_⟩;conv=>whnf
 refine dQ.of (EQ n L hL a h0 ha _ (by omega)) [(1000000,1000000)] rfl ⟨lr,lr,trivial⟩ ⟨rr,trivial⟩ rfl rfl ?_;rintro x rout ⟨⟨j,k1,k2,k3,rfl⟩,rfl⟩;refine⟨rfl,?_⟩;conv=>whnf
 refine⟨by unfold aS;omega,?_⟩;conv=>whnf
 refine .ret _ ?_;conv=>whnf
 exact⟨[(1000000,bp n L (a+1))],⟨⟨_,by omega,by omega,rfl⟩,a+1,by omega,by omega,rfl⟩,rr,trivial⟩
theorem Cf (n:Nat)(L:Nat→Int)(hL:sJ n L)(a:Int)(h0:0≤a)(ha:a≤2^40)(m:Int)(hm:m≤2^40):
 ai Tryz.prog 73 [.ptr 1000000 0,.d (.int .i64 m)] [(1000000,bp n L a)] (fun y r=>(∃b:Bool,y= .d (.bool b))∧gZ n L a 1 r):=by
 refine ae hT (C:= []) Tryz.func73 rfl Tryz.call73 rfl rfl rfl ?_;conv=>whnf
 refine dQ.of (EQ n L hL a h0 ha _ (by omega)) [(1000000,1000000)] rfl ⟨lr,lr,trivial⟩ ⟨rr,trivial⟩ rfl rfl ?_;rintro x rout ⟨⟨j,k1,k2,k3,rfl⟩,rfl⟩;refine⟨rfl,?_⟩;conv=>whnf
 refine .ret _ ?_;conv=>whnf
 exact⟨[(1000000,bp n L (a+1))],⟨⟨_,rfl⟩,a+1,by omega,by omega,rfl⟩,rr,trivial⟩
theorem kD (n:Nat)(L:Nat→Int)(hL:sJ n L)(a:Int)(h0:0≤a)(ha:a≤2^40)(l:List Int)(hl:1≤l.length)(hl2:l.length≤2^40):
 ai Tryz.prog 79 [.ptr 1000000 0,.d (gr l)] [(1000000,bp n L a)] (fun y r=>(∃x ∈ l,y= .d (.int .i64 x))∧gZ n L a 1 r):=by
 refine ae hT (C:= []) Tryz.func79 rfl Tryz.call79 rfl rfl rfl ?_;conv=>whnf
 refine cd (EQ n L hL a h0 ha l.length (by omega)) [(1000000,1000000)] ?_;rintro x rout ⟨⟨j,k1,k2,k3,rfl⟩,rfl⟩;refine⟨rfl,?_⟩;conv=>whnf
 refine⟨⟨k1,by omega⟩,?_⟩;conv=>whnf
 refine .ret _ ?_;conv=>whnf
 exact⟨[(1000000,bp n L (a+1))],⟨⟨_,ao (by omega),rfl⟩,a+1,by omega,by omega,rfl⟩,rr,trivial⟩
theorem tp (n:Nat)(L:Nat→Int)(hL:sJ n L)(a:Int)(h0:0≤a)(ha:a≤2^40)(l:List (List UInt8))(hl:1≤l.length)(hl2:l.length≤2^40):
 ai Tryz.prog 27 [.ptr 1000000 0,.d (eE l)] [(1000000,bp n L a)] (fun y r=>(∃x ∈ l,y= .d (.str x))∧gZ n L a 1 r):=by
 refine ae hT (C:= []) Tryz.func27 rfl Tryz.call27 rfl rfl rfl ?_;conv=>whnf
 refine cd (EQ n L hL a h0 ha l.length (by omega)) [(1000000,1000000)] ?_;rintro x rout ⟨⟨j,k1,k2,k3,rfl⟩,rfl⟩;refine⟨rfl,?_⟩;conv=>whnf
 refine⟨⟨k1,by omega⟩,?_⟩;conv=>whnf
 refine .ret _ ?_;conv=>whnf
 exact⟨[(1000000,bp n L (a+1))],⟨⟨_,ao (by omega),rfl⟩,a+1,by omega,by omega,rfl⟩,rr,trivial⟩
theorem gZ.trans {n:Nat}{L:Nat→Int}{a c:Int}{r:List (Nat×aY)}{b d:Int}(h1:a≤b)(h2:b+d≤a+c)(h:gZ n L b d r):gZ n L a c r:=by
 obtain⟨e,q1,q2,rfl⟩:=h;exact⟨e,by omega,by omega,rfl⟩
theorem oA (n:Nat)(L:Nat→Int)(hL:sJ n L)(a:Int)(h0:0≤a)(ha:a≤2^39)(lo hi:Int)(h1: -2^38≤lo)(h2:lo≤hi)(h3:hi≤2^39):
 ai Tryz.prog 81 [.ptr 1000000 0,.d (.int .i64 lo),.d (.int .i64 hi)] [(1000000,bp n L a)] (fun y r=>(∃j:Int,-2^40≤j∧j≤2^40∧y= .d (.int .i64 j))∧gZ n L a 2 r):=by
 refine ae hT (C:= []) Tryz.func81 rfl Tryz.call81 rfl rfl rfl ?_;conv=>whnf
 refine cd (Cf n L hL a h0 (by omega) 12 (by omega)) [(1000000,1000000)] ?_;rintro x rout ⟨⟨f,rfl⟩,⟨b,b1,b2,rfl⟩⟩;refine⟨rfl,?_⟩;conv=>whnf
 refine aa (fun hf=> ?_) (fun hf=> ?_)
 · conv=>whnf
   refine⟨by unfold aS;omega,?_⟩;conv=>whnf
   refine⟨by unfold aS;omega,?_⟩;conv=>whnf
   refine dQ.of (kD n L hL b (by omega) (by omega) [lo - 1,hi+1,lo,hi,-1099511627776,1099511627776] (by simp) (by simp)) [(1000000,1000000)] rfl ⟨lr,aj (by rfl) (by rfl),trivial⟩ ⟨rr,trivial⟩ rfl rfl ?_;rintro x rout ⟨⟨j,hj,rfl⟩,⟨c,c1,c2,rfl⟩⟩;refine⟨rfl,?_⟩;conv=>whnf
   refine .ret _ ?_;conv=>whnf
   exact⟨[(1000000,bp n L c)],⟨⟨j,by simp at hj;omega,by simp at hj;omega,rfl⟩,c,by omega,by omega,rfl⟩,rr,trivial⟩
 · conv=>whnf
   refine cd (QX n L hL b (by omega) (by omega) lo hi (by omega) (by omega) (by omega) h2) [(1000000,1000000)] ?_;rintro x rout ⟨⟨j,j1,j2,rfl⟩,⟨c,c1,c2,rfl⟩⟩;refine⟨rfl,?_⟩;conv=>whnf
   refine .ret _ ?_;conv=>whnf
   exact⟨[(1000000,bp n L c)],⟨⟨j,by omega,by omega,rfl⟩,c,by omega,by omega,rfl⟩,rr,trivial⟩
end Go.Proofs.YtkokpbpililcdaaGreatDoor
namespace Go.Eng
open Go
end Go.Eng
namespace Go.Eng
open Go
theorem Eu {G:Hp}{w:World}{e k n:Nat}{get:Nat→List DV}{v:Value}{xs:List Value}(hown:w.ownsRow 0 e k v n xs)(hlen:∀i,i<n→(get i).length=k)
 (hden:∀i j x,i<n→(get i)[j]? =some x→∃u,xs[i*k+j]? =some u∧aJ G x u)(hgn:∀b,jq v=some b→G b=none):
 ∃G',G.le G'∧(∀b o,G' b=some o→G b=some o∨(jq v=some b∧w.heap[b]? =some o))∧aJ G' (.ro k n get) v:=by
 rcases hown.2 with⟨rfl,rfl⟩|⟨g,cap,cur,rfl,_,hg,hnc,hcm,hcs,htake⟩
 · exact⟨G,Hp.le_refl G,fun b o e=>.inl e,.ronil _ _⟩
 · have hle:G.le (G.add g (.cells cur e (0,0))):=iQ (hgn g rfl);refine⟨_,hle,?_,?_⟩
   · intro b o hb;unfold Hp.add at hb;split at hb
     · rename_i q;subst q;cases hb;exact .inr ⟨rfl,hg⟩
     · exact .inl hb
   · refine .ro k n get _ cap (fun i j=>xs.getD (i*k+j) Go.undef) rfl hnc hcm hlen ?_ ?_
     · intro i j x hi hx;obtain⟨u,hu,_⟩:=hden i j x hi hx
       have hlt:i*k+j<n*k:=by
        have:=(List.getElem?_eq_some_iff.1 hx).1;rw[hlen i hi]at this
        calc i*k+j<i*k+k:=by omega
         _=(i+1)*k:=by rw[Nat.add_mul,Nat.one_mul]
         _≤n*k:=Nat.mul_le_mul_right _ hi
       refine⟨cur,e,(0,0),?_,?_,?_⟩
       · rw[Addr.add_block];simp[Hp.add]
       · exact cU _ rfl _
       · rw[Addr.add_lit];simp only[Nat.zero_add];rw[←htake,List.getElem?_take_of_lt hlt]at hu;rw[←Array.getElem?_toList,hu];rw[←htake,List.getD_eq_getElem?_getD,List.getElem?_take_of_lt hlt,hu];rfl
     · intro i j x hi hx;obtain⟨u,hu,hd⟩:=hden i j x hi hx;rw[List.getD_eq_getElem?_getD,hu];exact hd.mono hle
def DV.flat:DV→Bool
 | .bool _| .int .. | .str _| .nilsl=>true
 |_=>false
theorem aJ.flat {G G':Hp}{x:DV}{v:Value}(h:aJ G x v)(hf:x.flat=true):aJ G' x v:=by
 cases h<;>first|(constructor;done)|(cases hf)
def SV.flat1 (d:Nat):SV→Bool
 | .d x=>x.flat
 | .buf c=> !(Nat.beq c d)
 |_=>false
def SV.flat (d:Nat):SV→Bool
 | .agg l=>l.all (SV.flat1 d)
 | .tup l=>l.all (SV.flat1 d)
 |x=>SV.flat1 d x
theorem am.flat1 {G G':Hp}{β β':eZ}{d:Nat}(hb:∀c,c≠d→β' c=β c){x:SV}{v:Value}(h:am G β x v)(hf:SV.flat1 d x=true):am G' β' x v:=by
 cases h with
 |d x v hx=>exact .d _ _ (hx.flat hf)
 | buf c v hv h1=>
   refine .buf _ _ ?_ h1
   rw[hb c (by rintro rfl;simp[SV.flat1]at hf)];exact hv
 |_=>cases hf
theorem am.flat {G G':Hp}{β β':eZ}{d:Nat}(hb:∀c,c≠d→β' c=β c){x:SV}{v:Value}(h:am G β x v)(hf:SV.flat d x=true):am G' β' x v:=by
 cases h with
 | agg l vs hl h=>
   refine .agg _ _ hl (fun i x v hx hv=>(h i x v hx hv).flat1 hb ?_)
   exact List.all_eq_true.1 hf x (List.mem_of_getElem? hx)
 | tup l vs hl h=>
   refine .tup _ _ hl (fun i x v hx hv=>(h i x v hx hv).flat1 hb ?_)
   exact List.all_eq_true.1 hf x (List.mem_of_getElem? hx)
 |d x v hx=>exact(am.d (β:=β) x v hx).flat1 (d:=d) hb hf
 |buf c v hv h1=>exact(am.buf (G:=G) c v hv h1).flat1 hb hf
 |_=>cases hf
def SV.nod1 (d:Nat):SV→Bool
 | .d _=>true
 | .buf c=> !(Nat.beq c d)
 |_=>false
def SV.nod (d:Nat):SV→Bool
 | .agg l=>l.all (SV.nod1 d)
 |x=>SV.nod1 d x
theorem am.nod1 {G:Hp}{β β':eZ}{d:Nat}(hb:∀c,c≠d→β' c=β c){x:SV}{v:Value}(h:am G β x v)(hf:SV.nod1 d x=true):am G β' x v:=by
 cases h with
 |d x v hx=>exact .d _ _ hx
 | buf c v hv h1=>
   refine .buf _ _ ?_ h1
   rw[hb c (by rintro rfl;simp[SV.nod1]at hf)];exact hv
 |_=>cases hf
theorem am.nod {G:Hp}{β β':eZ}{d:Nat}(hb:∀c,c≠d→β' c=β c){x:SV}{v:Value}(h:am G β x v)(hf:SV.nod d x=true):am G β' x v:=by
 cases h with
 | agg l vs hl h=>
   refine .agg _ _ hl (fun i x v hx hv=>(h i x v hx hv).nod1 hb ?_)
   exact List.all_eq_true.1 hf x (List.mem_of_getElem? hx)
 |d x v hx=>exact(am.d (β:=β) x v hx).nod1 (d:=d) hb hf
 |buf c v hv h1=>exact(am.buf (G:=G) c v hv h1).nod1 hb hf
 |_=>cases hf
def aY.isBuf:aY→Prop
 | .buf .. =>True
 |_=>False
def aY.flat:aY→Prop
 | .buf _ _ n g=>∀i,i<n→(g i).all DV.flat=true
 |_=>False
theorem dS.flat {G G':Hp}{β β':eZ}{w:World}{c:Nat}{r:aY}(hb:β' c=β c)(h:dS G β w c r)(hf:r.flat):dS G' β' w c r:=by
 cases r with
 | buf e k n g=>
   obtain⟨v,xs,h1,h2,h3,h4,h5⟩:=h;refine⟨v,xs,hb.trans h1,h2,h3,h4,fun i j x hi hx=> ?_⟩;obtain⟨u,hu,hd⟩:=h5 i j x hi hx
   exact⟨u,hu,hd.flat (List.all_eq_true.1 (hf i hi) x (List.mem_of_getElem? hx))⟩
 |_=>exact hf.elim
theorem nQ {P:Program}{f:FuncId}{args:List SV}{rin:List (Nat×aY)}{post:SV→List (Nat×aY)→Prop}(d e kk n:Nat)(g:Nat→List DV)
 (h:ai P f (args.map (HB d kk n g)) rin post)(hd:aC rin d=none)(hrin:∀c r,aC rin c=some r→r.isBuf)(hn:(args.map (HB d kk n g)).all (SV.nod d)=true)
 (hf:∀x r,post x r→x.flat d=true∧(∀c q,aC r c=some q→q.flat)∧aC r d=none):
 ai P f args ((d,.buf e kk n g)::rin) (fun x r=>∃r0,post x r0∧r=(d,.buf e kk n g)::r0):=by
 refine⟨h.enter,fun G β w vs hpre hvl hvd=> ?_⟩
 have hR:∀ (l:List (Nat×aY)) c,aC ((d,aY.buf e kk n g)::l) c=if c=d then some (.buf e kk n g)else aC l c:=by
  intro l c;simp only[aC]
  by_cases q:c=d
  · subst q;simp
  · rw[ax q];simp[q]
 have hdd:aC ((d,aY.buf e kk n g)::rin) d=some (.buf e kk n g):=by rw[hR];simp
 have hne:∀ {c r},aC rin c=some r→c≠d:=by rintro c r q rfl;rw[hd]at q;cases q
 have hin:∀ {c r},aC rin c=some r→aC ((d,aY.buf e kk n g)::rin) c=some r:=by
  intro c r q;rw[hR,if_neg (hne q)];exact q
 have hrd:=hpre.rs d _ hdd;obtain⟨v,xs,hv,hown,hk,hlen,hden⟩:=hrd;obtain⟨G2,hle2,hg2,hro⟩:=Eu (G:=G) hown hlen hden (fun b hb=>hpre.og d _ v b hdd rfl hv (.of hb))
 let β0:eZ:=fun c=>if c=d then none else β c
 have hb0:∀c,c≠d→β0 c=β c:=fun c q=>by simp[β0,q]
 have hle0:β0.le β:=by
  intro c u hu
  by_cases q:c=d
  · subst q;simp[β0]at hu
  · rw[hb0 c q]at hu;exact hu
 have hpre2:Mw G2 β0 w (aC rin):=by
  refine⟨fun b o q=> ?_,fun c r q=> ?_,fun c c' r r' v v' b e1 e2 o1 o2 f1 f2 b1 b2=> ?_,fun c r u b q o1 f1 b1=> ?_,fun c u q=> ?_⟩
  · rcases hg2 b o q with p|p
    · exact hpre.gw b o p
    · exact p.2
  · have:=hpre.rs c r (hin q);have k1:=this.keep (w':=w) hle2 (eZ.le_refl β) (fun _ _ _ _ _=>rfl);have hc:=hne q
    cases r with
    |buf e' k' n' g' =>obtain⟨v',xs',q1,q2⟩:=k1;exact⟨v',xs',(hb0 c hc).trans q1,q2⟩
    |_=>exact(hrin c _ q).elim
  · exact hpre.dj c c' r r' v v' b (hin e1) (hin e2) o1 o2 (hle0 _ _ f1) (hle0 _ _ f2) b1 b2
  · have h1:=hpre.og c r u b (hin q) o1 (hle0 _ _ f1) b1
    cases hg:G2 b with
    |none=>rfl
    | some o=>
      rcases hg2 b o hg with p|p
      · rw[h1]at p;cases p
      · exact absurd (hpre.dj c d r _ u v b (hin q) hdd o1 rfl (hle0 _ _ f1) hv b1 (.of p.1)) (hne q)
  · have hc:c≠d:=by rintro rfl;simp[β0]at q
    obtain⟨r,hr⟩:=hpre.sc c u (hle0 _ _ q);rw[hR,if_neg hc]at hr;exact⟨r,hr⟩
 have hcall:=h.calls G2 β0 w vs hpre2 (by simpa using hvl) (fun i y u hy hu=>by
  have eJ:=List.all_eq_true.1 hn y (List.mem_of_getElem? hy);rw[List.getElem?_map]at hy
  cases hx:args[i]? with
  |none=>rw[hx]at hy;cases hy
  | some x=>
    rw[hx]at hy;simp only[Option.map_some,Option.some.injEq]at hy;subst hy
    exact(Db ⟨v,hv,hro⟩ ((hvd i x u hx hu).mono hle2 (eZ.le_refl β))).nod hb0 eJ)
 have hsub:∀b,Ez w β0 (aC rin) b→Ez w β (aC ((d,aY.buf e kk n g)::rin)) b:=by
  rintro b ⟨c,r,u,e1,o1,f1,b1⟩;exact⟨c,r,u,hin e1,o1,hle0 _ _ f1,b1⟩
 have hnT:∀b,jq v=some b→¬Ez w β0 (aC rin) b:=by
  rintro b hb ⟨c,r,u,e1,o1,f1,b1⟩;exact hne e1 (hpre.dj c d r _ u v b (hin e1) hdd o1 rfl (hle0 _ _ f1) hv b1 (.of hb))
 have hlt:∀b,jq v=some b→b<w.heap.size:=fun b hb=>(hpre.rs d _ hdd).lt rfl hv (.of hb)
 refine hcall.mono ?_;rintro ex w' ⟨u,x,rout,G',β',he,hpost,ho,hx⟩;obtain⟨f1,f2,f3⟩:=hf x rout hpost
 let β'':eZ:=fun c=>if c=d then β d else β' c
 have hb2:∀c,c≠d→β'' c=β' c:=fun c q=>by simp[β'',q]
 have hbd:β'' d=β d:=by simp[β'']
 have hne':∀ {c r},aC ((d,aY.buf e kk n g)::rout) c=some r→c≠d→aC rout c=some r:=by
  intro c r q hc;rw[hR,if_neg hc]at q;exact q
 have hrd':∀ {r},aC ((d,aY.buf e kk n g)::rout) d=some r→r= .buf e kk n g:=by
  intro r q;rw[hR,if_pos rfl]at q;cases q;rfl
 have hele:β.le β'':=by
  intro c u hu
  by_cases q:c=d
  · subst q;rw[hbd];exact hu
  · rw[hb2 c q];exact ho.ele c u (by rw[hb0 c q];exact hu)
 refine⟨u,x,(d,.buf e kk n g)::rout,G,β'',he,⟨rout,hpost,rfl⟩,⟨Hp.le_refl G,hele,fun b o q=>ho.gw b o (ho.gle b o (hle2 b o q)),fun b o q=>.inl q,?_,fun c r q=> ?_,?_,?_⟩,hx.flat hb2 f1⟩
 · exact⟨ho.keep.os,ho.keep.tape,ho.keep.output,ho.keep.size,fun b q1 q2=>ho.keep.block b q1 (fun q3=>q2 (hsub b q3))⟩
 · by_cases hc:c=d
   · subst hc;rw[hrd' q]
     exact(hpre.rs c _ hdd).keep (Hp.le_refl G) hele (fun _ u b hu hb=>by
      rw[hv]at hu;cases hu;have hb:=hb.plain rfl
      exact ho.keep.block b (hlt b hb) (hnT b hb))
   · exact(ho.rs c r (hne' q hc)).flat (hb2 c hc) (f2 c r (hne' q hc))
 · intro c c' r r' u u' b e1 e2 o1 o2 g1 g2 b1 b2
   have key:∀ {c r u},c≠d→aC rout c=some r→r.own=true→β'' c=some u→cI w' r u b→∀ {r' u'},aC ((d,aY.buf e kk n g)::rout) d=some r'→β'' d=some u'→cI w' r' u' b→False:=by
    intro c r u hc e1 o1 g1 b1 r' u' e2 g2 b2;rw[hbd,hv]at g2;cases g2;have:=hrd' e2;subst this;have b2:=b2.plain rfl;rw[hb2 c hc]at g1;rcases(ho.og c r u b e1 o1 g1 b1).2 with q|q
    · exact hnT b b2 q
    · exact absurd (hlt b b2) (by omega)
   by_cases hc:c=d
   · by_cases hc':c' =d
     · rw[hc,hc']
     · exact(key hc' (hne' e2 hc') o2 g2 b2 (hc ▸ e1) (hc ▸ g1) b1).elim
   · by_cases hc':c' =d
     · exact(key hc (hne' e1 hc) o1 g1 b1 (hc' ▸ e2) (hc' ▸ g2) b2).elim
     · exact ho.dj c c' r r' u u' b (hne' e1 hc) (hne' e2 hc') o1 o2 (by rw[←hb2 c hc];exact g1) (by rw[←hb2 c' hc'];exact g2) b1 b2
 · intro c r u b e1 o1 g1 b1
   by_cases hc:c=d
   · subst hc;have:=hrd' e1;subst this;rw[hbd]at g1;exact⟨hpre.og c _ u b hdd rfl g1 (.of (b1.plain rfl)),.inl ⟨c,_,u,hdd,rfl,g1,.of (b1.plain rfl)⟩⟩
   · obtain⟨q1,q2⟩:=ho.og c r u b (hne' e1 hc) o1 (by rw[←hb2 c hc];exact g1) b1;refine⟨?_,q2.imp (hsub b) id⟩
     cases hg:G b with
     |none=>rfl
     |some o=>rw[ho.gle b o (hle2 b o hg)]at q1;cases q1
end Go.Eng
namespace Go.Eng
open Go
end Go.Eng
namespace Go.Eng
open Go Go.RowKit
theorem ez {Q:Hp→Prop}(d:Nat)(r:aY)(hd:aC [((1000009:Nat),aY.know Q)] d=some r):d=1000009∧r= .know Q:=by
 simp only[aC]at hd
 cases hq:Nat.beq d 1000009 with
 |false=>rw[hq]at hd;cases hd
 |true=>rw[hq]at hd;cases hd;exact⟨Nat.eq_of_beq_eq_true hq,rfl⟩
theorem pu {P:Program}{f:FuncId}{args:List SV}{y:SV}{Q:Hp→Prop}(henter:∀args w,(callFunc f args).run P w= .ok (.enter f args) w)
 (h:∀ (G:Hp) (β:eZ) (w:World) (vs:List Value),Q G→(∀b o,G b=some o→w.heap[b]? =some o)→vs.length=args.length→(∀ (i:Nat) x v,args[i]? =some x→vs[i]? =some v→am G β x v)→
   ∃u,(∀G β,am G β y u)∧Calls P f vs.toArray w fun e w' =>e= .returned u∧Below w.heap.size w w'):ai P f args [(1000009,.know Q)] (fun x r=>x=y∧r= [(1000009,.know Q)]):=by
 refine⟨henter,fun G β w vs hpre hl hd=> ?_⟩;have hR:aC [((1000009:Nat),aY.know Q)] 1000009=some (.know Q):=by simp[aC]
 have hq:dS G β w 1000009 (.know Q):=hpre.rs _ _ hR;obtain⟨u,hu,hc⟩:=h G β w vs (hq.2 G (Hp.le_refl G)) hpre.gw hl hd;refine hc.mono ?_;rintro e w' ⟨rfl,hb⟩;refine⟨u,y,_,G,β,rfl,⟨rfl,rfl⟩,⟨Hp.le_refl G,eZ.le_refl β,fun b o hg=> ?_,fun b o hg=>.inl hg,⟨hb.os,hb.tape,hb.output,hb.size,fun b hlt _=>hb.block b hlt⟩,fun d r hd=> ?_,fun d d' r r' v v' b h1 h2 o1=> ?_,fun d r v b h1 o1=> ?_⟩,hu G β⟩
 · have:=hpre.gw b o hg;have hlt:b<w.heap.size:=(Array.getElem?_eq_some_iff.1 this).1;rw[hb.block b hlt];exact this
 · obtain⟨rfl,rfl⟩:=ez d r hd;exact⟨hq.1,hq.2⟩
 · obtain⟨_,rfl⟩:=ez d r h1;cases o1
 · obtain⟨_,rfl⟩:=ez d r h1;cases o1
theorem uq {P:Program}{f:FuncId}{args:List SV}{post:SV→Prop}{Q:Hp→Prop}(h:ai P f args [(1000009,.know Q)] (fun x r=>post x∧r= [(1000009,.know Q)]))(W:World)(hQ:∀G,(Hp.le (fun b=>W.heap[b]?) G)→Q G):
 Mw (fun b=>W.heap[b]?) (fun d=>if d=1000009 then some (.bool true)else none) W (aC [((1000009:Nat),aY.know Q)]):=by
 refine⟨fun _ _ e=>e,fun d r hd=> ?_,fun d d' r r' v v' b h1 h2 o1=> ?_,fun d r v b h1 o1=> ?_,fun d v hd=> ?_⟩
 · obtain⟨rfl,rfl⟩:=ez d r hd;exact⟨⟨_,if_pos rfl⟩,hQ⟩
 · obtain⟨_,rfl⟩:=ez d r h1;cases o1
 · obtain⟨_,rfl⟩:=ez d r h1;cases o1
 · by_cases q:d=1000009
   · subst q;exact⟨_,rfl⟩
   · rw[if_neg q]at hd;cases hd
end Go.Eng
namespace Go.Eng
open Go Go.RowKit
def facts (F:World→Prop):Hp→Prop:=fun G=>∀w:World,(∀ (b:Nat) (o:Obj),G b=some o→w.heap[b]? =some o)→F w
theorem yI {F:World→Prop}{W:World}(h:∀w:World,(∀ (b:Nat) (o:Obj),W.heap[b]? =some o→w.heap[b]? =some o)→F w)(G:Hp)(hG:Hp.le (fun b=>W.heap[b]?) G):facts F G:=
 fun w hw=>h w (fun b o e=>hw b o (hG b o e))
mutual
theorem y1:∀x:SV,SV.okN [] x=true→SV.okN [((1000009:Nat),(1000009:Nat))] x=true
 | .any,_=>rfl
 | .bad,_=>rfl
 | .undef,_=>rfl
 | .d _,_=>rfl
 | .agg l,h=>by simp only[SV.okN]at h ⊢;exact m5 l h
 | .tup l,h=>by simp only[SV.okN]at h ⊢;exact m5 l h
 | .ptr _ _,h=>by simp[SV.okN,aH]at h
 | .buf _,h=>by simp[SV.okN,aH]at h
 | .bel _ _ _ _,h=>by simp[SV.okN,aH]at h
 | .mp _,h=>by simp[SV.okN,aH]at h
 | .fn f caps,h=>by simp only[SV.okN]at h ⊢;exact m5 caps h
 | .sub _ _ _ _,h=>by simp[SV.okN,aH]at h
theorem m5:∀l:List SV,c8 [] l=true→c8 [((1000009:Nat),(1000009:Nat))] l=true
 | [],_=>rfl
 | x::l,h=>by
   simp only[c8,Bool.and_eq_true]at h ⊢;exact⟨y1 x h.1,m5 l h.2⟩
end
theorem jH {P:Program}{f:FuncId}{args:List SV}{Q:Hp→Prop}{post:SV→Prop}(henter:∀args w,(callFunc f args).run P w= .ok (.enter f args) w)
 (h:∀ (G:Hp) (β:eZ) (w:World) (vs:List Value),Q G→(∀b o,G b=some o→w.heap[b]? =some o)→vs.length=args.length→(∀ (i:Nat) x v,args[i]? =some x→vs[i]? =some v→am G β x v)→
   Calls P f vs.toArray w fun e w' =>∃u y G',e= .returned u∧post y∧G.le G'∧(∀b o,G' b=some o→w'.heap[b]? =some o)∧(∀b o,G' b=some o→G b=some o∨w.heap.size≤b)∧(∀β,am G' β y u)∧Below w.heap.size w w'):
 ai P f args [(1000009,.know Q)] (fun x r=>post x∧r= [(1000009,.know Q)]):=by
 refine⟨henter,fun G β w vs hpre hl hd=> ?_⟩;have hR:aC [((1000009:Nat),aY.know Q)] 1000009=some (.know Q):=by simp[aC]
 have hq:dS G β w 1000009 (.know Q):=hpre.rs _ _ hR;refine(h G β w vs (hq.2 G (Hp.le_refl G)) hpre.gw hl hd).mono ?_;rintro e w' ⟨u,y,G',rfl,hy,hle,hgw,hgn,hden,hb⟩;refine⟨u,y,_,G',β,rfl,⟨hy,rfl⟩,⟨hle,eZ.le_refl β,hgw,fun b o hg=>(hgn b o hg).elim .inl (fun q=>.inr (.inr q)),⟨hb.os,hb.tape,hb.output,hb.size,fun b hlt _=>hb.block b hlt⟩,fun d r hd=> ?_,fun d d' r r' v v' b h1 h2 o1=> ?_,fun d r v b h1 o1=> ?_⟩,hden β⟩
 · obtain⟨rfl,rfl⟩:=ez d r hd;exact⟨hq.1,fun G'' h2=>hq.2 G'' (Hp.le_trans hle h2)⟩
 · obtain⟨_,rfl⟩:=ez d r h1;cases o1
 · obtain⟨_,rfl⟩:=ez d r h1;cases o1
theorem uA {P:Program}{f:FuncId}{args:List SV}{Q:Hp→Prop}{post:SV→Prop}(henter:∀args w,(callFunc f args).run P w= .ok (.enter f args) w)
 (h:∀ (G:Hp) (β:eZ) (w:World) (vs:List Value),Q G→(∀b o,G b=some o→w.heap[b]? =some o)→vs.length=args.length→(∀ (i:Nat) x v,args[i]? =some x→vs[i]? =some v→am G β x v)→
   Calls P f vs.toArray w fun e w' =>∃u y,e= .returned u∧post y∧(∀G β,am G β y u)∧Below w.heap.size w w'):
 ai P f args [(1000009,.know Q)] (fun x r=>post x∧r= [(1000009,.know Q)]):=
 jH henter fun G β w vs hq hg hl hd=>(h G β w vs hq hg hl hd).mono fun e w' =>by
  rintro⟨u,y,he,hy,hden,hb⟩;refine⟨u,y,G,he,hy,Hp.le_refl G,fun b o e=> ?_,fun b o e=>.inl e,hden G,hb⟩;have:=hg b o e;have hlt:b<w.heap.size:=(Array.getElem?_eq_some_iff.1 this).1;rw[hb.block b hlt];exact this
theorem dm {P:Program}{f:FuncId}{dst:Option Nat}{args:List SV}{s:St}{av:List Nat}{k:cK→Prop}{y:SV}{Q:Hp→Prop}
 (hs:ai P f args [(1000009,.know Q)] fun x r=>x=y∧r= [(1000009,.know Q)])(hR:s.res 1000009=some (.know Q))(hargs:c8 [] args=true)(hav:mem av 1099512627785=false)(hy:SV.okN [] y=true)
 (hk:k ⟨dst,y,[],[]⟩):dQ P f dst args s av k:=by
 have up:∀ {x:SV},SV.okN [] x=true→SV.okN [((1000009:Nat),(1000009:Nat))] x=true∧x.ren [((1000009:Nat),(1000009:Nat))]=x:=by
  have idr:∀d c,aH [((1000009:Nat),(1000009:Nat))] d=some c→c=d:=by
   intro d c hd;simp only[aH]at hd
   cases hq:Nat.beq d 1000009 with
   |false=>rw[hq]at hd;cases hd
   |true=>rw[hq]at hd;cases hd;exact(Nat.eq_of_beq_eq_true hq).symm
  have mono:∀x:SV,SV.okN [] x=true→SV.okN [((1000009:Nat),(1000009:Nat))] x=true:=y1;exact fun{x} hx=>⟨mono x hx,BR idr x (mono x hx)⟩
 refine dQ.look hs [(1000009,1000009)] rfl ?_ ⟨⟨1000009,rfl,hR⟩,trivial⟩ rfl (by simp[hav]) (by simp[(up hy).1,zz,aH,aY.okN]) ?_
 · have:∀l:List SV,c8 [] l=true→kM [((1000009:Nat),(1000009:Nat))] l l:=by
    intro l
    induction l with
    |nil=>intro _;trivial
    | cons x l ih=>
      intro h;simp only[c8,Bool.and_eq_true]at h;exact⟨by rw[(up h.1).2];exact SV.le_refl _,ih h.2⟩
   exact this args hargs
 · rw[(up hy).2];exact hk
end Go.Eng
set_option maxRecDepth 20000
namespace Go.Proofs.YtkokpbpililcdaaGreatDoor
open Go Go.Eng Go.Shelf Go.RowKit
def FX (w:World):Prop:=(∀n:Int,-9223372036854775808≤n→n≤9223372036854775807→Calls Tryz.prog 117 #[.int .i64 n] w fun e w' =>e= .returned (.string ⟨(Lib.itoa n).toArray⟩)∧∃k os,w' =Go.Sort.grow (w.drewN k) os)∧(∃m,w.cell? ⟨fc.g 1,0,none⟩=some (.int .i64 m))∧
 (∃v,w.cell? ⟨bP.g 15,0,none⟩=some v∧(v= .nilIface∨∃t p,v= .iface t p))∧(∃v,w.cell? ⟨bP.g 16,0,none⟩=some v∧(v= .nilIface∨∃t p,v= .iface t p))
abbrev KX:aY:=.know (facts FX)
abbrev kx:List (Nat×aY):= [(1000009,KX)]
theorem HI (l:List UInt8):(⟨l.toArray⟩:ByteArray).size=l.length:=by simp[ByteArray.size]
theorem zE {w:World}(n:Nat):Below w.heap.size w (w.drewN n):=⟨rfl,rfl,rfl,Nat.le_refl _,fun _ _=>rfl⟩
theorem BD {w:World}(n:Nat)(os:Array Obj):Below w.heap.size w (Go.Sort.grow (w.drewN n) os):=
 ⟨rfl,rfl,rfl,by simp[Go.Sort.grow,World.drewN],fun k hk=>by
   show(w.heap++os)[k]? =_
   rw[Array.getElem?_append_left hk]⟩
theorem Fo (n:Int)(h0: -9223372036854775808≤n)(h1:n≤9223372036854775807):ai Tryz.prog 117 [.d (.int .i64 n)] kx (fun x r=>x= .d (.str (Lib.itoa n))∧r=kx):=by
 refine pu Tryz.call117 (fun G β w vs hq hg hvl hd=> ?_)
 match vs,hvl with
 | [u],_=>
   have h0':=hd 0 _ u rfl rfl
   cases h0' with|d _ _ h0' =>cases h0' with|int _ _=>
   have hF:=hq w hg;refine⟨.string ⟨(Lib.itoa n).toArray⟩,fun _ _=>.d _ _ (.str _),?_⟩;have hcon:=hF.1 n h0 h1;refine hcon.mono ?_;rintro e' w' ⟨rfl,k,os,rfl⟩;exact⟨rfl,BD k os⟩
def xQ (s:List UInt8)(y:SV):Prop:=
 match Lib.atoiAll s with
 | .ok v=>y= .tup [.d (.int .i64 v),.d (.opq .nilIface)]
 | .range=>∃t p,y= .tup [.d (.int .i64 (Lib.atoiSat s)),.d (.opq (.iface t p))]
 |_=>∃t p,y= .tup [.d (.int .i64 0),.d (.opq (.iface t p))]
theorem tv {G:Hp}{β:eZ}{p q:SV}{a b:Value}(ha:am G β p a)(hb:am G β q b):am G β (.tup [p,q]) (.tuple #[a,b]):=
 .tup [p,q] [a,b] rfl (fun i x v hx hv=>by
  match i,hx,hv with
  |0,hx,hv=>simp at hx hv;subst hx;subst hv;exact ha
  |1,hx,hv=>simp at hx hv;subst hx;subst hv;exact hb)
theorem Hs {G:Hp}{β:eZ}{p q r:SV}{a b c:Value}(ha:am G β p a)(hb:am G β q b)(hc:am G β r c):am G β (.tup [p,q,r]) (.tuple #[a,b,c]):=
 .tup [p,q,r] [a,b,c] rfl (fun i x v hx hv=>by
  match i,hx,hv with
  |0,hx,hv=>simp at hx hv;subst hx;subst hv;exact ha
  |1,hx,hv=>simp at hx hv;subst hx;subst hv;exact hb
  |2,hx,hv=>simp at hx hv;subst hx;subst hv;exact hc)
theorem M4 (s:List UInt8)(hl:s.length≤2^40):ai Tryz.prog 176 [.d (.str s)] kx (fun x r=>xQ s x∧r=kx):=by
 refine uA Tryz.call176 (fun G β w vs hq hg hvl hd=> ?_)
 match vs,hvl with
 | [u],_=>
   have h0:=hd 0 _ u rfl rfl
   cases h0 with|d _ _ h0=>cases h0 with|str _=>
   obtain⟨_,_,⟨v1,c1,d1⟩,⟨v2,c2,d2⟩⟩:=hq w hg;have e:bP.f 172=176:=rfl
   cases hA:Lib.atoiAll s with
   | ok v=>
     have hcon:=Any.strconv_Atoi_ok jL ⟨s.toArray⟩ (by rw[HI];omega) v (by simpa using hA) w;rw[e]at hcon;refine hcon.mono ?_;rintro e' w' ⟨rfl,hw⟩;refine⟨_,_,rfl,by unfold xQ;rw[hA],fun _ _=>tv (.d _ _ (.int _ _)) (.d _ _ (.opq _ rfl)),?_⟩;rcases hw with rfl|⟨t,rfl⟩
     · exact Below.refl _ _
     · exact Lib.bytesWorld_below _ _ _
   | range=>
     have hcon:=Any.strconv_Atoi_range jL ⟨s.toArray⟩ (by rw[HI];omega) (by simpa using hA) v2 w c2 d2;rw[e]at hcon;refine hcon.mono ?_;rintro e' w' ⟨N,rfl,_,_,hb⟩;refine⟨_,_,rfl,by unfold xQ;rw[hA];exact⟨_,_,rfl⟩,fun _ _=>tv ?_ (.d _ _ (.opq _ rfl)),hb⟩
     simpa using am.d _ _ (aJ.int .i64 (Lib.atoiSat s))
   | _=>
     have hcon:=Any.strconv_Atoi_syntax jL ⟨s.toArray⟩ (by rw[HI];omega) (by simpa using hA) v1 w c1 d1;rw[e]at hcon;refine hcon.mono ?_;rintro e' w' ⟨N,rfl,_,_,hb⟩;exact⟨_,_,rfl,by unfold xQ;rw[hA];exact⟨_,_,rfl⟩,fun _ _=>tv (.d _ _ (.int _ _)) (.d _ _ (.opq _ rfl)),hb⟩
theorem LJ (s p:List UInt8):ai Tryz.prog 177 [.d (.str s),.d (.str p)] [] (fun x r=>x= .d (.str (Lib.trimPrefix s p))∧r= []):=by
 refine gV Tryz.call177 (fun G β w vs _ hvl hd=> ?_)
 match vs,hvl with
 | [u,v],_=>
   have h0:=hd 0 _ u rfl rfl;have h1:=hd 1 _ v rfl rfl
   cases h0 with|d _ _ h0=>cases h0 with|str _=>
   cases h1 with|d _ _ h1=>cases h1 with|str _=>
   refine⟨.string ⟨(Lib.trimPrefix s p).toArray⟩,fun _ _=>.d _ _ (.str _),?_⟩;have hcon:=Any.strings_TrimPrefix xu ⟨s.toArray⟩ ⟨p.toArray⟩ w;have e:jX.f 101=177:=rfl;rw[e]at hcon;refine hcon.mono ?_;rintro e' w' ⟨rfl,rfl⟩;exact⟨rfl,Below.refl _ _⟩
theorem tL {G:Hp}{w:World}(hG:∀b o,G b=some o→w.heap[b]? =some o)(L:List ByteArray)(N:Nat)(hL:L.length≤N)(hN:N≤maxLen)(cs:Array Value)(e:TypeId)(hc:∀i,i<L.length→cs[i]? =some (.string (L.getD i ByteArray.empty))):
 ∃G',G.le G'∧(∀b o,G' b=some o→(w.alloc (.cells cs e)).heap[b]? =some o)∧(∀b o,G' b=some o→G b=some o∨w.heap.size≤b)∧(∀β,am G' β (.d (eE (L.map (·.data.toList)))) (.slice (some ⟨w.heap.size,0,none⟩) L.length N)):=by
 have hfree:G w.heap.size=none:=by
  cases hg:G w.heap.size with
  |none=>rfl
  |some o=>have:=(Array.getElem?_eq_some_iff.1 (hG _ _ hg)).1;omega
 refine⟨G.add w.heap.size (.cells cs e),iQ hfree,fun b o hb=> ?_,fun b o hb=> ?_,fun β=>.d _ _ ?_⟩
 · unfold Hp.add at hb;split at hb
   · rename_i q;subst q;cases hb;exact heap_alloc_new w _
   · rw[heap_alloc_old w _ (Array.getElem?_eq_some_iff.1 (hG _ _ hb)).1];exact hG _ _ hb
 · unfold Hp.add at hb;split at hb
   · rename_i q;subst q;exact .inr (Nat.le_refl _)
   · exact .inl hb
 · have hlen:(L.map (·.data.toList)).length=L.length:=by simp
   unfold eE dC;rw[hlen];refine .ro 1 L.length _ _ N (fun i _=>.string (L.getD i ByteArray.empty)) rfl hL hN (fun i _=>rfl) (fun i j x hi hx=> ?_) (fun i j x hi hx=> ?_)
   · have hj:j=0:=by
      have:=(List.getElem?_eq_some_iff.1 hx).1;simp[aW,sF]at this;omega
     subst hj;refine⟨cs,e,(0,0),?_,?_,?_⟩
     · rw[Eng.Addr.add_block];simp[Hp.add]
     · exact cU _ rfl _
     · rw[Addr.add_lit];simpa using hc i hi
   · have hj:j=0:=by
      have:=(List.getElem?_eq_some_iff.1 hx).1;simp[aW,sF]at this;omega
     subst hj;simp only[aW,sF,List.getElem?_cons_zero,Option.some.injEq]at hx;subst hx
     have h1:(L.map (·.data.toList)).getD i []=(L.getD i ByteArray.empty).data.toList:=by
      simp[List.getD_eq_getElem?_getD,hi]
     rw[h1];generalize L.getD i ByteArray.empty=ba;have:=aJ.str (G:=G.add w.heap.size (.cells cs e)) ba.data.toList;rw[show(⟨ba.data.toList.toArray⟩:ByteArray)=ba from Lib.mk_data _]at this;exact this
theorem E1 (s p:List UInt8)(hl:s.length≤2^31)(hp:1≤p.length):ai Tryz.prog 131 [.d (.str s),.d (.str p)] kx (fun x r=>x= .d (eE (Lib.split s p))∧r=kx):=by
 refine jH (post:=fun x=>x= .d (eE (Lib.split s p))) Tryz.call131 (fun G β w vs hq hg hvl hd=> ?_)
 match vs,hvl with
 | [u,v],_=>
   have h0:=hd 0 _ u rfl rfl;have h1:=hd 1 _ v rfl rfl
   cases h0 with|d _ _ h0=>cases h0 with|str _=>
   cases h1 with|d _ _ h1=>cases h1 with|str _=>
   obtain⟨_,⟨m,c0⟩,_⟩:=hq w hg;have hcon:=Any.strings_Split wu (by kernel_rfl) ⟨s.toArray⟩ ⟨p.toArray⟩ m w (by rw[HI];omega) c0 (by rw[HI];exact hp);have e:fc.f 146=131:=rfl;rw[e]at hcon
   have hdat:(Lib.splitB ⟨p.toArray⟩ 0 (Lib.countB ⟨s.toArray⟩ ⟨p.toArray⟩) ⟨s.toArray⟩).map (·.data.toList)=Lib.split s p:=by
    rw[Lib.splitB_data];simp[Lib.split]
   have hle:=Lib.count_le s p;have hlen:(Lib.splitB ⟨p.toArray⟩ 0 (Lib.countB ⟨s.toArray⟩ ⟨p.toArray⟩) ⟨s.toArray⟩).length=Lib.countB ⟨s.toArray⟩ ⟨p.toArray⟩+1:=Lib.splitB_all _ (by rw[HI];exact hp) 0 _ _ rfl;generalize hLL:Lib.splitB ⟨p.toArray⟩ 0 (Lib.countB ⟨s.toArray⟩ ⟨p.toArray⟩) ⟨s.toArray⟩=LL at hcon hdat hlen;have hcn:Lib.countB ⟨s.toArray⟩ ⟨p.toArray⟩=Lib.count s p:=by simp
   obtain⟨G',g1,g2,g3,g4⟩:=tL hg LL LL.length (Nat.le_refl _) (by rw[hlen,hcn];unfold maxLen;omega) (LL.map Value.string).toArray (fc.t 9) (fun i hi=>by simp[List.getD_eq_getElem?_getD,hi]);rw[←hlen]at hcon;refine hcon.mono ?_;rintro e' w' ⟨rfl,rfl⟩;rw[hdat]at g4;exact⟨_,_,G',rfl,rfl,g1,g2,g3,g4,(Below.refl _ _).alloc (Nat.le_refl _) _⟩
theorem ix (n lo hi:Int):ai Tryz.prog 42 [.d (.int .i64 n),.d (.int .i64 lo),.d (.int .i64 hi)] [] (fun x r=>x= .d (.bool (decide (lo≤n∧n≤hi)))∧r= []):=by
 refine ae hT (C:= []) Tryz.func42 rfl Tryz.call42 rfl rfl rfl ?_;conv=>whnf
 refine aa (fun h=> ?_) (fun h=> ?_)
 · conv=>whnf
   refine .ret _ ?_;conv=>whnf
   refine⟨[],⟨?_,rfl⟩,trivial⟩;conv=>lhs;whnf
   simp at h ⊢;simp[h]
 · conv=>whnf
   refine .ret _ ?_;conv=>whnf
   refine⟨[],⟨?_,rfl⟩,trivial⟩;conv=>lhs;whnf
   simp at h ⊢;omega
theorem Np (n lo hi:Int):ai Tryz.prog 150 [.d (.int .i64 n),.d (.int .i64 lo),.d (.int .i64 hi)] [] (fun x r=>x= .d (.bool (decide (lo≤n∧n≤hi)))∧r= []):=by
 refine ae hT (C:= []) Tryz.func150 rfl Tryz.call150 rfl rfl rfl ?_;conv=>whnf
 refine aa (fun h=> ?_) (fun h=> ?_)
 · conv=>whnf
   refine .ret _ ?_;conv=>whnf
   refine⟨[],⟨?_,rfl⟩,trivial⟩;conv=>lhs;whnf
   simp at h ⊢;simp[h]
 · conv=>whnf
   refine .ret _ ?_;conv=>whnf
   refine⟨[],⟨?_,rfl⟩,trivial⟩;conv=>lhs;whnf
   simp at h ⊢;omega
theorem fC (b:Bool)(e:Int):ai Tryz.prog 106 [.d (.bool b),.d (.int .i64 e)] [] (fun x r=>x= .d (.int .i64 (if b then e else 0))∧r= []):=by
 refine ae hT (C:= []) Tryz.func106 rfl Tryz.call106 rfl rfl rfl ?_;conv=>whnf
 refine aa (fun h=> ?_) (fun h=> ?_)
 · conv=>whnf
   refine .ret _ ?_;conv=>whnf
   refine⟨[],⟨?_,rfl⟩,trivial⟩;conv=>lhs;whnf
   simp[h]
 · conv=>whnf
   refine .ret _ ?_;conv=>whnf
   refine⟨[],⟨?_,rfl⟩,trivial⟩;conv=>lhs;whnf
   simp[h]
theorem tY {α:Type}{l:List α}{i:Nat}{d:α}(h:i<l.length):l.getD (i:Int).toNat d=l[i]:=by
 rw[Int.toNat_natCast,List.getD_eq_getElem?_getD];simp[h]
def al:List Int→Int
 | []=>0
 |x::l=>if x=0 then al l else x
theorem O9 (l:List Int)(hl:l.length≤2^40):ai Tryz.prog 105 [.d (gr l)] [] (fun x r=>x= .d (.int .i64 (al l))∧r= []):=by
 refine ae hT (C:= []) Tryz.func105 rfl Tryz.call105 rfl rfl rfl ?_;conv=>whnf
 refine ah hT (C:= []) (ι:=Nat) (fun i=>i≤l.length∧al l=al (l.drop i)) (fun i=>aI [(3,.d (.int .i64 0)),(6,.d (gr l)),(7,.d (.int .i64 l.length)),(8,.d (.int .i64 i))] []) (fun i=>l.length - i) 0 ⟨by omega,by simp⟩ ?_ ?_
 · refine af [] rfl rfl ⟨lr,lr,lr,lr,trivial⟩ trivial
 rintro i ⟨p1,p2⟩;conv=>whnf
 refine aa (fun h=> ?_) (fun h=> ?_)
 · simp only[decide_eq_true_eq]at h;conv=>whnf
   refine⟨⟨by omega,by omega⟩,?_⟩;conv=>whnf
   have hi:i<l.length:=by omega
   have hd:l.drop i=l[i]::l.drop (i+1):=List.drop_eq_getElem_cons hi;refine aa (fun h2=> ?_) (fun h2=> ?_)
   · conv=>whnf
     refine .ret _ ?_;conv=>whnf
     refine⟨[],⟨?_,rfl⟩,trivial⟩;conv=>lhs;whnf
     rw[tY hi]at h2 ⊢;simp at h2;rw[p2,hd,al,if_neg h2]
   · conv=>whnf
     rw[tY hi]at h2;simp at h2;refine⟨by unfold aS;omega,?_⟩;conv=>whnf
     refine⟨i+1,⟨hi,?_⟩,by omega,?_⟩
     · rw[p2,hd,al,if_pos h2]
     · exact af [] rfl rfl ⟨lr,lr,lr,lr,trivial⟩ trivial
 · simp only[decide_eq_false_iff_not]at h;conv=>whnf
   refine .ret _ ?_;conv=>whnf
   refine⟨[],⟨?_,rfl⟩,trivial⟩;conv=>lhs;whnf
   rw[p2,List.drop_eq_nil_iff.2 (by omega)];rfl
theorem gp (l:List Int)(hl:l.length≤2^40):ai Tryz.prog 44 [.d (gr l)] [] (fun x r=>x= .d (.int .i64 (al l))∧r= []):=by
 refine ae hT (C:= []) Tryz.func44 rfl Tryz.call44 rfl rfl rfl ?_;conv=>whnf
 refine qJ (O9 l hl) ?_;conv=>whnf
 refine .ret _ ?_;conv=>whnf
 exact⟨[],⟨rfl,rfl⟩,trivial⟩
def ee (i:Nat)(c:UInt8):Bool:=(decide (97≤c.toNat)&&decide (c.toNat≤122))||(!decide (i=0)&&((decide (48≤c.toNat)&&decide (c.toNat≤57))||decide (c.toNat=45)||decide (c.toNat=95)))
def aE (s:List UInt8):Bool:=(List.range s.length).all (fun i=>ee i (s.getD i 0))&& !s.isEmpty&&decide (s.length≤40)
theorem ql {i:Nat}{c:UInt8}:ee i c=true↔((97≤(c.toNat:Int)∧(c.toNat:Int)≤122)∨((i:Int)≠0∧((48≤(c.toNat:Int)∧(c.toNat:Int)≤57)∨(c.toNat:Int)=45∨(c.toNat:Int)=95))):=by
 simp only[ee,Bool.or_eq_true,Bool.and_eq_true,decide_eq_true_eq,Bool.not_eq_true',decide_eq_false_iff_not];omega
theorem iR (s:List UInt8)(hl:s.length≤2^40):ai Tryz.prog 43 [.d (.str s)] [] (fun x r=>x= .d (.bool (aE s))∧r= []):=by
 refine ae hT (C:= []) Tryz.func43 rfl Tryz.call43 rfl rfl rfl ?_;conv=>whnf
 refine ah hT (C:= []) (ι:=Nat) (fun i=>i≤s.length∧∀j,j<i→ee j (s.getD j 0)=true) (fun i=>aI [(0,.d (.str s)),(7,.d (.int .i64 s.length)),(8,.d (.int .i64 i))] []) (fun i=>s.length - i) 0 ⟨by omega,by omega⟩ ?_ ?_
 · exact af [] rfl rfl ⟨lr,lr,lr,trivial⟩ trivial
 rintro i ⟨p1,p2⟩;conv=>whnf
 refine aa (fun h=> ?_) (fun h=> ?_)
 · simp only[decide_eq_true_eq]at h;have hi:i<s.length:=by omega
   have e1:(i:Int).toNat=i:=Int.toNat_natCast i;conv=>whnf
   repeat (refine And.intro (by(try unfold aS);(try dsimp only);(try simp only[e1,List.length_cons,List.length_append,List.length_singleton,List.length_nil]);omega) ?_;conv=>whnf)
   have hbad:ee i (s.getD i 0)=false→aE s=false:=fun h=>by
    have:(List.range s.length).all (fun i=>ee i (s.getD i 0))=false:=by
     rw[List.all_eq_false];exact⟨i,List.mem_range.2 hi,by rw[h];simp⟩
    simp only[aE,this,Bool.false_and]
   have hgood:ee i (s.getD i 0)=true→∀j,j<i+1→ee j (s.getD j 0)=true:=fun h j hj=>by
    rcases Nat.lt_or_ge j i with q|q
    · exact p2 j q
    · have:j=i:=by omega
      subst this;exact h
   repeat' (refine aa (fun _=> ?_) (fun _=> ?_)<;>(conv=>whnf))
   all_goals first
    | (refine And.intro (by unfold aS;omega) ?_
       conv=>whnf
       refine⟨i+1,⟨hi,hgood ?_⟩,by omega,af [] rfl rfl ⟨lr,lr,lr,trivial⟩ trivial⟩;rw[ql];simp only[decide_eq_true_eq,decide_eq_false_iff_not,Bool.not_eq_true',Bool.not_eq_false',e1]at*
       omega)
    | (refine .ret _ ?_
       conv=>whnf
       refine⟨[],⟨?_,rfl⟩,trivial⟩;conv=>lhs;whnf
       rw[hbad]
       cases hq:ee i (s.getD i 0)with
       |false=>rfl
       | true=>
         rw[ql]at hq;simp only[decide_eq_true_eq,decide_eq_false_iff_not,Bool.not_eq_true',Bool.not_eq_false',e1]at*
         omega)
    |skip
 simp only[decide_eq_false_iff_not]at h;have e1:i=s.length:=by omega
 subst e1
 have eJ:(List.range s.length).all (fun i=>ee i (s.getD i 0))=true:=by
  rw[List.all_eq_true];intro j hj;exact p2 j (List.mem_range.1 hj)
 conv=>whnf
 repeat' (refine aa (fun _=> ?_) (fun _=> ?_)<;>(conv=>whnf))
 all_goals (refine .ret _ ?_;conv=>whnf)
 all_goals (refine⟨[],⟨?_,rfl⟩,trivial⟩;conv=>lhs;whnf)
 · rename_i hq
   have:s.isEmpty=false:=by
    cases s with
    |nil=>exact absurd hq (by decide)
    |cons x l=>rfl
   unfold aE;rw[eJ,this];simp;omega
 · rename_i hq
   have:s.isEmpty=true:=by
    cases s with
    |nil=>rfl
    |cons x l=>exact absurd hq (by simp)
   unfold aE;rw[eJ,this];rfl
def dI (a b:List UInt8):Bool:=Op.bytesLess a b||a==b
def bf (f:Nat→Int):Nat→Int
 |0=>0
 |n+1=>if bf f n=0 then f n else bf f n
theorem aF {f:Nat→Int}:∀ {n:Nat},(∀j,j<n→f j=0)→bf f n=0:=by
 intro n
 induction n with
 |zero=>intro _;rfl
 |succ n ih=>intro h;rw[bf,if_pos (ih fun j hj=>h j (by omega))];exact h n (by omega)
theorem aX {f:Nat→Int}{n i:Nat}{e:Int}(hi:i<n)(h:∀j,j<i→f j=0)(h1:e≠0)(h2:f i=e):bf f n=e:=by
 induction n with
 |zero=>omega
 | succ n ih=>
   rw[bf]
   by_cases q:i<n
   · rw[ih q,if_neg h1]
   · have:i=n:=by omega
     subst this;rw[if_pos (aF h)];exact h2
end Go.Proofs.YtkokpbpililcdaaGreatDoor
namespace Go.Proofs
open Go.Shelf
def jS:Go.Shelf.Ren:=⟨fun|160=>239|232=>279|231=>278|227=>280|234=>282|233=>281|236=>284|235=>283|228=>301|271=>303|151=>302|197=>222|120=>313|152=>312|260=>267|137=>316|119=>317|224=>265|225=>264|217=>263|266=>295|n=>n,fun|9=>9|4=>4|3=>3|5=>5|117=>363|116=>362|0=>0|124=>366|21=>21|105=>318|46=>246|119=>381|139=>384|138=>383|n=>n,fun|3=>2|4=>3|n=>n⟩
theorem xf:Go.Proofs.Lays.n160 Tryz.prog jS:={
 mixed:=by kernel_rfl
 f119:=Tryz.func317.trans (congrArg some (by kernel_rfl))
 f120:=Tryz.func313.trans (congrArg some (by kernel_rfl))
 f137:=Tryz.func316.trans (congrArg some (by kernel_rfl))
 f151:=Tryz.func302.trans (congrArg some (by kernel_rfl))
 f152:=Tryz.func312.trans (congrArg some (by kernel_rfl))
 f160:=Tryz.func239.trans (congrArg some (by kernel_rfl))
 f197:=Tryz.func222.trans (congrArg some (by kernel_rfl))
 f217:=Tryz.func263.trans (congrArg some (by kernel_rfl))
 f224:=Tryz.func265.trans (congrArg some (by kernel_rfl))
 f225:=Tryz.func264.trans (congrArg some (by kernel_rfl))
 f227:=Tryz.func280.trans (congrArg some (by kernel_rfl))
 f228:=Tryz.func301.trans (congrArg some (by kernel_rfl))
 f231:=Tryz.func278.trans (congrArg some (by kernel_rfl))
 f232:=Tryz.func279.trans (congrArg some (by kernel_rfl))
 f233:=Tryz.func281.trans (congrArg some (by kernel_rfl))
 f234:=Tryz.func282.trans (congrArg some (by kernel_rfl))
 f235:=Tryz.func283.trans (congrArg some (by kernel_rfl))
 f236:=Tryz.func284.trans (congrArg some (by kernel_rfl))
 f260:=Tryz.func267.trans (congrArg some (by kernel_rfl))
 f266:=Tryz.func295.trans (congrArg some (by kernel_rfl))
 f271:=Tryz.func303.trans (congrArg some (by kernel_rfl))
 t0:=Tryz.underlying0
 a0:=Tryz.isAgg0
 z0:=Tryz.sizeOf0
 v0:=Tryz.zeroValue0
 t3:=Tryz.underlying3
 a3:=Tryz.isAgg3
 z3:=Tryz.sizeOf3
 v3:=Tryz.zeroValue3
 t4:=Tryz.underlying4
 a4:=Tryz.isAgg4
 z4:=Tryz.sizeOf4
 v4:=Tryz.zeroValue4
 t5:=Tryz.underlying5
 a5:=Tryz.isAgg5
 z5:=Tryz.sizeOf5
 v5:=Tryz.zeroValue5
 t9:=Tryz.underlying9
 a9:=Tryz.isAgg9
 z9:=Tryz.sizeOf9
 v9:=Tryz.zeroValue9
 t21:=Tryz.underlying21
 a21:=Tryz.isAgg21
 z21:=Tryz.sizeOf21
 v21:=Tryz.zeroValue21
 t46:=Tryz.underlying246
 a46:=Tryz.isAgg246
 z46:=Tryz.sizeOf246
 v46:=Tryz.zeroValue246
 t105:=Tryz.underlying318
 a105:=Tryz.isAgg318
 z105:=Tryz.sizeOf318
 v105:=Tryz.zeroValue318
 t116:=Tryz.underlying362
 a116:=Tryz.isAgg362
 z116:=Tryz.sizeOf362
 t117:=Tryz.underlying363
 a117:=Tryz.isAgg363
 z117:=Tryz.sizeOf363
 v117:=Tryz.zeroValue363
 t119:=Tryz.underlying381
 a119:=Tryz.isAgg381
 z119:=Tryz.sizeOf381
 t124:=Tryz.underlying366
 a124:=Tryz.isAgg366
 z124:=Tryz.sizeOf366
 v124:=Tryz.zeroValue366
 t138:=Tryz.underlying383
 a138:=Tryz.isAgg383
 z138:=Tryz.sizeOf383
 v138:=Tryz.zeroValue383
 t139:=Tryz.underlying384
 a139:=Tryz.isAgg384
 z139:=Tryz.sizeOf384
 v139:=Tryz.zeroValue384
 g3:=by kernel_rfl
 g4:=by kernel_rfl}
end Go.Proofs
set_option maxRecDepth 20000
namespace Go.Proofs.YtkokpbpililcdaaGreatDoor
open Go Go.Eng Go.Shelf
theorem Qa (s cs:List UInt8)(hl:s.length≤2^40)(hc:cs.length≤2^20)(ha:cs.all (fun b=>decide (b.toNat<128))=true):ai Tryz.prog 239 [.d (.str s),.d (.str cs)] [] (fun x r=>x= .d (.str (Lib.trimS s cs))∧r= []):=by
 refine gV Tryz.call239 (fun G β w vs _ hvl hd=> ?_)
 match vs,hvl with
 | [u,v],_=>
   have h0:=hd 0 _ u rfl rfl;have h1:=hd 1 _ v rfl rfl
   cases h0 with|d _ _ h0=>cases h0 with|str _=>
   cases h1 with|d _ _ h1=>cases h1 with|str _=>
   refine⟨.string ⟨(Lib.trimS s cs).toArray⟩,fun _ _=>.d _ _ (.str _),?_⟩;have hcon:=Any.strings_Trim_laid xf (by kernel_rfl) ⟨s.toArray⟩ ⟨cs.toArray⟩ w (by simp[ByteArray.size];omega) (by simp[ByteArray.size];omega) (ascii_of_all (by simpa using ha));have e:jS.f 160=239:=rfl;rw[e]at hcon;simpa using hcon
theorem nD {p:UInt8→Bool}{l:List UInt8}:l.dropWhile p= []↔∀b ∈ l,p b=true:=by
 induction l with
 |nil=>simp
 |cons a l ih=>by_cases h:p a=true<;>simp[List.dropWhile_cons,h,ih]
theorem EP {s cs:List UInt8}:Lib.trimS s cs= []↔∀b ∈ s,cs.contains b=true:=by
 unfold Lib.trimS Lib.trimLeftS Lib.trimRightS;rw[nD];constructor
 · intro h b hb;have h1:s.reverse.dropWhile (cs.contains ·)= []∨¬s.reverse.dropWhile (cs.contains ·)= []:=Classical.em _;rcases h1 with h1|h1
   · exact nD.1 h1 b (by simpa using hb)
   · obtain⟨c,m,hc⟩:=List.exists_cons_of_ne_nil h1
     have h3:cs.contains c=false:=by
      have:=List.head_dropWhile_not (cs.contains ·) (l:=s.reverse) h1;simp only[hc,List.head_cons]at this;exact this
     have h4:=h c (by rw[List.mem_reverse,hc];exact List.mem_cons_self);rw[h3]at h4;cases h4
 · intro h b hb;rw[List.mem_reverse]at hb;exact h b (by simpa using(List.dropWhile_sublist _).subset hb)
def q9 (s cs:List UInt8):Bool:=s.all (cs.contains ·)
theorem M0 (s cs:List UInt8)(hl:s.length≤2^40)(hc:cs.length≤2^20)(ha:cs.all (fun b=>decide (b.toNat<128))=true):ai Tryz.prog 190 [.d (.str s),.d (.str cs)] [] (fun x r=>x= .d (.bool (q9 s cs))∧r= []):=by
 refine ae hT (C:= []) Tryz.func190 rfl Tryz.call190 rfl rfl rfl ?_;conv=>whnf
 refine aw (Qa _ _ hl hc ha) ⟨lr,lr,trivial⟩ rfl ?_;conv=>whnf
 refine .ret _ ?_;conv=>whnf
 refine⟨[],⟨?_,rfl⟩,trivial⟩;show SV.d (.bool (Lib.trimS s cs== []))=_;congr 2
 rw[Bool.eq_iff_iff];simp only[beq_iff_eq,EP,q9,List.all_eq_true]
theorem zb (a b c:Int):ai Tryz.prog 144 [.d (.int .i64 a),.d (.int .i64 b),.d (.int .i64 c)] [] (fun x r=>x= .d (.bool (decide (b≤a∧a≤c)))∧r= []):=by
 refine ae hT (C:= []) Tryz.func144 rfl Tryz.call144 rfl rfl rfl ?_;conv=>whnf
 repeat' (refine aa (fun _=> ?_) (fun _=> ?_)<;>(conv=>whnf))
 all_goals
  refine .ret _ ?_;conv=>whnf
  refine⟨[],⟨?_,rfl⟩,trivial⟩;conv=>lhs;whnf
  congr 2
  grind
def mS:List UInt8:= [97,98,99,100,101,102,103,104,105,106,107,108,109,110,111,112,113,114,115,116,117,118,119,120,121,122]
def Gn:List UInt8:=mS++ [48,49,50,51,52,53,54,55,56,57,45,95]
theorem F4 {p:UInt8→Bool}(h:(List.range 256).all (fun n=>p (UInt8.ofNat n))=true)(c:UInt8):p c=true:=by
 have:=List.all_eq_true.1 h c.toNat (List.mem_range.2 c.toNat_lt);simpa using this
theorem DG (c:UInt8):mS.contains c=ee 0 c:=by
 have:=F4 (p:=fun c=>mS.contains c==ee 0 c) (by decide+kernel) c;simpa using this
theorem IW (c:UInt8):Gn.contains c=ee 1 c:=by
 have:=F4 (p:=fun c=>Gn.contains c==ee 1 c) (by decide+kernel) c;simpa using this
theorem tN (i:Nat)(c:UInt8):ee (i+1) c=ee 1 c:=by simp[ee]
theorem Ed {c:UInt8}(h:ee 0 c=true):ee 1 c=true:=by
 simp only[ee]at h ⊢;simp at h;simp[h]
theorem E3 (s:List UInt8):aE s=(decide (1≤(s.length:Int)∧(s.length:Int)≤40)&&q9 (s.take 1) mS&&q9 s Gn):=by
 cases s with
 |nil=>rfl
 | cons c l=>
   have h1:q9 ((c::l).take 1) mS=ee 0 c:=by simp only[q9,List.take_succ_cons,List.take_zero,List.all_cons,List.all_nil,Bool.and_true,DG]
   have h2:q9 (c::l) Gn=(ee 1 c&&l.all (ee 1 ·)):=by simp only[q9,List.all_cons,IW]
   have h3:(List.range (c::l).length).all (fun i=>ee i ((c::l).getD i 0))=(ee 0 c&&l.all (ee 1 ·)):=by
    rw[List.length_cons,List.range_succ_eq_map,List.all_cons,List.all_map];congr 1
    rw[Bool.eq_iff_iff,List.all_eq_true,List.all_eq_true];constructor
    · intro h x hx;obtain⟨i,hi,rfl⟩:=List.getElem_of_mem hx;have:=h i (List.mem_range.2 hi);simp only[Function.comp,List.getD_cons_succ,tN]at this;rwa [List.getD_eq_getElem?_getD,List.getElem?_eq_getElem hi]at this
    · intro h i hi;have hi:=List.mem_range.1 hi;simp only[Function.comp,List.getD_cons_succ,tN];rw[List.getD_eq_getElem?_getD,List.getElem?_eq_getElem hi];exact h _ (List.getElem_mem hi)
   unfold aE;rw[h1,h2,h3,Bool.eq_iff_iff];simp only[Bool.and_eq_true,decide_eq_true_eq,Bool.not_eq_true',List.isEmpty_cons,List.length_cons];constructor
   · rintro⟨⟨⟨a,b⟩,_⟩,d⟩;exact⟨⟨⟨by omega,by omega⟩,a⟩,Ed a,b⟩
   · rintro⟨⟨⟨_,d⟩,a⟩,_,b⟩;exact⟨⟨⟨a,b⟩,trivial⟩,by omega⟩
theorem J4 (s:List UInt8)(hl:s.length≤2^40):ai Tryz.prog 149 [.d (.str s)] [] (fun x r=>x= .d (.bool (aE s))∧r= []):=by
 refine ae hT (C:= []) Tryz.func149 rfl Tryz.call149 rfl rfl rfl ?_;conv=>whnf
 repeat' (first|(refine ac (zb _ _ _) rfl rfl ?_;rotate_right;conv=>whnf)|(refine ac (M0 s Gn hl ?_ ?_) rfl rfl ?_;rotate_right;conv=>whnf)|(refine ac (M0 _ mS ?_ ?_ ?_) rfl rfl ?_;rotate_right;conv=>whnf)|((first|(refine aa ?_ ?_<;>intro hb<;>try simp only[az]at hb)|omega|refine aA ?_|decide|assumption)<;>conv=>whnf))
 all_goals try(simp;omega)
 all_goals
  refine .ret _ ?_;conv=>whnf
  refine⟨[],⟨?_,rfl⟩,trivial⟩;conv=>lhs;whnf
  rw[E3];congr 2;grind
theorem aU {f:Nat→Int}{i:Nat}(p:∀j,j<i→f j=0)(h:f i=0):∀j,j<i+1→f j=0:=fun j hj=>by
 rcases Nat.lt_or_ge j i with q|q
 · exact p j q
 · have:j=i:=by omega
   subst this;exact h
theorem aP (i:Nat):((i:Int) - 1).toNat=i - 1:=by omega
theorem fD {α:Type}{l:List α}{i:Nat}{d:α}(h:i<l.length):l.take (i+1)=l.take i++ [l.getD i d]:=by
 rw[List.take_succ_eq_append_getElem h,List.getD_eq_getElem?_getD,List.getElem?_eq_getElem h];rfl
theorem bG {f:Nat→Int}:∀ {n:Nat},bf f n=0→∀j,j<n→f j=0:=by
 intro n
 induction n with
 |zero=>intro _ j hj;omega
 | succ n ih=>
   intro h j hj;rw[bf]at h;split at h
   · rename_i q;rcases Nat.lt_or_ge j n with r|r
     · exact ih q j r
     · have:j=n:=by omega
       subst this;exact h
   · omega
theorem a8 {α:Type}{l:List α}{x d:α}(h:x ∈ l):∃j,j<l.length∧l.getD j d=x:=by
 obtain⟨j,hj,rfl⟩:=List.getElem_of_mem h;exact⟨j,hj,by rw[List.getD_eq_getElem?_getD,List.getElem?_eq_getElem hj];rfl⟩
section
variable {α:Type} (cmp:α→α→Int)
def ig (x:α):List α→List α
 | []=> [x]
 |y::r=>if cmp x y<0 then y::ig x r else x::y::r
def b8 (l:List α):List α:=l.foldl (fun acc x=>ig cmp x acc) []
def eI (l:List α):List α:=(b8 cmp l).reverse
theorem x2 (x:α):∀l:List α,(ig cmp x l).length=l.length+1:=by
 intro l
 induction l with
 |nil=>rfl
 |cons y r ih=>simp only[ig];split<;>simp[ih]
theorem mu (l:List α)(x:α):b8 cmp (l++ [x])=ig cmp x (b8 cmp l):=by simp[b8]
theorem nK (l:List α):(b8 cmp l).length=l.length:=by
 have:∀ (l acc:List α),(l.foldl (fun acc x=>ig cmp x acc) acc).length=acc.length+l.length:=by
  intro l
  induction l with
  |nil=>intro acc;simp
  |cons x l ih=>intro acc;rw[List.foldl_cons,ih,x2];simp;omega
 rw[b8,this];simp
theorem yl (x y:α):∀ {l:List α},y ∈ ig cmp x l↔y=x∨y ∈ l:=by
 intro l
 induction l with
 |nil=>simp[ig]
 | cons z r ih=>
   simp only[ig];split
   · simp only[List.mem_cons,ih];constructor
     · rintro(h|h|h)
       · exact .inr (.inl h)
       · exact .inl h
       · exact .inr (.inr h)
     · rintro(h|h|h)
       · exact .inr (.inl h)
       · exact .inl h
       · exact .inr (.inr h)
   · simp
theorem oo {y:α}(l:List α):y ∈ b8 cmp l↔y ∈ l:=by
 have:∀ (l acc:List α),y ∈ (l.foldl (fun acc x=>ig cmp x acc) acc)↔y ∈ acc∨y ∈ l:=by
  intro l
  induction l with
  |nil=>intro acc;simp
  | cons x l ih=>
    intro acc;rw[List.foldl_cons,ih,yl,List.mem_cons];constructor
    · rintro((h|h)|h)
      · exact .inr (.inl h)
      · exact .inl h
      · exact .inr (.inr h)
    · rintro(h|h|h)
      · exact .inl (.inr h)
      · exact .inl (.inl h)
      · exact .inr h
 rw[b8,this];simp
end
theorem mO {α:Type}{l:List α}{i:Nat}(h:i<l.length):l.take (i+1)=l.take i++ [l[i]]:=(List.take_append_getElem h).symm
theorem zx {α:Type}(A B:List α)(x d:α){i:Nat}(h:i=A.length):(A++x::B).getD i d=x:=by
 subst h;rw[List.getD_eq_getElem?_getD];simp
theorem AK {α:Type}(A B:List α)(x y:α):(((A++ [y]++ [x]++B).set (A.length+1) y).set A.length x)=A++ [x]++ [y]++B:=by
 simp[List.set_append]
section
variable {α:Type} (cmp:α→α→Int)
theorem Ej (x:α):∀l:List α,(ig cmp x l).Perm (x::l):=by
 intro l
 induction l with
 |nil=>exact .refl _
 | cons y r ih=>
   simp only[ig];split
   · exact(ih.cons y).trans (.swap x y r)
   · exact .refl _
theorem yA (l:List α):(b8 cmp l).Perm l:=by
 have:∀ (l acc:List α),(l.foldl (fun acc x=>ig cmp x acc) acc).Perm (l++acc):=by
  intro l
  induction l with
  |nil=>intro acc;exact .refl _
  | cons x l ih=>
    intro acc;rw[List.foldl_cons];refine(ih _).trans (((Ej cmp x acc).append_left l).trans ?_);exact List.perm_middle
 have h:=this l [];rw[List.append_nil]at h;exact h
theorem eh (l:List α):(eI cmp l).Perm l:=(List.reverse_perm _).trans (yA cmp l)
variable (R:α→α→Prop) (tr:∀a b c,R a b→R b c→R a c)
include tr in
theorem uE (x:α):∀l:List α,l.Pairwise (fun a b=>R b a)→(∀y ∈ l,(cmp x y<0→R x y)∧(¬cmp x y<0→R y x))→(ig cmp x l).Pairwise (fun a b=>R b a):=by
 intro l
 induction l with
 |nil=>intro _ _;simp[ig]
 | cons y r ih=>
   intro h hc;have h':=List.pairwise_cons.1 h;simp only[ig];split
   · rename_i hlt;rw[List.pairwise_cons];refine⟨fun z hz=> ?_,ih h'.2 (fun z hz=>hc z (by simp[hz]))⟩;rcases(yl cmp x z).1 hz with q|q
     · subst q;exact(hc y (by simp)).1 hlt
     · exact h'.1 z q
   · rename_i hlt;have hyx:=(hc y (by simp)).2 hlt;rw[List.pairwise_cons];refine⟨fun z hz=> ?_,h⟩;rcases List.mem_cons.1 hz with q|q
     · subst q;exact hyx
     · exact tr _ _ _ (h'.1 z q) hyx
include tr in
theorem sa:∀l:List α,l.Pairwise (fun y x=>(cmp x y<0→R x y)∧(¬cmp x y<0→R y x))→(eI cmp l).Pairwise R:=by
 intro l h;unfold eI;rw[List.pairwise_reverse]
 have:∀n,n≤l.length→(b8 cmp (l.take n)).Pairwise (fun a b=>R b a):=by
  intro n
  induction n with
  |zero=>intro _;simp[b8]
  | succ n ih=>
    intro hn;rw[mO hn,mu];refine uE cmp R tr _ _ (ih (by omega)) (fun y hy=> ?_);have hy:=(oo cmp _).1 hy;have hp:(l.take (n+1)).Pairwise (fun y x=>(cmp x y<0→R x y)∧(¬cmp x y<0→R y x)):=h.sublist (List.take_sublist _ _);rw[mO hn,List.pairwise_append]at hp;exact hp.2.2 y hy _ (by simp)
 have:=this l.length (Nat.le_refl _);rwa [List.take_length]at this
end
theorem tc {α:Type}{l m:List α}(d:α)(hl:l.length=m.length)(h:∀j,j<l.length→l.getD j d=m.getD j d):l=m:=by
 refine List.ext_getElem hl (fun i h1 h2=> ?_);have:=h i h1;rwa [List.getD_eq_getElem?_getD,List.getD_eq_getElem?_getD,List.getElem?_eq_getElem h1,List.getElem?_eq_getElem h2]at this
theorem bw {p:Nat→Prop}{i:Nat}(h:∀j,j<i→p j)(h1:p i):∀j,j<i+1→p j:=fun j hj=>by
 rcases Nat.lt_or_ge j i with q|q
 · exact h j q
 · have:j=i:=by omega
   subst this;exact h1
structure QT where
 tm:Int
 gate:List UInt8
 plate:List UInt8
 cents:Int
def BS (c:UInt8):Bool:=(decide (65≤c.toNat)&&decide (c.toNat≤90))||(decide (48≤c.toNat)&&decide (c.toNat≤57))
def mw (s:List UInt8):Bool:=s.all BS&&decide (2≤s.length)&&decide (s.length≤10)
theorem Qo (s:List UInt8)(hl:s.length≤2^40):ai Tryz.prog 182 [.d (.str s)] [] (fun x r=>x= .d (.bool (mw s))∧r= []):=by
 refine ae hT (C:= []) Tryz.func182 rfl Tryz.call182 rfl rfl rfl ?_;conv=>whnf
 refine ah hT (C:= []) (ι:=Nat) (fun i=>i≤s.length∧∀j,j<i→BS (s.getD j 0)=true) (fun i=>aI [(0,.d (.str s)),(6,.d (.int .i64 s.length)),(7,.d (.int .i64 i))] []) (fun i=>s.length - i) 0 ⟨by omega,by omega⟩ (by exact be []) ?_;rintro i ⟨p1,p2⟩;have e1:(i:Int).toNat=i:=Int.toNat_natCast i
 have hbad:i<s.length→BS (s.getD i 0)=false→mw s=false:=fun hi h=>by
  have:s.all BS=false:=by
   rw[List.all_eq_false];exact⟨s.getD i 0,ao hi,by rw[h];simp⟩
  simp only[mw,this,Bool.false_and]
 have eJ:i=s.length→s.all BS=true:=fun hi=>by
  rw[List.all_eq_true];intro c hc;obtain⟨j,hj,rfl⟩:=a8 (d:=0) hc;exact p2 j (by omega)
 conv=>whnf
 repeat' (first|((first|(refine aa ?_ ?_<;>intro hb<;>try simp only[az]at hb)|omega|refine aA ?_|decide|assumption)<;>conv=>whnf))
 all_goals first
  |(refine⟨i+1,⟨by omega,bw p2 (by clear p2 hbad eJ;simp only[e1]at*;simp only[BS];grind)⟩,by omega,(by exact be [])⟩)
  | (refine .ret _ ?_
     conv=>whnf
     refine⟨[],⟨?_,rfl⟩,trivial⟩;conv=>lhs;whnf
     congr 2
     first
      |(rw[hbad (by omega) (by clear p2 hbad eJ;simp only[e1]at*;simp only[BS];grind)])
      |(unfold mw;rw[eJ (by omega)];clear p2 hbad eJ;grind))
def eO (a b:Int):Int:=if a<b then -1 else if b<a then 1 else 0
def dJ (a b:List UInt8):Int:=if Op.bytesLess a b=true then -1 else if Op.bytesLess b a=true then 1 else 0
theorem OA (a:Int):ai Tryz.prog 184 [.d (.int .i64 a)] [] (fun x r=>x= .d (.bool false)∧r= []):=by
 refine ae hT (C:= []) Tryz.func184 rfl Tryz.call184 rfl rfl rfl ?_;conv=>whnf
 refine .ret _ ?_;conv=>whnf
 refine⟨[],⟨?_,rfl⟩,trivial⟩;conv=>lhs;whnf
 simp
theorem QG (a:List UInt8):ai Tryz.prog 183 [.d (.str a)] [] (fun x r=>x= .d (.bool false)∧r= []):=by
 refine ae hT (C:= []) Tryz.func183 rfl Tryz.call183 rfl rfl rfl ?_;conv=>whnf
 refine .ret _ ?_;conv=>whnf
 refine⟨[],⟨?_,rfl⟩,trivial⟩;conv=>lhs;whnf
 simp
theorem E7 (a b:Int):ai Tryz.prog 130 [.d (.int .i64 a),.d (.int .i64 b)] [] (fun x r=>x= .d (.int .i64 (eO a b))∧r= []):=by
 refine ae hT (C:= []) Tryz.func130 rfl Tryz.call130 rfl rfl rfl ?_;conv=>whnf
 repeat' (first|(refine ac (OA _) rfl rfl ?_;rotate_right;conv=>whnf)|((first|(refine aa ?_ ?_<;>intro hb<;>try simp only[az]at hb)|omega|refine aA ?_|decide|assumption)<;>conv=>whnf))
 all_goals
  refine .ret _ ?_;conv=>whnf
  refine⟨[],⟨?_,rfl⟩,trivial⟩;conv=>lhs;whnf
  congr 2;unfold eO;grind
theorem fZ:∀ (a b:List UInt8),Op.bytesLess a b=false→a≠b→Op.bytesLess b a=true:=by
 intro a
 induction a with
 | nil=>intro b h hn;cases b with
   |nil=>exact absurd rfl hn
   |cons y ys=>simp[Op.bytesLess]at h
 | cons x xs ih=>
   intro b h hn
   cases b with
   |nil=>simp[Op.bytesLess]
   | cons y ys=>
     simp only[Op.bytesLess]at h ⊢;grind
theorem Ax (a b:List UInt8):ai Tryz.prog 129 [.d (.str a),.d (.str b)] [] (fun x r=>x= .d (.int .i64 (dJ a b))∧r= []):=by
 refine ae hT (C:= []) Tryz.func129 rfl Tryz.call129 rfl rfl rfl ?_;conv=>whnf
 repeat' (first|(refine ac (QG _) rfl rfl ?_;rotate_right;conv=>whnf)|((first|(refine aa ?_ ?_<;>intro hb<;>try simp only[az]at hb)|omega|refine aA ?_|decide|assumption)<;>conv=>whnf))
 all_goals
  refine .ret _ ?_;conv=>whnf
  refine⟨[],⟨?_,rfl⟩,trivial⟩;conv=>lhs;whnf
  congr 2;unfold dJ;grind [fZ]
theorem DW (l:List Int)(hl:l.length≤2^40):ai Tryz.prog 128 [.d (gr l)] [] (fun x r=>x= .d (.int .i64 (al l))∧r= []):=by
 refine ae hT (C:= []) Tryz.func128 rfl Tryz.call128 rfl rfl rfl ?_;conv=>whnf
 refine ah hT (C:= []) (ι:=Nat) (fun i=>i≤l.length∧al l=al (l.drop i)) (fun i=>aI [(3,.d (.int .i64 0)),(6,.d (gr l)),(7,.d (.int .i64 l.length)),(8,.d (.int .i64 i))] []) (fun i=>l.length - i) 0 ⟨by omega,by simp⟩ (by exact be []) ?_;rintro i ⟨p1,p2⟩;have hd:i<l.length→l.drop i=l.getD i 0::l.drop (i+1):=fun hi=>by rw[List.drop_eq_getElem_cons hi,List.getD_eq_getElem?_getD,List.getElem?_eq_getElem hi];rfl
 conv=>whnf
 repeat' (first|((first|(refine aa ?_ ?_<;>intro hb<;>try simp only[az]at hb)|omega|refine aA ?_|decide|assumption)<;>conv=>whnf))
 · refine .ret _ ?_;conv=>whnf
   refine⟨[],⟨?_,rfl⟩,trivial⟩;conv=>lhs;whnf
   congr 2;rw[p2,hd (by omega),al,if_neg hb,Int.toNat_natCast]
 · exact⟨i+1,⟨by omega,by rw[p2,hd (by omega),al,if_pos hb]⟩,by omega,(by exact be [])⟩
 · refine .ret _ ?_;conv=>whnf
   refine⟨[],⟨?_,rfl⟩,trivial⟩;conv=>lhs;whnf
   congr 2;rw[p2,List.drop_eq_nil_iff.2 (by omega)];rfl
def jP (p:Nat→Bool):Nat→Int
 |0=> -1
 |n+1=>if jP p n= -1 then(if p n=true then n else -1)else jP p n
theorem ew {p:Nat→Bool}:∀ {n:Nat},(∀j,j<n→p j=false)→jP p n= -1:=by
 intro n
 induction n with
 |zero=>intro _;rfl
 |succ n ih=>intro h;rw[jP,if_pos (ih fun j hj=>h j (by omega)),h n (by omega)];rfl
theorem gd {p:Nat→Bool}{n i:Nat}(hi:i<n)(h:∀j,j<i→p j=false)(h1:p i=true):jP p n=i:=by
 induction n with
 |zero=>omega
 | succ n ih=>
   rw[jP]
   by_cases q:i<n
   · rw[ih q,if_neg (by omega)]
   · have:i=n:=by omega
     subst this;rw[if_pos (ew h),if_pos h1]
theorem eP {p:Nat→Bool}:∀ {n:Nat},-1≤jP p n∧jP p n<n∧(0≤jP p n→p (jP p n).toNat=true):=by
 intro n
 induction n with
 |zero=>simp[jP]
 | succ n ih=>
   rw[jP];split
   · split
     · rename_i h;exact⟨by omega,by omega,fun _=>by simpa using h⟩
     · exact⟨by omega,by omega,fun h=>by omega⟩
   · exact⟨ih.1,by omega,ih.2.2⟩
theorem Lq (n:Int):ai Tryz.prog 113 [.d (.int .i64 n)] [] (fun x r=>x= .d (.bool (decide (0≤n∧n≤5761439)))∧r= []):=by
 refine ae hT (C:= []) Tryz.func113 rfl Tryz.call113 rfl rfl rfl ?_;conv=>whnf
 repeat' (first|(refine ac (ix _ _ _) rfl rfl ?_;rotate_right;conv=>whnf)|((first|(refine aa ?_ ?_<;>intro hb<;>try simp only[az]at hb)|omega|refine aA ?_|decide|assumption)<;>conv=>whnf))
 refine .ret _ ?_;conv=>whnf
 refine⟨[],⟨?_,rfl⟩,trivial⟩;conv=>lhs;whnf
structure ip where
 kind:Int
 key:List UInt8
 cents:Int
deriving DecidableEq
def J5:ip→List DV:=fun c=> [.int .i64 c.kind,.str c.key,.int .i64 c.cents]
def kr:ip:=⟨0,[],0⟩
abbrev kV (l:List ip):DV:=dC 3 J5 kr l
theorem bO {l:List (List UInt8)}{u:List UInt8}(h:u ∈ l)(q:l.all (fun x=>decide (x.length≤8))=true):u.length≤8:=by
 have:=List.all_eq_true.1 q u h;exact of_decide_eq_true this
theorem PV (n:Int):ai Tryz.prog 148 [.d (.int .i64 n)] [] (fun x r=>x= .d (.bool (decide (0≤n∧n≤5761439)))∧r= []):=by
 refine ae hT (C:= []) Tryz.func148 rfl Tryz.call148 rfl rfl rfl ?_;conv=>whnf
 repeat' (first|(refine ac (zb _ _ _) rfl rfl ?_;rotate_right;conv=>whnf)|((first|(refine aa ?_ ?_<;>intro hb<;>try simp only[az]at hb)|omega|refine aA ?_|decide|assumption)<;>conv=>whnf))
 refine .ret _ ?_;conv=>whnf
 refine⟨[],⟨?_,rfl⟩,trivial⟩;conv=>lhs;whnf
theorem vL:aE []=false:=by decide
theorem zC (a:List UInt8):Op.bytesLess a []=false:=by cases a<;>rfl
theorem fN {α:Type}{f:α→List DV}{d:α}{l:List α}{x y:α}{e k j1 j2:Nat}{ds1 ds2:List DV}(h1:∀z,cm (f z) 0 ds1=f x)(h2:∀z,cm (f z) 0 ds2=f y):
 aY.le (.buf e k l.length fun i=>bif Nat.beq i j2 then cm (bif Nat.beq i j1 then cm (aW f d l i) 0 ds1 else aW f d l i) 0 ds2 else bif Nat.beq i j1 then cm (aW f d l i) 0 ds1 else aW f d l i) (aL e k f d ((l.set j1 x).set j2 y)):=by
 refine ek (by simp) (fun k hk=> ?_);have e1:=qp (f:=f) (d:=d) (l:=l) (x:=x) (j:=j1) (off:=0) (ds:=ds1) (get:=aW f d l) (fun _ _=>rfl) (fun z _=>h1 z);have e2:=qp (f:=f) (d:=d) (l:=l.set j1 x) (x:=y) (j:=j2) (off:=0) (ds:=ds2) (get:=fun i=>bif Nat.beq i j1 then cm (aW f d l i) 0 ds1 else aW f d l i) (fun k hk=>e1 k (by simpa using hk)) (fun z _=>h2 z);exact e2 k (by simpa using hk)
theorem E5 {l:List Int}{u:Int}(h:u ∈ l)(q:l.all (fun x=>decide (-2^40≤x∧x≤2^40))=true): -2^40≤u∧u≤2^40:=by
 have:=List.all_eq_true.1 q u h;exact of_decide_eq_true this
theorem wd {α:Type}{f:α→List DV}{d:α}{l:List α}{k j off:Nat}{ds:List DV}(g:α→α)(hg:∀y,cm (f y) off ds=f (g y)):
 SV.le (.d (.ro k l.length fun i=>bif Nat.beq i j then cm (aW f d l i) off ds else aW f d l i)) (.d (dC k f d (l.set j (g (l.getD j d))))):=
 tf fun y hy=>by rw[hg,List.getD_eq_getElem?_getD,hy];rfl
end Go.Proofs.YtkokpbpililcdaaGreatDoor
namespace Go.Proofs
open Go.Shelf
end Go.Proofs
set_option maxRecDepth 20000
namespace Go.Proofs.YtkokpbpililcdaaGreatDoor
open Go Go.Eng Go.RowKit
theorem Mm {a b:QT}:a=b↔a.tm=b.tm∧a.gate=b.gate∧a.plate=b.plate∧a.cents=b.cents:=by cases a;cases b;simp
instance:DecidableEq QT:=fun _ _=>decidable_of_iff _ Mm.symm
structure O0 where
 v:List UInt8
 fr:Int
 to:Int
def Rw:O0:=⟨[],0,0⟩
structure P0 where
 v:List UInt8
 day:Int
def Q6:P0:=⟨[],0⟩
def Lf (w:List O0)(l:List P0):Prop:=w.length=l.length∧∀i,i<w.length→(w.getD i Rw).v=(l.getD i Q6).v
instance (w:List O0)(l:List P0):Decidable (Lf w l):=inferInstanceAs (Decidable (_∧_))
theorem AM {α:Type}{f:α→List DV}{d:α}{l:List α}{k j m:Nat}(hm:m=(l.drop j).length):SV.le (.d (.ro k m fun i=>aW f d l (j+i))) (.d (dC k f d (l.drop j))):=
 bZ hm (fun i hi=>by simp only[aW];rw[List.getD_eq_getElem?_getD,List.getD_eq_getElem?_getD,List.getElem?_drop])
theorem Bq {α:Type}{f:α→List DV}{d:α}{l:List α}{e k j off:Nat}{ds:List DV}(g:α→α)(hg:∀y,cm (f y) off ds=f (g y)):
 aY.le (.buf e k l.length fun i=>bif Nat.beq i j then cm (aW f d l i) off ds else aW f d l i) (aL e k f d (l.set j (g (l.getD j d)))):=
 qM fun y hy=>by rw[hg,List.getD_eq_getElem?_getD,hy];rfl
def dP {α:Type}(K:α→Prop)(k:Nat)(l:List α):Prop:=l.length≤k∧∀x ∈ l,K x
theorem e6 {α:Type}{K:α→Prop}{l:List α}{k m:Nat}{x:α}(h:dP K k l)(hm:k+1≤m)(hx:K x):dP K m (l++ [x]):=by
 refine⟨by rw[List.length_append];have:=h.1;simp;omega,fun p hp=> ?_⟩;rcases List.mem_append.1 hp with q|q
 · exact h.2 p q
 · simp at q;subst q;exact hx
theorem dF {α:Type}{K:α→Prop}{l:List α}{k m:Nat}(h:dP K k l)(hm:k≤m):dP K m l:=⟨by have:=h.1;omega,h.2⟩
theorem iX {α:Type}{K:α→Prop}{l:List α}{k j:Nat}{d:α}{g:α→α}(h:dP K k l)(hg:∀y,K y→K (g y)):dP K k (l.set j (g (l.getD j d))):=by
 refine⟨by rw[List.length_set];exact h.1,fun p hp=> ?_⟩
 by_cases hj:j<l.length
 · rcases List.mem_or_eq_of_mem_set hp with q|q
   · exact h.2 p q
   · subst q;exact hg _ (h.2 _ (ao hj))
 · rw[List.set_eq_of_length_le (by omega)]at hp;exact h.2 p hp
theorem fM {α:Type}{f:α→List DV}{d:α}{l:List α}{j off:Nat}{ds:List DV}{get:Nat→List DV}(hg:∀i,i<l.length→get i=aW f d l i)(g:α→α)(h:∀y,cm (f y) off ds=f (g y)):
 ∀i,i<(l.set j (g (l.getD j d))).length→(bif Nat.beq i j then cm (get i) off ds else get i)=aW f d (l.set j (g (l.getD j d))) i:=by
 rw[List.length_set];exact qp hg (fun y hy=>by rw[h,List.getD_eq_getElem?_getD,hy];rfl)
abbrev me {α:Type}(l:List α)(j:Nat)(d:α)(g:α→α):List α:=l.set j (g (l.getD j d))
structure Ff where
 a:List UInt8
 b:List UInt8
 car:Int
 ride:Int
def Oz:Ff:=⟨[],[],0,0⟩
structure J2 where
 a:List UInt8
 b:List UInt8
 many:Int
def QN:J2:=⟨[],[],0⟩
theorem KV {a b:J2}:a=b↔a.a=b.a∧a.b=b.b∧a.many=b.many:=by cases a;cases b;simp
instance:DecidableEq J2:=fun _ _=>decidable_of_iff _ KV.symm
end Go.Proofs.YtkokpbpililcdaaGreatDoor
namespace Go.Proofs
open Go.Shelf
end Go.Proofs
set_option maxRecDepth 20000
namespace Go.Proofs.YtkokpbpililcdaaGreatDoor
open Go Go.Eng Go.RowKit
structure bv where
 tm:Int
 desk:List UInt8
 no:Int
 words:List UInt8
def gL:bv→List DV:=fun x=> [.int .i64 x.tm,.str x.desk,.int .i64 x.no,.str x.words]
def cW:bv:=⟨0,[],0,[]⟩
abbrev jI (l:List bv):DV:=dC 4 gL cW l
def K0 (n:Nat)(L:Nat→Int)(a:Int)(c:Int)(r:List (Nat×aY)):Prop:=∃b,a≤b∧b≤a+c∧r= [(1000000,bp n L b),(1000009,KX)]
theorem fx:∀ {a b c:List UInt8},Op.bytesLess a b=true→Op.bytesLess b c=true→Op.bytesLess a c=true:=by
 intro a
 induction a with
 |nil=>intro b c h1 h2;cases b<;>cases c<;>simp_all [Op.bytesLess]
 | cons x a ih=>
   intro b c h1 h2
   cases b with
   |nil=>simp[Op.bytesLess]at h1
   | cons y b=>
     cases c with
     |nil=>simp[Op.bytesLess]at h2
     | cons z c=>
       simp only[Op.bytesLess]at h1 h2 ⊢;grind [UInt8.lt_trans]
theorem dX:∀ (a:List UInt8),Op.bytesLess a a=false:=by
 intro a
 induction a with
 |nil=>rfl
 |cons x a ih=>simp[Op.bytesLess,ih]
end Go.Proofs.YtkokpbpililcdaaGreatDoor
namespace Go.Proofs
open Go.Shelf
def qk:Go.Shelf.Ren:=⟨fun|106=>147|213=>189|265=>238|n=>n,fun|9=>9|3=>3|n=>n,fun|n=>n⟩
theorem Tryz.lays106:Go.Proofs.Lays.n106 Tryz.prog qk:={
 mixed:=by kernel_rfl
 f106:=Tryz.func147.trans (congrArg some (by kernel_rfl))
 f213:=Tryz.func189.trans (congrArg some (by kernel_rfl))
 f265:=Tryz.func238.trans (congrArg some (by kernel_rfl))
 t3:=Tryz.underlying3
 a3:=Tryz.isAgg3
 z3:=Tryz.sizeOf3
 v3:=Tryz.zeroValue3
 t9:=Tryz.underlying9
 a9:=Tryz.isAgg9
 z9:=Tryz.sizeOf9
 v9:=Tryz.zeroValue9}
end Go.Proofs
set_option maxRecDepth 20000
namespace Go.Proofs.YtkokpbpililcdaaGreatDoor
open Go Go.Eng Go.RowKit
theorem Mo:∀ (a b:List UInt8),Lib.compareBytes a b=dJ a b:=by
 intro a
 induction a with
 |nil=>intro b;cases b<;>simp[Lib.compareBytes,dJ,Op.bytesLess]
 | cons x a ih=>
   intro b
   cases b with
   |nil=>simp[Lib.compareBytes,dJ,Op.bytesLess]
   | cons y b=>
     have:=ih b;unfold dJ at this ⊢;simp only[Lib.compareBytes,Op.bytesLess];grind
theorem Qv (a b:List UInt8):ai Tryz.prog 147 [.d (.str a),.d (.str b)] [] (fun x r=>x= .d (.int .i64 (dJ a b))∧r= []):=by
 refine gV Tryz.call147 (fun G β w vs _ hl hd=> ?_)
 match vs,hl with
 | [u,v],_=>
   have hu:=hd 0 _ _ rfl rfl;have hv:=hd 1 _ _ rfl rfl
   cases hu with|d _ _ hu=>cases hu with|str _=>
   cases hv with|d _ _ hv=>cases hv with|str _=>
   refine⟨.int .i64 (Lib.compareBytes a b),fun G β=> ?_,(Go.Proofs.Any.strings_Compare Go.Proofs.Tryz.lays106 ⟨a.toArray⟩ ⟨b.toArray⟩ w).mono ?_⟩
   · rw[←Mo];exact .d _ _ (.int _ _)
   · rintro e w' ⟨he,rfl⟩;exact⟨he,Below.refl _ _⟩
end Go.Proofs.YtkokpbpililcdaaGreatDoor
namespace Go.Proofs
open Go.Shelf
end Go.Proofs
set_option maxRecDepth 20000
namespace Go.Proofs.YtkokpbpililcdaaGreatDoor
open Go Go.Eng Go.RowKit
end Go.Proofs.YtkokpbpililcdaaGreatDoor
set_option maxRecDepth 20000
namespace Go.Proofs.YtkokpbpililcdaaGreatDoor
open Go Go.Eng Go.RowKit
end Go.Proofs.YtkokpbpililcdaaGreatDoor
set_option maxRecDepth 20000
namespace Go.Proofs.YtkokpbpililcdaaGreatDoor
open Go Go.Eng Go.RowKit
def su (F:Nat→Int):Nat→Int
 |0=>0
 |n+1=>su F n+F n
structure Nw where
 K:Nat
 N:Nat
 fr:Nat→Nat
 to:Nat→Nat
 c:Nat→Int
def Nw.net (G:Nw)(f:Nat→Int)(v:Nat):Int:=su (fun k=>(if G.fr k=v then f k else 0) - (if G.to k=v then f k else 0)) G.K
def Nw.cost (G:Nw)(f:Nat→Int):Int:=su (fun k=>f k*G.c k) G.K
structure QR (G:Nw)(have_ want f left lack:Nat→Int):Prop where
 f0:∀k,k<G.K→0≤f k
 left0:∀v,v<G.N→0≤left v∧left v≤have_ v
 lack0:∀v,v<G.N→0≤lack v∧lack v≤want v
 net:∀v,v<G.N→G.net f v=(have_ v - left v) - (want v - lack v)
def QU (G:Nw)(e:Nat×Bool):Nat:=if e.2=true then G.fr e.1 else G.to e.1
def Nw.tl (G:Nw)(e:Nat×Bool):Nat:=if e.2=true then G.to e.1 else G.fr e.1
structure Rr (μ:Type) where
 way:Nat→Option Int
 mv:Nat→Int→μ
 many:Int
structure Lay {μ:Type}(G:Nw)(B:Nat→Bool)(S J:Nat)(ns nw:Nat→Nat)(stn:Nat→Rr μ)(m:Nat→Int→μ)(pos:Nat→Nat→Nat):Prop where
 pend:pos S 0=G.K
 pnext:∀i,i<S→pos (i+1) 0=pos i J
 pnone:∀i k,i<S→k<J→(stn i).way k=none→pos i (k+1)=pos i k
 psome:∀i k car,i<S→k<J→(stn i).way k=some car→pos i (k+1)=pos i k+1∧pos i k<G.K∧G.fr (pos i k)=ns i∧G.to (pos i k)=nw k∧G.c (pos i k)=car∧∀n,m (pos i k) n=(stn i).mv k n
 ns1:∀i,i<S→ns i<G.N∧B (ns i)=true
 ns2:∀i j,i<S→j<S→ns i=ns j→i=j
 nw1:∀k,k<J→nw k<G.N∧B (nw k)=false
 nw2:∀k j,k<J→j<J→nw k=nw j→k=j
 all:∀v,v<G.N→B v=false→∃k,k<J∧v=nw k
theorem cM {l m:List SV}(h:oZ l m):SV.le (.agg l) (.agg m):=by
 obtain⟨h1,h2⟩:=jm h;intro G β v hv
 cases hv with|agg _ vs hl hd=>
 refine .agg _ _ (hl.trans h1) (fun i y v hy hv=> ?_);have hi:i<l.length:=by rw[h1];exact(List.getElem?_eq_some_iff.1 hy).1
 exact h2 i _ y (List.getElem?_eq_getElem hi) hy G β v (hd i _ v (List.getElem?_eq_getElem hi) hv)
def xk:List SV→List SV→Prop
 | [],[]=>True
 |x::l,y::m=>SV.le x y∧xk l m
 |_,_=>False
theorem qQ:∀ {l m:List SV},xk l m→l.length=m.length∧∀ (i:Nat) x y,l[i]? =some x→m[i]? =some y→SV.le x y:=by
 intro l
 induction l with
 | nil=>
   intro m h
   cases m with
   |nil=>exact⟨rfl,by simp⟩
   |cons y m=>exact h.elim
 | cons x l ih=>
   intro m h
   cases m with
   |nil=>exact h.elim
   | cons y m=>
     obtain⟨h1,h2⟩:=h;obtain⟨i1,i2⟩:=ih h2;refine⟨by simp[i1],fun i a b ha hb=> ?_⟩
     cases i with
     |zero=>simp at ha hb;subst ha;subst hb;exact h1
     |succ i=>exact i2 i a b (by simpa using ha) (by simpa using hb)
theorem uG {e:TypeId}{l m:List SV}(h:xk l m):aY.le (.cells e l) (.cells e m):=
 pM (qQ h).1 (qQ h).2
theorem yq {α:Type}{l m:List α}{i:Nat}{z:α}(h:i<l.length):(l++m).getD i z=l.getD i z:=by
 rw[List.getD_eq_getElem?_getD,List.getD_eq_getElem?_getD,List.getElem?_append_left h]
def Pk (l:List Ff)(a b:List UInt8)(i:Nat):Bool:=(l.getD i Oz).a==a&&(l.getD i Oz).b==b
def Kb (l:List Ff)(a b:List UInt8):Int:=jP (Pk l a b) l.length
theorem nj {p:Nat→Bool}{n k:Nat}(hk:k<n)(h:p k=true):0≤jP p n:=by
 have hb:=eP (p:=p) (n:=n);rcases Int.lt_or_le (jP p n) 0 with q|q
 · exfalso
   have hn :∀m,jP p m<0→∀j,j<m→p j=false:=by
    intro m
    induction m with
    |zero=>intro _ j hj;omega
    | succ m ih=>
      intro hm j hj;rw[jP]at hm;split at hm
      · rename_i hz
        by_cases hjm:j=m
        · subst hjm;split at hm
          · omega
          · rename_i hf;simpa using hf
        · exact ih (by omega) j (by omega)
      · rename_i hz;have:=(eP (p:=p) (n:=m)).1;omega
   rw[hn n q k hk]at h;cases h
 · exact q
def JZ (l:List Ff)(a b:List UInt8):Option Ff:=if 0≤Kb l a b then some (l.getD (Kb l a b).toNat Oz)else none
def JQ (l:List Ff)(a b:List UInt8):Option Int:=if a=b then some 0 else(JZ l a b).map (·.ride)
def Ni (l:List Ff)(a:List UInt8)(m:J2):Option Int:=(JQ l a m.a).bind fun n=>(JZ l m.a m.b).map fun r=>n+r.car
abbrev OZ:=Option (List UInt8×Int)
def MR (l:List Ff)(m:List J2)(st:OZ)(k:Int):OZ:=st.bind fun p=>(Ni l p.1 (m.getD k.toNat QN)).map fun n=>((m.getD k.toNat QN).b,p.2+n)
def NF (l:List Ff)(start:List UInt8)(m:List J2)(o:List Int):OZ:=o.foldl (MR l m) (some (start,0))
def K6 (l:List Ff)(start:List UInt8)(m:List J2)(o:List Int):Option Int:=(NF l start m o).bind fun p=>(JQ l p.1 start).map fun n=>p.2+n
abbrev P5:=List Int×Int
def rs (l:List Ff)(start:List UInt8)(m:List J2):Nat→List Int→P5→P5
 | 0,o,st=>match K6 l start m o with
   |some n=>if 0≤st.2∧st.2≤n then st else(o,n)
   |none=>st
 |d+1,o,st=>(List.range m.length).foldl (fun(st:P5) (k:Nat)=>if o.contains (k:Int)then st else rs l start m d (o++ [(k:Int)]) st) st
theorem IG (a b:List UInt8):dJ a b= - dJ b a:=by
 unfold dJ
 by_cases e:a=b
 · subst e;simp[dX]
 · cases q:Op.bytesLess a b
   · have:=fZ _ _ q e;simp[this]
   · have:Op.bytesLess b a=false:=by
      cases w:Op.bytesLess b a
      · rfl
      · have:=fx q w;rw[dX]at this;cases this
     simp[this]
theorem Ip (a b:Int):eO a b= - eO b a:=by unfold eO;grind
theorem Cn {a b:List UInt8}:dJ a b<0↔Op.bytesLess a b=true:=by
 unfold dJ;constructor
 · intro h;by_cases q:Op.bytesLess a b=true
   · exact q
   · rw[if_neg q]at h;split at h<;>omega
 · intro h;rw[if_pos h];omega
theorem kg {a b:List UInt8}:dJ a b=0↔a=b:=by
 constructor
 · intro h
   by_cases e:a=b
   · exact e
   · exfalso;cases q:Op.bytesLess a b
     · have h2:=fZ _ _ q e;unfold dJ at h;rw[q,h2]at h;simp at h
     · have:=Cn.2 q;omega
 · rintro rfl;unfold dJ;simp[dX]
theorem BM {a b c:List UInt8}(h1:dJ a b<0)(h2:dJ b c<0):dJ a c<0:=by
 rw[Cn]at*;exact fx h1 h2
theorem Ci {a b:Int}:eO a b<0↔a<b:=by unfold eO;split<;>(try split)<;>omega
theorem iP {a b:Int}:eO a b=0↔a=b:=by unfold eO;split<;>(try split)<;>omega
def AV:OL:= [(0,[]),(1,[]),(2,[0,1]),(3,[0,1]),(5,rg 4),(6,rg 4),(7,[0,1,2,3,5,6]),(8,[0,1,2,3,5,6]),(10,[0,1,2,3,5,6,7,8]),(11,[0,1,2,3,5,6,7,8]),(12,[0,1,2,3,5,6,7,8,10,11]),(13,[0,1,2,3,5,6,7,8,10,11]),(4,[5,6,7,8,10,11,12,13]),(9,[10,11,12,13]),(14,[]),(15,[]),(16,[]),(17,[])]
def I7 (s:List UInt8):Bool:=s.all fun b=>decide (32≤b.toNat)&&decide (b.toNat≤126)
theorem wJ {s:List UInt8}:I7 s=true↔∀j,j<s.length→32≤(s.getD j 0).toNat∧(s.getD j 0).toNat≤126:=by
 unfold I7;rw[List.all_eq_true];constructor
 · intro h j hj;have:=h _ (ao (x:=0) hj);simpa using this
 · intro h x hx;obtain⟨i,hi,rfl⟩:=a8 (d:=0) hx;simpa using h i hi
theorem w5 {s:List UInt8}{i:Nat}(hi:i<s.length)(h:¬ (32≤(s.getD i 0).toNat∧(s.getD i 0).toNat≤126)):I7 s=false:=by
 cases q:I7 s with
 |false=>rfl
 |true=>exact absurd (wJ.1 q i hi) h
theorem Nt (s:List UInt8)(hl:s.length≤2^40):ai Tryz.prog 114 [.d (.str s)] [] (fun x r=>x= .d (.bool (I7 s))∧r= []):=by
 refine ae hT (C:= []) Tryz.func114 rfl Tryz.call114 rfl rfl rfl ?_;conv=>whnf
 refine ah hT (C:= []) (ι:=Nat) (fun i=>i≤s.length∧∀j,j<i→32≤(s.getD j 0).toNat∧(s.getD j 0).toNat≤126) (fun i=>aI [(0,.d (.str s)),(5,.d (.int .i64 s.length)),(6,.d (.int .i64 i))] []) (fun i=>s.length - i) 0 ⟨by omega,by omega⟩ (by exact be []) ?_;rintro i ⟨p1,p2⟩;have e1:(i:Int).toNat=i:=Int.toNat_natCast i;conv=>whnf
 repeat' (first|((first|(refine aa ?_ ?_<;>intro hb<;>try simp only[az]at hb)|omega|refine aA ?_|decide|assumption)<;>conv=>whnf))
 · refine .ret _ ?_;conv=>whnf
   refine⟨[],⟨?_,rfl⟩,trivial⟩;conv=>lhs;whnf
   rw[w5 (i:=i) (by omega) (by omega)]
 · refine .ret _ ?_;conv=>whnf
   refine⟨[],⟨?_,rfl⟩,trivial⟩;conv=>lhs;whnf
   rw[w5 (i:=i) (by omega) (by omega)]
 · exact⟨i+1,⟨by omega,bw p2 (by omega)⟩,by omega,(by exact be [])⟩
 · refine .ret _ ?_;conv=>whnf
   refine⟨[],⟨?_,rfl⟩,trivial⟩;conv=>lhs;whnf
   have:i=s.length:=by omega
   subst this;rw[wJ.2 p2]
def gl (a b:bv):Int:=al [eO a.tm b.tm,dJ a.desk b.desk,eO a.no b.no]
theorem N8 (a b:bv):ai Tryz.prog 115 [.agg ((gL a).map .d),.agg ((gL b).map .d)] [] (fun x r=>x= .d (.int .i64 (gl a b))∧r= []):=by
 refine ae hT (C:= []) Tryz.func115 rfl Tryz.call115 rfl rfl rfl ?_;conv=>whnf
 repeat' (first|(refine ac (Ax _ _) rfl rfl ?_;rotate_right;conv=>whnf)|(refine ac (E7 _ _) rfl rfl ?_;rotate_right;conv=>whnf)|((first|refine aw (DW [_,_,_] (by simp)) ⟨aj (by rfl) (by rfl),trivial⟩ rfl ?_|(refine aa ?_ ?_<;>intro hb<;>try simp only[az]at hb)|refine aq hT 1 AV ?_|omega|refine aA ?_|decide|assumption)<;>conv=>whnf))
 refine .ret _ ?_;conv=>whnf
 refine⟨[],⟨?_,rfl⟩,trivial⟩;conv=>lhs;whnf
 rfl
theorem NQ (n:Int):ai Tryz.prog 146 [.d (.int .i64 n)] [] (fun x r=>x= .d (.int .i64 (eO n 0))∧r= []):=by
 refine ae hT (C:= []) Tryz.func146 rfl Tryz.call146 rfl rfl rfl ?_;conv=>whnf
 repeat' (first|((first|(refine aa ?_ ?_<;>intro hb<;>try simp only[az]at hb)|omega|refine aA ?_|decide|assumption)<;>conv=>whnf))
 all_goals
  refine .ret _ ?_;conv=>whnf
  refine⟨[],⟨?_,rfl⟩,trivial⟩;conv=>lhs;whnf
  congr 2
  unfold eO;grind
def B8 (a:bv):Prop:=(-2^40≤a.tm∧a.tm≤2^40)∧(-2^40≤a.no∧a.no≤2^40)
theorem yT (a b:Int):eO (a - b) 0=eO a b:=by unfold eO;grind
theorem N2 (a b:bv)(ha:B8 a)(hb0:B8 b):ai Tryz.prog 83 [.agg ((gL a).map .d),.agg ((gL b).map .d)] [] (fun x r=>x= .d (.int .i64 (gl a b))∧r= []):=by
 obtain⟨⟨a1,a2⟩,a3,a4⟩:=ha;obtain⟨⟨b1,b2⟩,b3,b4⟩:=hb0;refine ae hT (C:= []) Tryz.func83 rfl Tryz.call83 rfl rfl rfl ?_;conv=>whnf
 repeat' (first|(refine ac (NQ _) rfl rfl ?_;rotate_right;conv=>whnf)|(refine ac (Qv _ _) rfl rfl ?_;rotate_right;conv=>whnf)|((first|(refine aa ?_ ?_<;>intro hb<;>try simp only[az]at hb)|omega|refine aA ?_|decide|assumption)<;>conv=>whnf))
 · refine .ret _ ?_;conv=>whnf
   refine⟨[],⟨?_,rfl⟩,trivial⟩;conv=>lhs;whnf
   congr 2
   have h0:¬eO a.tm b.tm=0:=fun q=>hb (iP.1 q)
   rw[yT];unfold gl;simp only[al];rw[if_neg h0]
 · rename_i hb1;refine .ret _ ?_;conv=>whnf
   refine⟨[],⟨?_,rfl⟩,trivial⟩;conv=>lhs;whnf
   congr 2
   have h0:eO a.tm b.tm=0:=iP.2 (by omega);have h1:¬dJ a.desk b.desk=0:=fun q=>hb (kg.1 q)
   unfold gl;simp only[al];rw[if_pos h0,if_neg h1]
 · rename_i hb1;refine .ret _ ?_;conv=>whnf
   refine⟨[],⟨?_,rfl⟩,trivial⟩;conv=>lhs;whnf
   congr 2
   have h0:eO a.tm b.tm=0:=iP.2 (by omega);have h1:dJ a.desk b.desk=0:=kg.2 (by simpa using hb);rw[yT];unfold gl;simp only[al];rw[if_pos h0,if_pos h1];split<;>simp_all
end Go.Proofs.YtkokpbpililcdaaGreatDoor
