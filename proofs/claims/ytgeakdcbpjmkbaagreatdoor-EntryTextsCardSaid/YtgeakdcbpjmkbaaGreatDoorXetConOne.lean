/- EntryTexts is proved: for every input the law returns true, and its argument reads afterwards as it read before. Conditions: those of the given row alone. -/
import Derived.Shelf.LaysM
import Derived.Shelf.LaysC
import Derived.Shelf.Strconv.Itoa3
import Derived.Shelf.Strconv.AtoiAll
import Derived.Shelf.Strings.Prefix
import Derived.Shelf.Strings.Cut
import Derived.Shelf.Strings.Split
import Derived.Shelf.Strings.OnBuilder
import Derived.Test.YtgeakdcbpjmkbaaGreatDoorProg
import Derived.Test.YtgeakdcbpjmkbaaGreatDoorXetEngTwo
import Derived.Below
import Derived.Lib.SplitLaws
import Derived.Shelf.Strings.SlTrimAscii
import Derived.Shelf.Spec.SlicesGrow
import Derived.Lib.ItoaNum
import Derived.Lib.AtoiAll
import Derived.Lib.Strings
import Derived.Shelf.Small.Strs
set_option linter.unusedVariables false
set_option linter.unusedSimpArgs false
namespace Go.Proofs
open Go.Shelf
def Tryz.laysM171_ren : Go.Shelf.Ren := ⟨fun | 171 => 72 | 243 => 153 | 246 => 201 | 283 => 251 | 284 => 252 | 285 => 253 | 286 => 254 | 129 => 233 | 317 => 288 | 318 => 289 | 319 => 290 | 320 => 291 | 337 => 306 | 338 => 307 | n => n, fun | 3 => 3 | 9 => 9 | 2 => 2 | 4 => 4 | 171 => 292 | 0 => 0 | 53 => 281 | 37 => 96 | 5 => 5 | 173 => 294 | 212 => 325 | 51 => 279 | 20 => 20 | 213 => 326 | 46 => 230 | 232 => 351 | 233 => 352 | n => n, fun | 17 => 1 | 18 => 6 | 19 => 7 | n => n⟩
theorem Tryz.laysM171 : Go.Proofs.LaysM.n171 Tryz.prog Tryz.laysM171_ren := {
 mixed := by kernel_rfl
 f129 := Tryz.func233.trans (congrArg some (by kernel_rfl))
 f171 := Tryz.func72.trans (congrArg some (by kernel_rfl))
 f243 := Tryz.func153.trans (congrArg some (by kernel_rfl))
 f246 := Tryz.func201.trans (congrArg some (by kernel_rfl))
 f283 := Tryz.func251.trans (congrArg some (by kernel_rfl))
 f284 := Tryz.func252.trans (congrArg some (by kernel_rfl))
 f285 := Tryz.func253.trans (congrArg some (by kernel_rfl))
 f286 := Tryz.func254.trans (congrArg some (by kernel_rfl))
 f317 := Tryz.func288.trans (congrArg some (by kernel_rfl))
 f318 := Tryz.func289.trans (congrArg some (by kernel_rfl))
 f319 := Tryz.func290.trans (congrArg some (by kernel_rfl))
 f320 := Tryz.func291.trans (congrArg some (by kernel_rfl))
 f337 := Tryz.func306.trans (congrArg some (by kernel_rfl))
 f338 := Tryz.func307.trans (congrArg some (by kernel_rfl))
 t0 := Tryz.underlying0
 a0 := Tryz.isAgg0
 z0 := Tryz.sizeOf0
 v0 := Tryz.zeroValue0
 t2 := Tryz.underlying2
 a2 := Tryz.isAgg2
 z2 := Tryz.sizeOf2
 v2 := Tryz.zeroValue2
 t3 := Tryz.underlying3
 a3 := Tryz.isAgg3
 z3 := Tryz.sizeOf3
 v3 := Tryz.zeroValue3
 t4 := Tryz.underlying4
 a4 := Tryz.isAgg4
 z4 := Tryz.sizeOf4
 v4 := Tryz.zeroValue4
 t5 := Tryz.underlying5
 a5 := Tryz.isAgg5
 z5 := Tryz.sizeOf5
 v5 := Tryz.zeroValue5
 t9 := Tryz.underlying9
 a9 := Tryz.isAgg9
 z9 := Tryz.sizeOf9
 v9 := Tryz.zeroValue9
 t20 := Tryz.underlying20
 a20 := Tryz.isAgg20
 z20 := Tryz.sizeOf20
 v20 := Tryz.zeroValue20
 t37 := Tryz.underlying96
 a37 := Tryz.isAgg96
 z37 := Tryz.sizeOf96
 v37 := Tryz.zeroValue96
 t46 := Tryz.underlying230
 a46 := Tryz.isAgg230
 z46 := Tryz.sizeOf230
 v46 := Tryz.zeroValue230
 t51 := Tryz.underlying279
 a51 := Tryz.isAgg279
 z51 := Tryz.sizeOf279
 v51 := Tryz.zeroValue279
 t53 := Tryz.underlying281
 a53 := Tryz.isAgg281
 z53 := Tryz.sizeOf281
 v53 := Tryz.zeroValue281
 t171 := Tryz.underlying292
 a171 := Tryz.isAgg292
 z171 := Tryz.sizeOf292
 v171 := Tryz.zeroValue292
 t173 := Tryz.underlying294
 a173 := Tryz.isAgg294
 z173 := Tryz.sizeOf294
 v173 := Tryz.zeroValue294
 t212 := Tryz.underlying325
 a212 := Tryz.isAgg325
 z212 := Tryz.sizeOf325
 v212 := Tryz.zeroValue325
 t213 := Tryz.underlying326
 a213 := Tryz.isAgg326
 z213 := Tryz.sizeOf326
 t232 := Tryz.underlying351
 a232 := Tryz.isAgg351
 z232 := Tryz.sizeOf351
 v232 := Tryz.zeroValue351
 t233 := Tryz.underlying352
 a233 := Tryz.isAgg352
 z233 := Tryz.sizeOf352
 v233 := Tryz.zeroValue352
 g17 := by kernel_rfl
 g18 := by kernel_rfl
 g19 := by kernel_rfl
 i0 := by kernel_rfl
 i2 := by kernel_rfl
 i3 := by kernel_rfl
 i4 := by kernel_rfl
 i5 := by kernel_rfl
 i9 := by kernel_rfl
 i20 := by kernel_rfl
 i37 := by kernel_rfl
 i46 := by kernel_rfl
 i51 := by kernel_rfl
 i53 := by kernel_rfl
 i171 := by kernel_rfl
 i173 := by kernel_rfl
 i212 := by kernel_rfl
 i232 := by kernel_rfl
 i233 := by kernel_rfl
 m17 := by kernel_rfl
 m18 := by kernel_rfl
 m19 := by kernel_rfl }
def Tryz.laysC172_ren : Go.Shelf.Ren := ⟨fun | 172 => 190 | 244 => 236 | 245 => 237 | 247 => 279 | 279 => 280 | 280 => 281 | 281 => 282 | 282 => 283 | 287 => 302 | 316 => 303 | 171 => 72 | 205 => 304 | 321 => 311 | 322 => 312 | 243 => 153 | 246 => 201 | 283 => 251 | 284 => 252 | 285 => 253 | 286 => 254 | 129 => 233 | 317 => 288 | 318 => 289 | 319 => 290 | 320 => 291 | 337 => 306 | 338 => 307 | n => n, fun | 9 => 9 | 3 => 3 | 75 => 100 | 76 => 101 | 4 => 4 | 5 => 5 | 167 => 316 | 37 => 96 | 0 => 0 | 85 => 317 | 2 => 2 | 168 => 319 | 53 => 281 | 175 => 335 | 46 => 230 | 210 => 339 | 127 => 190 | 145 => 350 | 143 => 348 | 21 => 21 | 171 => 292 | 173 => 294 | 212 => 325 | 51 => 279 | 20 => 20 | 213 => 326 | 232 => 351 | 233 => 352 | 80 => 34 | n => n, fun | 15 => 2 | 16 => 3 | 17 => 1 | 18 => 6 | 19 => 7 | n => n⟩
theorem Tryz.laysC172 : Go.Proofs.LaysC.n172 Tryz.prog Tryz.laysC172_ren := {
 mixed := by kernel_rfl
 f129 := Tryz.func233.trans (congrArg some (by kernel_rfl))
 f171 := Tryz.func72.trans (congrArg some (by kernel_rfl))
 f172 := Tryz.func190.trans (congrArg some (by kernel_rfl))
 f205 := Tryz.func304.trans (congrArg some (by kernel_rfl))
 f243 := Tryz.func153.trans (congrArg some (by kernel_rfl))
 f244 := Tryz.func236.trans (congrArg some (by kernel_rfl))
 f245 := Tryz.func237.trans (congrArg some (by kernel_rfl))
 f246 := Tryz.func201.trans (congrArg some (by kernel_rfl))
 f247 := Tryz.func279.trans (congrArg some (by kernel_rfl))
 f279 := Tryz.func280.trans (congrArg some (by kernel_rfl))
 f280 := Tryz.func281.trans (congrArg some (by kernel_rfl))
 f281 := Tryz.func282.trans (congrArg some (by kernel_rfl))
 f282 := Tryz.func283.trans (congrArg some (by kernel_rfl))
 f283 := Tryz.func251.trans (congrArg some (by kernel_rfl))
 f284 := Tryz.func252.trans (congrArg some (by kernel_rfl))
 f285 := Tryz.func253.trans (congrArg some (by kernel_rfl))
 f286 := Tryz.func254.trans (congrArg some (by kernel_rfl))
 f287 := Tryz.func302.trans (congrArg some (by kernel_rfl))
 f316 := Tryz.func303.trans (congrArg some (by kernel_rfl))
 f317 := Tryz.func288.trans (congrArg some (by kernel_rfl))
 f318 := Tryz.func289.trans (congrArg some (by kernel_rfl))
 f319 := Tryz.func290.trans (congrArg some (by kernel_rfl))
 f320 := Tryz.func291.trans (congrArg some (by kernel_rfl))
 f321 := Tryz.func311.trans (congrArg some (by kernel_rfl))
 f322 := Tryz.func312.trans (congrArg some (by kernel_rfl))
 f337 := Tryz.func306.trans (congrArg some (by kernel_rfl))
 f338 := Tryz.func307.trans (congrArg some (by kernel_rfl))
 t0 := Tryz.underlying0
 a0 := Tryz.isAgg0
 z0 := Tryz.sizeOf0
 v0 := Tryz.zeroValue0
 t2 := Tryz.underlying2
 a2 := Tryz.isAgg2
 z2 := Tryz.sizeOf2
 v2 := Tryz.zeroValue2
 t3 := Tryz.underlying3
 a3 := Tryz.isAgg3
 z3 := Tryz.sizeOf3
 v3 := Tryz.zeroValue3
 t4 := Tryz.underlying4
 a4 := Tryz.isAgg4
 z4 := Tryz.sizeOf4
 v4 := Tryz.zeroValue4
 t5 := Tryz.underlying5
 a5 := Tryz.isAgg5
 z5 := Tryz.sizeOf5
 v5 := Tryz.zeroValue5
 t9 := Tryz.underlying9
 a9 := Tryz.isAgg9
 z9 := Tryz.sizeOf9
 v9 := Tryz.zeroValue9
 t20 := Tryz.underlying20
 a20 := Tryz.isAgg20
 z20 := Tryz.sizeOf20
 v20 := Tryz.zeroValue20
 t21 := Tryz.underlying21
 a21 := Tryz.isAgg21
 z21 := Tryz.sizeOf21
 v21 := Tryz.zeroValue21
 t37 := Tryz.underlying96
 a37 := Tryz.isAgg96
 z37 := Tryz.sizeOf96
 v37 := Tryz.zeroValue96
 t46 := Tryz.underlying230
 a46 := Tryz.isAgg230
 z46 := Tryz.sizeOf230
 v46 := Tryz.zeroValue230
 t51 := Tryz.underlying279
 a51 := Tryz.isAgg279
 z51 := Tryz.sizeOf279
 v51 := Tryz.zeroValue279
 t53 := Tryz.underlying281
 a53 := Tryz.isAgg281
 z53 := Tryz.sizeOf281
 v53 := Tryz.zeroValue281
 t75 := Tryz.underlying100
 a75 := Tryz.isAgg100
 z75 := Tryz.sizeOf100
 v75 := Tryz.zeroValue100
 t76 := Tryz.underlying101
 a76 := Tryz.isAgg101
 z76 := Tryz.sizeOf101
 v76 := Tryz.zeroValue101
 t85 := Tryz.underlying317
 a85 := Tryz.isAgg317
 z85 := Tryz.sizeOf317
 v85 := Tryz.zeroValue317
 t127 := Tryz.underlying190
 a127 := Tryz.isAgg190
 z127 := Tryz.sizeOf190
 v127 := Tryz.zeroValue190
 t143 := Tryz.underlying348
 a143 := Tryz.isAgg348
 z143 := Tryz.sizeOf348
 v143 := Tryz.zeroValue348
 t145 := Tryz.underlying350
 a145 := Tryz.isAgg350
 z145 := Tryz.sizeOf350
 v145 := Tryz.zeroValue350
 t167 := Tryz.underlying316
 a167 := Tryz.isAgg316
 z167 := Tryz.sizeOf316
 v167 := Tryz.zeroValue316
 t168 := Tryz.underlying319
 a168 := Tryz.isAgg319
 z168 := Tryz.sizeOf319
 v168 := Tryz.zeroValue319
 t171 := Tryz.underlying292
 a171 := Tryz.isAgg292
 z171 := Tryz.sizeOf292
 v171 := Tryz.zeroValue292
 t173 := Tryz.underlying294
 a173 := Tryz.isAgg294
 z173 := Tryz.sizeOf294
 v173 := Tryz.zeroValue294
 t175 := Tryz.underlying335
 a175 := Tryz.isAgg335
 z175 := Tryz.sizeOf335
 v175 := Tryz.zeroValue335
 t210 := Tryz.underlying339
 a210 := Tryz.isAgg339
 z210 := Tryz.sizeOf339
 v210 := Tryz.zeroValue339
 t212 := Tryz.underlying325
 a212 := Tryz.isAgg325
 z212 := Tryz.sizeOf325
 v212 := Tryz.zeroValue325
 t213 := Tryz.underlying326
 a213 := Tryz.isAgg326
 z213 := Tryz.sizeOf326
 t232 := Tryz.underlying351
 a232 := Tryz.isAgg351
 z232 := Tryz.sizeOf351
 v232 := Tryz.zeroValue351
 t233 := Tryz.underlying352
 a233 := Tryz.isAgg352
 z233 := Tryz.sizeOf352
 v233 := Tryz.zeroValue352
 g15 := by kernel_rfl
 g16 := by kernel_rfl
 g17 := by kernel_rfl
 g18 := by kernel_rfl
 g19 := by kernel_rfl
 t80 := Tryz.underlying34
 a80 := Tryz.isAgg34
 z80 := Tryz.sizeOf34
 v80 := Tryz.zeroValue34
 i0 := by kernel_rfl
 i2 := by kernel_rfl
 i3 := by kernel_rfl
 i4 := by kernel_rfl
 i5 := by kernel_rfl
 i9 := by kernel_rfl
 i20 := by kernel_rfl
 i21 := by kernel_rfl
 i37 := by kernel_rfl
 i46 := by kernel_rfl
 i51 := by kernel_rfl
 i53 := by kernel_rfl
 i75 := by kernel_rfl
 i76 := by kernel_rfl
 i80 := by kernel_rfl
 i85 := by kernel_rfl
 i127 := by kernel_rfl
 i143 := by kernel_rfl
 i145 := by kernel_rfl
 i167 := by kernel_rfl
 i168 := by kernel_rfl
 i171 := by kernel_rfl
 i173 := by kernel_rfl
 i175 := by kernel_rfl
 i210 := by kernel_rfl
 i212 := by kernel_rfl
 i232 := by kernel_rfl
 i233 := by kernel_rfl
 m15 := by kernel_rfl
 m16 := by kernel_rfl
 m17 := by kernel_rfl
 m18 := by kernel_rfl
 m19 := by kernel_rfl
 c0 := by kernel_rfl
 c2 := by kernel_rfl
 c3 := by kernel_rfl
 c4 := by kernel_rfl
 c5 := by kernel_rfl
 c9 := by kernel_rfl
 c20 := by kernel_rfl
 c21 := by kernel_rfl
 c37 := by kernel_rfl
 c46 := by kernel_rfl
 c51 := by kernel_rfl
 c53 := by kernel_rfl
 c75 := by kernel_rfl
 c76 := by kernel_rfl
 c80 := by kernel_rfl
 c85 := by kernel_rfl
 c127 := by kernel_rfl
 c143 := by kernel_rfl
 c145 := by kernel_rfl
 c167 := by kernel_rfl
 c168 := by kernel_rfl
 c171 := by kernel_rfl
 c173 := by kernel_rfl
 c175 := by kernel_rfl
 c210 := by kernel_rfl
 c212 := by kernel_rfl
 c213 := by kernel_rfl
 c232 := by kernel_rfl
 c233 := by kernel_rfl }
def Tryz.lays145_ren : Go.Shelf.Ren := ⟨fun | 145 => 154 | 220 => 202 | 219 => 235 | 217 => 275 | 225 => 276 | 224 => 277 | 267 => 278 | 266 => 300 | 314 => 301 | n => n, fun | 9 => 9 | 4 => 4 | 59 => 192 | 3 => 3 | 5 => 5 | 46 => 230 | 146 => 288 | 51 => 279 | n => n, fun | 1 => 0 | n => n⟩
theorem Tryz.lays145 : Go.Proofs.Lays.n145 Tryz.prog Tryz.lays145_ren := {
 mixed := by kernel_rfl
 f145 := Tryz.func154.trans (congrArg some (by kernel_rfl))
 f217 := Tryz.func275.trans (congrArg some (by kernel_rfl))
 f219 := Tryz.func235.trans (congrArg some (by kernel_rfl))
 f220 := Tryz.func202.trans (congrArg some (by kernel_rfl))
 f224 := Tryz.func277.trans (congrArg some (by kernel_rfl))
 f225 := Tryz.func276.trans (congrArg some (by kernel_rfl))
 f266 := Tryz.func300.trans (congrArg some (by kernel_rfl))
 f267 := Tryz.func278.trans (congrArg some (by kernel_rfl))
 f314 := Tryz.func301.trans (congrArg some (by kernel_rfl))
 t3 := Tryz.underlying3
 a3 := Tryz.isAgg3
 z3 := Tryz.sizeOf3
 v3 := Tryz.zeroValue3
 t4 := Tryz.underlying4
 a4 := Tryz.isAgg4
 z4 := Tryz.sizeOf4
 v4 := Tryz.zeroValue4
 t5 := Tryz.underlying5
 a5 := Tryz.isAgg5
 z5 := Tryz.sizeOf5
 v5 := Tryz.zeroValue5
 t9 := Tryz.underlying9
 a9 := Tryz.isAgg9
 z9 := Tryz.sizeOf9
 v9 := Tryz.zeroValue9
 t46 := Tryz.underlying230
 a46 := Tryz.isAgg230
 z46 := Tryz.sizeOf230
 v46 := Tryz.zeroValue230
 t51 := Tryz.underlying279
 a51 := Tryz.isAgg279
 z51 := Tryz.sizeOf279
 v51 := Tryz.zeroValue279
 t59 := Tryz.underlying192
 a59 := Tryz.isAgg192
 z59 := Tryz.sizeOf192
 v59 := Tryz.zeroValue192
 t146 := Tryz.underlying288
 a146 := Tryz.isAgg288
 z146 := Tryz.sizeOf288
 v146 := Tryz.zeroValue288
 g1 := by kernel_rfl }
def Tryz.lays147_ren : Go.Shelf.Ren := ⟨fun | 147 => 77 | 221 => 155 | 268 => 203 | 138 => 204 | 143 => 189 | 195 => 255 | 197 => 256 | 218 => 257 | 219 => 235 | 260 => 292 | 217 => 275 | 225 => 276 | 224 => 277 | 267 => 278 | 266 => 300 | 314 => 301 | n => n, fun | 9 => 9 | 3 => 3 | 31 => 111 | 4 => 4 | 0 => 0 | 105 => 297 | 21 => 21 | 5 => 5 | 46 => 230 | 119 => 342 | 139 => 345 | 138 => 344 | 146 => 288 | 51 => 279 | n => n, fun | 1 => 0 | 3 => 4 | 4 => 5 | n => n⟩
theorem Tryz.lays147 : Go.Proofs.Lays.n147 Tryz.prog Tryz.lays147_ren := {
 mixed := by kernel_rfl
 f138 := Tryz.func204.trans (congrArg some (by kernel_rfl))
 f143 := Tryz.func189.trans (congrArg some (by kernel_rfl))
 f147 := Tryz.func77.trans (congrArg some (by kernel_rfl))
 f195 := Tryz.func255.trans (congrArg some (by kernel_rfl))
 f197 := Tryz.func256.trans (congrArg some (by kernel_rfl))
 f217 := Tryz.func275.trans (congrArg some (by kernel_rfl))
 f218 := Tryz.func257.trans (congrArg some (by kernel_rfl))
 f219 := Tryz.func235.trans (congrArg some (by kernel_rfl))
 f221 := Tryz.func155.trans (congrArg some (by kernel_rfl))
 f224 := Tryz.func277.trans (congrArg some (by kernel_rfl))
 f225 := Tryz.func276.trans (congrArg some (by kernel_rfl))
 f260 := Tryz.func292.trans (congrArg some (by kernel_rfl))
 f266 := Tryz.func300.trans (congrArg some (by kernel_rfl))
 f267 := Tryz.func278.trans (congrArg some (by kernel_rfl))
 f268 := Tryz.func203.trans (congrArg some (by kernel_rfl))
 f314 := Tryz.func301.trans (congrArg some (by kernel_rfl))
 t0 := Tryz.underlying0
 a0 := Tryz.isAgg0
 z0 := Tryz.sizeOf0
 v0 := Tryz.zeroValue0
 t3 := Tryz.underlying3
 a3 := Tryz.isAgg3
 z3 := Tryz.sizeOf3
 v3 := Tryz.zeroValue3
 t4 := Tryz.underlying4
 a4 := Tryz.isAgg4
 z4 := Tryz.sizeOf4
 v4 := Tryz.zeroValue4
 t5 := Tryz.underlying5
 a5 := Tryz.isAgg5
 z5 := Tryz.sizeOf5
 v5 := Tryz.zeroValue5
 t9 := Tryz.underlying9
 a9 := Tryz.isAgg9
 z9 := Tryz.sizeOf9
 v9 := Tryz.zeroValue9
 t21 := Tryz.underlying21
 a21 := Tryz.isAgg21
 z21 := Tryz.sizeOf21
 v21 := Tryz.zeroValue21
 t31 := Tryz.underlying111
 a31 := Tryz.isAgg111
 z31 := Tryz.sizeOf111
 v31 := Tryz.zeroValue111
 t46 := Tryz.underlying230
 a46 := Tryz.isAgg230
 z46 := Tryz.sizeOf230
 v46 := Tryz.zeroValue230
 t51 := Tryz.underlying279
 a51 := Tryz.isAgg279
 z51 := Tryz.sizeOf279
 v51 := Tryz.zeroValue279
 t105 := Tryz.underlying297
 a105 := Tryz.isAgg297
 z105 := Tryz.sizeOf297
 v105 := Tryz.zeroValue297
 t119 := Tryz.underlying342
 a119 := Tryz.isAgg342
 z119 := Tryz.sizeOf342
 t138 := Tryz.underlying344
 a138 := Tryz.isAgg344
 z138 := Tryz.sizeOf344
 v138 := Tryz.zeroValue344
 t139 := Tryz.underlying345
 a139 := Tryz.isAgg345
 z139 := Tryz.sizeOf345
 v139 := Tryz.zeroValue345
 t146 := Tryz.underlying288
 a146 := Tryz.isAgg288
 z146 := Tryz.sizeOf288
 v146 := Tryz.zeroValue288
 g1 := by kernel_rfl
 g3 := by kernel_rfl
 g4 := by kernel_rfl }
def Tryz.lays101_ren : Go.Shelf.Ren := ⟨fun | 101 => 191 | 208 => 238 | 206 => 249 | n => n, fun | 9 => 9 | 4 => 4 | 3 => 3 | n => n, fun | n => n⟩
theorem Tryz.lays101 : Go.Proofs.Lays.n101 Tryz.prog Tryz.lays101_ren := {
 mixed := by kernel_rfl
 f101 := Tryz.func191.trans (congrArg some (by kernel_rfl))
 f206 := Tryz.func249.trans (congrArg some (by kernel_rfl))
 f208 := Tryz.func238.trans (congrArg some (by kernel_rfl))
 t3 := Tryz.underlying3
 a3 := Tryz.isAgg3
 z3 := Tryz.sizeOf3
 v3 := Tryz.zeroValue3
 t4 := Tryz.underlying4
 a4 := Tryz.isAgg4
 z4 := Tryz.sizeOf4
 v4 := Tryz.zeroValue4
 t9 := Tryz.underlying9
 a9 := Tryz.isAgg9
 z9 := Tryz.sizeOf9
 v9 := Tryz.zeroValue9 }
def Tryz.lays156_ren : Go.Shelf.Ren := ⟨fun | 156 => 94 | 165 => 166 | 166 => 65 | 169 => 68 | 240 => 151 | 241 => 210 | 276 => 200 | 277 => 266 | n => n, fun | 31 => 111 | 9 => 9 | 3 => 3 | 4 => 4 | 0 => 0 | 20 => 20 | 72 => 98 | 76 => 101 | 70 => 95 | 37 => 96 | 75 => 100 | 127 => 190 | 164 => 241 | 5 => 5 | 80 => 34 | n => n, fun | n => n⟩
theorem Tryz.lays156 : Go.Proofs.Lays.n156 Tryz.prog Tryz.lays156_ren := {
 mixed := by kernel_rfl
 f156 := Tryz.func94.trans (congrArg some (by kernel_rfl))
 f165 := Tryz.func166.trans (congrArg some (by kernel_rfl))
 f166 := Tryz.func65.trans (congrArg some (by kernel_rfl))
 f169 := Tryz.func68.trans (congrArg some (by kernel_rfl))
 f240 := Tryz.func151.trans (congrArg some (by kernel_rfl))
 f241 := Tryz.func210.trans (congrArg some (by kernel_rfl))
 f276 := Tryz.func200.trans (congrArg some (by kernel_rfl))
 f277 := Tryz.func266.trans (congrArg some (by kernel_rfl))
 t0 := Tryz.underlying0
 a0 := Tryz.isAgg0
 z0 := Tryz.sizeOf0
 v0 := Tryz.zeroValue0
 t3 := Tryz.underlying3
 a3 := Tryz.isAgg3
 z3 := Tryz.sizeOf3
 v3 := Tryz.zeroValue3
 t4 := Tryz.underlying4
 a4 := Tryz.isAgg4
 z4 := Tryz.sizeOf4
 v4 := Tryz.zeroValue4
 t9 := Tryz.underlying9
 a9 := Tryz.isAgg9
 z9 := Tryz.sizeOf9
 v9 := Tryz.zeroValue9
 t20 := Tryz.underlying20
 a20 := Tryz.isAgg20
 z20 := Tryz.sizeOf20
 v20 := Tryz.zeroValue20
 t31 := Tryz.underlying111
 a31 := Tryz.isAgg111
 z31 := Tryz.sizeOf111
 v31 := Tryz.zeroValue111
 t37 := Tryz.underlying96
 a37 := Tryz.isAgg96
 z37 := Tryz.sizeOf96
 v37 := Tryz.zeroValue96
 t70 := Tryz.underlying95
 a70 := Tryz.isAgg95
 z70 := Tryz.sizeOf95
 v70 := Tryz.zeroValue95
 t72 := Tryz.underlying98
 a72 := Tryz.isAgg98
 z72 := Tryz.sizeOf98
 v72 := Tryz.zeroValue98
 t75 := Tryz.underlying100
 a75 := Tryz.isAgg100
 z75 := Tryz.sizeOf100
 v75 := Tryz.zeroValue100
 t76 := Tryz.underlying101
 a76 := Tryz.isAgg101
 z76 := Tryz.sizeOf101
 v76 := Tryz.zeroValue101
 t127 := Tryz.underlying190
 a127 := Tryz.isAgg190
 z127 := Tryz.sizeOf190
 v127 := Tryz.zeroValue190
 t164 := Tryz.underlying241
 a164 := Tryz.isAgg241
 z164 := Tryz.sizeOf241
 v164 := Tryz.zeroValue241 }
def Tryz.lays169_ren : Go.Shelf.Ren := ⟨fun | 169 => 68 | n => n, fun | 70 => 95 | 9 => 9 | 0 => 0 | 72 => 98 | 37 => 96 | 127 => 190 | 3 => 3 | 5 => 5 | n => n, fun | n => n⟩
theorem Tryz.lays169 : Go.Proofs.Lays.n169 Tryz.prog Tryz.lays169_ren := {
 mixed := by kernel_rfl
 f169 := Tryz.func68.trans (congrArg some (by kernel_rfl))
 t0 := Tryz.underlying0
 a0 := Tryz.isAgg0
 z0 := Tryz.sizeOf0
 v0 := Tryz.zeroValue0
 t3 := Tryz.underlying3
 a3 := Tryz.isAgg3
 z3 := Tryz.sizeOf3
 v3 := Tryz.zeroValue3
 t9 := Tryz.underlying9
 a9 := Tryz.isAgg9
 z9 := Tryz.sizeOf9
 v9 := Tryz.zeroValue9
 t37 := Tryz.underlying96
 a37 := Tryz.isAgg96
 z37 := Tryz.sizeOf96
 v37 := Tryz.zeroValue96
 t70 := Tryz.underlying95
 a70 := Tryz.isAgg95
 z70 := Tryz.sizeOf95
 v70 := Tryz.zeroValue95
 t72 := Tryz.underlying98
 a72 := Tryz.isAgg98
 z72 := Tryz.sizeOf98
 v72 := Tryz.zeroValue98
 t127 := Tryz.underlying190
 a127 := Tryz.isAgg190
 z127 := Tryz.sizeOf190
 v127 := Tryz.zeroValue190 }
def Tryz.laysM145_ren : Go.Shelf.Ren := ⟨fun | 145 => 154 | 220 => 202 | 219 => 235 | 217 => 275 | 225 => 276 | 224 => 277 | 267 => 278 | 266 => 300 | 314 => 301 | n => n, fun | 9 => 9 | 4 => 4 | 59 => 192 | 3 => 3 | 5 => 5 | 46 => 230 | 146 => 288 | 51 => 279 | n => n, fun | 1 => 0 | n => n⟩
theorem Tryz.laysM145 : Go.Proofs.LaysM.n145 Tryz.prog Tryz.laysM145_ren := {
 mixed := by kernel_rfl
 f145 := Tryz.func154.trans (congrArg some (by kernel_rfl))
 f217 := Tryz.func275.trans (congrArg some (by kernel_rfl))
 f219 := Tryz.func235.trans (congrArg some (by kernel_rfl))
 f220 := Tryz.func202.trans (congrArg some (by kernel_rfl))
 f224 := Tryz.func277.trans (congrArg some (by kernel_rfl))
 f225 := Tryz.func276.trans (congrArg some (by kernel_rfl))
 f266 := Tryz.func300.trans (congrArg some (by kernel_rfl))
 f267 := Tryz.func278.trans (congrArg some (by kernel_rfl))
 f314 := Tryz.func301.trans (congrArg some (by kernel_rfl))
 t3 := Tryz.underlying3
 a3 := Tryz.isAgg3
 z3 := Tryz.sizeOf3
 v3 := Tryz.zeroValue3
 t4 := Tryz.underlying4
 a4 := Tryz.isAgg4
 z4 := Tryz.sizeOf4
 v4 := Tryz.zeroValue4
 t5 := Tryz.underlying5
 a5 := Tryz.isAgg5
 z5 := Tryz.sizeOf5
 v5 := Tryz.zeroValue5
 t9 := Tryz.underlying9
 a9 := Tryz.isAgg9
 z9 := Tryz.sizeOf9
 v9 := Tryz.zeroValue9
 t46 := Tryz.underlying230
 a46 := Tryz.isAgg230
 z46 := Tryz.sizeOf230
 v46 := Tryz.zeroValue230
 t51 := Tryz.underlying279
 a51 := Tryz.isAgg279
 z51 := Tryz.sizeOf279
 v51 := Tryz.zeroValue279
 t59 := Tryz.underlying192
 a59 := Tryz.isAgg192
 z59 := Tryz.sizeOf192
 v59 := Tryz.zeroValue192
 t146 := Tryz.underlying288
 a146 := Tryz.isAgg288
 z146 := Tryz.sizeOf288
 v146 := Tryz.zeroValue288
 g1 := by kernel_rfl
 i3 := by kernel_rfl
 i4 := by kernel_rfl
 i5 := by kernel_rfl
 i9 := by kernel_rfl
 i46 := by kernel_rfl
 i51 := by kernel_rfl
 i59 := by kernel_rfl
 i146 := by kernel_rfl
 m1 := by kernel_rfl
 s1_3 := fun w h => Go.Proofs.cell_of_shapedOpen_int (zero := #[.int .i64 0]) (t := 3) h (of_decide_eq_true (by kernel_rfl)) (by kernel_rfl) rfl (by kernel_rfl) (by kernel_rfl) Tryz.underlying3 }
end Go.Proofs
set_option maxRecDepth 20000
namespace Go.Proofs.YtgeakdcbpjmkbaaGreatDoor
open Go Go.Eng
def oXCoA60_4 : List (Nat × List Nat) := [(0, []), (1, []), (2, []), (3, []), (4, []), (5, [0, 1, 2, 3, 4]), (6, [0, 1, 2, 3, 4]), (7, [0, 1, 2, 3, 4]), (8, [0, 1, 2, 3, 4]), (9, [0, 1, 2, 3, 4]), (10, []), (11, [])]
def oXCoA60_5 : List (Nat × List Nat) := [(0, []), (1, []), (2, []), (3, []), (4, []), (5, [0, 1, 2, 3, 4]), (6, [0, 1, 2, 3, 4]), (7, [0, 1, 2, 3, 4]), (8, [0, 1, 2, 3, 4]), (9, [0, 1, 2, 3, 4]), (10, []), (11, [])]
def eqTab : List Nat := [67, 258, 39, 188, 51, 133, 251, 88, 150, 153]
theorem eqTab_ok : eqTab.all (eqFits Tryz.prog) = true := by decide +kernel
noncomputable def T : Tab := tiOf Tryz.prog (mem eqTab)
theorem hT : TabOk Tryz.prog T := ⟨mem eqTab, fun _ _ h => h, fun t ht => List.all_eq_true.1 eqTab_ok t ((mem_iff _ _).1 ht)⟩
abbrev i64 (n : Int) : DV := .int .i64 n
def strm (n : Nat) (L : Nat → Int) (at' : Int) : Res := .cells 25 [.d (.ro 1 n fun i => [.int .i64 (L i)]), .d (.int .i64 at')]
def Rok (n : Nat) (L : Nat → Int) : Prop := n ≤ maxLen ∧ ∀ i, -2^63 ≤ L i ∧ L i < 2^63
theorem s148 (x n : Int) (hn : n ≤ 2^40) : FSpec Tryz.prog 145 [.d (.int .i64 x), .d (.int .i64 n)] [] (fun y r => (∃ m : Int, 0 ≤ m ∧ (1 ≤ n → m < n) ∧ (n < 1 → m = 0) ∧ y = .d (.int .i64 m)) ∧ r = []) := by
 refine spec_of hT (C := []) Tryz.func145 rfl Tryz.call145 rfl rfl rfl ?_
 conv => whnf
 refine br_intro (fun h => ?_) (fun h => ?_)
 · conv => whnf
   refine .ret _ ?_
   conv => whnf
   refine ⟨[], ⟨⟨_, ?_, ?_, ?_, rfl⟩, rfl⟩, trivial⟩
   all_goals (simp at h; omega)
 · conv => whnf
   refine ⟨?_, ?_⟩
   · simp at h; omega
   conv => whnf
   simp at h
   have h1 := Int.tmod_lt_of_pos x (b := n) (by omega)
   have h2 := Int.lt_tmod_of_pos x (b := n) (by omega)
   refine br_intro (fun h2 => ?_) (fun h2 => ?_)
   · conv => whnf
     simp at h2
     refine ⟨?_, ?_⟩
     · unfold inI64; omega
     · conv => whnf
       refine .ret _ ?_
       conv => whnf
       refine ⟨[], ⟨⟨_, ?_, ?_, ?_, rfl⟩, rfl⟩, trivial⟩
       all_goals omega
   · conv => whnf
     simp at h2
     refine .ret _ ?_
     conv => whnf
     refine ⟨[], ⟨⟨_, ?_, ?_, ?_, rfl⟩, rfl⟩, trivial⟩
     all_goals omega
theorem nextB {a n : Int} (h0 : 0 ≤ a) (hn : 1 ≤ n) : 0 ≤ a.tdiv n ∧ a.tdiv n ≤ a ∧ 0 ≤ a.tmod n ∧ a.tmod n < n ∧ 0 ≤ a.tdiv n * a.tmod n ∧ a.tdiv n * a.tmod n ≤ a ∧ a.tmod n ≤ a := by
 have h1 : 0 ≤ a.tdiv n := Int.tdiv_nonneg h0 (by omega)
 have h2 : 0 ≤ a.tmod n := Int.tmod_nonneg _ h0
 have h3 : a.tmod n < n := Int.tmod_lt_of_pos _ (by omega)
 have h4 := Int.tmod_add_mul_tdiv a n
 have h5 : a.tdiv n * 1 ≤ a.tdiv n * n := Int.mul_le_mul_of_nonneg_left hn h1
 have h6 : a.tdiv n * a.tmod n ≤ a.tdiv n * n := Int.mul_le_mul_of_nonneg_left (by omega) h1
 have h7 : 0 ≤ a.tdiv n * a.tmod n := Int.mul_nonneg h1 h2
 rw [Int.mul_comm] at h4
 have h8 : 0 ≤ a.tdiv n * n := Int.mul_nonneg h1 (by omega)
 refine ⟨h1, ?_, h2, h3, h7, ?_, ?_⟩ <;> omega
theorem s86 (n : Nat) (L : Nat → Int) (hL : Rok n L) (a : Int) (h0 : 0 ≤ a) (ha : a ≤ 2^40) (m : Int) (hm : m ≤ 2^40) :
 FSpec Tryz.prog 60 [.ptr 1000000 0, .d (.int .i64 m)] [(1000000, strm n L a)] (fun y r => (∃ j : Int, 0 ≤ j ∧ (1 ≤ m → j < m) ∧ (m < 1 → j = 0) ∧ y = .d (.int .i64 j)) ∧ r = [(1000000, strm n L (a + 1))]) := by
 refine spec_of hT (C := []) Tryz.func60 rfl Tryz.call60 rfl rfl rfl ?_
 conv => whnf
 refine ⟨by unfold inI64; omega, ?_⟩
 conv => whnf
 refine br_intro (fun h => ?_) (fun h => ?_)
 · conv => whnf
   refine ⟨by unfold inI64; omega, ?_⟩
   conv => whnf
   refine CallX.of (s148 _ _ hm) [] rfl ⟨lr, lr, trivial⟩ trivial rfl rfl ?_
   rintro x rout ⟨⟨j, j1, j2, j3, rfl⟩, rfl⟩
   refine ⟨rfl, ?_⟩
   conv => whnf
   refine .ret _ ?_
   conv => whnf
   exact ⟨[(1000000, strm n L (a + 1))], ⟨⟨_, j1, j2, j3, rfl⟩, rfl⟩, rr, trivial⟩
 · conv => whnf
   simp at h
   have hnp : (1:Int) ≤ n := by omega
   refine RegX.rule hT rfl [] oXCoA60_4 (by decide +kernel) ?_
   conv => whnf
   refine ⟨by unfold inI64; omega, ?_⟩
   conv => whnf
   refine ⟨by omega, ?_⟩
   conv => whnf
   have ea : a + 1 - 1 = a := by omega
   obtain ⟨b1, b2, b3, b4, b5, b6, b7⟩ := nextB h0 hnp
   refine RegX.rule hT rfl [] oXCoA60_5 (by decide +kernel) ?_
   conv => whnf
   refine ⟨by unfold inI64; omega, ?_⟩
   conv => whnf
   refine ⟨by omega, ?_⟩
   conv => whnf
   refine ⟨by unfold inI64; rw [ea]; omega, ?_⟩
   conv => whnf
   rw [ea]
   refine ⟨⟨b3, b4⟩, ?_⟩
   conv => whnf
   refine CallX.of (s148 _ _ (by omega)) [] rfl ⟨lr, lr, trivial⟩ trivial rfl rfl ?_
   rintro x rout ⟨⟨j, j1, j2, j3, rfl⟩, rfl⟩
   refine ⟨rfl, ?_⟩
   conv => whnf
   refine ⟨by unfold inI64; omega, ?_⟩
   conv => whnf
   have e2 : a.tdiv n * (7919 + a.tmod n) = 7919 * a.tdiv n + a.tdiv n * a.tmod n := by rw [Int.mul_add, Int.mul_comm _ 7919]
   rw [e2]
   refine ⟨by unfold inI64; omega, ?_⟩
   conv => whnf
   refine ⟨by unfold inI64; omega, ?_⟩
   conv => whnf
   refine CallX.of (s148 _ _ hm) [] rfl ⟨lr, lr, trivial⟩ trivial rfl rfl ?_
   rintro x rout ⟨⟨j, k1, k2, k3, rfl⟩, rfl⟩
   refine ⟨rfl, ?_⟩
   conv => whnf
   refine .ret _ ?_
   conv => whnf
   exact ⟨[(1000000, strm n L (a + 1))], ⟨⟨_, k1, k2, k3, rfl⟩, rfl⟩, rr, trivial⟩
def Moved (n : Nat) (L : Nat → Int) (a : Int) (c : Int) (r : List (Nat × Res)) : Prop := ∃ b, a ≤ b ∧ b ≤ a + c ∧ r = [(1000000, strm n L b)]
theorem s64 (n : Nat) (L : Nat → Int) (hL : Rok n L) (a : Int) (h0 : 0 ≤ a) (ha : a ≤ 2^40) (lo hi : Int) (h1 : -2^41 ≤ lo) (h2 : hi ≤ lo + 2^40 - 1) (h3 : lo ≤ 2^41) (h4 : lo ≤ hi) :
 FSpec Tryz.prog 10 [.ptr 1000000 0, .d (.int .i64 lo), .d (.int .i64 hi)] [(1000000, strm n L a)] (fun y r => (∃ j : Int, lo ≤ j ∧ j ≤ hi ∧ y = .d (.int .i64 j)) ∧ Moved n L a 1 r) := by
 refine spec_of hT (C := []) Tryz.func10 rfl Tryz.call10 rfl rfl rfl ?_
 conv => whnf
 refine br_intro (fun h => ?_) (fun h => ?_)
 · simp at h; omega
 conv => whnf
 refine ⟨by unfold inI64; omega, ?_⟩
 conv => whnf
 refine ⟨by unfold inI64; omega, ?_⟩
 conv => whnf
 refine CallX.of (s86 n L hL a h0 ha _ (by omega)) [(1000000, 1000000)] rfl ⟨lr, lr, trivial⟩ ⟨rr, trivial⟩ rfl rfl ?_
 rintro x rout ⟨⟨j, k1, k2, k3, rfl⟩, rfl⟩
 refine ⟨rfl, ?_⟩
 conv => whnf
 refine ⟨by unfold inI64; omega, ?_⟩
 conv => whnf
 refine .ret _ ?_
 conv => whnf
 exact ⟨[(1000000, strm n L (a + 1))], ⟨⟨_, by omega, by omega, rfl⟩, a + 1, by omega, by omega, rfl⟩, rr, trivial⟩
theorem s84 (n : Nat) (L : Nat → Int) (hL : Rok n L) (a : Int) (h0 : 0 ≤ a) (ha : a ≤ 2^40) (m : Int) (hm : m ≤ 2^40) :
 FSpec Tryz.prog 31 [.ptr 1000000 0, .d (.int .i64 m)] [(1000000, strm n L a)] (fun y r => (∃ b : Bool, y = .d (.bool b)) ∧ Moved n L a 1 r) := by
 refine spec_of hT (C := []) Tryz.func31 rfl Tryz.call31 rfl rfl rfl ?_
 conv => whnf
 refine CallX.of (s86 n L hL a h0 ha _ (by omega)) [(1000000, 1000000)] rfl ⟨lr, lr, trivial⟩ ⟨rr, trivial⟩ rfl rfl ?_
 rintro x rout ⟨⟨j, k1, k2, k3, rfl⟩, rfl⟩
 refine ⟨rfl, ?_⟩
 conv => whnf
 refine .ret _ ?_
 conv => whnf
 exact ⟨[(1000000, strm n L (a + 1))], ⟨⟨_, rfl⟩, a + 1, by omega, by omega, rfl⟩, rr, trivial⟩
theorem s33 (n : Nat) (L : Nat → Int) (hL : Rok n L) (a : Int) (h0 : 0 ≤ a) (ha : a ≤ 2^40) (l : List Int) (hl : 1 ≤ l.length) (hl2 : l.length ≤ 2^40) :
 FSpec Tryz.prog 43 [.ptr 1000000 0, .d (ints l)] [(1000000, strm n L a)] (fun y r => (∃ x ∈ l, y = .d (.int .i64 x)) ∧ Moved n L a 1 r) := by
 refine spec_of hT (C := []) Tryz.func43 rfl Tryz.call43 rfl rfl rfl ?_
 conv => whnf
 refine CallX.of (s86 n L hL a h0 ha l.length (by omega)) [(1000000, 1000000)] rfl ⟨lr, lr, trivial⟩ ⟨rr, trivial⟩ rfl rfl ?_
 rintro x rout ⟨⟨j, k1, k2, k3, rfl⟩, rfl⟩
 refine ⟨rfl, ?_⟩
 conv => whnf
 refine ⟨⟨k1, by omega⟩, ?_⟩
 conv => whnf
 refine .ret _ ?_
 conv => whnf
 exact ⟨[(1000000, strm n L (a + 1))], ⟨⟨_, getD_mem (by omega), rfl⟩, a + 1, by omega, by omega, rfl⟩, rr, trivial⟩
theorem s15 (n : Nat) (L : Nat → Int) (hL : Rok n L) (a : Int) (h0 : 0 ≤ a) (ha : a ≤ 2^40) (l : List (List UInt8)) (hl : 1 ≤ l.length) (hl2 : l.length ≤ 2^40) :
 FSpec Tryz.prog 58 [.ptr 1000000 0, .d (strs l)] [(1000000, strm n L a)] (fun y r => (∃ x ∈ l, y = .d (.str x)) ∧ Moved n L a 1 r) := by
 refine spec_of hT (C := []) Tryz.func58 rfl Tryz.call58 rfl rfl rfl ?_
 conv => whnf
 refine CallX.of (s86 n L hL a h0 ha l.length (by omega)) [(1000000, 1000000)] rfl ⟨lr, lr, trivial⟩ ⟨rr, trivial⟩ rfl rfl ?_
 rintro x rout ⟨⟨j, k1, k2, k3, rfl⟩, rfl⟩
 refine ⟨rfl, ?_⟩
 conv => whnf
 refine ⟨⟨k1, by omega⟩, ?_⟩
 conv => whnf
 refine .ret _ ?_
 conv => whnf
 exact ⟨[(1000000, strm n L (a + 1))], ⟨⟨_, getD_mem (by omega), rfl⟩, a + 1, by omega, by omega, rfl⟩, rr, trivial⟩
theorem Moved.trans {n : Nat} {L : Nat → Int} {a c : Int} {r : List (Nat × Res)} {b d : Int} (h1 : a ≤ b) (h2 : b + d ≤ a + c) (h : Moved n L b d r) : Moved n L a c r := by
 obtain ⟨e, q1, q2, rfl⟩ := h
 exact ⟨e, by omega, by omega, rfl⟩
theorem s104 (n : Nat) (L : Nat → Int) (hL : Rok n L) (a : Int) (h0 : 0 ≤ a) (ha : a ≤ 2^39) (lo hi : Int) (h1 : -2^38 ≤ lo) (h2 : lo ≤ hi) (h3 : hi ≤ 2^39) :
 FSpec Tryz.prog 61 [.ptr 1000000 0, .d (.int .i64 lo), .d (.int .i64 hi)] [(1000000, strm n L a)] (fun y r => (∃ j : Int, -2^40 ≤ j ∧ j ≤ 2^40 ∧ y = .d (.int .i64 j)) ∧ Moved n L a 2 r) := by
 refine spec_of hT (C := []) Tryz.func61 rfl Tryz.call61 rfl rfl rfl ?_
 conv => whnf
 refine CallX.of (s84 n L hL a h0 (by omega) 12 (by omega)) [(1000000, 1000000)] rfl ⟨lr, lr, trivial⟩ ⟨rr, trivial⟩ rfl rfl ?_
 rintro x rout ⟨⟨f, rfl⟩, ⟨b, b1, b2, rfl⟩⟩
 refine ⟨rfl, ?_⟩
 conv => whnf
 refine br_intro (fun hf => ?_) (fun hf => ?_)
 · conv => whnf
   refine ⟨by unfold inI64; omega, ?_⟩
   conv => whnf
   refine ⟨by unfold inI64; omega, ?_⟩
   conv => whnf
   refine CallX.of (s33 n L hL b (by omega) (by omega) [lo - 1, hi + 1, lo, hi, -1099511627776, 1099511627776] (by simp) (by simp)) [(1000000, 1000000)] rfl ⟨lr, SV.le_lit (by rfl) (by rfl), trivial⟩ ⟨rr, trivial⟩ rfl rfl ?_
   rintro x rout ⟨⟨j, hj, rfl⟩, ⟨c, c1, c2, rfl⟩⟩
   refine ⟨rfl, ?_⟩
   conv => whnf
   refine .ret _ ?_
   conv => whnf
   exact ⟨[(1000000, strm n L c)], ⟨⟨j, by simp at hj; omega, by simp at hj; omega, rfl⟩, c, by omega, by omega, rfl⟩, rr, trivial⟩
 · conv => whnf
   refine CallX.of (s64 n L hL b (by omega) (by omega) lo hi (by omega) (by omega) (by omega) h2) [(1000000, 1000000)] rfl ⟨lr, lr, lr, trivial⟩ ⟨rr, trivial⟩ rfl rfl ?_
   rintro x rout ⟨⟨j, j1, j2, rfl⟩, ⟨c, c1, c2, rfl⟩⟩
   refine ⟨rfl, ?_⟩
   conv => whnf
   refine .ret _ ?_
   conv => whnf
   exact ⟨[(1000000, strm n L c)], ⟨⟨j, by omega, by omega, rfl⟩, c, by omega, by omega, rfl⟩, rr, trivial⟩
end Go.Proofs.YtgeakdcbpjmkbaaGreatDoor
namespace Go.Eng
open Go
end Go.Eng
namespace Go.Eng
open Go
end Go.Eng
namespace Go.Eng
open Go
end Go.Eng
namespace Go.Eng
open Go Go.RowKit
theorem know_look {Q : Hp → Prop} (d : Nat) (r : Res) (hd : lookL [((1000009 : Nat), Res.know Q)] d = some r) : d = 1000009 ∧ r = .know Q := by
 simp only [lookL] at hd
 cases hq : Nat.beq d 1000009 with
 | false => rw [hq] at hd; cases hd
 | true => rw [hq] at hd; cases hd; exact ⟨Nat.eq_of_beq_eq_true hq, rfl⟩
theorem FSpec.ofKnow {P : Program} {f : FuncId} {args : List SV} {y : SV} {Q : Hp → Prop} (henter : ∀ args w, (callFunc f args).run P w = .ok (.enter f args) w)
 (h : ∀ (G : Hp) (β : Env) (w : World) (vs : List Value), Q G → (∀ b o, G b = some o → w.heap[b]? = some o) → vs.length = args.length → (∀ (i : Nat) x v, args[i]? = some x → vs[i]? = some v → SV.Den G β x v) →
   ∃ u, (∀ G β, SV.Den G β y u) ∧ Calls P f vs.toArray w fun e w' => e = .returned u ∧ Below w.heap.size w w') : FSpec P f args [(1000009, .know Q)] (fun x r => x = y ∧ r = [(1000009, .know Q)]) := by
 refine ⟨henter, fun G β w vs hpre hl hd => ?_⟩
 have hR : lookL [((1000009 : Nat), Res.know Q)] 1000009 = some (.know Q) := by simp [lookL]
 have hq : ResOk G β w 1000009 (.know Q) := hpre.rs _ _ hR
 obtain ⟨u, hu, hc⟩ := h G β w vs (hq.2 G (Hp.le_refl G)) hpre.gw hl hd
 refine hc.mono ?_
 rintro e w' ⟨rfl, hb⟩
 refine ⟨u, y, _, G, β, rfl, ⟨rfl, rfl⟩, ⟨Hp.le_refl G, Env.le_refl β, fun b o hg => ?_, fun b o hg => .inl hg, ⟨hb.os, hb.tape, hb.output, hb.size, fun b hlt _ => hb.block b hlt⟩, fun d r hd => ?_, fun d d' r r' v v' b h1 h2 o1 => ?_, fun d r v b h1 o1 => ?_⟩, hu G β⟩
 · have := hpre.gw b o hg
   have hlt : b < w.heap.size := (Array.getElem?_eq_some_iff.1 this).1
   rw [hb.block b hlt]; exact this
 · obtain ⟨rfl, rfl⟩ := know_look d r hd
   exact ⟨hq.1, hq.2⟩
 · obtain ⟨_, rfl⟩ := know_look d r h1; cases o1
 · obtain ⟨_, rfl⟩ := know_look d r h1; cases o1
theorem FSpec.atStart {P : Program} {f : FuncId} {args : List SV} {post : SV → Prop} {Q : Hp → Prop} (h : FSpec P f args [(1000009, .know Q)] (fun x r => post x ∧ r = [(1000009, .know Q)])) (W : World) (hQ : ∀ G, (Hp.le (fun b => W.heap[b]?) G) → Q G) :
 Pre (fun b => W.heap[b]?) (fun d => if d = 1000009 then some (.bool true) else none) W (lookL [((1000009 : Nat), Res.know Q)]) := by
 refine ⟨fun _ _ e => e, fun d r hd => ?_, fun d d' r r' v v' b h1 h2 o1 => ?_, fun d r v b h1 o1 => ?_, fun d v hd => ?_⟩
 · obtain ⟨rfl, rfl⟩ := know_look d r hd
   exact ⟨⟨_, if_pos rfl⟩, hQ⟩
 · obtain ⟨_, rfl⟩ := know_look d r h1; cases o1
 · obtain ⟨_, rfl⟩ := know_look d r h1; cases o1
 · by_cases q : d = 1000009
   · subst q; exact ⟨_, rfl⟩
   · rw [if_neg q] at hd; cases hd
end Go.Eng
namespace Go.Eng
open Go Go.RowKit
def facts (F : World → Prop) : Hp → Prop := fun G => ∀ w : World, (∀ (b : Nat) (o : Obj), G b = some o → w.heap[b]? = some o) → F w
theorem facts_start {F : World → Prop} {W : World} (h : ∀ w : World, (∀ (b : Nat) (o : Obj), W.heap[b]? = some o → w.heap[b]? = some o) → F w) (G : Hp) (hG : Hp.le (fun b => W.heap[b]?) G) : facts F G :=
 fun w hw => h w (fun b o e => hw b o (hG b o e))
mutual
theorem okN_more : ∀ x : SV, SV.okN [] x = true → SV.okN [((1000009 : Nat), (1000009 : Nat))] x = true
 | .any, _ => rfl
 | .bad, _ => rfl
 | .undef, _ => rfl
 | .d _, _ => rfl
 | .agg l, h => by simp only [SV.okN] at h ⊢; exact okNL_more l h
 | .tup l, h => by simp only [SV.okN] at h ⊢; exact okNL_more l h
 | .ptr _ _, h => by simp [SV.okN, lookN] at h
 | .buf _, h => by simp [SV.okN, lookN] at h
 | .bel _ _ _ _, h => by simp [SV.okN, lookN] at h
 | .mp _, h => by simp [SV.okN, lookN] at h
 | .fn f caps, h => by simp only [SV.okN] at h ⊢; exact okNL_more caps h
 | .sub _ _ _ _, h => by simp [SV.okN, lookN] at h
theorem okNL_more : ∀ l : List SV, SV.okNL [] l = true → SV.okNL [((1000009 : Nat), (1000009 : Nat))] l = true
 | [], _ => rfl
 | x :: l, h => by
   simp only [SV.okNL, Bool.and_eq_true] at h ⊢
   exact ⟨okN_more x h.1, okNL_more l h.2⟩
end
theorem FSpec.ofKnowP {P : Program} {f : FuncId} {args : List SV} {Q : Hp → Prop} {post : SV → Prop} (henter : ∀ args w, (callFunc f args).run P w = .ok (.enter f args) w)
 (h : ∀ (G : Hp) (β : Env) (w : World) (vs : List Value), Q G → (∀ b o, G b = some o → w.heap[b]? = some o) → vs.length = args.length → (∀ (i : Nat) x v, args[i]? = some x → vs[i]? = some v → SV.Den G β x v) →
   Calls P f vs.toArray w fun e w' => ∃ u y G', e = .returned u ∧ post y ∧ G.le G' ∧ (∀ b o, G' b = some o → w'.heap[b]? = some o) ∧ (∀ b o, G' b = some o → G b = some o ∨ w.heap.size ≤ b) ∧ (∀ β, SV.Den G' β y u) ∧ Below w.heap.size w w') :
 FSpec P f args [(1000009, .know Q)] (fun x r => post x ∧ r = [(1000009, .know Q)]) := by
 refine ⟨henter, fun G β w vs hpre hl hd => ?_⟩
 have hR : lookL [((1000009 : Nat), Res.know Q)] 1000009 = some (.know Q) := by simp [lookL]
 have hq : ResOk G β w 1000009 (.know Q) := hpre.rs _ _ hR
 refine (h G β w vs (hq.2 G (Hp.le_refl G)) hpre.gw hl hd).mono ?_
 rintro e w' ⟨u, y, G', rfl, hy, hle, hgw, hgn, hden, hb⟩
 refine ⟨u, y, _, G', β, rfl, ⟨hy, rfl⟩, ⟨hle, Env.le_refl β, hgw, fun b o hg => (hgn b o hg).elim .inl (fun q => .inr (.inr q)), ⟨hb.os, hb.tape, hb.output, hb.size, fun b hlt _ => hb.block b hlt⟩, fun d r hd => ?_, fun d d' r r' v v' b h1 h2 o1 => ?_, fun d r v b h1 o1 => ?_⟩, hden β⟩
 · obtain ⟨rfl, rfl⟩ := know_look d r hd
   exact ⟨hq.1, fun G'' h2 => hq.2 G'' (Hp.le_trans hle h2)⟩
 · obtain ⟨_, rfl⟩ := know_look d r h1; cases o1
 · obtain ⟨_, rfl⟩ := know_look d r h1; cases o1
theorem FSpec.ofKnowB {P : Program} {f : FuncId} {args : List SV} {Q : Hp → Prop} {post : SV → Prop} (henter : ∀ args w, (callFunc f args).run P w = .ok (.enter f args) w)
 (h : ∀ (G : Hp) (β : Env) (w : World) (vs : List Value), Q G → (∀ b o, G b = some o → w.heap[b]? = some o) → vs.length = args.length → (∀ (i : Nat) x v, args[i]? = some x → vs[i]? = some v → SV.Den G β x v) →
   Calls P f vs.toArray w fun e w' => ∃ u y, e = .returned u ∧ post y ∧ (∀ G β, SV.Den G β y u) ∧ Below w.heap.size w w') :
 FSpec P f args [(1000009, .know Q)] (fun x r => post x ∧ r = [(1000009, .know Q)]) :=
 FSpec.ofKnowP henter fun G β w vs hq hg hl hd => (h G β w vs hq hg hl hd).mono fun e w' => by
  rintro ⟨u, y, he, hy, hden, hb⟩
  refine ⟨u, y, G, he, hy, Hp.le_refl G, fun b o e => ?_, fun b o e => .inl e, hden G, hb⟩
  have := hg b o e
  have hlt : b < w.heap.size := (Array.getElem?_eq_some_iff.1 this).1
  rw [hb.block b hlt]; exact this
theorem CallX.kn {P : Program} {f : FuncId} {dst : Option Nat} {args : List SV} {s : St} {av : List Nat} {k : Upd → Prop} {y : SV} {Q : Hp → Prop}
 (hs : FSpec P f args [(1000009, .know Q)] fun x r => x = y ∧ r = [(1000009, .know Q)]) (hR : s.res 1000009 = some (.know Q)) (hargs : SV.okNL [] args = true) (hav : mem av 1099512627785 = false) (hy : SV.okN [] y = true)
 (hk : k ⟨dst, y, [], []⟩) : CallX P f dst args s av k := by
 have up : ∀ {x : SV}, SV.okN [] x = true → SV.okN [((1000009 : Nat), (1000009 : Nat))] x = true ∧ x.ren [((1000009 : Nat), (1000009 : Nat))] = x := by
  have idr : ∀ d c, lookN [((1000009 : Nat), (1000009 : Nat))] d = some c → c = d := by
   intro d c hd
   simp only [lookN] at hd
   cases hq : Nat.beq d 1000009 with
   | false => rw [hq] at hd; cases hd
   | true => rw [hq] at hd; cases hd; exact (Nat.eq_of_beq_eq_true hq).symm
  have mono : ∀ x : SV, SV.okN [] x = true → SV.okN [((1000009 : Nat), (1000009 : Nat))] x = true := okN_more
  exact fun {x} hx => ⟨mono x hx, ren_id idr x (mono x hx)⟩
 refine CallX.look hs [(1000009, 1000009)] rfl ?_ ⟨⟨1000009, rfl, hR⟩, trivial⟩ rfl (by simp [hav]) (by simp [(up hy).1, outN, lookN, Res.okN]) ?_
 · have : ∀ l : List SV, SV.okNL [] l = true → argsLe [((1000009 : Nat), (1000009 : Nat))] l l := by
    intro l
    induction l with
    | nil => intro _; trivial
    | cons x l ih =>
      intro h
      simp only [SV.okNL, Bool.and_eq_true] at h
      exact ⟨by rw [(up h.1).2]; exact SV.le_refl _, ih h.2⟩
   exact this args hargs
 · rw [(up hy).2]; exact hk
end Go.Eng
set_option maxRecDepth 20000
namespace Go.Proofs.YtgeakdcbpjmkbaaGreatDoor
open Go Go.Eng Go.Shelf Go.RowKit
def FX (w : World) : Prop := (∀ n : Int, -9223372036854775808 ≤ n → n ≤ 9223372036854775807 → Calls Tryz.prog 72 #[.int .i64 n] w fun e w' => e = .returned (.string ⟨(Lib.itoa n).toArray⟩) ∧ ∃ k os, w' = Go.Sort.grow (w.drewN k) os) ∧ (∃ m, w.cell? ⟨Tryz.lays145_ren.g 1, 0, none⟩ = some (.int .i64 m)) ∧
 (∃ v, w.cell? ⟨Tryz.laysC172_ren.g 15, 0, none⟩ = some v ∧ (v = .nilIface ∨ ∃ t p, v = .iface t p)) ∧ (∃ v, w.cell? ⟨Tryz.laysC172_ren.g 16, 0, none⟩ = some v ∧ (v = .nilIface ∨ ∃ t p, v = .iface t p))
abbrev KX : Res := .know (facts FX)
abbrev kx : List (Nat × Res) := [(1000009, KX)]
theorem bsz (l : List UInt8) : (⟨l.toArray⟩ : ByteArray).size = l.length := by simp [ByteArray.size]
theorem below_drewN {w : World} (n : Nat) : Below w.heap.size w (w.drewN n) := ⟨rfl, rfl, rfl, Nat.le_refl _, fun _ _ => rfl⟩
theorem below_grow {w : World} (n : Nat) (os : Array Obj) : Below w.heap.size w (Go.Sort.grow (w.drewN n) os) :=
 ⟨rfl, rfl, rfl, by simp [Go.Sort.grow, World.drewN], fun k hk => by
   show (w.heap ++ os)[k]? = _
   rw [Array.getElem?_append_left hk]⟩
theorem zItoa (n : Int) (h0 : -9223372036854775808 ≤ n) (h1 : n ≤ 9223372036854775807) : FSpec Tryz.prog 72 [.d (.int .i64 n)] kx (fun x r => x = .d (.str (Lib.itoa n)) ∧ r = kx) := by
 refine FSpec.ofKnow Tryz.call72 (fun G β w vs hq hg hvl hd => ?_)
 match vs, hvl with
 | [u], _ =>
   have h0' := hd 0 _ u rfl rfl
   cases h0' with | d _ _ h0' => cases h0' with | int _ _ =>
   have hF := hq w hg
   refine ⟨.string ⟨(Lib.itoa n).toArray⟩, fun _ _ => .d _ _ (.str _), ?_⟩
   have hcon := hF.1 n h0 h1
   refine hcon.mono ?_
   rintro e' w' ⟨rfl, k, os, rfl⟩
   exact ⟨rfl, below_grow k os⟩
def atoiX (s : List UInt8) (y : SV) : Prop :=
 match Lib.atoiAll s with
 | .ok v => y = .tup [.d (.int .i64 v), .d (.opq .nilIface)]
 | .range => ∃ t p, y = .tup [.d (.int .i64 (Lib.atoiSat s)), .d (.opq (.iface t p))]
 | _ => ∃ t p, y = .tup [.d (.int .i64 0), .d (.opq (.iface t p))]
theorem tup2_den {G : Hp} {β : Env} {p q : SV} {a b : Value} (ha : SV.Den G β p a) (hb : SV.Den G β q b) : SV.Den G β (.tup [p, q]) (.tuple #[a, b]) :=
 .tup [p, q] [a, b] rfl (fun i x v hx hv => by
  match i, hx, hv with
  | 0, hx, hv => simp at hx hv; subst hx; subst hv; exact ha
  | 1, hx, hv => simp at hx hv; subst hx; subst hv; exact hb)
theorem tup3_den {G : Hp} {β : Env} {p q r : SV} {a b c : Value} (ha : SV.Den G β p a) (hb : SV.Den G β q b) (hc : SV.Den G β r c) : SV.Den G β (.tup [p, q, r]) (.tuple #[a, b, c]) :=
 .tup [p, q, r] [a, b, c] rfl (fun i x v hx hv => by
  match i, hx, hv with
  | 0, hx, hv => simp at hx hv; subst hx; subst hv; exact ha
  | 1, hx, hv => simp at hx hv; subst hx; subst hv; exact hb
  | 2, hx, hv => simp at hx hv; subst hx; subst hv; exact hc)
theorem zAtoi (s : List UInt8) (hl : s.length ≤ 2^40) : FSpec Tryz.prog 190 [.d (.str s)] kx (fun x r => atoiX s x ∧ r = kx) := by
 refine FSpec.ofKnowB Tryz.call190 (fun G β w vs hq hg hvl hd => ?_)
 match vs, hvl with
 | [u], _ =>
   have h0 := hd 0 _ u rfl rfl
   cases h0 with | d _ _ h0 => cases h0 with | str _ =>
   obtain ⟨_, _, ⟨v1, c1, d1⟩, ⟨v2, c2, d2⟩⟩ := hq w hg
   have e : Tryz.laysC172_ren.f 172 = 190 := rfl
   cases hA : Lib.atoiAll s with
   | ok v =>
     have hcon := Any.strconv_Atoi_ok Tryz.laysC172 ⟨s.toArray⟩ (by rw [bsz]; omega) v (by simpa using hA) w
     rw [e] at hcon
     refine hcon.mono ?_
     rintro e' w' ⟨rfl, hw⟩
     refine ⟨_, _, rfl, by unfold atoiX; rw [hA], fun _ _ => tup2_den (.d _ _ (.int _ _)) (.d _ _ (.opq _ rfl)), ?_⟩
     rcases hw with rfl | ⟨t, rfl⟩
     · exact Below.refl _ _
     · exact Lib.bytesWorld_below _ _ _
   | range =>
     have hcon := Any.strconv_Atoi_range Tryz.laysC172 ⟨s.toArray⟩ (by rw [bsz]; omega) (by simpa using hA) v2 w c2 d2
     rw [e] at hcon
     refine hcon.mono ?_
     rintro e' w' ⟨N, rfl, _, _, hb⟩
     refine ⟨_, _, rfl, by unfold atoiX; rw [hA]; exact ⟨_, _, rfl⟩, fun _ _ => tup2_den ?_ (.d _ _ (.opq _ rfl)), hb⟩
     simpa using SV.Den.d _ _ (DV.Den.int .i64 (Lib.atoiSat s))
   | _ =>
     have hcon := Any.strconv_Atoi_syntax Tryz.laysC172 ⟨s.toArray⟩ (by rw [bsz]; omega) (by simpa using hA) v1 w c1 d1
     rw [e] at hcon
     refine hcon.mono ?_
     rintro e' w' ⟨N, rfl, _, _, hb⟩
     exact ⟨_, _, rfl, by unfold atoiX; rw [hA]; exact ⟨_, _, rfl⟩, fun _ _ => tup2_den (.d _ _ (.int _ _)) (.d _ _ (.opq _ rfl)), hb⟩
theorem zTrimP (s p : List UInt8) : FSpec Tryz.prog 191 [.d (.str s), .d (.str p)] [] (fun x r => x = .d (.str (Lib.trimPrefix s p)) ∧ r = []) := by
 refine FSpec.ofBelow Tryz.call191 (fun G β w vs _ hvl hd => ?_)
 match vs, hvl with
 | [u, v], _ =>
   have h0 := hd 0 _ u rfl rfl
   have h1 := hd 1 _ v rfl rfl
   cases h0 with | d _ _ h0 => cases h0 with | str _ =>
   cases h1 with | d _ _ h1 => cases h1 with | str _ =>
   refine ⟨.string ⟨(Lib.trimPrefix s p).toArray⟩, fun _ _ => .d _ _ (.str _), ?_⟩
   have hcon := Any.strings_TrimPrefix Tryz.lays101 ⟨s.toArray⟩ ⟨p.toArray⟩ w
   have e : Tryz.lays101_ren.f 101 = 191 := rfl
   rw [e] at hcon
   refine hcon.mono ?_
   rintro e' w' ⟨rfl, rfl⟩
   exact ⟨rfl, Below.refl _ _⟩
theorem zCut (s p : List UInt8) (hl : s.length ≤ 2^31) : FSpec Tryz.prog 154 [.d (.str s), .d (.str p)] kx (fun x r => x = .tup [.d (.str (Lib.cut s p).1), .d (.str (Lib.cut s p).2.1), .d (.bool (Lib.cut s p).2.2)] ∧ r = kx) := by
 refine FSpec.ofKnow Tryz.call154 (fun G β w vs hq hg hvl hd => ?_)
 match vs, hvl with
 | [u, v], _ =>
   have h0 := hd 0 _ u rfl rfl
   have h1 := hd 1 _ v rfl rfl
   cases h0 with | d _ _ h0 => cases h0 with | str _ =>
   cases h1 with | d _ _ h1 => cases h1 with | str _ =>
   obtain ⟨_, ⟨m, c0⟩, _⟩ := hq w hg
   refine ⟨.tuple #[.string ⟨(Lib.cut s p).1.toArray⟩, .string ⟨(Lib.cut s p).2.1.toArray⟩, .bool (Lib.cut s p).2.2], fun _ _ => tup3_den (.d _ _ (.str _)) (.d _ _ (.str _)) (.d _ _ (.bool _)), ?_⟩
   have hcon := Any.strings_Cut Tryz.lays145 ⟨s.toArray⟩ ⟨p.toArray⟩ m w (by rw [bsz]; omega) c0
   have e : Tryz.lays145_ren.f 145 = 154 := rfl
   rw [e] at hcon
   refine hcon.mono ?_
   rintro e' w' ⟨rfl, n, rfl⟩
   exact ⟨rfl, below_drewN n⟩
theorem newRow_den {G : Hp} {w : World} (hG : ∀ b o, G b = some o → w.heap[b]? = some o) (L : List ByteArray) (N : Nat) (hL : L.length ≤ N) (hN : N ≤ maxLen) (cs : Array Value) (e : TypeId) (hc : ∀ i, i < L.length → cs[i]? = some (.string (L.getD i ByteArray.empty))) :
 ∃ G', G.le G' ∧ (∀ b o, G' b = some o → (w.alloc (.cells cs e)).heap[b]? = some o) ∧ (∀ b o, G' b = some o → G b = some o ∨ w.heap.size ≤ b) ∧ (∀ β, SV.Den G' β (.d (strs (L.map (·.data.toList)))) (.slice (some ⟨w.heap.size, 0, none⟩) L.length N)) := by
 have hfree : G w.heap.size = none := by
  cases hg : G w.heap.size with
  | none => rfl
  | some o => have := (Array.getElem?_eq_some_iff.1 (hG _ _ hg)).1; omega
 refine ⟨G.add w.heap.size (.cells cs e), Hp.le_add hfree, fun b o hb => ?_, fun b o hb => ?_, fun β => .d _ _ ?_⟩
 · unfold Hp.add at hb
   split at hb
   · rename_i q; subst q; cases hb; exact heap_alloc_new w _
   · rw [heap_alloc_old w _ (Array.getElem?_eq_some_iff.1 (hG _ _ hb)).1]; exact hG _ _ hb
 · unfold Hp.add at hb
   split at hb
   · rename_i q; subst q; exact .inr (Nat.le_refl _)
   · exact .inl hb
 · have hlen : (L.map (·.data.toList)).length = L.length := by simp
   unfold strs seqD
   rw [hlen]
   refine .ro 1 L.length _ _ N (fun i _ => .string (L.getD i ByteArray.empty)) rfl hL hN (fun i _ => rfl) (fun i j x hi hx => ?_) (fun i j x hi hx => ?_)
   · have hj : j = 0 := by
      have := (List.getElem?_eq_some_iff.1 hx).1
      simp [rowF, sF] at this; omega
     subst hj
     refine ⟨cs, e, (0, 0), ?_, ?_, ?_⟩
     · rw [Eng.Addr.add_block]; simp [Hp.add]
     · exact Addr.add_spot _ rfl _
     · rw [Addr.add_lit]; simpa using hc i hi
   · have hj : j = 0 := by
      have := (List.getElem?_eq_some_iff.1 hx).1
      simp [rowF, sF] at this; omega
     subst hj
     simp only [rowF, sF, List.getElem?_cons_zero, Option.some.injEq] at hx
     subst hx
     have h1 : (L.map (·.data.toList)).getD i [] = (L.getD i ByteArray.empty).data.toList := by
      simp [List.getD_eq_getElem?_getD, hi]
     rw [h1]
     generalize L.getD i ByteArray.empty = ba
     have := DV.Den.str (G := G.add w.heap.size (.cells cs e)) ba.data.toList
     rw [show (⟨ba.data.toList.toArray⟩ : ByteArray) = ba from Lib.mk_data _] at this
     exact this
theorem s119 (n lo hi : Int) : FSpec Tryz.prog 137 [.d (.int .i64 n), .d (.int .i64 lo), .d (.int .i64 hi)] [] (fun x r => x = .d (.bool (decide (lo ≤ n ∧ n ≤ hi))) ∧ r = []) := by
 refine spec_of hT (C := []) Tryz.func137 rfl Tryz.call137 rfl rfl rfl ?_
 conv => whnf
 refine br_intro (fun h => ?_) (fun h => ?_)
 · conv => whnf
   refine .ret _ ?_
   conv => whnf
   refine ⟨[], ⟨?_, rfl⟩, trivial⟩
   conv => lhs; whnf
   simp at h ⊢; simp [h]
 · conv => whnf
   refine .ret _ ?_
   conv => whnf
   refine ⟨[], ⟨?_, rfl⟩, trivial⟩
   conv => lhs; whnf
   simp at h ⊢; omega
theorem s109 (n lo hi : Int) : FSpec Tryz.prog 93 [.d (.int .i64 n), .d (.int .i64 lo), .d (.int .i64 hi)] [] (fun x r => x = .d (.bool (decide (lo ≤ n ∧ n ≤ hi))) ∧ r = []) := by
 refine spec_of hT (C := []) Tryz.func93 rfl Tryz.call93 rfl rfl rfl ?_
 conv => whnf
 refine br_intro (fun h => ?_) (fun h => ?_)
 · conv => whnf
   refine .ret _ ?_
   conv => whnf
   refine ⟨[], ⟨?_, rfl⟩, trivial⟩
   conv => lhs; whnf
   simp at h ⊢; simp [h]
 · conv => whnf
   refine .ret _ ?_
   conv => whnf
   refine ⟨[], ⟨?_, rfl⟩, trivial⟩
   conv => lhs; whnf
   simp at h ⊢; omega
theorem getD_toNat {α : Type} {l : List α} {i : Nat} {d : α} (h : i < l.length) : l.getD (i : Int).toNat d = l[i] := by
 rw [Int.toNat_natCast, List.getD_eq_getElem?_getD]; simp [h]
def firstE : List Int → Int
 | [] => 0
 | x :: l => if x = 0 then firstE l else x
theorem s161 (l : List Int) (hl : l.length ≤ 2^40) : FSpec Tryz.prog 170 [.d (ints l)] [] (fun x r => x = .d (.int .i64 (firstE l)) ∧ r = []) := by
 refine spec_of hT (C := []) Tryz.func170 rfl Tryz.call170 rfl rfl rfl ?_
 conv => whnf
 refine LoopX.rule hT (C := []) (ι := Nat) (fun i => i ≤ l.length ∧ firstE l = firstE (l.drop i)) (fun i => mkSt [(3, .d (.int .i64 0)), (6, .d (ints l)), (7, .d (.int .i64 l.length)), (8, .d (.int .i64 i))] []) (fun i => l.length - i) 0 ⟨by omega, by simp⟩ ?_ ?_
 · refine Entails.mk' [] rfl rfl ⟨lr, lr, lr, lr, trivial⟩ trivial
 rintro i ⟨p1, p2⟩
 conv => whnf
 refine br_intro (fun h => ?_) (fun h => ?_)
 · simp only [decide_eq_true_eq] at h
   conv => whnf
   refine ⟨⟨by omega, by omega⟩, ?_⟩
   conv => whnf
   have hi : i < l.length := by omega
   have hd : l.drop i = l[i] :: l.drop (i + 1) := List.drop_eq_getElem_cons hi
   refine br_intro (fun h2 => ?_) (fun h2 => ?_)
   · conv => whnf
     refine .ret _ ?_
     conv => whnf
     refine ⟨[], ⟨?_, rfl⟩, trivial⟩
     conv => lhs; whnf
     rw [getD_toNat hi] at h2 ⊢
     simp at h2
     rw [p2, hd, firstE, if_neg h2]
   · conv => whnf
     rw [getD_toNat hi] at h2
     simp at h2
     refine ⟨by unfold inI64; omega, ?_⟩
     conv => whnf
     refine ⟨i + 1, ⟨hi, ?_⟩, by omega, ?_⟩
     · rw [p2, hd, firstE, if_pos h2]
     · exact Entails.mk' [] rfl rfl ⟨lr, lr, lr, lr, trivial⟩ trivial
 · simp only [decide_eq_false_iff_not] at h
   conv => whnf
   refine .ret _ ?_
   conv => whnf
   refine ⟨[], ⟨?_, rfl⟩, trivial⟩
   conv => lhs; whnf
   rw [p2, List.drop_eq_nil_iff.2 (by omega)]; rfl
theorem s105 (l : List Int) (hl : l.length ≤ 2^40) : FSpec Tryz.prog 101 [.d (ints l)] [] (fun x r => x = .d (.int .i64 (firstE l)) ∧ r = []) := by
 refine spec_of hT (C := []) Tryz.func101 rfl Tryz.call101 rfl rfl rfl ?_
 conv => whnf
 refine CallX.pure (s161 l hl) ⟨lr, trivial⟩ rfl ?_
 conv => whnf
 refine .ret _ ?_
 conv => whnf
 exact ⟨[], ⟨rfl, rfl⟩, trivial⟩
def keyCh (i : Nat) (c : UInt8) : Bool := (decide (97 ≤ c.toNat) && decide (c.toNat ≤ 122)) || (!decide (i = 0) && ((decide (48 ≤ c.toNat) && decide (c.toNat ≤ 57)) || decide (c.toNat = 45) || decide (c.toNat = 95)))
def isKeyB (s : List UInt8) : Bool := (List.range s.length).all (fun i => keyCh i (s.getD i 0)) && !s.isEmpty && decide (s.length ≤ 40)
theorem keyCh_iff {i : Nat} {c : UInt8} : keyCh i c = true ↔ ((97 ≤ (c.toNat : Int) ∧ (c.toNat : Int) ≤ 122) ∨ ((i : Int) ≠ 0 ∧ ((48 ≤ (c.toNat : Int) ∧ (c.toNat : Int) ≤ 57) ∨ (c.toNat : Int) = 45 ∨ (c.toNat : Int) = 95))) := by
 simp only [keyCh, Bool.or_eq_true, Bool.and_eq_true, decide_eq_true_eq, Bool.not_eq_true', decide_eq_false_iff_not]
 omega
theorem s108 (s : List UInt8) (hl : s.length ≤ 2^40) : FSpec Tryz.prog 148 [.d (.str s)] [] (fun x r => x = .d (.bool (isKeyB s)) ∧ r = []) := by
 refine spec_of hT (C := []) Tryz.func148 rfl Tryz.call148 rfl rfl rfl ?_
 conv => whnf
 refine LoopX.rule hT (C := []) (ι := Nat) (fun i => i ≤ s.length ∧ ∀ j, j < i → keyCh j (s.getD j 0) = true) (fun i => mkSt [(0, .d (.str s)), (7, .d (.int .i64 s.length)), (8, .d (.int .i64 i))] []) (fun i => s.length - i) 0 ⟨by omega, by omega⟩ ?_ ?_
 · exact Entails.mk' [] rfl rfl ⟨lr, lr, lr, trivial⟩ trivial
 rintro i ⟨p1, p2⟩
 conv => whnf
 refine br_intro (fun h => ?_) (fun h => ?_)
 · simp only [decide_eq_true_eq] at h
   have hi : i < s.length := by omega
   have e1 : (i : Int).toNat = i := Int.toNat_natCast i
   conv => whnf
   repeat (refine And.intro (by (try unfold inI64); (try dsimp only); (try simp only [e1, List.length_cons, List.length_append, List.length_singleton, List.length_nil]); omega) ?_; conv => whnf)
   have hbad : keyCh i (s.getD i 0) = false → isKeyB s = false := fun h => by
    have : (List.range s.length).all (fun i => keyCh i (s.getD i 0)) = false := by
     rw [List.all_eq_false]; exact ⟨i, List.mem_range.2 hi, by rw [h]; simp⟩
    simp only [isKeyB, this, Bool.false_and]
   have hgood : keyCh i (s.getD i 0) = true → ∀ j, j < i + 1 → keyCh j (s.getD j 0) = true := fun h j hj => by
    rcases Nat.lt_or_ge j i with q | q
    · exact p2 j q
    · have : j = i := by omega
      subst this; exact h
   repeat' (refine br_intro (fun _ => ?_) (fun _ => ?_) <;> (conv => whnf))
   all_goals first
    | (refine And.intro (by unfold inI64; omega) ?_
       conv => whnf
       refine ⟨i + 1, ⟨hi, hgood ?_⟩, by omega, Entails.mk' [] rfl rfl ⟨lr, lr, lr, trivial⟩ trivial⟩
       rw [keyCh_iff]
       simp only [decide_eq_true_eq, decide_eq_false_iff_not, Bool.not_eq_true', Bool.not_eq_false', e1] at *
       omega)
    | (refine .ret _ ?_
       conv => whnf
       refine ⟨[], ⟨?_, rfl⟩, trivial⟩
       conv => lhs; whnf
       rw [hbad]
       cases hq : keyCh i (s.getD i 0) with
       | false => rfl
       | true =>
         rw [keyCh_iff] at hq
         simp only [decide_eq_true_eq, decide_eq_false_iff_not, Bool.not_eq_true', Bool.not_eq_false', e1] at *
         omega)
    | skip
 simp only [decide_eq_false_iff_not] at h
 have e1 : i = s.length := by omega
 subst e1
 have hall : (List.range s.length).all (fun i => keyCh i (s.getD i 0)) = true := by
  rw [List.all_eq_true]; intro j hj; exact p2 j (List.mem_range.1 hj)
 conv => whnf
 repeat' (refine br_intro (fun _ => ?_) (fun _ => ?_) <;> (conv => whnf))
 all_goals (refine .ret _ ?_; conv => whnf)
 all_goals (refine ⟨[], ⟨?_, rfl⟩, trivial⟩; conv => lhs; whnf)
 · rename_i hq
   have : s.isEmpty = false := by
    cases s with
    | nil => exact absurd hq (by decide)
    | cons x l => rfl
   unfold isKeyB
   rw [hall, this]
   simp
   omega
 · rename_i hq
   have : s.isEmpty = true := by
    cases s with
    | nil => rfl
    | cons x l => exact absurd hq (by simp)
   unfold isKeyB
   rw [hall, this]
   rfl
def strLe (a b : List UInt8) : Bool := Op.bytesLess a b || a == b
def firstAt (f : Nat → Int) : Nat → Int
 | 0 => 0
 | n + 1 => if firstAt f n = 0 then f n else firstAt f n
theorem firstAt_zero {f : Nat → Int} : ∀ {n : Nat}, (∀ j, j < n → f j = 0) → firstAt f n = 0 := by
 intro n
 induction n with
 | zero => intro _; rfl
 | succ n ih => intro h; rw [firstAt, if_pos (ih fun j hj => h j (by omega))]; exact h n (by omega)
theorem firstAt_eq {f : Nat → Int} {n i : Nat} {e : Int} (hi : i < n) (h : ∀ j, j < i → f j = 0) (h1 : e ≠ 0) (h2 : f i = e) : firstAt f n = e := by
 induction n with
 | zero => omega
 | succ n ih =>
   rw [firstAt]
   by_cases q : i < n
   · rw [ih q, if_neg h1]
   · have : i = n := by omega
     subst this
     rw [if_pos (firstAt_zero h)]; exact h2
end Go.Proofs.YtgeakdcbpjmkbaaGreatDoor
namespace Go.Proofs
open Go.Shelf
def Tryz.lays160_ren : Go.Shelf.Ren := ⟨fun | 160 => 209 | 232 => 260 | 231 => 259 | 227 => 261 | 234 => 263 | 233 => 262 | 236 => 265 | 235 => 264 | 228 => 294 | 271 => 296 | 151 => 295 | 197 => 256 | 120 => 309 | 152 => 308 | 260 => 292 | 137 => 313 | 119 => 314 | 224 => 277 | 225 => 276 | 217 => 275 | 266 => 300 | n => n, fun | 9 => 9 | 4 => 4 | 3 => 3 | 5 => 5 | 117 => 303 | 116 => 302 | 0 => 0 | 124 => 306 | 21 => 21 | 105 => 297 | 46 => 230 | 119 => 342 | 139 => 345 | 138 => 344 | n => n, fun | 3 => 4 | 4 => 5 | n => n⟩
theorem Tryz.lays160 : Go.Proofs.Lays.n160 Tryz.prog Tryz.lays160_ren := {
 mixed := by kernel_rfl
 f119 := Tryz.func314.trans (congrArg some (by kernel_rfl))
 f120 := Tryz.func309.trans (congrArg some (by kernel_rfl))
 f137 := Tryz.func313.trans (congrArg some (by kernel_rfl))
 f151 := Tryz.func295.trans (congrArg some (by kernel_rfl))
 f152 := Tryz.func308.trans (congrArg some (by kernel_rfl))
 f160 := Tryz.func209.trans (congrArg some (by kernel_rfl))
 f197 := Tryz.func256.trans (congrArg some (by kernel_rfl))
 f217 := Tryz.func275.trans (congrArg some (by kernel_rfl))
 f224 := Tryz.func277.trans (congrArg some (by kernel_rfl))
 f225 := Tryz.func276.trans (congrArg some (by kernel_rfl))
 f227 := Tryz.func261.trans (congrArg some (by kernel_rfl))
 f228 := Tryz.func294.trans (congrArg some (by kernel_rfl))
 f231 := Tryz.func259.trans (congrArg some (by kernel_rfl))
 f232 := Tryz.func260.trans (congrArg some (by kernel_rfl))
 f233 := Tryz.func262.trans (congrArg some (by kernel_rfl))
 f234 := Tryz.func263.trans (congrArg some (by kernel_rfl))
 f235 := Tryz.func264.trans (congrArg some (by kernel_rfl))
 f236 := Tryz.func265.trans (congrArg some (by kernel_rfl))
 f260 := Tryz.func292.trans (congrArg some (by kernel_rfl))
 f266 := Tryz.func300.trans (congrArg some (by kernel_rfl))
 f271 := Tryz.func296.trans (congrArg some (by kernel_rfl))
 t0 := Tryz.underlying0
 a0 := Tryz.isAgg0
 z0 := Tryz.sizeOf0
 v0 := Tryz.zeroValue0
 t3 := Tryz.underlying3
 a3 := Tryz.isAgg3
 z3 := Tryz.sizeOf3
 v3 := Tryz.zeroValue3
 t4 := Tryz.underlying4
 a4 := Tryz.isAgg4
 z4 := Tryz.sizeOf4
 v4 := Tryz.zeroValue4
 t5 := Tryz.underlying5
 a5 := Tryz.isAgg5
 z5 := Tryz.sizeOf5
 v5 := Tryz.zeroValue5
 t9 := Tryz.underlying9
 a9 := Tryz.isAgg9
 z9 := Tryz.sizeOf9
 v9 := Tryz.zeroValue9
 t21 := Tryz.underlying21
 a21 := Tryz.isAgg21
 z21 := Tryz.sizeOf21
 v21 := Tryz.zeroValue21
 t46 := Tryz.underlying230
 a46 := Tryz.isAgg230
 z46 := Tryz.sizeOf230
 v46 := Tryz.zeroValue230
 t105 := Tryz.underlying297
 a105 := Tryz.isAgg297
 z105 := Tryz.sizeOf297
 v105 := Tryz.zeroValue297
 t116 := Tryz.underlying302
 a116 := Tryz.isAgg302
 z116 := Tryz.sizeOf302
 t117 := Tryz.underlying303
 a117 := Tryz.isAgg303
 z117 := Tryz.sizeOf303
 v117 := Tryz.zeroValue303
 t119 := Tryz.underlying342
 a119 := Tryz.isAgg342
 z119 := Tryz.sizeOf342
 t124 := Tryz.underlying306
 a124 := Tryz.isAgg306
 z124 := Tryz.sizeOf306
 v124 := Tryz.zeroValue306
 t138 := Tryz.underlying344
 a138 := Tryz.isAgg344
 z138 := Tryz.sizeOf344
 v138 := Tryz.zeroValue344
 t139 := Tryz.underlying345
 a139 := Tryz.isAgg345
 z139 := Tryz.sizeOf345
 v139 := Tryz.zeroValue345
 g3 := by kernel_rfl
 g4 := by kernel_rfl }
end Go.Proofs
set_option maxRecDepth 20000
namespace Go.Proofs.YtgeakdcbpjmkbaaGreatDoor
open Go Go.Eng Go.Shelf
theorem s162 (s cs : List UInt8) (hl : s.length ≤ 2^40) (hc : cs.length ≤ 2^20) (ha : cs.all (fun b => decide (b.toNat < 128)) = true) : FSpec Tryz.prog 209 [.d (.str s), .d (.str cs)] [] (fun x r => x = .d (.str (Lib.trimS s cs)) ∧ r = []) := by
 refine FSpec.ofBelow Tryz.call209 (fun G β w vs _ hvl hd => ?_)
 match vs, hvl with
 | [u, v], _ =>
   have h0 := hd 0 _ u rfl rfl
   have h1 := hd 1 _ v rfl rfl
   cases h0 with | d _ _ h0 => cases h0 with | str _ =>
   cases h1 with | d _ _ h1 => cases h1 with | str _ =>
   refine ⟨.string ⟨(Lib.trimS s cs).toArray⟩, fun _ _ => .d _ _ (.str _), ?_⟩
   have hcon := Any.strings_Trim_laid Tryz.lays160 (by kernel_rfl) ⟨s.toArray⟩ ⟨cs.toArray⟩ w (by simp [ByteArray.size]; omega) (by simp [ByteArray.size]; omega) (ascii_of_all (by simpa using ha))
   have e : Tryz.lays160_ren.f 160 = 209 := rfl
   rw [e] at hcon
   simpa using hcon
theorem dropWhile_nil {p : UInt8 → Bool} {l : List UInt8} : l.dropWhile p = [] ↔ ∀ b ∈ l, p b = true := by
 induction l with
 | nil => simp
 | cons a l ih => by_cases h : p a = true <;> simp [List.dropWhile_cons, h, ih]
theorem trimS_nil {s cs : List UInt8} : Lib.trimS s cs = [] ↔ ∀ b ∈ s, cs.contains b = true := by
 unfold Lib.trimS Lib.trimLeftS Lib.trimRightS
 rw [dropWhile_nil]
 constructor
 · intro h b hb
   have h1 : s.reverse.dropWhile (cs.contains ·) = [] ∨ ¬ s.reverse.dropWhile (cs.contains ·) = [] := Classical.em _
   rcases h1 with h1 | h1
   · exact dropWhile_nil.1 h1 b (by simpa using hb)
   · obtain ⟨c, m, hc⟩ := List.exists_cons_of_ne_nil h1
     have h3 : cs.contains c = false := by
      have := List.head_dropWhile_not (cs.contains ·) (l := s.reverse) h1
      simp only [hc, List.head_cons] at this
      exact this
     have h4 := h c (by rw [List.mem_reverse, hc]; exact List.mem_cons_self)
     rw [h3] at h4; cases h4
 · intro h b hb
   rw [List.mem_reverse] at hb
   exact h b (by simpa using (List.dropWhile_sublist _).subset hb)
def onlyB (s cs : List UInt8) : Bool := s.all (cs.contains ·)
theorem s111 (s cs : List UInt8) (hl : s.length ≤ 2^40) (hc : cs.length ≤ 2^20) (ha : cs.all (fun b => decide (b.toNat < 128)) = true) : FSpec Tryz.prog 165 [.d (.str s), .d (.str cs)] [] (fun x r => x = .d (.bool (onlyB s cs)) ∧ r = []) := by
 refine spec_of hT (C := []) Tryz.func165 rfl Tryz.call165 rfl rfl rfl ?_
 conv => whnf
 refine CallX.pure (s162 _ _ hl hc ha) ⟨lr, lr, trivial⟩ rfl ?_
 conv => whnf
 refine .ret _ ?_
 conv => whnf
 refine ⟨[], ⟨?_, rfl⟩, trivial⟩
 show SV.d (.bool (Lib.trimS s cs == [])) = _
 congr 2
 rw [Bool.eq_iff_iff]
 simp only [beq_iff_eq, trimS_nil, onlyB, List.all_eq_true]
theorem s110 (a b c : Int) : FSpec Tryz.prog 164 [.d (.int .i64 a), .d (.int .i64 b), .d (.int .i64 c)] [] (fun x r => x = .d (.bool (decide (b ≤ a ∧ a ≤ c))) ∧ r = []) := by
 refine spec_of hT (C := []) Tryz.func164 rfl Tryz.call164 rfl rfl rfl ?_
 conv => whnf
 repeat' (refine br_intro (fun _ => ?_) (fun _ => ?_) <;> (conv => whnf))
 all_goals
  refine .ret _ ?_
  conv => whnf
  refine ⟨[], ⟨?_, rfl⟩, trivial⟩
  conv => lhs; whnf
  congr 2
  grind
def smallsL : List UInt8 := [97, 98, 99, 100, 101, 102, 103, 104, 105, 106, 107, 108, 109, 110, 111, 112, 113, 114, 115, 116, 117, 118, 119, 120, 121, 122]
def keyL : List UInt8 := smallsL ++ [48, 49, 50, 51, 52, 53, 54, 55, 56, 57, 45, 95]
theorem u8_all {p : UInt8 → Bool} (h : (List.range 256).all (fun n => p (UInt8.ofNat n)) = true) (c : UInt8) : p c = true := by
 have := List.all_eq_true.1 h c.toNat (List.mem_range.2 c.toNat_lt)
 simpa using this
theorem small_iff (c : UInt8) : smallsL.contains c = keyCh 0 c := by
 have := u8_all (p := fun c => smallsL.contains c == keyCh 0 c) (by decide +kernel) c
 simpa using this
theorem key_iff (c : UInt8) : keyL.contains c = keyCh 1 c := by
 have := u8_all (p := fun c => keyL.contains c == keyCh 1 c) (by decide +kernel) c
 simpa using this
theorem keyCh_succ (i : Nat) (c : UInt8) : keyCh (i + 1) c = keyCh 1 c := by simp [keyCh]
theorem keyCh_one {c : UInt8} (h : keyCh 0 c = true) : keyCh 1 c = true := by
 simp only [keyCh] at h ⊢; simp at h; simp [h]
theorem isKey_eq (s : List UInt8) : isKeyB s = (decide (1 ≤ (s.length : Int) ∧ (s.length : Int) ≤ 40) && onlyB (s.take 1) smallsL && onlyB s keyL) := by
 cases s with
 | nil => rfl
 | cons c l =>
   have h1 : onlyB ((c :: l).take 1) smallsL = keyCh 0 c := by simp only [onlyB, List.take_succ_cons, List.take_zero, List.all_cons, List.all_nil, Bool.and_true, small_iff]
   have h2 : onlyB (c :: l) keyL = (keyCh 1 c && l.all (keyCh 1 ·)) := by simp only [onlyB, List.all_cons, key_iff]
   have h3 : (List.range (c :: l).length).all (fun i => keyCh i ((c :: l).getD i 0)) = (keyCh 0 c && l.all (keyCh 1 ·)) := by
    rw [List.length_cons, List.range_succ_eq_map, List.all_cons, List.all_map]
    congr 1
    rw [Bool.eq_iff_iff, List.all_eq_true, List.all_eq_true]
    constructor
    · intro h x hx
      obtain ⟨i, hi, rfl⟩ := List.getElem_of_mem hx
      have := h i (List.mem_range.2 hi)
      simp only [Function.comp, List.getD_cons_succ, keyCh_succ] at this
      rwa [List.getD_eq_getElem?_getD, List.getElem?_eq_getElem hi] at this
    · intro h i hi
      have hi := List.mem_range.1 hi
      simp only [Function.comp, List.getD_cons_succ, keyCh_succ]
      rw [List.getD_eq_getElem?_getD, List.getElem?_eq_getElem hi]
      exact h _ (List.getElem_mem hi)
   unfold isKeyB
   rw [h1, h2, h3, Bool.eq_iff_iff]
   simp only [Bool.and_eq_true, decide_eq_true_eq, Bool.not_eq_true', List.isEmpty_cons, List.length_cons]
   constructor
   · rintro ⟨⟨⟨a, b⟩, _⟩, d⟩; exact ⟨⟨⟨by omega, by omega⟩, a⟩, keyCh_one a, b⟩
   · rintro ⟨⟨⟨_, d⟩, a⟩, _, b⟩; exact ⟨⟨⟨a, b⟩, trivial⟩, by omega⟩
theorem s21 (s : List UInt8) (hl : s.length ≤ 2^40) : FSpec Tryz.prog 91 [.d (.str s)] [] (fun x r => x = .d (.bool (isKeyB s)) ∧ r = []) := by
 refine spec_of hT (C := []) Tryz.func91 rfl Tryz.call91 rfl rfl rfl ?_
 conv => whnf
 repeat' (first | (refine CallX.exact (s110 _ _ _) rfl rfl ?_; rotate_right; conv => whnf) | (refine CallX.exact (s111 s keyL hl ?_ ?_) rfl rfl ?_; rotate_right; conv => whnf) | (refine CallX.exact (s111 _ smallsL ?_ ?_ ?_) rfl rfl ?_; rotate_right; conv => whnf) | (refine br_intro ?_ ?_ <;> intro hb <;> (try simp only [brs] at hb) <;> conv => whnf) | omega | (refine And.intro ?_ ?_; ((try dsimp only); first | omega | (refine szA rfl ?_; omega) | (refine szB rfl ?_; omega) | (unfold inI64; omega) | exact rfl | (simp only [lns] at *; omega) | decide | (unfold inI64; decide)); conv => whnf) | decide | assumption)
 all_goals try (simp; omega)
 all_goals
  refine .ret _ ?_
  conv => whnf
  refine ⟨[], ⟨?_, rfl⟩, trivial⟩
  conv => lhs; whnf
  rw [isKey_eq]; congr 2; grind
theorem first_step {f : Nat → Int} {i : Nat} (p : ∀ j, j < i → f j = 0) (h : f i = 0) : ∀ j, j < i + 1 → f j = 0 := fun j hj => by
 rcases Nat.lt_or_ge j i with q | q
 · exact p j q
 · have : j = i := by omega
   subst this; exact h
theorem toNat_pred (i : Nat) : ((i : Int) - 1).toNat = i - 1 := by omega
theorem take_snocD {α : Type} {l : List α} {i : Nat} {d : α} (h : i < l.length) : l.take (i + 1) = l.take i ++ [l.getD i d] := by
 rw [List.take_succ_eq_append_getElem h, List.getD_eq_getElem?_getD, List.getElem?_eq_getElem h]; rfl
theorem firstAt_all {f : Nat → Int} : ∀ {n : Nat}, firstAt f n = 0 → ∀ j, j < n → f j = 0 := by
 intro n
 induction n with
 | zero => intro _ j hj; omega
 | succ n ih =>
   intro h j hj
   rw [firstAt] at h
   split at h
   · rename_i q
     rcases Nat.lt_or_ge j n with r | r
     · exact ih q j r
     · have : j = n := by omega
       subst this; exact h
   · omega
theorem mem_getD {α : Type} {l : List α} {x d : α} (h : x ∈ l) : ∃ j, j < l.length ∧ l.getD j d = x := by
 obtain ⟨j, hj, rfl⟩ := List.getElem_of_mem h
 exact ⟨j, hj, by rw [List.getD_eq_getElem?_getD, List.getElem?_eq_getElem hj]; rfl⟩
section
variable {α : Type} (cmp : α → α → Int)
end
section
variable {α : Type} (cmp : α → α → Int)
variable (R : α → α → Prop) (tr : ∀ a b c, R a b → R b c → R a c)
include tr in
include tr in
end
theorem eq_of_getD {α : Type} {l m : List α} (d : α) (hl : l.length = m.length) (h : ∀ j, j < l.length → l.getD j d = m.getD j d) : l = m := by
 refine List.ext_getElem hl (fun i h1 h2 => ?_)
 have := h i h1
 rwa [List.getD_eq_getElem?_getD, List.getD_eq_getElem?_getD, List.getElem?_eq_getElem h1, List.getElem?_eq_getElem h2] at this
theorem all_step {p : Nat → Prop} {i : Nat} (h : ∀ j, j < i → p j) (h1 : p i) : ∀ j, j < i + 1 → p j := fun j hj => by
 rcases Nat.lt_or_ge j i with q | q
 · exact h j q
 · have : j = i := by omega
   subst this; exact h1
structure Gate where
 key : List UInt8
 area : List UInt8
 clock : Int
structure Pas where
 tm : Int
 gate : List UInt8
 plate : List UInt8
 cents : Int
def cmpI (a b : Int) : Int := if a < b then -1 else if b < a then 1 else 0
def cmpS (a b : List UInt8) : Int := if Op.bytesLess a b = true then -1 else if Op.bytesLess b a = true then 1 else 0
theorem s210 (a : Int) : FSpec Tryz.prog 219 [.d (.int .i64 a)] [] (fun x r => x = .d (.bool false) ∧ r = []) := by
 refine spec_of hT (C := []) Tryz.func219 rfl Tryz.call219 rfl rfl rfl ?_
 conv => whnf
 refine .ret _ ?_
 conv => whnf
 refine ⟨[], ⟨?_, rfl⟩, trivial⟩
 conv => lhs; whnf
 simp
theorem s211 (a : List UInt8) : FSpec Tryz.prog 206 [.d (.str a)] [] (fun x r => x = .d (.bool false) ∧ r = []) := by
 refine spec_of hT (C := []) Tryz.func206 rfl Tryz.call206 rfl rfl rfl ?_
 conv => whnf
 refine .ret _ ?_
 conv => whnf
 refine ⟨[], ⟨?_, rfl⟩, trivial⟩
 conv => lhs; whnf
 simp
theorem s183 (a b : Int) : FSpec Tryz.prog 182 [.d (.int .i64 a), .d (.int .i64 b)] [] (fun x r => x = .d (.int .i64 (cmpI a b)) ∧ r = []) := by
 refine spec_of hT (C := []) Tryz.func182 rfl Tryz.call182 rfl rfl rfl ?_
 conv => whnf
 repeat' (first | (refine CallX.exact (s210 _) rfl rfl ?_; rotate_right; conv => whnf) | (refine br_intro ?_ ?_ <;> intro hb <;> (try simp only [brs] at hb) <;> conv => whnf) | omega | (refine And.intro ?_ ?_; ((try dsimp only); first | omega | (refine szA rfl ?_; omega) | (refine szB rfl ?_; omega) | (unfold inI64; omega) | exact rfl | (simp only [lns] at *; omega) | decide | (unfold inI64; decide)); conv => whnf) | decide | assumption)
 all_goals
  refine .ret _ ?_
  conv => whnf
  refine ⟨[], ⟨?_, rfl⟩, trivial⟩
  conv => lhs; whnf
  congr 2; unfold cmpI; grind
theorem less_tri : ∀ (a b : List UInt8), Op.bytesLess a b = false → a ≠ b → Op.bytesLess b a = true := by
 intro a
 induction a with
 | nil => intro b h hn; cases b with
   | nil => exact absurd rfl hn
   | cons y ys => simp [Op.bytesLess] at h
 | cons x xs ih =>
   intro b h hn
   cases b with
   | nil => simp [Op.bytesLess]
   | cons y ys =>
     simp only [Op.bytesLess] at h ⊢
     grind
theorem s184 (a b : List UInt8) : FSpec Tryz.prog 159 [.d (.str a), .d (.str b)] [] (fun x r => x = .d (.int .i64 (cmpS a b)) ∧ r = []) := by
 refine spec_of hT (C := []) Tryz.func159 rfl Tryz.call159 rfl rfl rfl ?_
 conv => whnf
 repeat' (first | (refine CallX.exact (s211 _) rfl rfl ?_; rotate_right; conv => whnf) | (refine br_intro ?_ ?_ <;> intro hb <;> (try simp only [brs] at hb) <;> conv => whnf) | omega | (refine And.intro ?_ ?_; ((try dsimp only); first | omega | (refine szA rfl ?_; omega) | (refine szB rfl ?_; omega) | (unfold inI64; omega) | exact rfl | (simp only [lns] at *; omega) | decide | (unfold inI64; decide)); conv => whnf) | decide | assumption)
 all_goals
  refine .ret _ ?_
  conv => whnf
  refine ⟨[], ⟨?_, rfl⟩, trivial⟩
  conv => lhs; whnf
  congr 2; unfold cmpS; grind [less_tri]
theorem s182 (l : List Int) (hl : l.length ≤ 2^40) : FSpec Tryz.prog 158 [.d (ints l)] [] (fun x r => x = .d (.int .i64 (firstE l)) ∧ r = []) := by
 refine spec_of hT (C := []) Tryz.func158 rfl Tryz.call158 rfl rfl rfl ?_
 conv => whnf
 refine LoopX.rule hT (C := []) (ι := Nat) (fun i => i ≤ l.length ∧ firstE l = firstE (l.drop i)) (fun i => mkSt [(3, .d (.int .i64 0)), (6, .d (ints l)), (7, .d (.int .i64 l.length)), (8, .d (.int .i64 i))] []) (fun i => l.length - i) 0 ⟨by omega, by simp⟩ (by (refine Entails.mk' [] rfl rfl ?_ ?_ <;> repeat' (first | exact True.intro | exact lr | exact rr | exact SV.le_int (by omega) | exact SV.le_any _ | refine And.intro ?_ ?_)); done) ?_
 rintro i ⟨p1, p2⟩
 have hd : i < l.length → l.drop i = l.getD i 0 :: l.drop (i + 1) := fun hi => by rw [List.drop_eq_getElem_cons hi, List.getD_eq_getElem?_getD, List.getElem?_eq_getElem hi]; rfl
 conv => whnf
 repeat' (first | (refine br_intro ?_ ?_ <;> intro hb <;> (try simp only [brs] at hb) <;> conv => whnf) | omega | (refine And.intro ?_ ?_; ((try dsimp only); first | omega | (refine szA rfl ?_; omega) | (refine szB rfl ?_; omega) | (unfold inI64; omega) | exact rfl | (simp only [lns] at *; omega) | decide | (unfold inI64; decide)); conv => whnf) | decide | assumption)
 · refine .ret _ ?_
   conv => whnf
   refine ⟨[], ⟨?_, rfl⟩, trivial⟩
   conv => lhs; whnf
   congr 2; rw [p2, hd (by omega), firstE, if_neg hb, Int.toNat_natCast]
 · exact ⟨i + 1, ⟨by omega, by rw [p2, hd (by omega), firstE, if_pos hb]⟩, by omega, (by (refine Entails.mk' [] rfl rfl ?_ ?_ <;> repeat' (first | exact True.intro | exact lr | exact rr | exact SV.le_int (by omega) | exact SV.le_any _ | refine And.intro ?_ ?_)); done)⟩
 · refine .ret _ ?_
   conv => whnf
   refine ⟨[], ⟨?_, rfl⟩, trivial⟩
   conv => lhs; whnf
   congr 2; rw [p2, List.drop_eq_nil_iff.2 (by omega)]; rfl
def ixF (p : Nat → Bool) : Nat → Int
 | 0 => -1
 | n + 1 => if ixF p n = -1 then (if p n = true then n else -1) else ixF p n
theorem ixF_none {p : Nat → Bool} : ∀ {n : Nat}, (∀ j, j < n → p j = false) → ixF p n = -1 := by
 intro n
 induction n with
 | zero => intro _; rfl
 | succ n ih => intro h; rw [ixF, if_pos (ih fun j hj => h j (by omega)), h n (by omega)]; rfl
theorem ixF_hit {p : Nat → Bool} {n i : Nat} (hi : i < n) (h : ∀ j, j < i → p j = false) (h1 : p i = true) : ixF p n = i := by
 induction n with
 | zero => omega
 | succ n ih =>
   rw [ixF]
   by_cases q : i < n
   · rw [ih q, if_neg (by omega)]
   · have : i = n := by omega
     subst this
     rw [if_pos (ixF_none h), if_pos h1]
theorem ixF_bd {p : Nat → Bool} : ∀ {n : Nat}, -1 ≤ ixF p n ∧ ixF p n < n ∧ (0 ≤ ixF p n → p (ixF p n).toNat = true) := by
 intro n
 induction n with
 | zero => simp [ixF]
 | succ n ih =>
   rw [ixF]
   split
   · split
     · rename_i h; exact ⟨by omega, by omega, fun _ => by simpa using h⟩
     · exact ⟨by omega, by omega, fun h => by omega⟩
   · exact ⟨ih.1, by omega, ih.2.2⟩
theorem s154 (n : Int) : FSpec Tryz.prog 104 [.d (.int .i64 n)] [] (fun x r => x = .d (.bool (decide (0 ≤ n ∧ n ≤ 5761439))) ∧ r = []) := by
 refine spec_of hT (C := []) Tryz.func104 rfl Tryz.call104 rfl rfl rfl ?_
 conv => whnf
 repeat' (first | (refine CallX.exact (s119 _ _ _) rfl rfl ?_; rotate_right; conv => whnf) | (refine br_intro ?_ ?_ <;> intro hb <;> (try simp only [brs] at hb) <;> conv => whnf) | omega | (refine And.intro ?_ ?_; ((try dsimp only); first | omega | (refine szA rfl ?_; omega) | (refine szB rfl ?_; omega) | (unfold inI64; omega) | exact rfl | (simp only [lns] at *; omega) | decide | (unfold inI64; decide)); conv => whnf) | decide | assumption)
 refine .ret _ ?_
 conv => whnf
 refine ⟨[], ⟨?_, rfl⟩, trivial⟩
 conv => lhs; whnf
structure Ntr where
 name : Int
 pay : Int
 step : Int
 late : Int
structure Ntc where
 key : List UInt8
 plate : List UInt8
 tm : Int
 came : Int
 cents : Int
def fillA {α : Type} (d : α) (f : Nat → α) (n i : Nat) : List α := (List.range n).map fun j => if j < i then f j else d
structure Chg where
 hire : List UInt8
 vehicle : List UInt8
 pas : Int
 cents : Int
structure Lin where
 kind : Int
 key : List UInt8
 cents : Int
deriving DecidableEq
theorem mem_len {l : List (List UInt8)} {u : List UInt8} (h : u ∈ l) (q : l.all (fun x => decide (x.length ≤ 8)) = true) : u.length ≤ 8 := by
 have := List.all_eq_true.1 q u h
 exact of_decide_eq_true this
theorem s133 (n : Int) : FSpec Tryz.prog 90 [.d (.int .i64 n)] [] (fun x r => x = .d (.bool (decide (0 ≤ n ∧ n ≤ 5761439))) ∧ r = []) := by
 refine spec_of hT (C := []) Tryz.func90 rfl Tryz.call90 rfl rfl rfl ?_
 conv => whnf
 repeat' (first | (refine CallX.exact (s110 _ _ _) rfl rfl ?_; rotate_right; conv => whnf) | (refine br_intro ?_ ?_ <;> intro hb <;> (try simp only [brs] at hb) <;> conv => whnf) | omega | (refine And.intro ?_ ?_; ((try dsimp only); first | omega | (refine szA rfl ?_; omega) | (refine szB rfl ?_; omega) | (unfold inI64; omega) | exact rfl | (simp only [lns] at *; omega) | decide | (unfold inI64; decide)); conv => whnf) | decide | assumption)
 refine .ret _ ?_
 conv => whnf
 refine ⟨[], ⟨?_, rfl⟩, trivial⟩
 conv => lhs; whnf
theorem Res.le_put2 {α : Type} {f : α → List DV} {d : α} {l : List α} {x y : α} {e k j1 j2 : Nat} {ds1 ds2 : List DV} (h1 : ∀ z, setAtD (f z) 0 ds1 = f x) (h2 : ∀ z, setAtD (f z) 0 ds2 = f y) :
 Res.le (.buf e k l.length fun i => bif Nat.beq i j2 then setAtD (bif Nat.beq i j1 then setAtD (rowF f d l i) 0 ds1 else rowF f d l i) 0 ds2 else bif Nat.beq i j1 then setAtD (rowF f d l i) 0 ds1 else rowF f d l i) (seqB e k f d ((l.set j1 x).set j2 y)) := by
 refine Res.le_buf (by simp) (fun k hk => ?_)
 have e1 := rows_putG (f := f) (d := d) (l := l) (x := x) (j := j1) (off := 0) (ds := ds1) (get := rowF f d l) (fun _ _ => rfl) (fun z _ => h1 z)
 have e2 := rows_putG (f := f) (d := d) (l := l.set j1 x) (x := y) (j := j2) (off := 0) (ds := ds2) (get := fun i => bif Nat.beq i j1 then setAtD (rowF f d l i) 0 ds1 else rowF f d l i) (fun k hk => e1 k (by simpa using hk)) (fun z _ => h2 z)
 exact e2 k (by simpa using hk)
theorem mem_bd {l : List Int} {u : Int} (h : u ∈ l) (q : l.all (fun x => decide (-2^40 ≤ x ∧ x ≤ 2^40)) = true) : -2^40 ≤ u ∧ u ≤ 2^40 := by
 have := List.all_eq_true.1 q u h
 exact of_decide_eq_true this
end Go.Proofs.YtgeakdcbpjmkbaaGreatDoor
namespace Go.Proofs
open Go.Shelf
end Go.Proofs
set_option maxRecDepth 20000
namespace Go.Proofs.YtgeakdcbpjmkbaaGreatDoor
open Go Go.Eng Go.RowKit
theorem Res.le_appF {α : Type} {f : α → List DV} {d : α} {l m : List α} {e k : Nat} : Res.le (.buf e k (l.length + m.length) (appGet l.length (rowF f d l) (rowF f d m))) (seqB e k f d (l ++ m)) := by
 refine Res.le_buf (by simp) (fun i hi => ?_)
 by_cases h : i < l.length
 · rw [appGet_lt h]; simp only [rowF]; rw [List.getD_eq_getElem?_getD, List.getD_eq_getElem?_getD, List.getElem?_append_left h]
 · rw [appGet_ge (by omega)]; simp only [rowF]; rw [List.getD_eq_getElem?_getD, List.getD_eq_getElem?_getD, List.getElem?_append_right (by omega)]
theorem pas_eq {a b : Pas} : a = b ↔ a.tm = b.tm ∧ a.gate = b.gate ∧ a.plate = b.plate ∧ a.cents = b.cents := by cases a; cases b; simp
instance : DecidableEq Pas := fun _ _ => decidable_of_iff _ pas_eq.symm
structure Slt where
 day : Int
 many : Int
structure Wnt where
 v : List UInt8
 fr : Int
 to : Int
def wn0 : Wnt := ⟨[], 0, 0⟩
structure Plc where
 v : List UInt8
 day : Int
def pl0 : Plc := ⟨[], 0⟩
structure Bsy where
 v : List UInt8
 fr : Int
 to : Int
 cents : Int
def namesB (w : List Wnt) (l : List Plc) : Prop := w.length = l.length ∧ ∀ i, i < w.length → (w.getD i wn0).v = (l.getD i pl0).v
instance (w : List Wnt) (l : List Plc) : Decidable (namesB w l) := inferInstanceAs (Decidable (_ ∧ _))
def allK {α : Type} (K : α → Prop) (k : Nat) (l : List α) : Prop := l.length ≤ k ∧ ∀ x ∈ l, K x
theorem allK_snoc {α : Type} {K : α → Prop} {l : List α} {k m : Nat} {x : α} (h : allK K k l) (hm : k + 1 ≤ m) (hx : K x) : allK K m (l ++ [x]) := by
 refine ⟨by rw [List.length_append]; have := h.1; simp; omega, fun p hp => ?_⟩
 rcases List.mem_append.1 hp with q | q
 · exact h.2 p q
 · simp at q; subst q; exact hx
structure Ned where
 st : List UInt8
 many : Int
def nd0 : Ned := ⟨[], 0⟩
structure Roa where
 a : List UInt8
 b : List UInt8
 car : Int
 ride : Int
def rd0 : Roa := ⟨[], [], 0, 0⟩
structure Mov where
 a : List UInt8
 b : List UInt8
 many : Int
def ndE (l : List Ned) (i : Nat) : Int :=
 let x := l.getD i nd0
 if isKeyB x.st = false then 5 else if 0 < i ∧ strLe x.st (l.getD (i - 1) nd0).st = true then 7 else if ¬ (-20 ≤ x.many ∧ x.many ≤ 20) then 1 else 0
def ndsE (l : List Ned) : Int := if 10 < l.length then 2 else firstAt (ndE l) l.length
def endsC (a b c d : List UInt8) : Int := firstE [cmpS a c, cmpS b d]
def rdE (l : List Roa) (i : Nat) : Int :=
 let x := l.getD i rd0
 if isKeyB x.a = false ∨ isKeyB x.b = false then 5 else if x.a = x.b then 14 else if 0 < i ∧ 0 ≤ endsC (l.getD (i - 1) rd0).a (l.getD (i - 1) rd0).b x.a x.b then 7 else if ¬ ((0 ≤ x.car ∧ x.car ≤ 1000000) ∧ (0 ≤ x.ride ∧ x.ride ≤ 1000000)) then 1 else 0
def rdsE (l : List Roa) : Int := if 2500 < l.length then 2 else firstAt (rdE l) l.length
structure Arc where
 fr : Int
 to : Int
 car : Int
 flow : Int
def ar0 : Arc := ⟨0, 0, 0, 0⟩
theorem mov_eq {a b : Mov} : a = b ↔ a.a = b.a ∧ a.b = b.b ∧ a.many = b.many := by cases a; cases b; simp
instance : DecidableEq Mov := fun _ _ => decidable_of_iff _ mov_eq.symm
end Go.Proofs.YtgeakdcbpjmkbaaGreatDoor
namespace Go.Proofs
open Go.Shelf
def Tryz.laysGrowE_ren : Go.Shelf.Ren := ⟨fun | 4 => 205 | n => n, fun | 22 => 26 | 25 => 39 | 3 => 3 | 4 => 4 | 9 => 9 | 20 => 20 | 0 => 0 | n => n, fun | n => n⟩
theorem Tryz.laysGrowE : Go.Proofs.Lays8.n4 Tryz.prog Tryz.laysGrowE_ren := {
 mixed := by kernel_rfl
 f4 := ⟨Tryz.f205.name, by decide, Tryz.func205.trans (congrArg some (by kernel_rfl))⟩
 t0 := Tryz.underlying0
 a0 := Tryz.isAgg0
 z0 := Tryz.sizeOf0
 v0 := Tryz.zeroValue0
 t3 := Tryz.underlying3
 a3 := Tryz.isAgg3
 z3 := Tryz.sizeOf3
 v3 := Tryz.zeroValue3
 t4 := Tryz.underlying4
 a4 := Tryz.isAgg4
 z4 := Tryz.sizeOf4
 v4 := Tryz.zeroValue4
 t9 := Tryz.underlying9
 a9 := Tryz.isAgg9
 z9 := Tryz.sizeOf9
 v9 := Tryz.zeroValue9
 t20 := Tryz.underlying20
 a20 := Tryz.isAgg20
 z20 := Tryz.sizeOf20
 v20 := Tryz.zeroValue20
 t22 := Tryz.underlying26
 a22 := Tryz.isAgg26
 z22 := Tryz.sizeOf26
 v22 := Tryz.zeroValue26 }
end Go.Proofs
set_option maxRecDepth 20000
namespace Go.Proofs.YtgeakdcbpjmkbaaGreatDoor
open Go Go.Eng Go.RowKit
structure Ent where
 tm : Int
 desk : List UInt8
 no : Int
 words : List UInt8
def enF : Ent → List DV := fun x => [.int .i64 x.tm, .str x.desk, .int .i64 x.no, .str x.words]
def en0 : Ent := ⟨0, [], 0, []⟩
abbrev ents (l : List Ent) : DV := seqD 4 enF en0 l
theorem sGrowE (n : Nat) (hn : n ≤ 2^20) : FSpec Tryz.prog 205 [.d .nilsl, .d (.int .i64 n)] [] (fun y r => y = .buf 1000001 ∧ r = [(1000001, .buf 39 4 0 fun _ => [])]) := by
 refine FSpec.ofRow (by decide) Tryz.call205 (fun G β w vs _ hl hd => ?_)
 match vs, hl with
 | [u, v], _ =>
   have hu := hd 0 _ _ rfl rfl
   have hv := hd 1 _ _ rfl rfl
   cases hu with | d _ _ hu => cases hu with | nilsl =>
   cases hv with | d _ _ hv => cases hv with | int _ _ =>
   by_cases h0 : n = 0
   · subst h0
     refine (Go.Proofs.Any8.slices_Grow_room Go.Proofs.Tryz.laysGrowE none 0 0 0 w (by decide) (by decide) (by decide) (by decide)).mono ?_
     rintro e w' ⟨rfl, rfl⟩
     exact ⟨Below.refl _ _, _, rfl, .inl rfl⟩
   · obtain ⟨_, inf, hi, hsz, hby, hz⟩ := hT.get (t := 39) (i := (T 39).get rfl) rfl
     have hg1 := grownCap_ge w (0 + n) 0 39
     have hg2 := grownCap_le_maxLen w (0 + n) 0 39 (by simp only [maxLen]; omega)
     refine (Go.Proofs.Any8.slices_Grow_grow Go.Proofs.Tryz.laysGrowE inf _ hi hz (by rw [hsz]; decide) none 0 0 n [] w (Nat.le_refl _) (by omega) (by rw [hby]; show (0 + n) * 48 ≤ _; omega) (by omega) (by simp) (fun _ => rfl) (fun a h => by cases h)).mono ?_
     rintro e w' ⟨rfl, rfl⟩
     refine ⟨⟨rfl, rfl, rfl, ?_, fun b hb => ?_⟩, _, rfl, .inr ⟨_, _, _, rfl, Nat.le_refl _, Array.getElem?_push_size, hg2, ?_⟩⟩
     · show w.heap.size ≤ (w.heap.push _).size
       rw [Array.size_push]; omega
     · show (w.heap.push _)[b]? = w.heap[b]?
       rw [Array.getElem?_push]; exact if_neg (by omega)
     · rw [Array.size_append, Array.size_append, size_zeroCells, size_zeroCells]
       show 0 + (0 + n - 0) * 4 + (grownCap w (0 + n) 0 39 - (0 + n)) * 4 = grownCap w (0 + n) 0 39 * 4
       omega
def oXDRdB64_16 : List (Nat × List Nat) := [(0, []), (1, []), (2, []), (3, []), (4, [3]), (5, [3]), (6, []), (7, []), (8, [3, 4, 5, 6, 7]), (9, []), (10, []), (11, []), (12, [])]
def oXDRdB198_4 : List (Nat × List Nat) := [(0, []), (1, [0]), (2, []), (3, []), (4, []), (5, [4]), (6, [4, 5]), (7, [4]), (8, [4]), (9, [4, 5, 6, 7, 8]), (10, [4, 5, 6, 7, 8, 9]), (11, [4, 5, 6, 7, 8, 9]), (12, [4, 5, 6, 7, 8]), (13, [4, 5, 6, 7, 8]), (14, []), (15, []), (16, [])]
def oXDRdB198_6 : List (Nat × List Nat) := [(0, []), (1, [0]), (2, [0, 1]), (3, [0, 1, 2]), (4, [0, 1, 2]), (5, [0, 1, 2, 3, 4]), (6, [0, 1, 2, 3, 4, 5]), (7, [0, 1, 2, 3, 4, 5]), (8, [0, 1, 2, 3, 4]), (9, [0, 1, 2, 3, 4]), (10, [0, 1, 2, 3, 4, 5, 6, 7, 8, 9]), (11, [0, 1, 2, 3, 4, 5, 6, 7, 8, 9, 10]), (12, [0, 1, 2, 3, 4, 5, 6, 7, 8, 9]), (13, [0, 1, 2, 3, 4, 5, 6, 7, 8, 9]), (14, [2, 3, 4]), (15, [2, 3, 4]), (16, []), (17, [])]
def oXDRdB160_6 : List (Nat × List Nat) := [(0, []), (1, [0]), (2, []), (3, []), (4, [0, 1, 2, 3]), (5, [0, 1, 2, 3, 4]), (6, [0, 1, 2, 3, 4]), (7, [0, 1, 2, 3]), (8, [0, 1, 2, 3]), (9, [])]
def oXDRdB160_11 : List (Nat × List Nat) := [(0, []), (1, [0]), (2, []), (3, []), (4, [0, 1, 2, 3]), (5, [0, 1, 2, 3, 4]), (6, [0, 1, 2, 3, 4]), (7, [0, 1, 2, 3]), (8, [0, 1, 2, 3]), (9, [])]
def esF : List Ent → List DV := fun l => [ents l]
abbrev entss (l : List (List Ent)) : DV := seqD 1 esF [] l
def lensE (l : List (List Ent)) : Nat := (l.map List.length).sum
theorem lensE_take {l : List (List Ent)} {i : Nat} (h : i < l.length) : lensE (l.take (i + 1)) = lensE (l.take i) + (l.getD i []).length := by
 unfold lensE; rw [take_snocD (d := []) h]; simp
theorem lensE_le {l : List (List Ent)} {i : Nat} : lensE (l.take i) ≤ lensE l := by
 have h := congrArg lensE (List.take_append_drop i l)
 have h2 : lensE (l.take i ++ l.drop i) = lensE (l.take i) + lensE (l.drop i) := by unfold lensE; rw [List.map_append, List.sum_append]
 omega
theorem flat_lenE (l : List (List Ent)) : l.flatten.length = lensE l := by
 unfold lensE; rw [List.length_flatten]
theorem sConcatE (l : List (List Ent)) (hl : l.length ≤ 2^20) (hn : lensE l ≤ 2^20) :
 FSpec Tryz.prog 156 [.d (entss l)] [] (fun y r => y = .buf 6 ∧ r = [(6, seqB 39 4 enF en0 l.flatten)]) := by
 refine spec_of hT (C := []) Tryz.func156 rfl Tryz.call156 rfl rfl rfl ?_
 conv => whnf
 refine LoopX.rule hT (C := []) (ι := Nat) (fun i => i ≤ l.length) (fun i => mkSt [(0, .d (entss l)), (3, .d (.int .i64 (lensE (l.take i)))), (9, .d (entss l)), (10, .d (.int .i64 l.length)), (11, .d (.int .i64 i))] []) (fun i => l.length - i) 0 (by omega) (by (refine Entails.mk' [] rfl rfl ?_ ?_ <;> repeat' (first | exact True.intro | exact lr | exact rr | exact SV.le_int (by omega) | exact SV.le_any _ | refine And.intro ?_ ?_)); done) ?_
 rintro i p1
 have e1 : (i : Int).toNat = i := Int.toNat_natCast i
 have hls : lensE (l.take i) ≤ lensE l := lensE_le
 have hls2 : i < l.length → lensE (l.take i) + (l.getD (i : Int).toNat []).length ≤ lensE l := fun h => by rw [e1, ← lensE_take h]; exact lensE_le
 conv => whnf
 repeat' (first | (refine br_intro ?_ ?_ <;> intro hb <;> (try simp only [brs] at hb) <;> conv => whnf) | omega | (refine And.intro ?_ ?_; ((try dsimp only); first | omega | (refine szA rfl ?_; omega) | (refine szB rfl ?_; omega) | (unfold inI64; omega) | exact rfl | (simp only [List.toList_toArray, List.length_cons, List.length_nil]; omega) | (simp only [lns] at *; omega) | decide | (unfold inI64; decide)); conv => whnf) | decide | assumption)
 · refine ⟨i + 1, by omega, by omega, Entails.mk' [] rfl rfl ⟨lr, SV.le_int ?_, lr, lr, lr, trivial⟩ trivial⟩
   rw [lensE_take (by omega), e1]; omega
 have hi : i = l.length := by omega
 subst hi
 rw [List.take_length] at *
 refine CallX.of (sGrowE (lensE l) hn) [(1000001, 24)] rfl ⟨lr, lr, trivial⟩ trivial rfl rfl ?_
 rintro x rout ⟨rfl, rfl⟩
 refine ⟨rfl, ?_⟩
 conv => whnf
 repeat' (first | (refine br_intro ?_ ?_ <;> intro hb <;> (try simp only [brs] at hb) <;> conv => whnf) | omega | (refine And.intro ?_ ?_; ((try dsimp only); first | omega | (refine szA rfl ?_; omega) | (refine szB rfl ?_; omega) | (unfold inI64; omega) | exact rfl | (simp only [List.toList_toArray, List.length_cons, List.length_nil]; omega) | (simp only [lns] at *; omega) | decide | (unfold inI64; decide)); conv => whnf) | decide | assumption)
 refine LoopX.rule hT (C := []) (ι := Nat) (fun i => i ≤ l.length) (fun i => mkSt [(6, .buf 6), (25, .d (entss l)), (26, .d (.int .i64 l.length)), (27, .d (.int .i64 i))] [(6, seqB 39 4 enF en0 (l.take i).flatten)]) (fun i => l.length - i) 0 (by omega) ?_ ?_
 · exact Entails.mk' [(6, 24)] rfl rfl ⟨lr, lr, lr, lr, trivial⟩ ⟨Res.le_buf rfl (fun i hi => absurd hi (by omega)), trivial⟩
 rintro i p1
 have e1 : (i : Int).toNat = i := Int.toNat_natCast i
 have hls : lensE (l.take i) ≤ lensE l := lensE_le
 have hf := flat_lenE (l.take i)
 have hls2 : (i : Int) < l.length → (l.take i).flatten.length + (l.getD (i : Int).toNat []).length ≤ 2^20 := fun h => by rw [e1, hf, ← lensE_take (by omega)]; exact Nat.le_trans lensE_le hn
 conv => whnf
 repeat' (first | (refine br_intro ?_ ?_ <;> intro hb <;> (try simp only [brs] at hb) <;> conv => whnf) | omega | (refine And.intro ?_ ?_; ((try dsimp only); first | omega | (refine szA rfl ?_; omega) | (refine szB rfl ?_; omega) | (unfold inI64; omega) | exact rfl | (simp only [List.toList_toArray, List.length_cons, List.length_nil]; omega) | (simp only [lns] at *; omega) | decide | (unfold inI64; decide)); conv => whnf) | decide | assumption)
 · have e2 : (l.take (i + 1)).flatten = (l.take i).flatten ++ l.getD (i : Int).toNat [] := by rw [take_snocD (d := []) (by omega), e1]; simp
   refine ⟨i + 1, by omega, by omega, Entails.mk' [(6, 33)] rfl rfl ⟨lr, lr, lr, lr, trivial⟩ ⟨?_, trivial⟩⟩
   rw [e2]; exact Res.le_appF
 · have hi : i = l.length := by omega
   subst hi
   refine .ret _ ?_
   conv => whnf
   refine ⟨_, ⟨rfl, rfl⟩, ?_, trivial⟩
   rw [List.take_length]; exact rr
def e1 : Ent := ⟨1, [100], 1, [120]⟩
theorem sPrinted1 : FSpec Tryz.prog 149 [.d (.str [120])] [] (fun x r => x = .d (.bool true) ∧ r = []) := by
 refine spec_of hT (C := []) Tryz.func149 rfl Tryz.call149 rfl rfl rfl ?_
 conv => whnf
 repeat' (first | (refine LoopX.run hT (C := []) 4 rfl [0, 5, 6] [] (fun _ _ h => h) (fun _ h => h) ?_; conv => whnf) | (refine br_intro ?_ ?_ <;> intro hb <;> (try simp only [brs] at hb) <;> conv => whnf) | omega | (refine And.intro ?_ ?_; ((try dsimp only); first | omega | (refine szA rfl ?_; omega) | (refine szB rfl ?_; omega) | (unfold inI64; omega) | exact rfl | (simp only [List.toList_toArray, List.length_cons, List.length_nil]; omega) | (simp only [lns] at *; omega) | decide | (unfold inI64; decide)); conv => whnf) | decide | assumption)
 refine .ret _ ?_
 conv => whnf
 refine ⟨[], ⟨?_, rfl⟩, trivial⟩
 conv => lhs; whnf
set_option maxHeartbeats 4000000 in
theorem sDChk1 : FSpec Tryz.prog 64 [.d (ents [e1])] [] (fun x r => x = .d (.int .i64 0) ∧ r = []) := by
 have h108 := s108 [100] (by simp)
 rw [show isKeyB [100] = true from by decide] at h108
 refine spec_of hT (C := []) Tryz.func64 rfl Tryz.call64 rfl rfl rfl ?_
 conv => whnf
 repeat' (first | (refine LoopX.run hT (C := []) 10 rfl [0, 3, 11, 12, 13] [] (fun _ _ h => h) (fun _ h => h) ?_; conv => whnf) | (refine CallX.exact (s154 1) rfl rfl ?_; rotate_right; conv => whnf) | (refine CallX.exact (h108) rfl rfl ?_; rotate_right; conv => whnf) | (refine CallX.exact (s119 1 1 1000000) rfl rfl ?_; rotate_right; conv => whnf) | (refine CallX.exact (sPrinted1) rfl rfl ?_; rotate_right; conv => whnf) | (refine br_intro ?_ ?_ <;> intro hb <;> (try simp only [brs] at hb) <;> conv => whnf) | (refine RegX.rule (id := 16) hT rfl [] oXDRdB64_16 (by decide +kernel) ?_; conv => whnf) | omega | (refine And.intro ?_ ?_; ((try dsimp only); first | omega | (refine szA rfl ?_; omega) | (refine szB rfl ?_; omega) | (unfold inI64; omega) | exact rfl | (simp only [List.toList_toArray, List.length_cons, List.length_nil]; omega) | (simp only [lns] at *; omega) | decide | (unfold inI64; decide)); conv => whnf) | decide | assumption)
 refine .ret _ ?_
 conv => whnf
 refine ⟨[], ⟨?_, rfl⟩, trivial⟩
 conv => lhs; whnf
theorem sDChk0 : FSpec Tryz.prog 64 [.d (ents [])] [] (fun x r => x = .d (.int .i64 0) ∧ r = []) := by
 refine spec_of hT (C := []) Tryz.func64 rfl Tryz.call64 rfl rfl rfl ?_
 conv => whnf
 repeat' (first | (refine LoopX.run hT (C := []) 10 rfl [0, 3, 11, 12, 13] [] (fun _ _ h => h) (fun _ h => h) ?_; conv => whnf) | (refine br_intro ?_ ?_ <;> intro hb <;> (try simp only [brs] at hb) <;> conv => whnf) | (refine RegX.rule (id := 16) hT rfl [] oXDRdB64_16 (by decide +kernel) ?_; conv => whnf) | omega | (refine And.intro ?_ ?_; ((try dsimp only); first | omega | (refine szA rfl ?_; omega) | (refine szB rfl ?_; omega) | (unfold inI64; omega) | exact rfl | (simp only [List.toList_toArray, List.length_cons, List.length_nil]; omega) | (simp only [lns] at *; omega) | decide | (unfold inI64; decide)); conv => whnf) | decide | assumption)
 refine .ret _ ?_
 conv => whnf
 refine ⟨[], ⟨?_, rfl⟩, trivial⟩
 conv => lhs; whnf
abbrev enB (l : List Ent) : Res := seqB 39 4 enF en0 l
theorem sIns1 : FSpec Tryz.prog 198 [.buf 1000001, .d (.int .i64 0), .d (.int .i64 1), .fn 157 []] [(1000001, enB [e1])] (fun y r => y = .tup [] ∧ r = [(1000001, enB [e1])]) := by
 refine spec_of hT (C := []) Tryz.func198 rfl Tryz.call198 rfl rfl rfl ?_
 conv => whnf
 repeat' (first | (refine LoopX.run hT (C := []) 2 rfl [0, 1, 2, 3, 8] [1000001] (fun _ _ h => h) (fun _ h => h) ?_; conv => whnf) | (refine LoopX.run hT (C := []) 8 rfl [0, 1, 2, 3, 8, 9] [1000001] (fun _ _ h => h) (fun _ h => h) ?_; conv => whnf) | (refine br_intro ?_ ?_ <;> intro hb <;> (try simp only [brs] at hb) <;> conv => whnf) | (refine RegX.rule (id := 4) hT rfl [] oXDRdB198_4 (by decide +kernel) ?_; conv => whnf) | (refine RegX.rule (id := 6) hT rfl [] oXDRdB198_6 (by decide +kernel) ?_; conv => whnf) | omega | (refine And.intro ?_ ?_; ((try dsimp only); first | omega | (refine szA rfl ?_; omega) | (refine szB rfl ?_; omega) | (unfold inI64; omega) | exact rfl | (simp only [List.toList_toArray, List.length_cons, List.length_nil]; omega) | (simp only [lns] at *; omega) | decide | (unfold inI64; decide)); conv => whnf) | decide | assumption)
 refine .ret _ ?_
 conv => whnf
 exact ⟨_, ⟨rfl, rfl⟩, rr, trivial⟩
theorem sStb1 : FSpec Tryz.prog 146 [.buf 1000001, .d (.int .i64 1), .fn 157 []] [(1000001, enB [e1])] (fun y r => y = .tup [] ∧ r = [(1000001, enB [e1])]) := by
 refine spec_of hT (C := []) Tryz.func146 rfl Tryz.call146 rfl rfl rfl ?_
 conv => whnf
 repeat' (first | (refine LoopX.run hT (C := []) 4 rfl [0, 1, 2, 6, 7, 8] [1000001] (fun _ _ h => h) (fun _ h => h) ?_; conv => whnf) | (refine LoopX.run hT (C := []) 14 rfl [0, 1, 2, 6] [1000001] (fun _ _ h => h) (fun _ h => h) ?_; conv => whnf) | (refine LoopX.run hT (C := []) 18 rfl [0, 1, 2, 6, 7, 8] [1000001] (fun _ _ h => h) (fun _ h => h) ?_; conv => whnf) | (refine CallX.of sIns1 [(1000001, 1000001)] rfl ⟨lr, lr, lr, lr, trivial⟩ ⟨rr, trivial⟩ rfl rfl ?_; rintro x rout ⟨rfl, rfl⟩; refine ⟨rfl, ?_⟩; conv => whnf) | (refine br_intro ?_ ?_ <;> intro hb <;> (try simp only [brs] at hb) <;> conv => whnf) | omega | (refine And.intro ?_ ?_; ((try dsimp only); first | omega | (refine szA rfl ?_; omega) | (refine szB rfl ?_; omega) | (unfold inI64; omega) | exact rfl | (simp only [List.toList_toArray, List.length_cons, List.length_nil]; omega) | (simp only [lns] at *; omega) | decide | (unfold inI64; decide)); conv => whnf) | decide | assumption)
 refine .ret _ ?_
 conv => whnf
 exact ⟨_, ⟨rfl, rfl⟩, rr, trivial⟩
theorem sSrt1 : FSpec Tryz.prog 62 [.buf 1000001, .fn 157 []] [(1000001, enB [e1])] (fun y r => y = .tup [] ∧ r = [(1000001, enB [e1])]) := by
 refine spec_of hT (C := []) Tryz.func62 rfl Tryz.call62 rfl rfl rfl ?_
 conv => whnf
 repeat' (first | (refine CallX.of sStb1 [(1000001, 1000001)] rfl ⟨lr, lr, lr, trivial⟩ ⟨rr, trivial⟩ rfl rfl ?_; rintro x rout ⟨rfl, rfl⟩; refine ⟨rfl, ?_⟩; conv => whnf) | (refine br_intro ?_ ?_ <;> intro hb <;> (try simp only [brs] at hb) <;> conv => whnf) | omega | (refine And.intro ?_ ?_; ((try dsimp only); first | omega | (refine szA rfl ?_; omega) | (refine szB rfl ?_; omega) | (unfold inI64; omega) | exact rfl | (simp only [List.toList_toArray, List.length_cons, List.length_nil]; omega) | (simp only [lns] at *; omega) | decide | (unfold inI64; decide)); conv => whnf) | decide | assumption)
 refine .ret _ ?_
 conv => whnf
 exact ⟨_, ⟨rfl, rfl⟩, rr, trivial⟩
theorem sCmp1 : FSpec Tryz.prog 160 [.buf 1000001] [(1000001, enB [e1])] (fun y r => y = .buf 1000001 ∧ r = [(1000001, enB [e1])]) := by
 refine spec_of hT (C := []) Tryz.func160 rfl Tryz.call160 rfl rfl rfl ?_
 conv => whnf
 repeat' (first | (refine br_intro ?_ ?_ <;> intro hb <;> (try simp only [brs] at hb) <;> conv => whnf) | (refine RegX.rule (id := 6) hT rfl [] oXDRdB160_6 (by decide +kernel) ?_; conv => whnf) | (refine RegX.rule (id := 11) hT rfl [] oXDRdB160_11 (by decide +kernel) ?_; conv => whnf) | omega | (refine And.intro ?_ ?_; ((try dsimp only); first | omega | (refine szA rfl ?_; omega) | (refine szB rfl ?_; omega) | (unfold inI64; omega) | exact rfl | (simp only [List.toList_toArray, List.length_cons, List.length_nil]; omega) | (simp only [lns] at *; omega) | decide | (unfold inI64; decide)); conv => whnf) | decide | assumption)
 refine .ret _ ?_
 conv => whnf
 exact ⟨_, ⟨rfl, rfl⟩, rr, trivial⟩
set_option maxHeartbeats 4000000 in
theorem sMerge1 : FSpec Tryz.prog 84 [.d (ents [e1]), .d (ents [])] [] (fun y r => y = .tup [.d (ents [e1]), .d (.int .i64 0)] ∧ r = []) := by
 have h105 := s105 [0, 0] (by simp)
 have hc := sConcatE [[e1], []] (by simp) (by decide)
 refine spec_of hT (C := []) Tryz.func84 rfl Tryz.call84 rfl rfl rfl ?_
 conv => whnf
 repeat' (first | (refine CallX.exact (sDChk1) rfl rfl ?_; rotate_right; conv => whnf) | (refine CallX.exact (sDChk0) rfl rfl ?_; rotate_right; conv => whnf) | (refine CallX.pure h105 ⟨SV.le_lit (by rfl) (by rfl), trivial⟩ rfl ?_; conv => whnf) | (refine br_intro ?_ ?_ <;> intro hb <;> (try simp only [brs] at hb) <;> conv => whnf) | omega | (refine And.intro ?_ ?_; ((try dsimp only); first | omega | (refine szA rfl ?_; omega) | (refine szB rfl ?_; omega) | (unfold inI64; omega) | exact rfl | (simp only [List.toList_toArray, List.length_cons, List.length_nil]; omega) | (simp only [lns] at *; omega) | decide | (unfold inI64; decide)); conv => whnf) | decide | assumption)
 refine CallX.of hc [(6, 24)] rfl ⟨SV.le_lit (by rfl) (by rfl), trivial⟩ trivial rfl rfl ?_
 rintro x rout ⟨rfl, rfl⟩
 refine ⟨rfl, ?_⟩
 conv => whnf
 repeat' (first | (refine CallX.of sSrt1 [(1000001, 24)] rfl ⟨lr, lr, trivial⟩ ⟨rr, trivial⟩ rfl rfl ?_; rintro x rout ⟨rfl, rfl⟩; refine ⟨rfl, ?_⟩; conv => whnf) | (refine CallX.of sCmp1 [(1000001, 24)] rfl ⟨lr, trivial⟩ ⟨rr, trivial⟩ rfl rfl ?_; rintro x rout ⟨rfl, rfl⟩; refine ⟨rfl, ?_⟩; conv => whnf) | (refine LoopX.run hT (C := []) 18 rfl [7, 8, 30, 31, 32] [24] (fun _ _ h => h) (fun _ h => h) ?_; conv => whnf) | (refine br_intro ?_ ?_ <;> intro hb <;> (try simp only [brs] at hb) <;> conv => whnf) | omega | (refine And.intro ?_ ?_; ((try dsimp only); first | omega | (refine szA rfl ?_; omega) | (refine szB rfl ?_; omega) | (unfold inI64; omega) | exact rfl | (simp only [List.toList_toArray, List.length_cons, List.length_nil]; omega) | (simp only [lns] at *; omega) | decide | (unfold inI64; decide)); conv => whnf) | decide | assumption)
 refine .freeze _ 24 39 4 _ _ rfl (.weak _ ?_)
 conv => whnf
 exact ⟨.tup [.d (ents [e1]), .d (.int .i64 0)], _, SV.le_tup ⟨lr, lr, trivial⟩, ⟨rfl, rfl⟩, trivial⟩
end Go.Proofs.YtgeakdcbpjmkbaaGreatDoor
set_option maxRecDepth 100000
namespace Go.Proofs
open Go.Shelf Go.RowKit
variable {P : Program} {ρ : Ren}
set_option maxHeartbeats 1000000 in
theorem bldString (L : Lays.n169 P ρ) (X : Builder.Extra P ρ) (b g cap : Nat) (p : Value) (cur : Array Value) (l : List UInt8) (w : World) (h0 : l ≠ []) (hbk : w.heap[b]? = some (.cells #[p, .slice (some ⟨g, 0, none⟩) l.length cap] (ρ.t 72) (0, 0)))
 (hg : w.heap[g]? = some (.cells cur (ρ.t 5) (0, 0))) (hnc : l.length ≤ cap) (hcm : cap ≤ maxLen) (hcs : cur.size = cap * 1) (hcell : ∀ j x, l[j]? = some x → w.drew.cell? ((⟨g, 0, none⟩ : Addr).add j) = some (.int .u8 x.toNat)) :
 Calls P (ρ.f 169) #[.pointer (some ⟨b, 0, none⟩)] w fun e w' => e = .returned (.string ⟨l.toArray⟩) ∧ w.grownBy w' (some g) := by
 have hl0 : l.length ≠ 0 := by simpa using h0
 have c1 : w.drew.cell? ⟨b, 1, none⟩ = some (.slice (some ⟨g, 0, none⟩) l.length cap) := by
  have : w.drew.heap[b]? = some (.cells #[p, .slice (some ⟨g, 0, none⟩) l.length cap] (ρ.t 72) (0, 0)) := hbk
  rw [Lib.cell_of_heap this]; rfl
 have hSD : (Builtin.unsafeSliceData_ #[(ρ.t 37)] (ρ.t 127) #[.slice (some ⟨g, 0, none⟩) l.length cap]).run P w.drew = .ok (.pointer (some ⟨g, 0, none⟩)) w.drew :=
  Lib.run_unsafeSliceData_row _ _ _ _ _ _ (by omega)
 have hUS : (Builtin.unsafeString_ #[(ρ.t 127), (ρ.t 3)] (ρ.t 9) #[.pointer (some ⟨g, 0, none⟩), .int .i64 l.length]).run P w.drew = .ok (.string ⟨l.toArray⟩) (w.drew.freeze ⟨g, 0, none⟩ l.length) :=
  Lib.run_unsafeString_row w.drew (ρ.t 127) (ρ.t 3) (ρ.t 9) (ρ.t 5) L.t127 X.cellsByte g cur.size (by have hg' : w.drew.heap[g]? = some (.cells cur (ρ.t 5) (0, 0)) := hg; simp [World.shape?, hg']) l h0 (by omega) (by unfold maxLen at hcm; omega) hcell
 have hgr : w.grownBy (w.drew.freeze ⟨g, 0, none⟩ l.length) (some g) := by
  unfold World.freeze
  rw [if_neg hl0]
  exact ⟨rfl, rfl, rfl, by show w.heap.size ≤ (Array.modify _ _ _).size; rw [Array.size_modify]; exact Nat.le_refl _, fun k _ hk => by
   simp only [Array.getElem?_modify]
   rw [if_neg (fun e => hk (by rw [← e]))]; rfl⟩
 clear hcell hcs hcm hnc hg
 have mixed := L.mixed
 have t72 := L.t72; have a72 := L.a72; have z72 := L.z72; have v72 := L.v72; have u72 := run_underlying L.t72
 have t70 := L.t70; have a70 := L.a70; have z70 := L.z70; have v70 := L.v70; have u70 := run_underlying L.t70
 have t37 := L.t37; have a37 := L.a37; have z37 := L.z37; have v37 := L.v37; have u37 := run_underlying L.t37
 have t127 := L.t127; have a127 := L.a127; have z127 := L.z127; have v127 := L.v127; have u127 := run_underlying L.t127
 have t3 := L.t3; have a3 := L.a3; have z3 := L.z3; have v3 := L.v3; have u3 := run_underlying L.t3
 have t9 := L.t9; have a9 := L.a9; have z9 := L.z9; have v9 := L.v9; have u9 := run_underlying L.t9
 have t5 := X.t5; have a5 := X.a5; have z5 := X.z5; have v5 := X.v5; have u5 := run_underlying X.t5
 go_enter L.f169, Body.n169_ntmps ρ
 go_wp2
 go_region_o
 all_goals (go_wp2; go_ret; exact ⟨rfl, hgr⟩)
end Go.Proofs
namespace Go.Proofs.YtgeakdcbpjmkbaaGreatDoor
open Go Go.Eng Go.Shelf Go.RowKit
theorem ext156 : Builder.Extra Tryz.prog Tryz.lays156_ren := { sizeBuilder := by kernel_rfl, liesBuilder := by kernel_rfl, t5 := Tryz.underlying5, a5 := Tryz.isAgg5, z5 := Tryz.sizeOf5, v5 := Tryz.zeroValue5, infoByte := by kernel_rfl, cellsByte := by kernel_rfl, sizeByte := by kernel_rfl, neB5 := by decide }
theorem ext169 : Builder.Extra Tryz.prog Tryz.lays169_ren := { sizeBuilder := by kernel_rfl, liesBuilder := by kernel_rfl, t5 := Tryz.underlying5, a5 := Tryz.isAgg5, z5 := Tryz.sizeOf5, v5 := Tryz.zeroValue5, infoByte := by kernel_rfl, cellsByte := by kernel_rfl, sizeByte := by kernel_rfl, neB5 := by decide }
theorem lays240 : Lays.n240 Tryz.prog Tryz.lays156_ren := { Tryz.lays156 with }
theorem zJoin (l : List (List UInt8)) (sep : List UInt8) (hl : (Lib.join l sep).length ≤ 2^40) (hn : l.length ≤ 2^40) : FSpec Tryz.prog 94 [.d (strs l), .d (.str sep)] [] (fun x r => x = .d (.str (Lib.join l sep)) ∧ r = []) := by
 refine FSpec.ofBelow Tryz.call94 (fun G β w vs hg hvl hd => ?_)
 match vs, hvl with
 | [u, v], _ =>
   have h0 := hd 0 _ u rfl rfl
   have h1 := hd 1 _ v rfl rfl
   cases h1 with | d _ _ h1 => cases h1 with | str _ =>
   refine ⟨.string ⟨(Lib.join l sep).toArray⟩, fun _ _ => .d _ _ (.str _), ?_⟩
   have e : Tryz.lays156_ren.f 156 = 94 := rfl
   match l, hl, hn, h0 with
   | [], _, _, h0 =>
     cases h0 with | d _ _ h0 =>
     obtain ⟨a, c, rfl⟩ : ∃ a c, u = .slice a 0 c := by
      unfold strs seqD at h0
      generalize hz : ([] : List (List UInt8)).length = z at h0
      have hz : z = 0 := hz.symm
      subst hz
      cases h0 with
      | ronil => exact ⟨_, _, rfl⟩
      | ro _ _ _ a cap => exact ⟨_, _, rfl⟩
     have hcon := Any.strings_Join_none Tryz.lays156 ext156 a c ⟨sep.toArray⟩ w
     rw [e] at hcon
     refine hcon.mono ?_
     rintro e' w' ⟨rfl, rfl⟩
     exact ⟨by rw [Lib.join_nil], Below.refl _ _⟩
   | x :: r, hl, hn, h0 =>
     cases h0 with | d _ _ h0 =>
     unfold strs seqD at h0
     generalize hz : (x :: r).length = z at h0
     cases h0 with
     | ronil => simp at hz
     | ro _ _ _ a cap vals hs hcap hmax hl2 hc hd2 =>
       obtain ⟨bk, o, sp⟩ := a
       simp only at hs; subst hs
       have hcell : ∀ (j : Nat) y, (x :: r)[j]? = some y → w.cell? ⟨bk, o + j, none⟩ = some (.string ⟨y.toArray⟩) := by
        intro j y hy
        have hj : j < z := by rw [← hz]; exact (List.getElem?_eq_some_iff.1 hy).1
        have hx : (rowF sF [] (x :: r) j)[0]? = some (DV.str y) := by simp [rowF, sF, List.getD_eq_getElem?_getD, hy]
        obtain ⟨cs, e', fr, q1, q2, q3⟩ := hc j 0 _ hj hx
        have q4 := hd2 j 0 _ hj hx
        generalize vals j 0 = vv at q3 q4
        cases q4 with | str =>
        rw [Eng.Addr.add_block] at q1
        have := hg _ _ q1
        rw [Addr.add_lit] at q3
        simp only [Nat.mul_one, Nat.add_zero] at q3
        simp only at this
        simp [World.cell?, this, q3]
       have hbk : bk < w.heap.size := by
        have hx : (rowF sF [] (x :: r) 0)[0]? = some (DV.str x) := by simp [rowF, sF]
        obtain ⟨cs, e', fr, q1, _, _⟩ := hc 0 0 _ (by rw [← hz]; simp) hx
        rw [Eng.Addr.add_block] at q1
        exact (Array.getElem?_eq_some_iff.1 (hg _ _ q1)).1
       cases r with
       | nil =>
         have hz : z = 1 := hz.symm
         subst hz
         have hcon := Any.strings_Join_one Tryz.lays156 ext156 bk o cap ⟨x.toArray⟩ ⟨sep.toArray⟩ w (by simpa using hcell 0 x rfl)
         rw [e] at hcon
         refine hcon.mono ?_
         rintro e' w' ⟨rfl, rfl⟩
         exact ⟨by rw [Lib.join_one], Below.refl _ _⟩
       | cons y r =>
         have hmm : ((x :: y :: r).map fun z : List UInt8 => (⟨z.toArray⟩ : ByteArray)).map (·.data.toList) = x :: y :: r := by rw [List.map_map]; simp [Function.comp_def]
         have hln : ((x :: y :: r).map fun z : List UInt8 => (⟨z.toArray⟩ : ByteArray)).length = z := by rw [List.length_map]; exact hz
         have hcon := Any.strings_Join_many Tryz.lays156 ext156 bk o cap ((x :: y :: r).map fun z => ⟨z.toArray⟩) ⟨sep.toArray⟩ w (fun j q hq => by
          rw [List.getElem?_map] at hq
          cases hy : (x :: y :: r)[j]? with
          | none => rw [hy] at hq; cases hq
          | some t => rw [hy] at hq; cases hq; exact hcell j t hy) hbk (by simp) (by rw [List.length_map]; omega) (by rw [hln]; exact hcap) (by rw [hmm]; simpa using Nat.le_trans hl (by decide))
         rw [e, hmm, hln] at hcon
         exact hcon
theorem FSpec.same {f : FuncId} {args : List SV} {rin : List (Nat × Res)} {y : SV} (henter : ∀ args w, (callFunc f args).run Tryz.prog w = .ok (.enter f args) w)
 (h : ∀ (G : Hp) (β : Env) (w : World) (vs : List Value), Pre G β w (lookL rin) → vs.length = args.length → (∀ (i : Nat) x v, args[i]? = some x → vs[i]? = some v → SV.Den G β x v) →
   ∃ u, SV.Den G β y u ∧ Calls Tryz.prog f vs.toArray w fun e w' => e = .returned u ∧ w' = w) : FSpec Tryz.prog f args rin (fun x r => x = y ∧ r = rin) := by
 refine ⟨henter, fun G β w vs hpre hl hd => ?_⟩
 obtain ⟨u, hu, hc⟩ := h G β w vs hpre hl hd
 refine hc.mono ?_
 rintro e w' ⟨rfl, rfl⟩
 exact ⟨u, y, _, G, β, rfl, ⟨rfl, rfl⟩, ⟨Hp.le_refl G, Env.le_refl β, hpre.gw, fun b o e => .inl e, Keep.refl _ _, hpre.rs, hpre.dj, fun d r v b h1 h2 h3 h4 => ⟨hpre.og d r v b h1 h2 h3 h4, .inl ⟨d, r, v, h1, h2, h3, h4⟩⟩⟩, hu⟩
def bNew : Res := .cells 98 [.d (.opq (.pointer none)), .d .nilsl]
def bCel (d : Nat) : Res := .cells 98 [.ptr 1000001 0, .buf d]
theorem zCopyU (e k n : Nat) (g : Nat → List DV) : FSpec Tryz.prog 151 [.ptr 1000001 0] [(1000001, bCel 1000002), (1000002, .buf e k n g)] (fun x r => x = .tup [] ∧ r = [(1000001, bCel 1000002), (1000002, .buf e k n g)]) := by
 refine FSpec.same Tryz.call151 (fun G β w vs hpre hvl hd => ?_)
 match vs, hvl with
 | [u], _ =>
   have h0 := hd 0 _ u rfl rfl
   cases h0 with | ptr _ _ b hb =>
   obtain ⟨b', cs, hb', hh, hlen, hden⟩ := hpre.rs 1000001 (bCel 1000002) (by simp [lookL])
   rw [hb] at hb'; cases hb'
   match cs, hlen with
   | [c0, c1], _ =>
     have q := hden 0 _ c0 rfl rfl
     cases q with | ptr _ _ b2 hb2 =>
     rw [hb] at hb2; cases hb2
     have hcon := Any.Builder_copyCheck_used lays240 ext156.toX72 b w (by simp [World.cell?, hh])
     have e : Tryz.lays156_ren.f 240 = 151 := rfl
     rw [e] at hcon
     exact ⟨.tuple #[], .tup [] [] rfl (by simp), hcon⟩
theorem zCopyN : FSpec Tryz.prog 151 [.ptr 1000001 0] [(1000001, bNew)] (fun x r => x = .tup [] ∧ r = [(1000001, .cells 98 [.ptr 1000001 0, .d .nilsl])]) := by
 refine ⟨Tryz.call151, fun G β w vs hpre hvl hd => ?_⟩
 match vs, hvl with
 | [u], _ =>
   have h0 := hd 0 _ u rfl rfl
   cases h0 with | ptr _ _ b hb =>
   have hR : lookL [((1000001 : Nat), bNew)] 1000001 = some bNew := by simp [lookL]
   have one : ∀ {r0 : Res} d r, lookL [((1000001 : Nat), r0)] d = some r → d = 1000001 ∧ r = r0 := by
    intro r0 d r hr
    simp only [lookL] at hr
    cases hq : Nat.beq d 1000001 with
    | false => rw [hq] at hr; cases hr
    | true => rw [hq] at hr; cases hr; exact ⟨Nat.eq_of_beq_eq_true hq, rfl⟩
   obtain ⟨b', cs, hb', hh, hlen, hden⟩ := hpre.rs 1000001 bNew hR
   rw [hb] at hb'; cases hb'
   match cs, hlen with
   | [c0, c1], _ =>
     have q0 := hden 0 _ c0 rfl rfl
     have q1 := hden 1 _ c1 rfl rfl
     cases q0 with | d _ _ q0 => cases q0 with | opq _ _ =>
     cases q1 with | d _ _ q1 => cases q1 with | nilsl =>
     have hcon := Any.Builder_copyCheck_fresh lays240 ext156.toX72 b w (by simp [World.cell?, hh]) (by simp [World.shape?, hh]; rfl) (by simp [World.frozen?, hh])
     have e : Tryz.lays156_ren.f 240 = 151 := rfl
     rw [e] at hcon
     refine hcon.mono ?_
     rintro e' w' ⟨rfl, rfl⟩
     have hTin : Tin w β (lookL [((1000001 : Nat), bNew)]) b := ⟨1000001, _, _, hR, rfl, hb, .of rfl⟩
     have hGb : G b = none := hpre.og _ _ _ b hR rfl hb (.of rfl)
     have hother : ∀ k, k ≠ b → (w.setCell ⟨b, 0, none⟩ (.pointer (some ⟨b, 0, none⟩))).heap[k]? = w.heap[k]? := fun k hk => Below.heap_setCell w ⟨b, 0, none⟩ _ k hk
     have hnew : (w.setCell ⟨b, 0, none⟩ (.pointer (some ⟨b, 0, none⟩))).heap[b]? = some (.cells #[.pointer (some ⟨b, 0, none⟩), .slice none 0 0] 98 (0, 0)) := by
      simp [World.setCell, Array.getElem?_modify, hh]
     refine ⟨_, .tup [], _, G, β, rfl, ⟨rfl, rfl⟩, ⟨Hp.le_refl G, Env.le_refl β, fun k o hk => ?_, fun k o hk => .inl hk, ⟨rfl, rfl, rfl, by simp [World.setCell], fun k _ hT => hother k (fun q => by subst q; exact hT hTin)⟩, fun d r hr => ?_, fun d d' r r' _ _ _ e1 e2 _ _ _ _ _ _ => ?_, fun d r u k e1 _ hu hbk => ?_⟩, .tup [] [] rfl (by simp)⟩
     · rw [hother k (fun q => by subst q; rw [hGb] at hk; cases hk)]; exact hpre.gw k o hk
     · obtain ⟨rfl, rfl⟩ := one d r hr
       refine ⟨b, [.pointer (some ⟨b, 0, none⟩), .slice none 0 0], hb, by simpa using hnew, rfl, fun i x v hx hv => ?_⟩
       match i, hx, hv with
       | 0, hx, hv => simp at hx hv; subst hx; subst hv; exact .ptr _ _ _ hb
       | 1, hx, hv => simp at hx hv; subst hx; subst hv; exact .d _ _ .nilsl
     · rw [(one d r e1).1, (one d' r' e2).1]
     · obtain ⟨rfl, rfl⟩ := one d r e1
       rw [hb] at hu; cases hu
       cases hbk.plain rfl
       exact ⟨hGb, .inl hTin⟩
end Go.Proofs.YtgeakdcbpjmkbaaGreatDoor
set_option maxRecDepth 20000
namespace Go.Proofs.YtgeakdcbpjmkbaaGreatDoor
open Go Go.Eng Go.Shelf Go.RowKit
def bytB (bs : List UInt8) : Res := .buf 5 1 bs.length fun i => byteR (bs.getD i 0)
theorem le_bytApp {bs s : List UInt8} : Res.le (.buf 5 1 (bs.length + s.length) (appGet bs.length (fun i => byteR (bs.getD i 0)) fun i => byteR (s.getD i 0))) (bytB (bs ++ s)) := by
 refine Res.le_buf (by simp) (fun i hi => ?_)
 rcases Nat.lt_or_ge i bs.length with q | q
 · rw [appGet_lt q]; simp [List.getD_eq_getElem?_getD, List.getElem?_append_left q]
 · rw [appGet_ge q]; simp [List.getD_eq_getElem?_getD, List.getElem?_append_right q]
theorem le_bytNew {s : List UInt8} : Res.le (.buf 5 1 (0 + s.length) fun i => byteR (s.getD i 0)) (bytB s) := Res.le_buf (by simp) (fun i hi => rfl)
theorem zStrN : FSpec Tryz.prog 68 [.ptr 1000001 0] [(1000001, bNew)] (fun x r => x = .d (.str []) ∧ r = []) := by
 refine ⟨Tryz.call68, fun G β w vs hpre hvl hd => ?_⟩
 match vs, hvl with
 | [u], _ =>
   have h0 := hd 0 _ u rfl rfl
   cases h0 with | ptr _ _ b hb =>
   obtain ⟨b', cs, hb', hh, hlen, hden⟩ := hpre.rs 1000001 bNew (by simp [lookL])
   rw [hb] at hb'; cases hb'
   match cs, hlen with
   | [c0, c1], _ =>
     have q0 := hden 0 _ c0 rfl rfl
     have q1 := hden 1 _ c1 rfl rfl
     cases q0 with | d _ _ q0 => cases q0 with | opq _ _ =>
     cases q1 with | d _ _ q1 => cases q1 with | nilsl =>
     have hcon := Any.Builder_String_nil Tryz.lays169 ext169 w.heap.size b (.pointer none) w (show w.heap[b]? = some (.cells #[.pointer none, .slice none 0 0] 98 (0, 0)) from by simpa using hh)
     have e : Tryz.lays169_ren.f 169 = 68 := rfl
     rw [e] at hcon
     refine hcon.mono ?_
     rintro e' w' ⟨rfl, hb2⟩
     refine ⟨_, .d (.str []), [], G, β, rfl, ⟨rfl, rfl⟩, ⟨Hp.le_refl G, Env.le_refl β, fun k o hk => ?_, fun k o hk => .inl hk, ⟨hb2.os, hb2.tape, hb2.output, hb2.size, fun k hk _ => hb2.block k hk⟩, fun d r hr => (by cases hr), fun d d' r r' _ _ _ e1 => (by cases e1), fun d r u k e1 => (by cases e1)⟩, .d _ _ (.str [])⟩
     have := hpre.gw k o hk
     rw [hb2.block k (Array.getElem?_eq_some_iff.1 this).1]; exact this
theorem zStrB (bs : List UInt8) (A : SV) : FSpec Tryz.prog 68 [.ptr 1000001 0] [(1000001, .cells 98 [A, .buf 1000002]), (1000002, bytB bs)] (fun x r => x = .d (.str bs) ∧ r = []) := by
 refine ⟨Tryz.call68, fun G β w vs hpre hvl hd => ?_⟩
 match vs, hvl with
 | [u], _ =>
   have h0 := hd 0 _ u rfl rfl
   cases h0 with | ptr _ _ b hb =>
   obtain ⟨b', cs, hb', hh, hlen, hden⟩ := hpre.rs 1000001 (.cells 98 [A, .buf 1000002]) (by simp [lookL])
   rw [hb] at hb'; cases hb'
   have hR2 : lookL [((1000001 : Nat), Res.cells 98 [A, .buf 1000002]), (1000002, bytB bs)] 1000002 = some (bytB bs) := rfl
   obtain ⟨v, xs, hv, hown, _, _, hrow⟩ := hpre.rs 1000002 _ hR2
   match cs, hlen with
   | [c0, c1], _ =>
     have q1 := hden 1 _ c1 rfl rfl
     cases q1 with | buf _ _ hb1 _ =>
     rw [hv] at hb1; cases hb1
     have hh : w.heap[b]? = some (.cells #[c0, v] 98 (0, 0)) := by simpa using hh
     have e : Tryz.lays169_ren.f 169 = 68 := rfl
     have fin : ∀ (row : Option Nat), (∀ k, row = some k → blk v = some k) → (Calls Tryz.prog 68 #[.pointer (some ⟨b, 0, none⟩)] w fun e w' => e = .returned (.string ⟨bs.toArray⟩) ∧ w.grownBy w' row) →
      Calls Tryz.prog 68 #[.pointer (some ⟨b, 0, none⟩)] w fun e w' => ∃ v' x rout G' β', e = .returned v' ∧ (x = .d (.str bs) ∧ rout = []) ∧ Out G β w (lookL [(1000001, .cells 98 [A, .buf 1000002]), (1000002, bytB bs)]) G' β' w' (lookL rout) ∧ SV.Den G' β' x v' := by
      intro row hrow' hc
      refine hc.mono ?_
      rintro e' w' ⟨rfl, hgb⟩
      refine ⟨_, .d (.str bs), [], G, β, rfl, ⟨rfl, rfl⟩, ⟨Hp.le_refl G, Env.le_refl β, fun k o hk => ?_, fun k o hk => .inl hk, ⟨hgb.os, hgb.tape, hgb.output, hgb.size, fun k hk hT => ?_⟩, fun d r hr => (by cases hr), fun d d' r r' _ _ _ e1 => (by cases e1), fun d r u k e1 => (by cases e1)⟩, .d _ _ (.str bs)⟩
      · have := hpre.gw k o hk
        rw [hgb.block k (Array.getElem?_eq_some_iff.1 this).1 (fun q => by have := hpre.og 1000002 _ v k hR2 rfl hv (.of (hrow' k q.symm)); rw [hk] at this; cases this)]; exact this
      · exact hgb.block k hk (fun q => hT ⟨1000002, _, _, hR2, rfl, hv, .of (hrow' k q.symm)⟩)
     have fromB : (Calls Tryz.prog 68 #[.pointer (some ⟨b, 0, none⟩)] w fun e w' => e = .returned (.string ⟨bs.toArray⟩) ∧ Below w.heap.size w w') → Calls Tryz.prog 68 #[.pointer (some ⟨b, 0, none⟩)] w fun e w' => e = .returned (.string ⟨bs.toArray⟩) ∧ w.grownBy w' none :=
      fun hc => hc.mono fun e w' ⟨h1, h2⟩ => ⟨h1, ⟨h2.os, h2.tape, h2.output, h2.size, fun k hk _ => h2.block k hk⟩⟩
     rcases hown.2 with ⟨rfl, hz⟩ | ⟨g, cap, cur, rfl, hbg, hg, hnc, hcm, hcs, htake⟩
     · have : bs = [] := List.eq_nil_of_length_eq_zero hz
       subst this
       have hcon := Any.Builder_String_nil Tryz.lays169 ext169 w.heap.size b c0 w hh
       rw [e] at hcon
       exact fin none (by simp) (fromB hcon)
     · by_cases hb0 : bs = []
       · subst hb0
         by_cases hc0 : cap = 0
         · subst hc0
           have hcon := Any.Builder_String_noroom Tryz.lays169 ext169 w.heap.size b g c0 cur w (Nat.le_refl _) hh hg
           rw [e] at hcon
           exact fin none (by simp) (fromB hcon)
         · have hcon := Any.Builder_String_room Tryz.lays169 ext169 w.heap.size b g cap c0 w hc0 hh
           rw [e] at hcon
           exact fin none (by simp) (fromB hcon)
       · have hcells := hown.cells (g := g) rfl
         have hcon := bldString Tryz.lays169 ext169 b g cap c0 cur bs w hb0 hh hg hnc hcm hcs (fun j x hx => by
          have hj : j < bs.length := (List.getElem?_eq_some_iff.1 hx).1
          obtain ⟨u, hu, hud⟩ := hrow j 0 (.int .u8 ((bs.getD j 0).toNat : Int)) hj rfl
          cases hud with | int =>
          rw [Nat.mul_one, Nat.add_zero] at hu
          have := hcells j _ hu
          have hx' : bs.getD j 0 = x := by simp [List.getD_eq_getElem?_getD, hx]
          rw [hx'] at this
          exact this)
         rw [e] at hcon
         exact fin (some g) (fun k hk => by cases hk; rfl) hcon
theorem zWrN (s : List UInt8) (hs : s.length ≤ 2^36) : FSpec Tryz.prog 65 [.ptr 1000001 0, .d (.str s)] [(1000001, bNew)] (fun x r => x = .tup [.d (.int .i64 s.length), .d (.opq .nilIface)] ∧ r = [(1000001, bCel 14), (14, bytB s)]) := by
 refine spec_of hT (C := []) Tryz.func65 rfl Tryz.call65 rfl rfl rfl ?_
 conv => whnf
 repeat' (first | (refine CallX.of zCopyN [(1000001, 1000001)] rfl ⟨lr, trivial⟩ ⟨rr, trivial⟩ rfl rfl ?_; rintro x rout ⟨rfl, rfl⟩; refine ⟨rfl, ?_⟩; conv => whnf) | (refine br_intro ?_ ?_ <;> intro hb <;> (try simp only [brs] at hb) <;> conv => whnf) | omega | (refine And.intro ?_ ?_; ((try dsimp only); first | omega | (refine szA rfl ?_; omega) | (refine szB rfl ?_; omega) | (unfold inI64; omega) | exact rfl | (simp only [List.toList_toArray, List.length_cons, List.length_nil]; omega) | (simp only [lns] at *; omega) | decide | (unfold inI64; decide)); conv => whnf) | decide | assumption)
 refine .ret _ ?_
 conv => whnf
 refine ⟨[(1000001, bCel 14), (14, bytB s)], ⟨congrArg SV.tup ?_, rfl⟩, rr, le_bytNew, trivial⟩
 repeat' (refine cons_eq ?_ ?_)
 all_goals (conv => lhs; whnf)
theorem zWrB (bs s : List UInt8) (hs : bs.length + s.length ≤ 2^36) : FSpec Tryz.prog 65 [.ptr 1000001 0, .d (.str s)] [(1000001, bCel 1000002), (1000002, bytB bs)] (fun x r => x = .tup [.d (.int .i64 s.length), .d (.opq .nilIface)] ∧ r = [(1000001, bCel 14), (14, bytB (bs ++ s))]) := by
 refine spec_of hT (C := []) Tryz.func65 rfl Tryz.call65 rfl rfl rfl ?_
 conv => whnf
 repeat' (first | (refine CallX.of (zCopyU 5 1 bs.length fun i => byteR (bs.getD i 0)) [(1000001, 1000001), (1000002, 1000002)] rfl ⟨lr, trivial⟩ ⟨rr, rr, trivial⟩ rfl rfl ?_; rintro x rout ⟨rfl, rfl⟩; refine ⟨rfl, ?_⟩; conv => whnf) | (refine br_intro ?_ ?_ <;> intro hb <;> (try simp only [brs] at hb) <;> conv => whnf) | omega | (refine And.intro ?_ ?_; ((try dsimp only); first | omega | (refine szA rfl ?_; omega) | (refine szB rfl ?_; omega) | (unfold inI64; omega) | exact rfl | (simp only [List.toList_toArray, List.length_cons, List.length_nil]; omega) | (simp only [lns] at *; omega) | decide | (unfold inI64; decide)); conv => whnf) | decide | assumption)
 refine .ret _ ?_
 conv => whnf
 refine ⟨[(1000001, bCel 14), (14, bytB (bs ++ s))], ⟨congrArg SV.tup ?_, rfl⟩, rr, le_bytApp, trivial⟩
 repeat' (refine cons_eq ?_ ?_)
 all_goals (conv => lhs; whnf)
abbrev Part := Int ⊕ List UInt8
def partF : Part → List DV
 | .inl n => [.ifc 3 (.int .i64 n)]
 | .inr s => [.ifc 9 (.str s)]
def partS : Part → List UInt8
 | .inl n => Lib.itoa n
 | .inr s => s
def part0 : Part := .inr []
def partOk (p : Part) : Prop := match p with | .inl n => -9223372036854775808 ≤ n ∧ n ≤ 9223372036854775807 | .inr _ => True
theorem zWJoin (l : List Part) (hl : l.length ≤ 2^20) (hk : ∀ p ∈ l, partOk p) (hj : (Lib.join (l.map partS) [32]).length ≤ 2^40) : FSpec Tryz.prog 66 [.d (seqD 1 partF part0 l)] kx (fun x r => x = .d (.str (Lib.join (l.map partS) [32])) ∧ r = kx) := by
 refine spec_of hT (C := []) Tryz.func66 rfl Tryz.call66 rfl rfl rfl ?_
 conv => whnf
 refine LoopX.rule hT (C := []) (ι := Nat) (fun i => i ≤ l.length) (fun i => mkSt [(3, .buf 3), (8, .d (seqD 1 partF part0 l)), (9, .d (.int .i64 l.length)), (10, .d (.int .i64 i))] [(1000009, KX), (3, seqB 9 1 sF [] ((l.take i).map partS))]) (fun i => l.length - i) 0 (by simp) ?_ ?_
 · exact (Entails.nil 3 3 9 1 (rowF sF [] []) rfl rfl (by decide)).trans (by (refine Entails.mk' [(1000009, 1000009), (3, 3)] rfl rfl ?_ ?_ <;> repeat' (first | exact True.intro | exact lr | exact rr | exact SV.le_int (by omega) | exact SV.le_any _ | refine And.intro ?_ ?_)); done)
 intro i hi
 conv => whnf
 repeat' (first | (refine br_intro ?_ ?_ <;> intro hb <;> (try simp only [brs] at hb) <;> conv => whnf) | omega | (refine And.intro ?_ ?_; ((try dsimp only); first | omega | (refine szA rfl ?_; omega) | (refine szB rfl ?_; omega) | (unfold inI64; omega) | exact rfl | (simp only [List.toList_toArray, List.length_cons, List.length_nil]; omega) | (simp only [lns] at *; omega) | decide | (unfold inI64; decide)); conv => whnf) | decide | assumption)
 · have hlt : i < l.length := by simpa using hb
   have hln : ((l.take i).map partS).length = i := by simp; omega
   have hsn : (l.take (i + 1)).map partS = (l.take i).map partS ++ [partS (l.getD i part0)] := by
    have : l.take (i + 1) = l.take i ++ [l.getD i part0] := by rw [List.take_add_one]; simp [List.getD_eq_getElem?_getD, hlt]
    rw [this, List.map_append]; rfl
   have hpk := hk _ (getD_mem (x := part0) hlt)
   have hpf : rowF partF part0 l (i : Int).toNat = partF (l.getD i part0) := rfl
   cases hp : l.getD i part0 with
   | inl n =>
     rw [hp] at hpk hsn
     rw [hpf, hp]
     conv => whnf
     repeat' (first | (refine CallX.kn (zItoa n hpk.1 hpk.2) rfl rfl rfl rfl ?_; conv => whnf) | (refine br_intro ?_ ?_ <;> intro hb <;> (try simp only [brs] at hb) <;> conv => whnf) | omega | (refine And.intro ?_ ?_; ((try dsimp only); first | omega | (refine szA rfl ?_; omega) | (refine szB rfl ?_; omega) | (unfold inI64; omega) | exact rfl | (simp only [List.toList_toArray, List.length_cons, List.length_nil]; omega) | (simp only [lns] at *; omega) | decide | (unfold inI64; decide)); conv => whnf) | decide | assumption)
     refine ⟨i + 1, by omega, by omega, ?_⟩
     rw [hsn]
     exact (by (refine Entails.mk' [(1000009, 1000009), (3, 22)] rfl rfl ?_ ?_ <;> repeat' (first | exact True.intro | exact lr | exact rr | (exact Res.le_snocF rfl) | exact SV.le_int (by omega) | exact SV.le_any _ | refine And.intro ?_ ?_)); done)
   | inr s =>
     rw [hp] at hsn
     rw [hpf, hp]
     conv => whnf
     repeat' (first | (refine br_intro ?_ ?_ <;> intro hb <;> (try simp only [brs] at hb) <;> conv => whnf) | omega | (refine And.intro ?_ ?_; ((try dsimp only); first | omega | (refine szA rfl ?_; omega) | (refine szB rfl ?_; omega) | (unfold inI64; omega) | exact rfl | (simp only [List.toList_toArray, List.length_cons, List.length_nil]; omega) | (simp only [lns] at *; omega) | decide | (unfold inI64; decide)); conv => whnf) | decide | assumption)
     refine ⟨i + 1, by omega, by omega, ?_⟩
     rw [hsn]
     exact (by (refine Entails.mk' [(1000009, 1000009), (3, 29)] rfl rfl ?_ ?_ <;> repeat' (first | exact True.intro | exact lr | exact rr | (exact Res.le_snocF rfl) | exact SV.le_int (by omega) | exact SV.le_any _ | refine And.intro ?_ ?_)); done)
 · have hi2 : i = l.length := by omega
   subst hi2
   rw [List.take_length]
   refine CallX.freeze _ _ _ _ 3 9 1 _ _ rfl rfl ?_
   conv => whnf
   repeat' (first | (refine CallX.exact (zJoin (l.map partS) [32] hj (by simp; omega)) rfl rfl ?_; rotate_right; conv => whnf) | (refine br_intro ?_ ?_ <;> intro hb <;> (try simp only [brs] at hb) <;> conv => whnf) | omega | (refine And.intro ?_ ?_; ((try dsimp only); first | omega | (refine szA rfl ?_; omega) | (refine szB rfl ?_; omega) | (unfold inI64; omega) | exact rfl | (simp only [List.toList_toArray, List.length_cons, List.length_nil]; omega) | (simp only [lns] at *; omega) | decide | (unfold inI64; decide)); conv => whnf) | decide | assumption)
   refine .ret _ ?_
   conv => whnf
   refine ⟨kx, ⟨?_, rfl⟩, rr, trivial⟩
   conv => lhs; whnf
def isAtoi (s : List UInt8) : Bool := match Lib.atoiAll s with | .ok n => Lib.itoa n == s | _ => false
def numN (s : List UInt8) : Int := match Lib.atoiAll s with | .ok n => n | .range => Lib.atoiSat s | _ => 0
def numOk (s : List UInt8) : Bool := isAtoi s && decide ((Lib.trimPrefix s [45]).length ≤ 9)
def digs : List UInt8 := [48, 49, 50, 51, 52, 53, 54, 55, 56, 57]
theorem digit_mem (u : Nat) (h : u < 10) : digs.contains (UInt8.ofNat (48 + u)) = true := by
 have : ∀ u, u < 10 → digs.contains (UInt8.ofNat (48 + u)) = true := by decide
 exact this u h
theorem dec_digits : ∀ (n u : Nat), u < n → Lib.decDigits u ≠ [] ∧ ∀ b ∈ Lib.decDigits u, digs.contains b = true := by
 intro n
 induction n with
 | zero => intro u h; omega
 | succ n ih =>
   intro u hu
   rw [Lib.decDigits]
   split
   · rename_i h
     exact ⟨by simp, fun b hb => by rw [List.mem_singleton] at hb; subst hb; exact digit_mem u h⟩
   · rename_i h
     refine ⟨by simp, fun b hb => ?_⟩
     rcases List.mem_append.1 hb with q | q
     · exact (ih (u / 10) (by omega)).2 b q
     · rw [List.mem_singleton] at q; subst q; exact digit_mem _ (Nat.mod_lt _ (by decide))
theorem trim_itoa (n : Int) : Lib.trimPrefix (Lib.itoa n) [45] = Lib.decDigits n.natAbs := by
 unfold Lib.itoa
 split
 · rename_i h
   simp [Lib.trimPrefix, Lib.hasPrefix]
 · rename_i h
   have hn : n.toNat = n.natAbs := by omega
   rw [hn]
   obtain ⟨h1, h2⟩ := dec_digits (n.natAbs + 1) n.natAbs (by omega)
   cases hd : Lib.decDigits n.natAbs with
   | nil => exact absurd hd h1
   | cons b r =>
     have hb := h2 b (by rw [hd]; exact List.mem_cons_self)
     have hne : b ≠ 45 := fun e => by subst e; revert hb; decide
     have hne' : ¬ 45 = b := fun e => hne e.symm
     simp [Lib.trimPrefix, Lib.hasPrefix, hne']
theorem isAtoi_digits {s : List UInt8} (h : isAtoi s = true) : Lib.trimPrefix s [45] ≠ [] ∧ onlyB (Lib.trimPrefix s [45]) digs = true := by
 unfold isAtoi at h
 split at h
 · rename_i n hn
   have he : Lib.itoa n = s := by simpa using h
   rw [← he, trim_itoa]
   obtain ⟨h1, h2⟩ := dec_digits (n.natAbs + 1) n.natAbs (by omega)
   exact ⟨h1, List.all_eq_true.2 h2⟩
 · cases h
def badNum (s : List UInt8) : Bool := ((Lib.trimPrefix s [45] == []) || decide (9 < (Lib.trimPrefix s [45]).length)) || !onlyB (Lib.trimPrefix s [45]) digs
theorem numOk_eq (s : List UInt8) : (if badNum s = true then false else isAtoi s) = numOk s := by
 unfold numOk badNum
 cases h : isAtoi s with
 | false => simp
 | true =>
   obtain ⟨h1, h2⟩ := isAtoi_digits h
   have h3 : (Lib.trimPrefix s [45] == []) = false := by simpa using h1
   rw [h2, h3]
   simp
   by_cases h9 : 9 < (Lib.trimPrefix s [45]).length
   · simp [h9]
   · simp [h9]; omega
theorem dec_bd : ∀ (k u : Nat), (Lib.decDigits u).length ≤ k → u < 10 ^ k := by
 intro k
 induction k with
 | zero =>
   intro u h
   have := (dec_digits (u + 1) u (by omega)).1
   exact absurd (List.eq_nil_of_length_eq_zero (by omega)) this
 | succ k ih =>
   intro u h
   rw [Lib.decDigits] at h
   split at h
   · rename_i hu
     have : 1 ≤ 10 ^ k := Nat.one_le_pow _ _ (by decide)
     rw [Nat.pow_succ]; omega
   · have := ih (u / 10) (by simp at h; omega)
     rw [Nat.pow_succ]; omega
theorem numN_bd {s : List UInt8} (h : numOk s = true) : -10 ^ 9 ≤ numN s ∧ numN s ≤ 10 ^ 9 := by
 unfold numOk isAtoi at h
 rw [Bool.and_eq_true] at h
 unfold numN
 split at h
 · rename_i n hn
   have he : Lib.itoa n = s := by simpa using h.1
   have h9 := of_decide_eq_true h.2
   rw [← he, trim_itoa] at h9
   have := dec_bd 9 _ h9
   rw [hn]
   show -10 ^ 9 ≤ n ∧ n ≤ 10 ^ 9
   omega
 · cases h.1
def lnsF {α : Type} (tk : List UInt8 → α → Bool × α) : Nat → Nat → List UInt8 → α → (Nat × Bool) × α
 | 0, at', _, a => ((at', false), a)
 | n + 1, at', t, a => if t = [] then ((0, true), a) else
    if (Lib.cut t [10]).2.2 = false then ((at', false), a) else
    if (tk (Lib.cut t [10]).1 a).1 = false then ((at', false), (tk (Lib.cut t [10]).1 a).2) else lnsF tk n (at' + 1) (Lib.cut t [10]).2.1 (tk (Lib.cut t [10]).1 a).2
theorem cut_len {t : List UInt8} (h : (Lib.cut t [10]).2.2 = true) : (Lib.cut t [10]).1.length + (Lib.cut t [10]).2.1.length + 1 = t.length := by
 have hge := Lib.index_ge t [10]
 unfold Lib.cut at h ⊢
 split at h
 · rename_i h0
   rw [if_pos h0]
   have hr := Lib.index_room t [10] h0
   simp only [List.length_take, List.length_drop, List.length_singleton] at hr ⊢
   omega
 · cases h
theorem cut_le (t : List UInt8) : (Lib.cut t [10]).1.length ≤ t.length := by
 unfold Lib.cut
 split
 · simp; omega
 · simp
theorem lxF_pos {p : Nat → Bool} {n k : Nat} (hk : k < n) (h : p k = true) : 0 ≤ ixF p n := by
 have hb := ixF_bd (p := p) (n := n)
 rcases Int.lt_or_le (ixF p n) 0 with q | q
 · exfalso
   have hn : ∀ m, ixF p m < 0 → ∀ j, j < m → p j = false := by
    intro m
    induction m with
    | zero => intro _ j hj; omega
    | succ m ih =>
      intro hm j hj
      rw [ixF] at hm
      split at hm
      · rename_i hz
        by_cases hjm : j = m
        · subst hjm
          split at hm
          · omega
          · rename_i hf; simpa using hf
        · exact ih (by omega) j (by omega)
      · rename_i hz; have := (ixF_bd (p := p) (n := m)).1; omega
   rw [hn n q k hk] at h
   cases h
 · exact q
theorem ix_mem (l : List (List UInt8)) (v : List UInt8) : decide (0 ≤ ixF (fun i => l.getD i [] == v) l.length) = decide (v ∈ l) := by
 rw [decide_eq_decide]
 constructor
 · intro h
   have := ixF_bd (p := fun i => l.getD i [] == v) (n := l.length)
   rw [← eq_of_beq (this.2.2 h)]
   exact getD_mem (by omega)
 · intro h
   obtain ⟨j, hj, rfl⟩ := mem_getD (d := []) h
   exact lxF_pos hj (by simp)
theorem lz143 (l : List (List UInt8)) (hl : l.length ≤ 2^40) (v : List UInt8) : FSpec Tryz.prog 143 [.d (strs l), .d (.str v)] [] (fun x r => x = .d (.int .i64 (ixF (fun i => l.getD i [] == v) l.length)) ∧ r = []) := by
 refine spec_of hT (C := []) Tryz.func143 rfl Tryz.call143 rfl rfl rfl ?_
 conv => whnf
 refine LoopX.rule hT (C := []) (ι := Nat) (fun i => i ≤ l.length ∧ ∀ j, j < i → (l.getD j [] == v) = false) (fun i => mkSt [(0, .d (strs l)), (1, .d (.str v)), (7, .d (.int .i64 l.length)), (8, .d (.int .i64 i))] []) (fun i => l.length - i) 0 ⟨by simp, fun j hj => absurd hj (Nat.not_lt_zero j)⟩ (by (refine Entails.mk' [] rfl rfl ?_ ?_ <;> repeat' (first | exact True.intro | exact lr | exact rr | exact SV.le_int (by omega) | exact SV.le_any _ | refine And.intro ?_ ?_)); done) ?_
 rintro i ⟨p1, p2⟩
 have e1 : (i : Int).toNat = i := Int.toNat_natCast i
 conv => whnf
 repeat' (first | (refine br_intro ?_ ?_ <;> intro hb <;> (try simp only [brs] at hb) <;> conv => whnf) | omega | (refine And.intro ?_ ?_; ((try dsimp only); first | omega | (refine szA rfl ?_; omega) | (refine szB rfl ?_; omega) | (unfold inI64; omega) | exact rfl | (simp only [List.toList_toArray, List.length_cons, List.length_nil]; omega) | (simp only [lns] at *; omega) | decide | (unfold inI64; decide)); conv => whnf) | decide | assumption)
 · refine .ret _ ?_
   conv => whnf
   refine ⟨[], ⟨?_, rfl⟩, trivial⟩
   conv => lhs; whnf
   congr 2
   exact (ixF_hit (by omega) p2 (by rw [← hb]; simp)).symm
 · exact ⟨i + 1, ⟨by omega, all_step p2 (beq_eq_false_iff_ne.2 fun q => hb q.symm)⟩, by omega, (by (refine Entails.mk' [] rfl rfl ?_ ?_ <;> repeat' (first | exact True.intro | exact lr | exact rr | exact SV.le_int (by omega) | exact SV.le_any _ | refine And.intro ?_ ?_)); done)⟩
 · refine .ret _ ?_
   conv => whnf
   refine ⟨[], ⟨?_, rfl⟩, trivial⟩
   conv => lhs; whnf
   congr 2
   have : i = l.length := by omega
   subst this
   exact (ixF_none p2).symm
theorem lz78 (l : List (List UInt8)) (hl : l.length ≤ 2^40) (v : List UInt8) : FSpec Tryz.prog 78 [.d (strs l), .d (.str v)] [] (fun x r => x = .d (.bool (decide (v ∈ l))) ∧ r = []) := by
 refine spec_of hT (C := []) Tryz.func78 rfl Tryz.call78 rfl rfl rfl ?_
 conv => whnf
 repeat' (first | (refine CallX.exact (lz143 l hl v) rfl rfl ?_; rotate_right; conv => whnf) | (refine br_intro ?_ ?_ <;> intro hb <;> (try simp only [brs] at hb) <;> conv => whnf) | omega | (refine And.intro ?_ ?_; ((try dsimp only); first | omega | (refine szA rfl ?_; omega) | (refine szB rfl ?_; omega) | (unfold inI64; omega) | exact rfl | (simp only [List.toList_toArray, List.length_cons, List.length_nil]; omega) | (simp only [lns] at *; omega) | decide | (unfold inI64; decide)); conv => whnf) | decide | assumption)
 refine .ret _ ?_
 conv => whnf
 refine ⟨[], ⟨?_, rfl⟩, trivial⟩
 conv => lhs; whnf
 rw [← ix_mem]
theorem atoi_bd {s : List UInt8} {v : Int} (h : Lib.atoiAll s = .ok v) : -9223372036854775808 ≤ v ∧ v ≤ 9223372036854775807 := by
 unfold Lib.atoiAll at h
 split at h
 · cases h
 · simp only at h
   split at h
   · cases h
   · cases h
   · split at h
     · cases h
     · split at h
       · cases h
       · cases h
         rename_i h1 h2
         split
         · rename_i hq
           simp [hq] at h2
           omega
         · rename_i hq
           simp [hq] at h1
           omega
theorem lz129 (s : List UInt8) (hs : s.length ≤ 2^40) : FSpec Tryz.prog 129 [.d (.str s)] kx (fun x r => x = .tup [.d (.int .i64 (numN s)), .d (.bool (numOk s))] ∧ r = kx) := by
 refine spec_of hT (C := []) Tryz.func129 rfl Tryz.call129 rfl rfl rfl ?_
 conv => whnf
 refine CallX.of (zAtoi s hs) [(1000009, 1000009)] rfl ⟨lr, trivial⟩ ⟨rr, trivial⟩ rfl rfl ?_
 rintro x rout ⟨hx, rfl⟩
 unfold atoiX at hx
 cases hA : Lib.atoiAll s with
 | ok v =>
   rw [hA] at hx
   simp only at hx
   subst hx
   obtain ⟨hv0, hv1⟩ := atoi_bd hA
   refine ⟨rfl, ?_⟩
   conv => whnf
   repeat' (first | (refine CallX.exact (zTrimP s [45]) rfl rfl ?_; rotate_right; conv => whnf) | (refine CallX.kn (zItoa v hv0 hv1) rfl rfl rfl rfl ?_; conv => whnf) | (refine br_intro ?_ ?_ <;> intro hb <;> (try simp only [brs] at hb) <;> conv => whnf) | omega | (refine And.intro ?_ ?_; ((try dsimp only); first | omega | (refine szA rfl ?_; omega) | (refine szB rfl ?_; omega) | (unfold inI64; omega) | exact rfl | (simp only [List.toList_toArray, List.length_cons, List.length_nil]; omega) | (simp only [lns] at *; omega) | decide | (unfold inI64; decide)); conv => whnf) | decide | assumption)
   · refine .ret _ ?_
     conv => whnf
     refine ⟨kx, ⟨congrArg SV.tup ?_, rfl⟩, rr, trivial⟩
     repeat' (refine cons_eq ?_ ?_)
     all_goals (conv => lhs; whnf)
     all_goals try (with_reducible rfl)
     · unfold numN; rw [hA]
     · unfold numOk isAtoi; rw [hA]; simp [hb]; omega
   · refine .ret _ ?_
     conv => whnf
     refine ⟨kx, ⟨congrArg SV.tup ?_, rfl⟩, rr, trivial⟩
     repeat' (refine cons_eq ?_ ?_)
     all_goals (conv => lhs; whnf)
     all_goals try (with_reducible rfl)
     · unfold numN; rw [hA]
     · unfold numOk isAtoi; rw [hA]; simp [hb]
 | range =>
   rw [hA] at hx
   simp only at hx
   obtain ⟨t, p, rfl⟩ := hx
   refine ⟨rfl, ?_⟩
   conv => whnf
   repeat' (first | (refine br_intro ?_ ?_ <;> intro hb <;> (try simp only [brs] at hb) <;> conv => whnf) | omega | (refine And.intro ?_ ?_; ((try dsimp only); first | omega | (refine szA rfl ?_; omega) | (refine szB rfl ?_; omega) | (unfold inI64; omega) | exact rfl | (simp only [List.toList_toArray, List.length_cons, List.length_nil]; omega) | (simp only [lns] at *; omega) | decide | (unfold inI64; decide)); conv => whnf) | decide | assumption)
   refine .ret _ ?_
   conv => whnf
   refine ⟨kx, ⟨congrArg SV.tup ?_, rfl⟩, rr, trivial⟩
   repeat' (refine cons_eq ?_ ?_)
   all_goals (conv => lhs; whnf)
   all_goals try (with_reducible rfl)
   · unfold numN; rw [hA]
   · unfold numOk isAtoi; rw [hA]; rfl
 | _ =>
   rw [hA] at hx
   simp only at hx
   obtain ⟨t, p, rfl⟩ := hx
   refine ⟨rfl, ?_⟩
   conv => whnf
   repeat' (first | (refine br_intro ?_ ?_ <;> intro hb <;> (try simp only [brs] at hb) <;> conv => whnf) | omega | (refine And.intro ?_ ?_; ((try dsimp only); first | omega | (refine szA rfl ?_; omega) | (refine szB rfl ?_; omega) | (unfold inI64; omega) | exact rfl | (simp only [List.toList_toArray, List.length_cons, List.length_nil]; omega) | (simp only [lns] at *; omega) | decide | (unfold inI64; decide)); conv => whnf) | decide | assumption)
   refine .ret _ ?_
   conv => whnf
   refine ⟨kx, ⟨congrArg SV.tup ?_, rfl⟩, rr, trivial⟩
   repeat' (refine cons_eq ?_ ?_)
   all_goals (conv => lhs; whnf)
   all_goals try (with_reducible rfl)
   · unfold numN; rw [hA]
   · unfold numOk isAtoi; rw [hA]; rfl
theorem lz131 (s : List UInt8) (hs : s.length ≤ 2^40) : FSpec Tryz.prog 131 [.d (.str s)] kx (fun x r => x = .tup [.d (.int .i64 (bif badNum s then 0 else numN s)), .d (.bool (numOk s))] ∧ r = kx) := by
 have ht : (Lib.trimPrefix s [45]).length ≤ 2^40 := by
  unfold Lib.trimPrefix
  split
  · simp; omega
  · exact hs
 refine spec_of hT (C := []) Tryz.func131 rfl Tryz.call131 rfl rfl rfl ?_
 conv => whnf
 repeat' (first | (refine CallX.exact (zTrimP s [45]) rfl rfl ?_; rotate_right; conv => whnf) | (refine CallX.exact (s111 (Lib.trimPrefix s [45]) digs ht (by decide) (by decide)) rfl rfl ?_; rotate_right; conv => whnf) | (refine br_intro ?_ ?_ <;> intro hb <;> (try simp only [brs] at hb) <;> conv => whnf) | omega | (refine And.intro ?_ ?_; ((try dsimp only); first | omega | (refine szA rfl ?_; omega) | (refine szB rfl ?_; omega) | (unfold inI64; omega) | exact rfl | (simp only [List.toList_toArray, List.length_cons, List.length_nil]; omega) | (simp only [lns] at *; omega) | decide | (unfold inI64; decide)); conv => whnf) | decide | assumption)
 · have hq : badNum s = true := by unfold badNum; simp [hb]
   refine .ret _ ?_
   conv => whnf
   refine ⟨kx, ⟨congrArg SV.tup ?_, rfl⟩, rr, trivial⟩
   repeat' (refine cons_eq ?_ ?_)
   all_goals (conv => lhs; whnf)
   all_goals try (with_reducible rfl)
   · rw [hq]; rfl
   · rw [← numOk_eq, if_pos hq]
 · have hq : badNum s = true := by unfold badNum; have : 9 < (Lib.trimPrefix s [45]).length := by omega
                                   simp [this]
   refine .ret _ ?_
   conv => whnf
   refine ⟨kx, ⟨congrArg SV.tup ?_, rfl⟩, rr, trivial⟩
   repeat' (refine cons_eq ?_ ?_)
   all_goals (conv => lhs; whnf)
   all_goals try (with_reducible rfl)
   · rw [hq]; rfl
   · rw [← numOk_eq, if_pos hq]
 · have hq : badNum s = true := by unfold badNum; simp [hb]
   refine .ret _ ?_
   conv => whnf
   refine ⟨kx, ⟨congrArg SV.tup ?_, rfl⟩, rr, trivial⟩
   repeat' (refine cons_eq ?_ ?_)
   all_goals (conv => lhs; whnf)
   all_goals try (with_reducible rfl)
   · rw [hq]; rfl
   · rw [← numOk_eq, if_pos hq]
 rename_i hb1 hb2
 have hq : badNum s = false := by
  unfold badNum
  have : ¬ 9 < (Lib.trimPrefix s [45]).length := by omega
  simp [hb, hb1, this]
 rw [hq]
 have hk : isAtoi s = numOk s := by rw [← numOk_eq, hq]; rfl
 refine CallX.of (zAtoi s hs) [(1000009, 1000009)] rfl ⟨lr, trivial⟩ ⟨rr, trivial⟩ rfl rfl ?_
 rintro x rout ⟨hx, rfl⟩
 unfold atoiX at hx
 cases hA : Lib.atoiAll s with
 | ok v =>
   rw [hA] at hx
   simp only at hx
   subst hx
   obtain ⟨hv0, hv1⟩ := atoi_bd hA
   refine ⟨rfl, ?_⟩
   conv => whnf
   repeat' (first | (refine CallX.kn (zItoa v hv0 hv1) rfl rfl rfl rfl ?_; conv => whnf) | (refine br_intro ?_ ?_ <;> intro hb <;> (try simp only [brs] at hb) <;> conv => whnf) | omega | (refine And.intro ?_ ?_; ((try dsimp only); first | omega | (refine szA rfl ?_; omega) | (refine szB rfl ?_; omega) | (unfold inI64; omega) | exact rfl | (simp only [List.toList_toArray, List.length_cons, List.length_nil]; omega) | (simp only [lns] at *; omega) | decide | (unfold inI64; decide)); conv => whnf) | decide | assumption)
   refine .ret _ ?_
   conv => whnf
   refine ⟨kx, ⟨congrArg SV.tup ?_, rfl⟩, rr, trivial⟩
   repeat' (refine cons_eq ?_ ?_)
   all_goals (conv => lhs; whnf)
   all_goals try (with_reducible rfl)
   · unfold numN; rw [hA]; rfl
   · rw [← hk]; unfold isAtoi; rw [hA]
 | range =>
   rw [hA] at hx
   simp only at hx
   obtain ⟨t, p, rfl⟩ := hx
   refine ⟨rfl, ?_⟩
   conv => whnf
   repeat' (first | (refine br_intro ?_ ?_ <;> intro hb <;> (try simp only [brs] at hb) <;> conv => whnf) | omega | (refine And.intro ?_ ?_; ((try dsimp only); first | omega | (refine szA rfl ?_; omega) | (refine szB rfl ?_; omega) | (unfold inI64; omega) | exact rfl | (simp only [List.toList_toArray, List.length_cons, List.length_nil]; omega) | (simp only [lns] at *; omega) | decide | (unfold inI64; decide)); conv => whnf) | decide | assumption)
   refine .ret _ ?_
   conv => whnf
   refine ⟨kx, ⟨congrArg SV.tup ?_, rfl⟩, rr, trivial⟩
   repeat' (refine cons_eq ?_ ?_)
   all_goals (conv => lhs; whnf)
   all_goals try (with_reducible rfl)
   · unfold numN; rw [hA]; rfl
   · rw [← hk]; unfold isAtoi; rw [hA]
 | _ =>
   rw [hA] at hx
   simp only at hx
   obtain ⟨t, p, rfl⟩ := hx
   refine ⟨rfl, ?_⟩
   conv => whnf
   repeat' (first | (refine br_intro ?_ ?_ <;> intro hb <;> (try simp only [brs] at hb) <;> conv => whnf) | omega | (refine And.intro ?_ ?_; ((try dsimp only); first | omega | (refine szA rfl ?_; omega) | (refine szB rfl ?_; omega) | (unfold inI64; omega) | exact rfl | (simp only [List.toList_toArray, List.length_cons, List.length_nil]; omega) | (simp only [lns] at *; omega) | decide | (unfold inI64; decide)); conv => whnf) | decide | assumption)
   refine .ret _ ?_
   conv => whnf
   refine ⟨kx, ⟨congrArg SV.tup ?_, rfl⟩, rr, trivial⟩
   repeat' (refine cons_eq ?_ ?_)
   all_goals (conv => lhs; whnf)
   all_goals try (with_reducible rfl)
   · unfold numN; rw [hA]; rfl
   · rw [← hk]; unfold isAtoi; rw [hA]
def wrdsOk (l : List (List UInt8)) : Bool := !decide ([] ∈ l)
theorem numR_ok {s : List UInt8} (h : numOk s = true) : (bif badNum s then 0 else numN s) = numN s := by
 have := numOk_eq s
 rw [h] at this
 cases hb : badNum s with
 | true => rw [hb] at this; cases this
 | false => rfl
theorem lz79 (l : List (List UInt8)) (hl : l.length ≤ 2^30) (hk : ∀ x ∈ l, x.length ≤ 2^40) : FSpec Tryz.prog 79 [.d (strs l)] kx (fun x r => x = .tup [.d (bif l.all numOk then ints (l.map numN) else .nilsl), .d (.bool (l.all numOk))] ∧ r = kx) := by
 refine spec_of hT (C := []) Tryz.func79 rfl Tryz.call79 rfl rfl rfl ?_
 conv => whnf
 refine LoopX.rule hT (C := []) (ι := Nat) (fun i => i ≤ l.length ∧ ∀ j, j < i → numOk (l.getD j []) = true) (fun i => mkSt [(4, .buf 4), (9, .d (strs l)), (10, .d (.int .i64 l.length)), (11, .d (.int .i64 i))] [(1000009, KX), (4, seqB 3 1 iF 0 ((l.take i).map numN))]) (fun i => l.length - i) 0 ⟨by simp, fun j hj => absurd hj (Nat.not_lt_zero j)⟩ ?_ ?_
 · exact (Entails.nil 4 4 3 1 (rowF iF 0 []) rfl rfl (by decide)).trans (by (refine Entails.mk' [(1000009, 1000009), (4, 4)] rfl rfl ?_ ?_ <;> repeat' (first | exact True.intro | exact lr | exact rr | exact SV.le_int (by omega) | exact SV.le_any _ | refine And.intro ?_ ?_)); done)
 rintro i ⟨hi, hp⟩
 have hln : ((l.take i).map numN).length = i := by simp; omega
 conv => whnf
 refine br_intro (fun hb => ?_) (fun hb => ?_)
 · conv => whnf
   have hlt : i < l.length := by simpa using hb
   have hx : l.getD i [] ∈ l := getD_mem hlt
   have hc := lz129 (l.getD i []) (hk _ hx)
   cases hn : numOk (l.getD i []) with
   | true =>
     rw [hn] at hc
     skip
     repeat' (first | (refine CallX.kn hc rfl rfl rfl rfl ?_; conv => whnf) | (refine br_intro ?_ ?_ <;> intro hb <;> (try simp only [brs] at hb) <;> conv => whnf) | omega | (refine And.intro ?_ ?_; ((try dsimp only); first | omega | (refine szA rfl ?_; omega) | (refine szB rfl ?_; omega) | (unfold inI64; omega) | exact rfl | (simp only [List.toList_toArray, List.length_cons, List.length_nil]; omega) | (simp only [lns] at *; omega) | decide | (unfold inI64; decide)); conv => whnf) | decide | assumption)
     have hsn : (l.take (i + 1)).map numN = (l.take i).map numN ++ [numN (l.getD i [])] := by
      have : l.take (i + 1) = l.take i ++ [l.getD i []] := by rw [List.take_add_one]; simp [List.getD_eq_getElem?_getD, hlt]
      rw [this, List.map_append]; rfl
     refine ⟨i + 1, ⟨by omega, all_step hp hn⟩, by omega, ?_⟩
     rw [hsn]
     exact (by (refine Entails.mk' [(1000009, 1000009), (4, 25)] rfl rfl ?_ ?_ <;> repeat' (first | exact True.intro | exact lr | exact rr | (exact Res.le_snocF rfl) | exact SV.le_int (by omega) | exact SV.le_any _ | refine And.intro ?_ ?_)); done)
   | false =>
     rw [hn] at hc
     have hall : l.all numOk = false := by
      rw [Bool.eq_false_iff]
      intro h
      have := List.all_eq_true.1 h _ hx
      rw [hn] at this; cases this
     repeat' (first | (refine CallX.kn hc rfl rfl rfl rfl ?_; conv => whnf) | (refine br_intro ?_ ?_ <;> intro hb <;> (try simp only [brs] at hb) <;> conv => whnf) | omega | (refine And.intro ?_ ?_; ((try dsimp only); first | omega | (refine szA rfl ?_; omega) | (refine szB rfl ?_; omega) | (unfold inI64; omega) | exact rfl | (simp only [List.toList_toArray, List.length_cons, List.length_nil]; omega) | (simp only [lns] at *; omega) | decide | (unfold inI64; decide)); conv => whnf) | decide | assumption)
     rw [hall]
     refine .ret _ ?_
     conv => whnf
     refine ⟨kx, ⟨congrArg SV.tup ?_, rfl⟩, rr, trivial⟩
     repeat' (refine cons_eq ?_ ?_)
     all_goals (conv => lhs; whnf)
     all_goals try (with_reducible rfl)
     all_goals rfl
 · conv => whnf
   have hi2 : i = l.length := by simp at hb; omega
   subst hi2
   rw [List.take_length]
   have hall : l.all numOk = true := List.all_eq_true.2 fun x hx => by
    obtain ⟨j, hj, rfl⟩ := mem_getD (d := []) hx
    exact hp j hj
   rw [hall]
   repeat' (first | (refine br_intro ?_ ?_ <;> intro hb <;> (try simp only [brs] at hb) <;> conv => whnf) | omega | (refine And.intro ?_ ?_; ((try dsimp only); first | omega | (refine szA rfl ?_; omega) | (refine szB rfl ?_; omega) | (unfold inI64; omega) | exact rfl | (simp only [List.toList_toArray, List.length_cons, List.length_nil]; omega) | (simp only [lns] at *; omega) | decide | (unfold inI64; decide)); conv => whnf) | decide | assumption)
   refine .freeze _ 4 3 1 _ _ rfl ?_
   refine .ret _ ?_
   conv => whnf
   refine ⟨kx, ⟨congrArg SV.tup ?_, rfl⟩, rr, trivial⟩
   repeat' (refine cons_eq ?_ ?_)
   all_goals (conv => lhs; whnf)
   all_goals try (with_reducible rfl)
   all_goals rfl
theorem lz83 (l : List (List UInt8)) (hl : l.length ≤ 2^30) (hk : ∀ x ∈ l, x.length ≤ 2^40) : FSpec Tryz.prog 83 [.d (strs l)] kx (fun x r => x = .tup [.d (bif l.all numOk then ints (l.map numN) else .nilsl), .d (.bool (l.all numOk))] ∧ r = kx) := by
 refine spec_of hT (C := []) Tryz.func83 rfl Tryz.call83 rfl rfl rfl ?_
 conv => whnf
 refine LoopX.rule hT (C := []) (ι := Nat) (fun i => i ≤ l.length ∧ ∀ j, j < i → numOk (l.getD j []) = true) (fun i => mkSt [(4, .buf 4), (9, .d (strs l)), (10, .d (.int .i64 l.length)), (11, .d (.int .i64 i))] [(1000009, KX), (4, seqB 3 1 iF 0 ((l.take i).map numN))]) (fun i => l.length - i) 0 ⟨by simp, fun j hj => absurd hj (Nat.not_lt_zero j)⟩ ?_ ?_
 · exact (Entails.nil 4 4 3 1 (rowF iF 0 []) rfl rfl (by decide)).trans (by (refine Entails.mk' [(1000009, 1000009), (4, 4)] rfl rfl ?_ ?_ <;> repeat' (first | exact True.intro | exact lr | exact rr | exact SV.le_int (by omega) | exact SV.le_any _ | refine And.intro ?_ ?_)); done)
 rintro i ⟨hi, hp⟩
 have hln : ((l.take i).map numN).length = i := by simp; omega
 conv => whnf
 refine br_intro (fun hb => ?_) (fun hb => ?_)
 · conv => whnf
   have hlt : i < l.length := by simpa using hb
   have hx : l.getD i [] ∈ l := getD_mem hlt
   have hc := lz131 (l.getD i []) (hk _ hx)
   cases hn : numOk (l.getD i []) with
   | true =>
     rw [hn] at hc
     rw [numR_ok hn] at hc
     repeat' (first | (refine CallX.kn hc rfl rfl rfl rfl ?_; conv => whnf) | (refine br_intro ?_ ?_ <;> intro hb <;> (try simp only [brs] at hb) <;> conv => whnf) | omega | (refine And.intro ?_ ?_; ((try dsimp only); first | omega | (refine szA rfl ?_; omega) | (refine szB rfl ?_; omega) | (unfold inI64; omega) | exact rfl | (simp only [List.toList_toArray, List.length_cons, List.length_nil]; omega) | (simp only [lns] at *; omega) | decide | (unfold inI64; decide)); conv => whnf) | decide | assumption)
     have hsn : (l.take (i + 1)).map numN = (l.take i).map numN ++ [numN (l.getD i [])] := by
      have : l.take (i + 1) = l.take i ++ [l.getD i []] := by rw [List.take_add_one]; simp [List.getD_eq_getElem?_getD, hlt]
      rw [this, List.map_append]; rfl
     refine ⟨i + 1, ⟨by omega, all_step hp hn⟩, by omega, ?_⟩
     rw [hsn]
     exact (by (refine Entails.mk' [(1000009, 1000009), (4, 25)] rfl rfl ?_ ?_ <;> repeat' (first | exact True.intro | exact lr | exact rr | (exact Res.le_snocF rfl) | exact SV.le_int (by omega) | exact SV.le_any _ | refine And.intro ?_ ?_)); done)
   | false =>
     rw [hn] at hc
     have hall : l.all numOk = false := by
      rw [Bool.eq_false_iff]
      intro h
      have := List.all_eq_true.1 h _ hx
      rw [hn] at this; cases this
     repeat' (first | (refine CallX.kn hc rfl rfl rfl rfl ?_; conv => whnf) | (refine br_intro ?_ ?_ <;> intro hb <;> (try simp only [brs] at hb) <;> conv => whnf) | omega | (refine And.intro ?_ ?_; ((try dsimp only); first | omega | (refine szA rfl ?_; omega) | (refine szB rfl ?_; omega) | (unfold inI64; omega) | exact rfl | (simp only [List.toList_toArray, List.length_cons, List.length_nil]; omega) | (simp only [lns] at *; omega) | decide | (unfold inI64; decide)); conv => whnf) | decide | assumption)
     rw [hall]
     refine .ret _ ?_
     conv => whnf
     refine ⟨kx, ⟨congrArg SV.tup ?_, rfl⟩, rr, trivial⟩
     repeat' (refine cons_eq ?_ ?_)
     all_goals (conv => lhs; whnf)
     all_goals try (with_reducible rfl)
     all_goals rfl
 · conv => whnf
   have hi2 : i = l.length := by simp at hb; omega
   subst hi2
   rw [List.take_length]
   have hall : l.all numOk = true := List.all_eq_true.2 fun x hx => by
    obtain ⟨j, hj, rfl⟩ := mem_getD (d := []) hx
    exact hp j hj
   rw [hall]
   repeat' (first | (refine br_intro ?_ ?_ <;> intro hb <;> (try simp only [brs] at hb) <;> conv => whnf) | omega | (refine And.intro ?_ ?_; ((try dsimp only); first | omega | (refine szA rfl ?_; omega) | (refine szB rfl ?_; omega) | (unfold inI64; omega) | exact rfl | (simp only [List.toList_toArray, List.length_cons, List.length_nil]; omega) | (simp only [lns] at *; omega) | decide | (unfold inI64; decide)); conv => whnf) | decide | assumption)
   refine .freeze _ 4 3 1 _ _ rfl ?_
   refine .ret _ ?_
   conv => whnf
   refine ⟨kx, ⟨congrArg SV.tup ?_, rfl⟩, rr, trivial⟩
   repeat' (refine cons_eq ?_ ?_)
   all_goals (conv => lhs; whnf)
   all_goals try (with_reducible rfl)
   all_goals rfl
abbrev capC (ct d : Nat) : Res := .cells ct [.buf d]
def Taker {α : Type} (g ct e k : Nat) (F : α → List DV) (d : α) (tk : List UInt8 → List α → Bool × List α) : Prop :=
 (∀ line l, (tk line l).2.length ≤ l.length + 1) ∧ ∀ line l, line.length ≤ 2^20 → l.length ≤ 2^21 →
   FSpec Tryz.prog g [.d (.str line), .ptr 1000005 0] [(1000009, KX), (1000005, capC ct 1000003), (1000003, seqB e k F d l)] (fun x r => x = .d (.bool (tk line l).1) ∧ r = [(1000009, KX), (1000005, capC ct 46), (46, seqB e k F d (tk line l).2)])
theorem lz75 {α : Type} {g ct e k : Nat} {F : α → List DV} {d : α} {tk : List UInt8 → List α → Bool × List α} (hg : Taker g ct e k F d tk) (text : List UInt8) (ht : text.length ≤ 2^20) (l0 : List α) (hl0 : l0.length ≤ 2^20) :
 FSpec Tryz.prog 75 [.d (.str text), .fn g [.ptr 1000005 0]] [(1000009, KX), (1000005, capC ct 1000003), (1000003, seqB e k F d l0)] (fun x r => x = .tup [.d (.int .i64 (lnsF tk (text.length + 1) 0 text l0).1.1), .d (.bool (lnsF tk (text.length + 1) 0 text l0).1.2)] ∧
  r = [(1000009, KX), (1000005, capC ct 40), (40, seqB e k F d (lnsF tk (text.length + 1) 0 text l0).2)]) := by
 generalize hR : lnsF tk (text.length + 1) 0 text l0 = R
 refine spec_of hT (C := []) Tryz.func75 rfl Tryz.call75 rfl rfl rfl ?_
 conv => whnf
 refine LoopX.rule hT (C := []) (ι := Nat × Nat × List UInt8 × List α) (fun (n, a, t, l) => (lnsF tk n a t l = R ∧ t.length < n) ∧ t.length + a ≤ text.length ∧ l.length ≤ l0.length + a)
  (fun (n, a, t, l) => mkSt [(0, .d (.str t)), (1, .fn g [.ptr 1000005 0]), (6, .d (.int .i64 a))] [(1000009, KX), (1000005, capC ct 40), (40, seqB e k F d l)])
  (fun (n, _, _, _) => n) (text.length + 1, 0, text, l0) ⟨⟨hR, Nat.lt_succ_self _⟩, Nat.le_refl _, by simp⟩ (by (refine Entails.mk' [(1000009, 1000009), (1000005, 1000005), (40, 1000003)] rfl rfl ?_ ?_ <;> repeat' (first | exact True.intro | exact lr | exact rr | exact SV.le_int (by omega) | exact SV.le_any _ | refine And.intro ?_ ?_)); done) ?_
 rintro ⟨n, a, t, l⟩ ⟨⟨h1, h2⟩, h3, h4⟩
 obtain ⟨m, rfl⟩ : ∃ m, n = m + 1 := ⟨n - 1, by omega⟩
 have hcl := cut_le t
 have htl : (tk (Lib.cut t [10]).1 l).2.length ≤ l.length + 1 := hg.1 _ _
 have hc := hg.2 (Lib.cut t [10]).1 l (by omega) (by omega)
 conv => whnf
 repeat' (first | (refine CallX.kn (zCut t [10] (by omega)) rfl rfl rfl rfl ?_; conv => whnf) | (refine CallX.of hc [(1000009, 1000009), (1000005, 1000005), (1000003, 40), (46, 41)] rfl ⟨lr, lr, trivial⟩ ⟨rr, rr, rr, trivial⟩ rfl rfl ?_; rintro x rout ⟨rfl, rfl⟩; refine ⟨rfl, ?_⟩; conv => whnf) | (refine br_intro ?_ ?_ <;> intro hb <;> (try simp only [brs] at hb) <;> conv => whnf) | omega | (refine And.intro ?_ ?_; ((try dsimp only); first | omega | (refine szA rfl ?_; omega) | (refine szB rfl ?_; omega) | (unfold inI64; omega) | exact rfl | (simp only [List.toList_toArray, List.length_cons, List.length_nil]; omega) | (simp only [lns] at *; omega) | decide | (unfold inI64; decide)); conv => whnf) | decide | assumption)
 · rename_i hb0
   obtain rfl : R = ((a, false), l) := by rw [← h1]; simp [lnsF, hb0, hb]
   refine .ret _ ?_
   conv => whnf
   refine ⟨[(1000009, KX), (1000005, capC ct 40), (40, seqB e k F d l)], ⟨congrArg SV.tup ?_, rfl⟩, rr, rr, rr, trivial⟩
   repeat' (refine cons_eq ?_ ?_)
   all_goals (conv => lhs; whnf)
   all_goals rfl
 · rename_i hb0 hb1
   obtain rfl : R = ((a, false), (tk (Lib.cut t [10]).1 l).2) := by rw [← h1]; simp [lnsF, hb0, hb1, hb]
   refine .ent _ (mkSt [(4, .d (.int .i64 a)), (5, .d (.bool false))] [(1000009, KX), (1000005, capC ct 40), (40, seqB e k F d (tk (Lib.cut t [10]).1 l).2)]) (by (refine Entails.mk' [(1000009, 1000009), (1000005, 1000005), (40, 41)] rfl rfl ?_ ?_ <;> repeat' (first | exact True.intro | exact lr | exact rr | exact SV.le_int (by omega) | exact SV.le_any _ | refine And.intro ?_ ?_)); done) ?_
   refine .ret _ ?_
   conv => whnf
   refine ⟨[(1000009, KX), (1000005, capC ct 40), (40, seqB e k F d (tk (Lib.cut t [10]).1 l).2)], ⟨congrArg SV.tup ?_, rfl⟩, rr, rr, rr, trivial⟩
   repeat' (refine cons_eq ?_ ?_)
   all_goals (conv => lhs; whnf)
   all_goals rfl
 · rename_i hb0 hb1
   have hlen := cut_len hb1
   refine ⟨(m, a + 1, (Lib.cut t [10]).2.1, (tk (Lib.cut t [10]).1 l).2), ⟨⟨by rw [← h1]; simp [lnsF, hb0, hb1, hb], by omega⟩, by omega, by omega⟩, Nat.lt_succ_self m, (by (refine Entails.mk' [(1000009, 1000009), (1000005, 1000005), (40, 41)] rfl rfl ?_ ?_ <;> repeat' (first | exact True.intro | exact lr | exact rr | exact SV.le_int (by omega) | exact SV.le_any _ | refine And.intro ?_ ?_)); done)⟩
 · obtain rfl : R = ((0, true), l) := by rw [← h1]; simp [lnsF, hb]
   refine .ret _ ?_
   conv => whnf
   refine ⟨[(1000009, KX), (1000005, capC ct 40), (40, seqB e k F d l)], ⟨congrArg SV.tup ?_, rfl⟩, rr, rr, rr, trivial⟩
   repeat' (refine cons_eq ?_ ?_)
   all_goals (conv => lhs; whnf)
   all_goals rfl
theorem lz80 {α : Type} {g ct e k : Nat} {F : α → List DV} {d : α} {tk : List UInt8 → List α → Bool × List α} (hg : Taker g ct e k F d tk) (text : List UInt8) (ht : text.length ≤ 2^20) (l0 : List α) (hl0 : l0.length ≤ 2^20) :
 FSpec Tryz.prog 80 [.d (.str text), .fn g [.ptr 1000005 0]] [(1000009, KX), (1000005, capC ct 1000003), (1000003, seqB e k F d l0)] (fun x r => x = .tup [.d (.int .i64 (lnsF tk (text.length + 1) 0 text l0).1.1), .d (.bool (lnsF tk (text.length + 1) 0 text l0).1.2)] ∧
  r = [(1000009, KX), (1000005, capC ct 40), (40, seqB e k F d (lnsF tk (text.length + 1) 0 text l0).2)]) := by
 generalize hR : lnsF tk (text.length + 1) 0 text l0 = R
 refine spec_of hT (C := []) Tryz.func80 rfl Tryz.call80 rfl rfl rfl ?_
 conv => whnf
 refine LoopX.rule hT (C := []) (ι := Nat × Nat × List UInt8 × List α) (fun (n, a, t, l) => (lnsF tk n a t l = R ∧ t.length < n) ∧ t.length + a ≤ text.length ∧ l.length ≤ l0.length + a)
  (fun (n, a, t, l) => mkSt [(0, .d (.str t)), (1, .fn g [.ptr 1000005 0]), (6, .d (.int .i64 a))] [(1000009, KX), (1000005, capC ct 40), (40, seqB e k F d l)])
  (fun (n, _, _, _) => n) (text.length + 1, 0, text, l0) ⟨⟨hR, Nat.lt_succ_self _⟩, Nat.le_refl _, by simp⟩ (by (refine Entails.mk' [(1000009, 1000009), (1000005, 1000005), (40, 1000003)] rfl rfl ?_ ?_ <;> repeat' (first | exact True.intro | exact lr | exact rr | exact SV.le_int (by omega) | exact SV.le_any _ | refine And.intro ?_ ?_)); done) ?_
 rintro ⟨n, a, t, l⟩ ⟨⟨h1, h2⟩, h3, h4⟩
 obtain ⟨m, rfl⟩ : ∃ m, n = m + 1 := ⟨n - 1, by omega⟩
 have hcl := cut_le t
 have htl : (tk (Lib.cut t [10]).1 l).2.length ≤ l.length + 1 := hg.1 _ _
 have hc := hg.2 (Lib.cut t [10]).1 l (by omega) (by omega)
 conv => whnf
 repeat' (first | (refine CallX.kn (zCut t [10] (by omega)) rfl rfl rfl rfl ?_; conv => whnf) | (refine CallX.of hc [(1000009, 1000009), (1000005, 1000005), (1000003, 40), (46, 41)] rfl ⟨lr, lr, trivial⟩ ⟨rr, rr, rr, trivial⟩ rfl rfl ?_; rintro x rout ⟨rfl, rfl⟩; refine ⟨rfl, ?_⟩; conv => whnf) | (refine br_intro ?_ ?_ <;> intro hb <;> (try simp only [brs] at hb) <;> conv => whnf) | omega | (refine And.intro ?_ ?_; ((try dsimp only); first | omega | (refine szA rfl ?_; omega) | (refine szB rfl ?_; omega) | (unfold inI64; omega) | exact rfl | (simp only [List.toList_toArray, List.length_cons, List.length_nil]; omega) | (simp only [lns] at *; omega) | decide | (unfold inI64; decide)); conv => whnf) | decide | assumption)
 · rename_i hb0
   obtain rfl : R = ((a, false), l) := by rw [← h1]; simp [lnsF, hb0, hb]
   refine .ret _ ?_
   conv => whnf
   refine ⟨[(1000009, KX), (1000005, capC ct 40), (40, seqB e k F d l)], ⟨congrArg SV.tup ?_, rfl⟩, rr, rr, rr, trivial⟩
   repeat' (refine cons_eq ?_ ?_)
   all_goals (conv => lhs; whnf)
   all_goals rfl
 · rename_i hb0 hb1
   obtain rfl : R = ((a, false), (tk (Lib.cut t [10]).1 l).2) := by rw [← h1]; simp [lnsF, hb0, hb1, hb]
   refine .ent _ (mkSt [(4, .d (.int .i64 a)), (5, .d (.bool false))] [(1000009, KX), (1000005, capC ct 40), (40, seqB e k F d (tk (Lib.cut t [10]).1 l).2)]) (by (refine Entails.mk' [(1000009, 1000009), (1000005, 1000005), (40, 41)] rfl rfl ?_ ?_ <;> repeat' (first | exact True.intro | exact lr | exact rr | exact SV.le_int (by omega) | exact SV.le_any _ | refine And.intro ?_ ?_)); done) ?_
   refine .ret _ ?_
   conv => whnf
   refine ⟨[(1000009, KX), (1000005, capC ct 40), (40, seqB e k F d (tk (Lib.cut t [10]).1 l).2)], ⟨congrArg SV.tup ?_, rfl⟩, rr, rr, rr, trivial⟩
   repeat' (refine cons_eq ?_ ?_)
   all_goals (conv => lhs; whnf)
   all_goals rfl
 · rename_i hb0 hb1
   have hlen := cut_len hb1
   refine ⟨(m, a + 1, (Lib.cut t [10]).2.1, (tk (Lib.cut t [10]).1 l).2), ⟨⟨by rw [← h1]; simp [lnsF, hb0, hb1, hb], by omega⟩, by omega, by omega⟩, Nat.lt_succ_self m, (by (refine Entails.mk' [(1000009, 1000009), (1000005, 1000005), (40, 41)] rfl rfl ?_ ?_ <;> repeat' (first | exact True.intro | exact lr | exact rr | exact SV.le_int (by omega) | exact SV.le_any _ | refine And.intro ?_ ?_)); done)⟩
 · obtain rfl : R = ((0, true), l) := by rw [← h1]; simp [lnsF, hb]
   refine .ret _ ?_
   conv => whnf
   refine ⟨[(1000009, KX), (1000005, capC ct 40), (40, seqB e k F d l)], ⟨congrArg SV.tup ?_, rfl⟩, rr, rr, rr, trivial⟩
   repeat' (refine cons_eq ?_ ?_)
   all_goals (conv => lhs; whnf)
   all_goals rfl
theorem lookL_rot {a b c : Nat} {x y z : Res} (h1 : Nat.beq a c = false) (h2 : Nat.beq b c = false) : lookL [(c, z), (a, x), (b, y)] = lookL [(a, x), (b, y), (c, z)] := by
 have e1 : a ≠ c := fun q => by rw [q] at h1; simp at h1
 have e2 : b ≠ c := fun q => by rw [q] at h2; simp at h2
 funext d
 by_cases q1 : d = a
 · subst q1; simp [lookL, nbeq_ne e1]
 · by_cases q2 : d = b
   · subst q2; simp [lookL, nbeq_ne e2, nbeq_ne q1]
   · simp [lookL, nbeq_ne q1, nbeq_ne q2]
theorem reordF {P : Program} {f : FuncId} {args : List SV} {rin rin' : List (Nat × Res)} {post : SV → List (Nat × Res) → Prop} (h : FSpec P f args rin post) (e : lookL rin' = lookL rin) : FSpec P f args rin' post :=
 ⟨h.enter, fun G β w vs hp hl hd => by
   have := h.calls G β w vs (by rw [← e]; exact hp) hl hd
   rw [e]; exact this⟩
theorem lnsNil {α : Type} {f g ct e k : Nat} {F : α → List DV} {d : α} {text : List UInt8} {post : SV → List (Nat × Res) → Prop} (hk : 0 < k)
 (h : FSpec Tryz.prog f [.d (.str text), .fn g [.ptr 1000005 0]] [(1000009, KX), (1000005, capC ct 1000003), (1000003, seqB e k F d [])] post) :
 FSpec Tryz.prog f [.d (.str text), .fn g [.ptr 1000005 0]] [(1000005, .cells ct [.d .nilsl]), (1000009, KX)] post :=
 FSpec.nilCell (c := 1000005) (d := 1000003) (e := e) (k := k) (j := 0) (ce := ct) (l := [.d .nilsl]) (g := rowF F d []) (rest := [(1000009, KX)]) (reordF h (lookL_rot rfl rfl).symm) hk rfl rfl rfl
def redF {α : Type} (tk : List UInt8 → List α → Bool × List α) (fe : List α → Int) (text : List UInt8) : List α × Nat × Int :=
 bif decide (200000 < text.length) then ([], 0, 2) else
 bif (lnsF tk (text.length + 1) 0 text []).1.2 then (bif decide (fe (lnsF tk (text.length + 1) 0 text []).2 = 0) then ((lnsF tk (text.length + 1) 0 text []).2, 0, 0) else ([], 0, fe (lnsF tk (text.length + 1) 0 text []).2))
 else ([], (lnsF tk (text.length + 1) 0 text []).1.1, 9)
theorem lnsF_all {α : Type} {tk : List UInt8 → List α → Bool × List α} {Q : α → Prop} {N : Nat} (hQ : ∀ line l, line.length ≤ N → (∀ x ∈ l, Q x) → ∀ x ∈ (tk line l).2, Q x) : ∀ (n a : Nat) (t : List UInt8) (l : List α), t.length ≤ N → (∀ x ∈ l, Q x) → ∀ x ∈ (lnsF tk n a t l).2, Q x := by
 intro n
 induction n with
 | zero => intro a t l _ h; exact h
 | succ n ih =>
   intro a t l ht h
   have h1 := cut_le t
   have h2 := hQ (Lib.cut t [10]).1 l (by omega) h
   unfold lnsF
   split
   · exact h
   · split
     · exact h
     · split
       · exact h2
       · rename_i hc _
         have := cut_len (by simpa using hc)
         exact ih _ _ _ (by omega) h2
theorem lnsF_len {α : Type} {tk : List UInt8 → List α → Bool × List α} (hQ : ∀ line l, (tk line l).2.length ≤ l.length + 1) : ∀ (n a : Nat) (t : List UInt8) (l : List α), (lnsF tk n a t l).2.length ≤ l.length + n := by
 intro n
 induction n with
 | zero => intro a t l; exact Nat.le_refl _
 | succ n ih =>
   intro a t l
   have h2 := hQ (Lib.cut t [10]).1 l
   unfold lnsF
   split
   · simp only; omega
   · split
     · simp only; omega
     · split
       · simp only; omega
       · have := ih (a + 1) (Lib.cut t [10]).2.1 (tk (Lib.cut t [10]).1 l).2
         omega
theorem dec_len : ∀ (k u : Nat), u < 10 ^ (k + 1) → (Lib.decDigits u).length ≤ k + 1 := by
 intro k
 induction k with
 | zero =>
   intro u h
   rw [Lib.decDigits, dif_pos (by omega)]; simp
 | succ k ih =>
   intro u h
   rw [Lib.decDigits]
   split
   · simp
   · have := ih (u / 10) (by rw [Nat.pow_succ] at h; omega)
     simp; omega
theorem itoa_len {n : Int} (h0 : -2^60 ≤ n) (h1 : n ≤ 2^60) : (Lib.itoa n).length ≤ 20 := by
 have key : ∀ u : Nat, u ≤ 2^60 → (Lib.decDigits u).length ≤ 19 := fun u hu => dec_len 18 u (by omega)
 unfold Lib.itoa
 split
 · have := key n.natAbs (by omega)
   simp; omega
 · have := key n.toNat (by omega)
   omega
def lnOk (ps : List Part) : Prop := ps.length ≤ 8 ∧ ∀ p ∈ ps, (partS p).length ≤ 2^10
theorem join_len : ∀ (l : List (List UInt8)) (sep : List UInt8) (N : Nat), (∀ x ∈ l, x.length ≤ N) → (Lib.join l sep).length ≤ l.length * (N + sep.length) := by
 intro l sep N h
 cases l with
 | nil => simp [Lib.join_nil]
 | cons x r =>
   rw [Lib.join_cons, List.length_append]
   have h1 := h x List.mem_cons_self
   have key : ∀ r : List (List UInt8), (∀ z ∈ r, z.length ≤ N) → (Lib.joinTail sep r).length ≤ r.length * (N + sep.length) := by
    intro r
    induction r with
    | nil => intro _; simp [Lib.joinTail]
    | cons y r ih =>
      intro hr
      have h3 := hr y List.mem_cons_self
      have h4 := ih (fun z hz => hr z (List.mem_cons_of_mem _ hz))
      unfold Lib.joinTail at h4 ⊢
      simp only [List.map_cons, List.flatten_cons, List.length_append, List.length_cons] at h4 ⊢
      rw [Nat.add_mul, Nat.one_mul]; omega
   have h2 := key r (fun z hz => h z (List.mem_cons_of_mem _ hz))
   simp only [List.length_cons]
   rw [Nat.add_mul, Nat.one_mul]; omega
theorem lnOk_len {ps : List Part} (h : lnOk ps) : (Lib.join (ps.map partS) [32]).length ≤ 2^14 := by
 have := join_len (ps.map partS) [32] (2^10) (fun x hx => by
  obtain ⟨p, hp, rfl⟩ := List.mem_map.1 hx
  exact h.2 p hp)
 have h8 := h.1
 simp only [List.length_map, List.length_singleton] at this
 have h3 : ps.length * (2 ^ 10 + 1) ≤ 8 * (2^10 + 1) := Nat.mul_le_mul_right _ h8
 omega
def lnB (ps : List Part) : List UInt8 := Lib.join (ps.map partS) [32] ++ [10]
def txF {α : Type} (pf : α → List Part) (l : List α) : List UInt8 := (l.map fun p => lnB (pf p)).flatten
theorem txF_len {α : Type} {pf : α → List Part} : ∀ {l : List α}, (∀ p ∈ l, lnOk (pf p)) → (txF pf l).length ≤ l.length * 2^15 := by
 intro l
 induction l with
 | nil => intro _; simp [txF]
 | cons x r ih =>
   intro h
   have h1 := lnOk_len (h x List.mem_cons_self)
   have h2 := ih (fun p hp => h p (List.mem_cons_of_mem _ hp))
   simp only [txF, List.map_cons, List.flatten_cons, List.length_append, List.length_cons, List.length_nil, lnB] at h2 ⊢
   rw [Nat.add_mul, Nat.one_mul]; omega
theorem txF_snoc {α : Type} {pf : α → List Part} {l : List α} {d : α} {i : Nat} (hi : i < l.length) : txF pf (l.take (i + 1)) = txF pf (l.take i) ++ lnB (pf (l.getD i d)) := by
 have : l.take (i + 1) = l.take i ++ [l.getD i d] := by rw [List.take_add_one]; simp [List.getD_eq_getElem?_getD, hi]
 rw [this]; simp [txF]
def oXTpD74_7 : List (Nat × List Nat) := [(0, []), (1, [0]), (2, []), (3, [0, 1, 2]), (4, [0, 1, 2]), (5, [0, 1, 2]), (6, []), (7, [0, 1, 2, 3, 4, 5, 6]), (8, [0, 1, 2, 3, 4, 5, 6, 7]), (9, [0, 1, 2, 3, 4, 5, 6, 7]), (10, [0, 1, 2, 3, 4, 5, 6]), (11, []), (12, [])]
def oXTpD74_9 : List (Nat × List Nat) := [(0, []), (1, [0]), (2, []), (3, [0, 1, 2]), (4, [0, 1, 2]), (5, [0, 1, 2]), (6, []), (7, [0, 1, 2, 3, 4, 5, 6]), (8, [0, 1, 2, 3, 4, 5, 6, 7]), (9, [0, 1, 2, 3, 4, 5, 6]), (10, []), (11, [])]
def oXTpD74_10 : List (Nat × List Nat) := [(0, []), (1, [0]), (2, []), (3, [0, 1, 2]), (4, [0, 1, 2, 3]), (5, [0, 1, 2, 3]), (6, [0, 1, 2]), (7, []), (8, [])]
theorem lpas_eq {a b : Pas} : a = b ↔ ((a.tm = b.tm ∧ a.gate = b.gate) ∧ a.plate = b.plate) ∧ a.cents = b.cents := by cases a; cases b; simp [and_assoc]
instance : DecidableEq Pas := fun _ _ => decidable_of_iff _ lpas_eq.symm
theorem enc_len (n : Int) : (Utf8.encode n).data.toList.length ≤ 4 := by
 unfold Utf8.encode
 dsimp only
 generalize (if Utf8.valid n = true then n.toNat else Utf8.runeError) = c
 repeat' split
 all_goals simp
theorem le_enc {A : Nat} {n : Int} (h : A ≤ 2^40) : A + (Utf8.encode n).data.toList.length ≤ 9223372036854775807 := by have := enc_len n; omega
theorem le_enc2 {A : List UInt8} {B : Nat} {n : Int} (h : A.length ≤ 2^40) (k : B ≤ 2^40) : (A ++ (Utf8.encode n).data.toList).length + B ≤ 9223372036854775807 := by have := enc_len n; rw [List.length_append]; omega
theorem len_enc {A : List UInt8} {n : Int} : (A ++ (Utf8.encode n).data.toList).length ≤ A.length + 4 := by have := enc_len n; rw [List.length_append]; omega
theorem lz74 (n : Nat) (L : Nat → Int) (hL : Rok n L) (a : Int) (h0 : 0 ≤ a) (ha : a ≤ 2^39) (t wth : List UInt8) (ht : t.length ≤ 2^30) (hw : wth.length ≤ 2^20) :
 FSpec Tryz.prog 74 [.ptr 1000000 0, .d (.str t), .d (.str wth)] [(1000000, strm n L a)] (fun y r => (∃ u, u.length ≤ t.length + wth.length + 4 ∧ y = .d (.str u)) ∧ Moved n L a 4 r) := by
 have nn : ∀ l : List UInt8, ¬ 1 ≤ l.length → l = [] := fun l h => List.eq_nil_of_length_eq_zero (by omega)
 by_cases e1 : 1 ≤ t.length
 · by_cases e2 : 1 ≤ wth.length
   · refine spec_of hT (C := []) Tryz.func74 rfl Tryz.call74 rfl rfl rfl ?_
     conv => whnf
     repeat' (first | (refine CallX.of (s86 n L hL _ ?_ ?_ _ ?_) [(1000000, 1000000)] rfl ⟨lr, lr, trivial⟩ ⟨rr, trivial⟩ rfl rfl ?_; rotate_right; rintro x rout ⟨⟨j, hj1, hj2, hj3, rfl⟩, ⟨c, c1, c2, rfl⟩⟩; refine ⟨rfl, ?_⟩; conv => whnf) | (refine And.intro (le_enc (by simp only [List.length_take, List.length_drop]; omega)) ?_; conv => whnf) | (refine And.intro (le_enc2 (by simp only [List.length_take, List.length_drop]; omega) (by simp only [List.length_take, List.length_drop]; omega)) ?_; conv => whnf) | (refine And.intro (by simp only [List.length_take, List.length_drop]; omega) ?_; conv => whnf) | (refine br_intro ?_ ?_ <;> intro hb <;> (try simp only [brs] at hb) <;> conv => whnf) | (refine RegX.rule (id := 7) hT rfl [] oXTpD74_7 (by decide +kernel) ?_; conv => whnf) | (refine RegX.rule (id := 9) hT rfl [] oXTpD74_9 (by decide +kernel) ?_; conv => whnf) | (refine RegX.rule (id := 10) hT rfl [] oXTpD74_10 (by decide +kernel) ?_; conv => whnf) | omega | (refine And.intro ?_ ?_; ((try dsimp only); first | omega | (refine szA rfl ?_; omega) | (refine szB rfl ?_; omega) | (unfold inI64; omega) | exact rfl | (simp only [List.toList_toArray, List.length_cons, List.length_nil]; omega) | (simp only [lns] at *; omega) | decide | (unfold inI64; decide)); conv => whnf) | decide | assumption)
     · exfalso; rw [hb] at e1; simp at e1
     · exfalso; rw [hb] at e2; simp at e2
     all_goals (refine .ret _ ?_)
     all_goals (conv => whnf)
     · refine ⟨[(1000000, strm n L _)], ⟨⟨_, ?_, rfl⟩, ⟨_, ?_, ?_, rfl⟩⟩, rr, trivial⟩
       · rw [List.length_append]
         refine Nat.le_trans (Nat.add_le_add_right len_enc _) ?_
         simp only [List.length_take, List.length_drop]; omega
       all_goals omega
     · refine ⟨[(1000000, strm n L _)], ⟨⟨_, ?_, rfl⟩, ⟨_, ?_, ?_, rfl⟩⟩, rr, trivial⟩
       · rw [List.length_append]
         refine Nat.le_trans (Nat.add_le_add_right len_enc _) ?_
         simp only [List.length_take, List.length_drop]; omega
       all_goals omega
     · refine ⟨[(1000000, strm n L _)], ⟨⟨_, ?_, rfl⟩, ⟨_, ?_, ?_, rfl⟩⟩, rr, trivial⟩
       · rw [List.length_append]
         simp only [List.length_take, List.length_drop]; omega
       all_goals omega
   · obtain rfl := nn _ e2
     refine spec_of hT (C := []) Tryz.func74 rfl Tryz.call74 rfl rfl rfl ?_
     conv => whnf
     repeat' (first | (refine br_intro ?_ ?_ <;> intro hb <;> (try simp only [brs] at hb) <;> conv => whnf) | (refine RegX.rule (id := 7) hT rfl [] oXTpD74_7 (by decide +kernel) ?_; conv => whnf) | (refine RegX.rule (id := 9) hT rfl [] oXTpD74_9 (by decide +kernel) ?_; conv => whnf) | (refine RegX.rule (id := 10) hT rfl [] oXTpD74_10 (by decide +kernel) ?_; conv => whnf) | omega | (refine And.intro ?_ ?_; ((try dsimp only); first | omega | (refine szA rfl ?_; omega) | (refine szB rfl ?_; omega) | (unfold inI64; omega) | exact rfl | (simp only [List.toList_toArray, List.length_cons, List.length_nil]; omega) | (simp only [lns] at *; omega) | decide | (unfold inI64; decide)); conv => whnf) | decide | assumption)
     all_goals (refine .ret _ ?_)
     all_goals (conv => whnf)
     all_goals exact ⟨[(1000000, strm n L a)], ⟨⟨_, by simp, rfl⟩, ⟨a, by omega, by omega, rfl⟩⟩, rr, trivial⟩
 · obtain rfl := nn _ e1
   refine spec_of hT (C := []) Tryz.func74 rfl Tryz.call74 rfl rfl rfl ?_
   conv => whnf
   repeat' (first | (refine br_intro ?_ ?_ <;> intro hb <;> (try simp only [brs] at hb) <;> conv => whnf) | (refine RegX.rule (id := 7) hT rfl [] oXTpD74_7 (by decide +kernel) ?_; conv => whnf) | (refine RegX.rule (id := 9) hT rfl [] oXTpD74_9 (by decide +kernel) ?_; conv => whnf) | (refine RegX.rule (id := 10) hT rfl [] oXTpD74_10 (by decide +kernel) ?_; conv => whnf) | omega | (refine And.intro ?_ ?_; ((try dsimp only); first | omega | (refine szA rfl ?_; omega) | (refine szB rfl ?_; omega) | (unfold inI64; omega) | exact rfl | (simp only [List.toList_toArray, List.length_cons, List.length_nil]; omega) | (simp only [lns] at *; omega) | decide | (unfold inI64; decide)); conv => whnf) | decide | assumption)
   all_goals (refine .ret _ ?_)
   all_goals (conv => whnf)
   all_goals exact ⟨[(1000000, strm n L a)], ⟨⟨wth, by simp, rfl⟩, ⟨a, by omega, by omega, rfl⟩⟩, rr, trivial⟩
def MovedK (n : Nat) (L : Nat → Int) (a : Int) (c : Int) (r : List (Nat × Res)) : Prop := ∃ b, a ≤ b ∧ b ≤ a + c ∧ r = [(1000000, strm n L b), (1000009, KX)]
theorem s74 (n : Nat) (L : Nat → Int) (hL : Rok n L) (a : Int) (h0 : 0 ≤ a) (ha : a ≤ 2^39) (t wth : List UInt8) (ht : t.length ≤ 2^30) (hw : wth.length ≤ 2^20) :
 FSpec Tryz.prog 74 [.ptr 1000000 0, .d (.str t), .d (.str wth)] [(1000000, strm n L a)] (fun y r => (∃ u, u.length ≤ t.length + wth.length + 4 ∧ y = .d (.str u)) ∧ Moved n L a 4 r) := lz74 n L hL a h0 ha t wth ht hw
theorem pick4 {u : Int} (h : u ∈ [(0 : Int), 0, 1, 2]) : 0 ≤ u ∧ u ≤ 2 := by simp at h; omega
structure Pnl where
 key : List UInt8
 w : Int
 h : Int
 pr : Int
structure Mrk where
 pan : List UInt8
 kind : Int
 x : Int
 y : Int
 size : Int
structure Rul where
 near : Int
 slack : Int
 join : Int
 part : Int
theorem less_irr : ∀ (a : List UInt8), Op.bytesLess a a = false := by
 intro a
 induction a with
 | nil => rfl
 | cons x a ih => simp [Op.bytesLess, ih]
end Go.Proofs.YtgeakdcbpjmkbaaGreatDoor
namespace Go.Proofs
open Go.Shelf
def Tryz.lays106_ren : Go.Shelf.Ren := ⟨fun | 106 => 118 | 213 => 186 | 265 => 234 | n => n, fun | 9 => 9 | 3 => 3 | n => n, fun | n => n⟩
theorem Tryz.lays106 : Go.Proofs.Lays.n106 Tryz.prog Tryz.lays106_ren := {
 mixed := by kernel_rfl
 f106 := Tryz.func118.trans (congrArg some (by kernel_rfl))
 f213 := Tryz.func186.trans (congrArg some (by kernel_rfl))
 f265 := Tryz.func234.trans (congrArg some (by kernel_rfl))
 t3 := Tryz.underlying3
 a3 := Tryz.isAgg3
 z3 := Tryz.sizeOf3
 v3 := Tryz.zeroValue3
 t9 := Tryz.underlying9
 a9 := Tryz.isAgg9
 z9 := Tryz.sizeOf9
 v9 := Tryz.zeroValue9 }
end Go.Proofs
set_option maxRecDepth 20000
namespace Go.Proofs.YtgeakdcbpjmkbaaGreatDoor
open Go Go.Eng Go.RowKit
theorem cmpB_S : ∀ (a b : List UInt8), Lib.compareBytes a b = cmpS a b := by
 intro a
 induction a with
 | nil => intro b; cases b <;> simp [Lib.compareBytes, cmpS, Op.bytesLess]
 | cons x a ih =>
   intro b
   cases b with
   | nil => simp [Lib.compareBytes, cmpS, Op.bytesLess]
   | cons y b =>
     have := ih b
     unfold cmpS at this ⊢
     simp only [Lib.compareBytes, Op.bytesLess]
     grind
theorem s190 (a b : List UInt8) : FSpec Tryz.prog 118 [.d (.str a), .d (.str b)] [] (fun x r => x = .d (.int .i64 (cmpS a b)) ∧ r = []) := by
 refine FSpec.ofBelow Tryz.call118 (fun G β w vs _ hl hd => ?_)
 match vs, hl with
 | [u, v], _ =>
   have hu := hd 0 _ _ rfl rfl
   have hv := hd 1 _ _ rfl rfl
   cases hu with | d _ _ hu => cases hu with | str _ =>
   cases hv with | d _ _ hv => cases hv with | str _ =>
   refine ⟨.int .i64 (Lib.compareBytes a b), fun G β => ?_, (Go.Proofs.Any.strings_Compare Go.Proofs.Tryz.lays106 ⟨a.toArray⟩ ⟨b.toArray⟩ w).mono ?_⟩
   · rw [← cmpB_S]; exact .d _ _ (.int _ _)
   · rintro e w' ⟨he, rfl⟩
     exact ⟨he, Below.refl _ _⟩
end Go.Proofs.YtgeakdcbpjmkbaaGreatDoor
namespace Go.Proofs
open Go.Shelf
end Go.Proofs
set_option maxRecDepth 20000
namespace Go.Proofs.YtgeakdcbpjmkbaaGreatDoor
open Go Go.Eng Go.RowKit
end Go.Proofs.YtgeakdcbpjmkbaaGreatDoor
set_option maxRecDepth 20000
namespace Go.Proofs.YtgeakdcbpjmkbaaGreatDoor
open Go Go.Eng Go.RowKit
end Go.Proofs.YtgeakdcbpjmkbaaGreatDoor
set_option maxRecDepth 20000
namespace Go.Proofs.YtgeakdcbpjmkbaaGreatDoor
open Go Go.Eng Go.RowKit
def su (F : Nat → Int) : Nat → Int
 | 0 => 0
 | n + 1 => su F n + F n
theorem su_congr {F H : Nat → Int} : ∀ {n : Nat}, (∀ k, k < n → F k = H k) → su F n = su H n
 | 0, _ => rfl
 | n + 1, h => by rw [su, su, su_congr (fun k hk => h k (by omega)), h n (by omega)]
theorem su_le {F H : Nat → Int} : ∀ {n : Nat}, (∀ k, k < n → F k ≤ H k) → su F n ≤ su H n
 | 0, _ => Int.le_refl _
 | n + 1, h => by
   have h1 := su_le (n := n) (fun k hk => h k (by omega))
   have h2 := h n (by omega)
   rw [su, su]; omega
theorem su_add (F H : Nat → Int) : ∀ n, su (fun k => F k + H k) n = su F n + su H n
 | 0 => rfl
 | n + 1 => by rw [su, su, su, su_add F H n]; omega
theorem su_sub (F H : Nat → Int) : ∀ n, su (fun k => F k - H k) n = su F n - su H n
 | 0 => rfl
 | n + 1 => by rw [su, su, su, su_sub F H n]; omega
theorem su_mul (a : Int) (F : Nat → Int) : ∀ n, su (fun k => a * F k) n = a * su F n
 | 0 => by simp [su]
 | n + 1 => by rw [su, su, su_mul a F n, Int.mul_add]
theorem su_zero {F : Nat → Int} {n : Nat} (h : ∀ k, k < n → F k = 0) : su F n = 0 := by
 have : ∀ m, su (fun _ => 0) m = 0 := fun m => by
  induction m with
  | zero => rfl
  | succ m ih => rw [su, ih]; rfl
 rw [su_congr (H := fun _ => 0) h, this]
theorem su_nn {F : Nat → Int} {n : Nat} (h : ∀ k, k < n → 0 ≤ F k) : 0 ≤ su F n := by
 have := su_le (F := fun _ => 0) (H := F) (n := n) h
 rwa [su_zero (fun _ _ => rfl)] at this
theorem su_one {a n : Nat} {x : Int} (h : a < n) : su (fun v => if a = v then x else 0) n = x := by
 induction n with
 | zero => omega
 | succ n ih =>
   rw [su]
   by_cases q : a = n
   · subst q
     rw [if_pos rfl, su_zero (fun k hk => if_neg (by omega))]; omega
   · rw [if_neg q, ih (by omega)]; omega
theorem su_swap (F : Nat → Nat → Int) (n : Nat) : ∀ m, su (fun k => su (fun v => F k v) n) m = su (fun v => su (fun k => F k v) m) n
 | 0 => by rw [su]; exact (su_zero fun _ _ => rfl).symm
 | m + 1 => by rw [su, su_swap F n m, ← su_add]; rfl
structure Nw where
 K : Nat
 N : Nat
 fr : Nat → Nat
 to : Nat → Nat
 c : Nat → Int
structure Nw.Ok (G : Nw) : Prop where
 fr : ∀ k, k < G.K → G.fr k < G.N
 to : ∀ k, k < G.K → G.to k < G.N
 c0 : ∀ k, k < G.K → 0 ≤ G.c k
def Nw.net (G : Nw) (f : Nat → Int) (v : Nat) : Int := su (fun k => (if G.fr k = v then f k else 0) - (if G.to k = v then f k else 0)) G.K
def Nw.cost (G : Nw) (f : Nat → Int) : Int := su (fun k => f k * G.c k) G.K
theorem Nw.net_sub (G : Nw) (f g : Nat → Int) (v : Nat) : G.net (fun k => g k - f k) v = G.net g v - G.net f v := by
 unfold Nw.net
 rw [← su_sub]
 refine su_congr fun k _ => ?_
 by_cases a : G.fr k = v <;> by_cases b : G.to k = v <;> simp [a, b] <;> omega
theorem Nw.dual {G : Nw} (h : G.Ok) (d : Nat → Int) (p : Nat → Int) : su (fun k => d k * (p (G.to k) - p (G.fr k))) G.K = - su (fun v => p v * G.net d v) G.N := by
 have e : ∀ v, p v * G.net d v = su (fun k => (if G.fr k = v then p v * d k else 0) - (if G.to k = v then p v * d k else 0)) G.K := fun v => by
  unfold Nw.net
  rw [← su_mul]
  refine su_congr fun k _ => ?_
  by_cases a : G.fr k = v <;> by_cases b : G.to k = v <;> simp [a, b, Int.mul_sub, Int.mul_neg]
 rw [su_congr (fun v _ => e v), su_swap (fun v k => (if G.fr k = v then p v * d k else 0) - (if G.to k = v then p v * d k else 0))]
 have e2 : su (fun k => d k * (p (G.to k) - p (G.fr k))) G.K = su (fun k => 0 - (p (G.fr k) * d k - p (G.to k) * d k)) G.K := su_congr fun k _ => by
  rw [Int.mul_sub, Int.mul_comm (d k), Int.mul_comm (d k)]; omega
 rw [e2, su_sub, su_zero (fun _ _ => rfl), Int.zero_sub]
 congr 1
 refine su_congr fun k hk => ?_
 rw [su_sub]
 have f1 : su (fun v => if G.fr k = v then p v * d k else 0) G.N = p (G.fr k) * d k := by
  rw [su_congr (H := fun v => if G.fr k = v then p (G.fr k) * d k else 0) (fun v _ => by by_cases q : G.fr k = v <;> simp [q])]
  exact su_one (h.fr k hk)
 have f2 : su (fun v => if G.to k = v then p v * d k else 0) G.N = p (G.to k) * d k := by
  rw [su_congr (H := fun v => if G.to k = v then p (G.to k) * d k else 0) (fun v _ => by by_cases q : G.to k = v <;> simp [q])]
  exact su_one (h.to k hk)
 rw [f1, f2]
def Nw.Fills (G : Nw) (have_ want : Nat → Int) (g : Nat → Int) : Prop := (∀ k, k < G.K → 0 ≤ g k) ∧ ∀ v, v < G.N → - want v ≤ G.net g v ∧ G.net g v ≤ have_ v - want v
structure Nw.St (G : Nw) (have_ want f left lack : Nat → Int) : Prop where
 f0 : ∀ k, k < G.K → 0 ≤ f k
 left0 : ∀ v, v < G.N → 0 ≤ left v ∧ left v ≤ have_ v
 lack0 : ∀ v, v < G.N → 0 ≤ lack v ∧ lack v ≤ want v
 net : ∀ v, v < G.N → G.net f v = (have_ v - left v) - (want v - lack v)
structure Nw.Pot (G : Nw) (have_ f left p : Nat → Int) : Prop where
 p0 : ∀ v, v < G.N → 0 ≤ p v
 ar : ∀ k, k < G.K → p (G.to k) ≤ p (G.fr k) + G.c k
 tight : ∀ k, k < G.K → 0 < f k → p (G.fr k) + G.c k ≤ p (G.to k)
 left : ∀ v, v < G.N → 0 < left v → p v ≤ 0
theorem Nw.cost_sub (G : Nw) (f g : Nat → Int) : G.cost g - G.cost f = su (fun k => (g k - f k) * G.c k) G.K := by
 unfold Nw.cost
 rw [← su_sub]
 exact su_congr fun k _ => by rw [Int.sub_mul]
theorem Nw.opt {G : Nw} (h : G.Ok) {have_ want f left lack p : Nat → Int} (hs : G.St have_ want f left lack) (hp : G.Pot have_ f left p) (hl : ∀ v, v < G.N → lack v = 0) : G.Fills have_ want f ∧ ∀ g, G.Fills have_ want g → G.cost f ≤ G.cost g := by
 refine ⟨⟨hs.f0, fun v hv => ?_⟩, fun g hg => ?_⟩
 · have := hs.net v hv
   have := hs.left0 v hv
   have := hl v hv
   omega
 · have h1 : su (fun k => (g k - f k) * (p (G.to k) - p (G.fr k))) G.K ≤ su (fun k => (g k - f k) * G.c k) G.K := su_le fun k hk => by
    rcases Int.lt_trichotomy (g k) (f k) with q | q | q
    · have g0 := hg.1 k hk
      have t := hp.tight k hk (by omega)
      have a := hp.ar k hk
      rw [show p (G.to k) - p (G.fr k) = G.c k by omega]; exact Int.le_refl _
    · rw [q]; simp
    · have a := hp.ar k hk
      exact Int.mul_le_mul_of_nonneg_left (by omega) (by omega)
   rw [Nw.dual h (fun k => g k - f k) p, ← G.cost_sub f g] at h1
   have h2 : su (fun v => p v * G.net (fun k => g k - f k) v) G.N ≤ 0 := by
    have := su_le (n := G.N) (F := fun v => p v * G.net (fun k => g k - f k) v) (H := fun _ => 0) (fun v hv => by
     rw [G.net_sub f g v]
     have n1 := hs.net v hv
     have n2 := hg.2 v hv
     have n3 := hl v hv
     have n4 := hs.left0 v hv
     have n5 := hp.p0 v hv
     rcases Int.lt_or_le 0 (left v) with q | q
     · have := hp.left v hv q
       rw [show p v = 0 by omega]; simp
     · exact Int.mul_nonpos_of_nonneg_of_nonpos n5 (by omega))
    rwa [su_zero (fun _ _ => rfl)] at this
   omega
def farD : Int := 1125899906842624
def upd {α : Type} (f : Nat → α) (a : Nat) (x : α) : Nat → α := fun v => if v = a then x else f v
theorem upd_self {α : Type} {f : Nat → α} {a : Nat} {x : α} : upd f a x a = x := if_pos rfl
theorem upd_ne {α : Type} {f : Nat → α} {a v : Nat} {x : α} (h : v ≠ a) : upd f a x v = f v := if_neg h
def Nw.hd (G : Nw) (e : Nat × Bool) : Nat := if e.2 = true then G.fr e.1 else G.to e.1
def Nw.tl (G : Nw) (e : Nat × Bool) : Nat := if e.2 = true then G.to e.1 else G.fr e.1
def Nw.cc (G : Nw) (e : Nat × Bool) : Int := if e.2 = true then - G.c e.1 else G.c e.1
def Nw.Re (G : Nw) (f : Nat → Int) (e : Nat × Bool) : Prop := e.1 < G.K ∧ (e.2 = true → 0 < f e.1)
theorem Nw.hd_lt {G : Nw} (h : G.Ok) {e : Nat × Bool} (he : e.1 < G.K) : G.hd e < G.N ∧ G.tl e < G.N := by
 unfold Nw.hd Nw.tl
 have := h.fr _ he
 have := h.to _ he
 cases e.2 <;> simp <;> omega
inductive Nw.Ch (G : Nw) (b : Nat → Option (Nat × Bool)) (Q : Nat × Bool → Prop) : Nat → Nat → Nat → Prop
 | root (v : Nat) (h : b v = none) : Nw.Ch G b Q v 0 v
 | step (v n r : Nat) (e : Nat × Bool) (h : b v = some e) (hq : Q e) (hc : Nw.Ch G b Q (G.tl e) n r) : Nw.Ch G b Q v (n + 1) r
theorem Nw.Ch.uniq {G : Nw} {b : Nat → Option (Nat × Bool)} {Q Q' : Nat × Bool → Prop} {v n r : Nat} (h : G.Ch b Q v n r) : ∀ {m s : Nat}, G.Ch b Q' v m s → n = m ∧ r = s := by
 induction h with
 | root v hv =>
   intro m s h2
   cases h2 with
   | root _ _ => exact ⟨rfl, rfl⟩
   | step _ _ _ e he _ _ => rw [hv] at he; cases he
 | step v n r e he _ _ ih =>
   intro m s h2
   cases h2 with
   | root _ hv => rw [hv] at he; cases he
   | step _ n' _ e' he' _ hc' =>
     rw [he] at he'; cases he'
     obtain ⟨rfl, rfl⟩ := ih hc'
     exact ⟨rfl, rfl⟩
structure Nw.Wy (G : Nw) (f left p dist : Nat → Int) (b : Nat → Option (Nat × Bool)) : Prop where
 d1 : ∀ v, v < G.N → dist v ≤ farD ∧ (dist v < farD → p v ≤ dist v)
 src : ∀ v, v < G.N → 0 < left v → dist v = 0 ∧ b v = none
 root : ∀ v, v < G.N → b v = none → dist v < farD → 0 < left v
 st : ∀ v e, v < G.N → b v = some e → G.Re f e ∧ G.hd e = v ∧ dist (G.tl e) < farD ∧ dist (G.tl e) + G.cc e ≤ dist v ∧ dist v < farD
 rt : ∀ v, v < G.N → dist v < farD → ∃ n r, G.Ch b (fun _ => True) v n r
def Nw.Fin (G : Nw) (f dist : Nat → Int) : Prop := ∀ e, G.Re f e → dist (G.tl e) < farD → dist (G.hd e) ≤ dist (G.tl e) + G.cc e
theorem Nw.Wy.tight {G : Nw} {f left p dist : Nat → Int} {b : Nat → Option (Nat × Bool)} (hw : G.Wy f left p dist b) (hf : G.Fin f dist) {v : Nat} {e : Nat × Bool} (hv : v < G.N) (he : b v = some e) : dist v = dist (G.tl e) + G.cc e := by
 obtain ⟨s1, s2, s3, s4, s5⟩ := hw.st v e hv he
 have := hf e s1 s3
 rw [s2] at this
 omega
theorem Nw.net_upd (G : Nw) (g : Nat → Int) {k : Nat} (hk : k < G.K) (x : Int) (v : Nat) : G.net (upd g k x) v = G.net g v + (if G.fr k = v then x - g k else 0) - (if G.to k = v then x - g k else 0) := by
 have h := G.net_sub g (upd g k x) v
 have e : G.net (fun i => upd g k x i - g i) v = (if G.fr k = v then x - g k else 0) - (if G.to k = v then x - g k else 0) := by
  unfold Nw.net
  rw [su_congr (H := fun i => if k = i then ((if G.fr k = v then x - g k else 0) - (if G.to k = v then x - g k else 0)) else 0) (fun i _ => ?_), su_one hk]
  by_cases q : i = k
  · rw [if_pos q.symm, q]; simp only [upd_self]
  · rw [if_neg (show ¬ k = i from fun z => q z.symm)]; simp [upd_ne q]
 omega
theorem ite_sw {a v : Nat} {x y : Int} (h : x = y) : (if a = v then x else 0) = (if v = a then y else 0) := by
 subst h
 by_cases q : a = v
 · rw [if_pos q, if_pos q.symm]
 · rw [if_neg q, if_neg (fun z => q z.symm)]
theorem Nw.cost_upd (G : Nw) (g : Nat → Int) {k : Nat} (hk : k < G.K) (x : Int) : G.cost (upd g k x) = G.cost g + (x - g k) * G.c k := by
 have h := G.cost_sub g (upd g k x)
 have e : su (fun i => (upd g k x i - g i) * G.c i) G.K = (x - g k) * G.c k := by
  rw [su_congr (H := fun i => if k = i then (x - g k) * G.c k else 0) (fun i _ => ?_), su_one hk]
  by_cases q : i = k
  · rw [if_pos q.symm, q, upd_self]
  · rw [if_neg (show ¬ k = i from fun z => q z.symm), upd_ne q]; simp
 omega
structure Nw.Bot (G : Nw) (f dist : Nat → Int) (b : Nat → Option (Nat × Bool)) (t : Nat) (lk : Int) (a : Nat) (m : Int) : Prop where
 ch : ∀ m' n' r, m' ≤ m → G.Ch b (fun e => e.2 = true → m' ≤ f e.1) a n' r → ∃ n, G.Ch b (fun e => e.2 = true → m' ≤ f e.1) t n r
 aN : a < G.N
 dn : dist a < farD
 m1 : 1 ≤ m ∧ m ≤ lk
theorem Nw.Bot.step {G : Nw} (hG : G.Ok) {f left p dist : Nat → Int} {b : Nat → Option (Nat × Bool)} (hw : G.Wy f left p dist b) {t a : Nat} {lk m : Int} (h : G.Bot f dist b t lk a m) {e : Nat × Bool} (he : b a = some e) :
 G.Bot f dist b t lk (G.tl e) (if e.2 = true then min m (f e.1) else m) := by
 obtain ⟨s1, s2, s3, s4, s5⟩ := hw.st a e h.aN he
 have hm := h.m1
 have hq := s1.2
 refine ⟨fun m' n' r hm' hc => ?_, (Nw.hd_lt hG s1.1).2, s3, ?_⟩
 · refine h.ch m' (n' + 1) r ?_ (.step a n' r e he (fun w => ?_) hc)
   · split at hm' <;> omega
   · rw [if_pos w] at hm'; omega
 · cases w : e.2
   · simp; omega
   · have := hq w
     simp; omega
theorem Nw.Bot.done {G : Nw} {f dist : Nat → Int} {b : Nat → Option (Nat × Bool)} {t a : Nat} {lk m : Int} (h : G.Bot f dist b t lk a m) (ha : b a = none) {m' : Int} (hm : m' ≤ m) : ∃ n, G.Ch b (fun e => e.2 = true → m' ≤ f e.1) t n a :=
 h.ch m' 0 a hm (.root a ha)
structure Nw.Aug (G : Nw) (f dist : Nat → Int) (b : Nat → Option (Nat × Bool)) (t : Nat) (m : Int) (g : Nat → Int) (a n r : Nat) : Prop where
 ch : G.Ch b (fun e => e.2 = true → m ≤ f e.1) a n r
 aN : a < G.N
 dn : dist a < farD
 fl : ∀ k, k < G.K → f k ≤ g k ∨ ∃ j s, G.Ch b (fun _ => True) (G.fr k) j s ∧ n < j ∧ f k ≤ g k + m ∧ m ≤ f k
 net : ∀ v, G.net g v = G.net f v - (if v = t then m else 0) + (if v = a then m else 0)
 cost : G.cost g = G.cost f + m * (dist t - dist a)
 pos : ∀ k, k < G.K → 0 < g k → 0 < f k ∨ (dist (G.fr k) < farD ∧ dist (G.to k) = dist (G.fr k) + G.c k)
theorem Nw.Ch.weak {G : Nw} {b : Nat → Option (Nat × Bool)} {Q : Nat × Bool → Prop} {v n r : Nat} (h : G.Ch b Q v n r) : G.Ch b (fun _ => True) v n r := by
 induction h with
 | root v hv => exact .root v hv
 | step v n r e he _ _ ih => exact .step v n r e he trivial ih
theorem Nw.Aug.step {G : Nw} (hG : G.Ok) {f left p dist : Nat → Int} {b : Nat → Option (Nat × Bool)} (hw : G.Wy f left p dist b) (hf : G.Fin f dist) {t a n r : Nat} {m : Int} (hm : 0 ≤ m) {g : Nat → Int} (h : G.Aug f dist b t m g a n r) {e : Nat × Bool} (he : b a = some e) :
 ∃ n', n = n' + 1 ∧ G.Aug f dist b t m (upd g e.1 (if e.2 = true then g e.1 - m else g e.1 + m)) (G.tl e) n' r := by
 have hch := h.ch
 cases hch with
 | root _ hv => rw [hv] at he; cases he
 | step _ n' _ e' he' hq hc =>
   rw [he] at he'; cases he'
   obtain ⟨s1, s2, s3, s4, s5⟩ := hw.st a e h.aN he
   have htg := hw.tight hf h.aN he
   have hch := h.ch
   refine ⟨n', rfl, hc, (Nw.hd_lt hG s1.1).2, s3, fun k hk => ?_, fun v => ?_, ?_, fun k hk hg => ?_⟩
   · rcases h.fl k hk with w | ⟨j, s, w1, w2, w3, w4⟩
     · by_cases q : k = e.1
       · rw [q, upd_self]
         rw [q] at w
         cases z : e.2
         · left; simp; omega
         · right
           have hz : G.hd e = G.fr e.1 := by unfold Nw.hd; rw [z]; rfl
           rw [s2] at hz
           refine ⟨n' + 1, r, ?_, by omega, by simp; omega, hq z⟩
           rw [← hz]
           exact hch.weak
       · rw [upd_ne q]; exact .inl w
     · right
       refine ⟨j, s, w1, by omega, ?_, w4⟩
       by_cases q : k = e.1
       · rw [q, upd_self]
         rw [q] at w1 w3
         cases z : e.2
         · simp; omega
         · exfalso
           have hz : G.hd e = G.fr e.1 := by unfold Nw.hd; rw [z]; rfl
           rw [s2] at hz
           rw [← hz] at w1
           have := hch.weak.uniq w1
           omega
       · rw [upd_ne q]; exact w3
   · rw [G.net_upd g s1.1, h.net v]
     have hhd : G.hd e = a := s2
     unfold Nw.hd at hhd
     unfold Nw.tl
     cases z : e.2 <;> rw [z] at hhd <;> simp only [if_true, if_false, Bool.false_eq_true] at hhd ⊢
     · have c1 : (if G.to e.1 = v then g e.1 + m - g e.1 else 0) = (if v = a then m else 0) := by rw [hhd]; exact ite_sw (by omega)
       have c2 : (if G.fr e.1 = v then g e.1 + m - g e.1 else 0) = (if v = G.fr e.1 then m else 0) := ite_sw (by omega)
       rw [c1, c2]; omega
     · have c1 : (if G.fr e.1 = v then g e.1 - m - g e.1 else 0) = (if v = a then - m else 0) := by rw [hhd]; exact ite_sw (by omega)
       have c2 : (if G.to e.1 = v then g e.1 - m - g e.1 else 0) = (if v = G.to e.1 then - m else 0) := ite_sw (by omega)
       rw [c1, c2]
       by_cases q : v = a <;> by_cases w : v = G.to e.1 <;> simp only [q, w, if_true, if_false] <;> (try split) <;> omega
   · rw [G.cost_upd g s1.1, h.cost]
     have e1 : (if e.2 = true then g e.1 - m else g e.1 + m) - g e.1 = if e.2 = true then - m else m := by split <;> omega
     rw [e1, htg]
     unfold Nw.cc
     cases z : e.2
     · simp only [if_false, Bool.false_eq_true]
       rw [show dist t - dist (G.tl e) = (dist t - (dist (G.tl e) + G.c e.1)) + G.c e.1 by omega, Int.mul_add]; omega
     · simp only [if_true]
       have e2 : m * (dist t - dist (G.tl e)) = m * (dist t - (dist (G.tl e) + - G.c e.1)) - m * G.c e.1 := by rw [← Int.mul_sub]; congr 1; omega
       rw [e2, Int.neg_mul]; omega
   · by_cases q : k = e.1
     · rw [q, upd_self] at hg
       rw [q]
       cases z : e.2
       · right
         have hz : G.hd e = G.to e.1 := by unfold Nw.hd; rw [z]; rfl
         have ht : G.tl e = G.fr e.1 := by unfold Nw.tl; rw [z]; rfl
         have hcc : G.cc e = G.c e.1 := by unfold Nw.cc; rw [z]; rfl
         rw [← hz, ← ht, s2]
         rw [hcc] at htg
         exact ⟨s3, htg⟩
       · exact .inl (s1.2 z)
     · rw [upd_ne q] at hg
       exact h.pos k hk hg
structure Nw.Op (G : Nw) (R : Nat × Bool → Prop) (p : Nat → Int) : Prop where
 lt : ∀ e, R e → e.1 < G.K
 le : ∀ e, R e → p (G.hd e) ≤ p (G.tl e) + G.cc e
structure Nw.Pw (G : Nw) (R : Nat × Bool → Prop) (p : Nat → Int) (P : Int) (dist : Nat → Int) (b : Nat → Option (Nat × Bool)) : Prop where
 low : ∀ v, v < G.N → p v - P ≤ dist v ∧ dist v ≤ 0
 root : ∀ v, v < G.N → b v = none → dist v = 0
 st : ∀ v e, v < G.N → b v = some e → R e ∧ G.hd e = v ∧ dist (G.tl e) + G.cc e ≤ dist v
 rt : ∀ v, v < G.N → ∃ n r, G.Ch b (fun _ => True) v n r
structure Nw.Prc (G : Nw) (have_ f gone y : Nat → Int) : Prop where
 ar : ∀ k, k < G.K → y (G.to k) ≤ y (G.fr k) + G.c k
 tight : ∀ k, k < G.K → 0 < f k → y (G.to k) = y (G.fr k) + G.c k
 lo : ∀ v, v < G.N → 0 < have_ v → gone v < have_ v → y v ≤ 0
 hi : ∀ v, v < G.N → 0 < have_ v → 0 < gone v → 0 ≤ y v
end Go.Proofs.YtgeakdcbpjmkbaaGreatDoor
