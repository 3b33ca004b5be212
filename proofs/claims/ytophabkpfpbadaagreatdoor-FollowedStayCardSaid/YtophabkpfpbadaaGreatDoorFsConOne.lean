/- FollowedStay is proved: for every input the law returns true, and its argument reads afterwards as it read before. Conditions: those of the given row alone. -/
import Derived.Shelf.LaysM
import Derived.Shelf.LaysC
import Derived.Shelf.Strconv.Itoa3
import Derived.Shelf.Strconv.AtoiAll
import Derived.Shelf.Strings.Prefix
import Derived.Shelf.Strings.Split
import Derived.Test.YtophabkpfpbadaaGreatDoorProg
import Derived.Test.YtophabkpfpbadaaGreatDoorFsEngTwo
import Derived.Below
import Derived.Lib.SplitLaws
import Derived.Shelf.Strings.SlTrimAscii
set_option linter.unusedVariables false
set_option linter.unusedSimpArgs false
namespace Go.Proofs
open Go.Shelf
def Tryz.laysM171_ren : Go.Shelf.Ren := ⟨fun | 171 => 103 | 243 => 140 | 246 => 182 | 283 => 207 | 284 => 208 | 285 => 209 | 286 => 210 | 129 => 167 | 317 => 227 | 318 => 228 | 319 => 229 | 320 => 230 | 337 => 245 | 338 => 246 | n => n, fun | 3 => 3 | 9 => 9 | 2 => 2 | 4 => 4 | 171 => 323 | 0 => 0 | 53 => 281 | 37 => 325 | 5 => 5 | 173 => 326 | 212 => 347 | 51 => 279 | 20 => 20 | 213 => 348 | 46 => 216 | 232 => 368 | 233 => 369 | n => n, fun | 17 => 1 | 18 => 2 | 19 => 3 | n => n⟩
theorem Tryz.laysM171 : Go.Proofs.LaysM.n171 Tryz.prog Tryz.laysM171_ren := {
 mixed := by kernel_rfl
 f129 := Tryz.func167.trans (congrArg some (by kernel_rfl))
 f171 := Tryz.func103.trans (congrArg some (by kernel_rfl))
 f243 := Tryz.func140.trans (congrArg some (by kernel_rfl))
 f246 := Tryz.func182.trans (congrArg some (by kernel_rfl))
 f283 := Tryz.func207.trans (congrArg some (by kernel_rfl))
 f284 := Tryz.func208.trans (congrArg some (by kernel_rfl))
 f285 := Tryz.func209.trans (congrArg some (by kernel_rfl))
 f286 := Tryz.func210.trans (congrArg some (by kernel_rfl))
 f317 := Tryz.func227.trans (congrArg some (by kernel_rfl))
 f318 := Tryz.func228.trans (congrArg some (by kernel_rfl))
 f319 := Tryz.func229.trans (congrArg some (by kernel_rfl))
 f320 := Tryz.func230.trans (congrArg some (by kernel_rfl))
 f337 := Tryz.func245.trans (congrArg some (by kernel_rfl))
 f338 := Tryz.func246.trans (congrArg some (by kernel_rfl))
 t0 := Tryz.underlying0
 a0 := Tryz.isAgg0
 z0 := Tryz.sizeOf0
 v0 := Tryz.zeroValue0
 t2 := Tryz.underlying2
 a2 := Tryz.isAgg2
 z2 := Tryz.sizeOf2
 v2 := Tryz.zeroValue2
 t3 := Tryz.underlying3
 a3 := Tryz.isAgg3
 z3 := Tryz.sizeOf3
 v3 := Tryz.zeroValue3
 t4 := Tryz.underlying4
 a4 := Tryz.isAgg4
 z4 := Tryz.sizeOf4
 v4 := Tryz.zeroValue4
 t5 := Tryz.underlying5
 a5 := Tryz.isAgg5
 z5 := Tryz.sizeOf5
 v5 := Tryz.zeroValue5
 t9 := Tryz.underlying9
 a9 := Tryz.isAgg9
 z9 := Tryz.sizeOf9
 v9 := Tryz.zeroValue9
 t20 := Tryz.underlying20
 a20 := Tryz.isAgg20
 z20 := Tryz.sizeOf20
 v20 := Tryz.zeroValue20
 t37 := Tryz.underlying325
 a37 := Tryz.isAgg325
 z37 := Tryz.sizeOf325
 v37 := Tryz.zeroValue325
 t46 := Tryz.underlying216
 a46 := Tryz.isAgg216
 z46 := Tryz.sizeOf216
 v46 := Tryz.zeroValue216
 t51 := Tryz.underlying279
 a51 := Tryz.isAgg279
 z51 := Tryz.sizeOf279
 v51 := Tryz.zeroValue279
 t53 := Tryz.underlying281
 a53 := Tryz.isAgg281
 z53 := Tryz.sizeOf281
 v53 := Tryz.zeroValue281
 t171 := Tryz.underlying323
 a171 := Tryz.isAgg323
 z171 := Tryz.sizeOf323
 v171 := Tryz.zeroValue323
 t173 := Tryz.underlying326
 a173 := Tryz.isAgg326
 z173 := Tryz.sizeOf326
 v173 := Tryz.zeroValue326
 t212 := Tryz.underlying347
 a212 := Tryz.isAgg347
 z212 := Tryz.sizeOf347
 v212 := Tryz.zeroValue347
 t213 := Tryz.underlying348
 a213 := Tryz.isAgg348
 z213 := Tryz.sizeOf348
 t232 := Tryz.underlying368
 a232 := Tryz.isAgg368
 z232 := Tryz.sizeOf368
 v232 := Tryz.zeroValue368
 t233 := Tryz.underlying369
 a233 := Tryz.isAgg369
 z233 := Tryz.sizeOf369
 v233 := Tryz.zeroValue369
 g17 := by kernel_rfl
 g18 := by kernel_rfl
 g19 := by kernel_rfl
 i0 := by kernel_rfl
 i2 := by kernel_rfl
 i3 := by kernel_rfl
 i4 := by kernel_rfl
 i5 := by kernel_rfl
 i9 := by kernel_rfl
 i20 := by kernel_rfl
 i37 := by kernel_rfl
 i46 := by kernel_rfl
 i51 := by kernel_rfl
 i53 := by kernel_rfl
 i171 := by kernel_rfl
 i173 := by kernel_rfl
 i212 := by kernel_rfl
 i232 := by kernel_rfl
 i233 := by kernel_rfl
 m17 := by kernel_rfl
 m18 := by kernel_rfl
 m19 := by kernel_rfl }
def Tryz.laysC172_ren : Go.Shelf.Ren := ⟨fun | 172 => 219 | 244 => 236 | 245 => 237 | 247 => 253 | 279 => 254 | 280 => 255 | 281 => 256 | 282 => 257 | 287 => 268 | 316 => 269 | 171 => 103 | 205 => 270 | 321 => 273 | 322 => 274 | 243 => 140 | 246 => 182 | 283 => 207 | 284 => 208 | 285 => 209 | 286 => 210 | 129 => 167 | 317 => 227 | 318 => 228 | 319 => 229 | 320 => 230 | 337 => 245 | 338 => 246 | n => n, fun | 9 => 9 | 3 => 3 | 75 => 337 | 76 => 338 | 4 => 4 | 5 => 5 | 167 => 361 | 37 => 325 | 0 => 0 | 85 => 362 | 2 => 2 | 168 => 364 | 53 => 281 | 175 => 377 | 46 => 216 | 210 => 381 | 127 => 384 | 145 => 387 | 143 => 385 | 21 => 21 | 171 => 323 | 173 => 326 | 212 => 347 | 51 => 279 | 20 => 20 | 213 => 348 | 232 => 368 | 233 => 369 | 80 => 390 | n => n, fun | 15 => 6 | 16 => 7 | 17 => 1 | 18 => 2 | 19 => 3 | n => n⟩
theorem Tryz.laysC172 : Go.Proofs.LaysC.n172 Tryz.prog Tryz.laysC172_ren := {
 mixed := by kernel_rfl
 f129 := Tryz.func167.trans (congrArg some (by kernel_rfl))
 f171 := Tryz.func103.trans (congrArg some (by kernel_rfl))
 f172 := Tryz.func219.trans (congrArg some (by kernel_rfl))
 f205 := Tryz.func270.trans (congrArg some (by kernel_rfl))
 f243 := Tryz.func140.trans (congrArg some (by kernel_rfl))
 f244 := Tryz.func236.trans (congrArg some (by kernel_rfl))
 f245 := Tryz.func237.trans (congrArg some (by kernel_rfl))
 f246 := Tryz.func182.trans (congrArg some (by kernel_rfl))
 f247 := Tryz.func253.trans (congrArg some (by kernel_rfl))
 f279 := Tryz.func254.trans (congrArg some (by kernel_rfl))
 f280 := Tryz.func255.trans (congrArg some (by kernel_rfl))
 f281 := Tryz.func256.trans (congrArg some (by kernel_rfl))
 f282 := Tryz.func257.trans (congrArg some (by kernel_rfl))
 f283 := Tryz.func207.trans (congrArg some (by kernel_rfl))
 f284 := Tryz.func208.trans (congrArg some (by kernel_rfl))
 f285 := Tryz.func209.trans (congrArg some (by kernel_rfl))
 f286 := Tryz.func210.trans (congrArg some (by kernel_rfl))
 f287 := Tryz.func268.trans (congrArg some (by kernel_rfl))
 f316 := Tryz.func269.trans (congrArg some (by kernel_rfl))
 f317 := Tryz.func227.trans (congrArg some (by kernel_rfl))
 f318 := Tryz.func228.trans (congrArg some (by kernel_rfl))
 f319 := Tryz.func229.trans (congrArg some (by kernel_rfl))
 f320 := Tryz.func230.trans (congrArg some (by kernel_rfl))
 f321 := Tryz.func273.trans (congrArg some (by kernel_rfl))
 f322 := Tryz.func274.trans (congrArg some (by kernel_rfl))
 f337 := Tryz.func245.trans (congrArg some (by kernel_rfl))
 f338 := Tryz.func246.trans (congrArg some (by kernel_rfl))
 t0 := Tryz.underlying0
 a0 := Tryz.isAgg0
 z0 := Tryz.sizeOf0
 v0 := Tryz.zeroValue0
 t2 := Tryz.underlying2
 a2 := Tryz.isAgg2
 z2 := Tryz.sizeOf2
 v2 := Tryz.zeroValue2
 t3 := Tryz.underlying3
 a3 := Tryz.isAgg3
 z3 := Tryz.sizeOf3
 v3 := Tryz.zeroValue3
 t4 := Tryz.underlying4
 a4 := Tryz.isAgg4
 z4 := Tryz.sizeOf4
 v4 := Tryz.zeroValue4
 t5 := Tryz.underlying5
 a5 := Tryz.isAgg5
 z5 := Tryz.sizeOf5
 v5 := Tryz.zeroValue5
 t9 := Tryz.underlying9
 a9 := Tryz.isAgg9
 z9 := Tryz.sizeOf9
 v9 := Tryz.zeroValue9
 t20 := Tryz.underlying20
 a20 := Tryz.isAgg20
 z20 := Tryz.sizeOf20
 v20 := Tryz.zeroValue20
 t21 := Tryz.underlying21
 a21 := Tryz.isAgg21
 z21 := Tryz.sizeOf21
 v21 := Tryz.zeroValue21
 t37 := Tryz.underlying325
 a37 := Tryz.isAgg325
 z37 := Tryz.sizeOf325
 v37 := Tryz.zeroValue325
 t46 := Tryz.underlying216
 a46 := Tryz.isAgg216
 z46 := Tryz.sizeOf216
 v46 := Tryz.zeroValue216
 t51 := Tryz.underlying279
 a51 := Tryz.isAgg279
 z51 := Tryz.sizeOf279
 v51 := Tryz.zeroValue279
 t53 := Tryz.underlying281
 a53 := Tryz.isAgg281
 z53 := Tryz.sizeOf281
 v53 := Tryz.zeroValue281
 t75 := Tryz.underlying337
 a75 := Tryz.isAgg337
 z75 := Tryz.sizeOf337
 v75 := Tryz.zeroValue337
 t76 := Tryz.underlying338
 a76 := Tryz.isAgg338
 z76 := Tryz.sizeOf338
 v76 := Tryz.zeroValue338
 t85 := Tryz.underlying362
 a85 := Tryz.isAgg362
 z85 := Tryz.sizeOf362
 v85 := Tryz.zeroValue362
 t127 := Tryz.underlying384
 a127 := Tryz.isAgg384
 z127 := Tryz.sizeOf384
 v127 := Tryz.zeroValue384
 t143 := Tryz.underlying385
 a143 := Tryz.isAgg385
 z143 := Tryz.sizeOf385
 v143 := Tryz.zeroValue385
 t145 := Tryz.underlying387
 a145 := Tryz.isAgg387
 z145 := Tryz.sizeOf387
 v145 := Tryz.zeroValue387
 t167 := Tryz.underlying361
 a167 := Tryz.isAgg361
 z167 := Tryz.sizeOf361
 v167 := Tryz.zeroValue361
 t168 := Tryz.underlying364
 a168 := Tryz.isAgg364
 z168 := Tryz.sizeOf364
 v168 := Tryz.zeroValue364
 t171 := Tryz.underlying323
 a171 := Tryz.isAgg323
 z171 := Tryz.sizeOf323
 v171 := Tryz.zeroValue323
 t173 := Tryz.underlying326
 a173 := Tryz.isAgg326
 z173 := Tryz.sizeOf326
 v173 := Tryz.zeroValue326
 t175 := Tryz.underlying377
 a175 := Tryz.isAgg377
 z175 := Tryz.sizeOf377
 v175 := Tryz.zeroValue377
 t210 := Tryz.underlying381
 a210 := Tryz.isAgg381
 z210 := Tryz.sizeOf381
 v210 := Tryz.zeroValue381
 t212 := Tryz.underlying347
 a212 := Tryz.isAgg347
 z212 := Tryz.sizeOf347
 v212 := Tryz.zeroValue347
 t213 := Tryz.underlying348
 a213 := Tryz.isAgg348
 z213 := Tryz.sizeOf348
 t232 := Tryz.underlying368
 a232 := Tryz.isAgg368
 z232 := Tryz.sizeOf368
 v232 := Tryz.zeroValue368
 t233 := Tryz.underlying369
 a233 := Tryz.isAgg369
 z233 := Tryz.sizeOf369
 v233 := Tryz.zeroValue369
 g15 := by kernel_rfl
 g16 := by kernel_rfl
 g17 := by kernel_rfl
 g18 := by kernel_rfl
 g19 := by kernel_rfl
 t80 := Tryz.underlying390
 a80 := Tryz.isAgg390
 z80 := Tryz.sizeOf390
 v80 := Tryz.zeroValue390
 i0 := by kernel_rfl
 i2 := by kernel_rfl
 i3 := by kernel_rfl
 i4 := by kernel_rfl
 i5 := by kernel_rfl
 i9 := by kernel_rfl
 i20 := by kernel_rfl
 i21 := by kernel_rfl
 i37 := by kernel_rfl
 i46 := by kernel_rfl
 i51 := by kernel_rfl
 i53 := by kernel_rfl
 i75 := by kernel_rfl
 i76 := by kernel_rfl
 i80 := by kernel_rfl
 i85 := by kernel_rfl
 i127 := by kernel_rfl
 i143 := by kernel_rfl
 i145 := by kernel_rfl
 i167 := by kernel_rfl
 i168 := by kernel_rfl
 i171 := by kernel_rfl
 i173 := by kernel_rfl
 i175 := by kernel_rfl
 i210 := by kernel_rfl
 i212 := by kernel_rfl
 i232 := by kernel_rfl
 i233 := by kernel_rfl
 m15 := by kernel_rfl
 m16 := by kernel_rfl
 m17 := by kernel_rfl
 m18 := by kernel_rfl
 m19 := by kernel_rfl
 c0 := by kernel_rfl
 c2 := by kernel_rfl
 c3 := by kernel_rfl
 c4 := by kernel_rfl
 c5 := by kernel_rfl
 c9 := by kernel_rfl
 c20 := by kernel_rfl
 c21 := by kernel_rfl
 c37 := by kernel_rfl
 c46 := by kernel_rfl
 c51 := by kernel_rfl
 c53 := by kernel_rfl
 c75 := by kernel_rfl
 c76 := by kernel_rfl
 c80 := by kernel_rfl
 c85 := by kernel_rfl
 c127 := by kernel_rfl
 c143 := by kernel_rfl
 c145 := by kernel_rfl
 c167 := by kernel_rfl
 c168 := by kernel_rfl
 c171 := by kernel_rfl
 c173 := by kernel_rfl
 c175 := by kernel_rfl
 c210 := by kernel_rfl
 c212 := by kernel_rfl
 c213 := by kernel_rfl
 c232 := by kernel_rfl
 c233 := by kernel_rfl }
def Tryz.laysM146_ren : Go.Shelf.Ren := ⟨fun | 146 => 218 | 221 => 235 | 268 => 250 | 138 => 251 | 143 => 252 | 195 => 265 | 197 => 232 | 218 => 266 | 219 => 267 | 260 => 247 | 217 => 271 | 225 => 264 | 224 => 263 | 267 => 272 | 266 => 275 | 314 => 276 | n => n, fun | 9 => 9 | 31 => 96 | 3 => 3 | 4 => 4 | 0 => 0 | 105 => 350 | 21 => 21 | 5 => 5 | 46 => 216 | 119 => 370 | 139 => 373 | 138 => 372 | 146 => 388 | 51 => 279 | n => n, fun | 1 => 0 | 3 => 4 | 4 => 5 | n => n⟩
theorem Tryz.laysM146 : Go.Proofs.LaysM.n146 Tryz.prog Tryz.laysM146_ren := {
 mixed := by kernel_rfl
 f138 := Tryz.func251.trans (congrArg some (by kernel_rfl))
 f143 := Tryz.func252.trans (congrArg some (by kernel_rfl))
 f146 := Tryz.func218.trans (congrArg some (by kernel_rfl))
 f195 := Tryz.func265.trans (congrArg some (by kernel_rfl))
 f197 := Tryz.func232.trans (congrArg some (by kernel_rfl))
 f217 := Tryz.func271.trans (congrArg some (by kernel_rfl))
 f218 := Tryz.func266.trans (congrArg some (by kernel_rfl))
 f219 := Tryz.func267.trans (congrArg some (by kernel_rfl))
 f221 := Tryz.func235.trans (congrArg some (by kernel_rfl))
 f224 := Tryz.func263.trans (congrArg some (by kernel_rfl))
 f225 := Tryz.func264.trans (congrArg some (by kernel_rfl))
 f260 := Tryz.func247.trans (congrArg some (by kernel_rfl))
 f266 := Tryz.func275.trans (congrArg some (by kernel_rfl))
 f267 := Tryz.func272.trans (congrArg some (by kernel_rfl))
 f268 := Tryz.func250.trans (congrArg some (by kernel_rfl))
 f314 := Tryz.func276.trans (congrArg some (by kernel_rfl))
 t0 := Tryz.underlying0
 a0 := Tryz.isAgg0
 z0 := Tryz.sizeOf0
 v0 := Tryz.zeroValue0
 t3 := Tryz.underlying3
 a3 := Tryz.isAgg3
 z3 := Tryz.sizeOf3
 v3 := Tryz.zeroValue3
 t4 := Tryz.underlying4
 a4 := Tryz.isAgg4
 z4 := Tryz.sizeOf4
 v4 := Tryz.zeroValue4
 t5 := Tryz.underlying5
 a5 := Tryz.isAgg5
 z5 := Tryz.sizeOf5
 v5 := Tryz.zeroValue5
 t9 := Tryz.underlying9
 a9 := Tryz.isAgg9
 z9 := Tryz.sizeOf9
 v9 := Tryz.zeroValue9
 t21 := Tryz.underlying21
 a21 := Tryz.isAgg21
 z21 := Tryz.sizeOf21
 v21 := Tryz.zeroValue21
 t31 := Tryz.underlying96
 a31 := Tryz.isAgg96
 z31 := Tryz.sizeOf96
 v31 := Tryz.zeroValue96
 t46 := Tryz.underlying216
 a46 := Tryz.isAgg216
 z46 := Tryz.sizeOf216
 v46 := Tryz.zeroValue216
 t51 := Tryz.underlying279
 a51 := Tryz.isAgg279
 z51 := Tryz.sizeOf279
 v51 := Tryz.zeroValue279
 t105 := Tryz.underlying350
 a105 := Tryz.isAgg350
 z105 := Tryz.sizeOf350
 v105 := Tryz.zeroValue350
 t119 := Tryz.underlying370
 a119 := Tryz.isAgg370
 z119 := Tryz.sizeOf370
 t138 := Tryz.underlying372
 a138 := Tryz.isAgg372
 z138 := Tryz.sizeOf372
 v138 := Tryz.zeroValue372
 t139 := Tryz.underlying373
 a139 := Tryz.isAgg373
 z139 := Tryz.sizeOf373
 v139 := Tryz.zeroValue373
 t146 := Tryz.underlying388
 a146 := Tryz.isAgg388
 z146 := Tryz.sizeOf388
 v146 := Tryz.zeroValue388
 g1 := by kernel_rfl
 g3 := by kernel_rfl
 g4 := by kernel_rfl
 i0 := by kernel_rfl
 i3 := by kernel_rfl
 i4 := by kernel_rfl
 i5 := by kernel_rfl
 i9 := by kernel_rfl
 i21 := by kernel_rfl
 i31 := by kernel_rfl
 i46 := by kernel_rfl
 i51 := by kernel_rfl
 i105 := by kernel_rfl
 i138 := by kernel_rfl
 i139 := by kernel_rfl
 i146 := by kernel_rfl
 m1 := by kernel_rfl
 s1_3 := fun w h => Go.Proofs.cell_of_shapedOpen_int (zero := #[.int .i64 0]) (t := 3) h (of_decide_eq_true (by kernel_rfl)) (by kernel_rfl) rfl (by kernel_rfl) (by kernel_rfl) Tryz.underlying3
 m3 := by kernel_rfl
 m4 := by kernel_rfl }
def Tryz.lays146_ren : Go.Shelf.Ren := ⟨fun | 146 => 218 | 221 => 235 | 268 => 250 | 138 => 251 | 143 => 252 | 195 => 265 | 197 => 232 | 218 => 266 | 219 => 267 | 260 => 247 | 217 => 271 | 225 => 264 | 224 => 263 | 267 => 272 | 266 => 275 | 314 => 276 | n => n, fun | 9 => 9 | 31 => 96 | 3 => 3 | 4 => 4 | 0 => 0 | 105 => 350 | 21 => 21 | 5 => 5 | 46 => 216 | 119 => 370 | 139 => 373 | 138 => 372 | 146 => 388 | 51 => 279 | n => n, fun | 1 => 0 | 3 => 4 | 4 => 5 | n => n⟩
theorem Tryz.lays146 : Go.Proofs.Lays.n146 Tryz.prog Tryz.lays146_ren := {
 mixed := by kernel_rfl
 f138 := Tryz.func251.trans (congrArg some (by kernel_rfl))
 f143 := Tryz.func252.trans (congrArg some (by kernel_rfl))
 f146 := Tryz.func218.trans (congrArg some (by kernel_rfl))
 f195 := Tryz.func265.trans (congrArg some (by kernel_rfl))
 f197 := Tryz.func232.trans (congrArg some (by kernel_rfl))
 f217 := Tryz.func271.trans (congrArg some (by kernel_rfl))
 f218 := Tryz.func266.trans (congrArg some (by kernel_rfl))
 f219 := Tryz.func267.trans (congrArg some (by kernel_rfl))
 f221 := Tryz.func235.trans (congrArg some (by kernel_rfl))
 f224 := Tryz.func263.trans (congrArg some (by kernel_rfl))
 f225 := Tryz.func264.trans (congrArg some (by kernel_rfl))
 f260 := Tryz.func247.trans (congrArg some (by kernel_rfl))
 f266 := Tryz.func275.trans (congrArg some (by kernel_rfl))
 f267 := Tryz.func272.trans (congrArg some (by kernel_rfl))
 f268 := Tryz.func250.trans (congrArg some (by kernel_rfl))
 f314 := Tryz.func276.trans (congrArg some (by kernel_rfl))
 t0 := Tryz.underlying0
 a0 := Tryz.isAgg0
 z0 := Tryz.sizeOf0
 v0 := Tryz.zeroValue0
 t3 := Tryz.underlying3
 a3 := Tryz.isAgg3
 z3 := Tryz.sizeOf3
 v3 := Tryz.zeroValue3
 t4 := Tryz.underlying4
 a4 := Tryz.isAgg4
 z4 := Tryz.sizeOf4
 v4 := Tryz.zeroValue4
 t5 := Tryz.underlying5
 a5 := Tryz.isAgg5
 z5 := Tryz.sizeOf5
 v5 := Tryz.zeroValue5
 t9 := Tryz.underlying9
 a9 := Tryz.isAgg9
 z9 := Tryz.sizeOf9
 v9 := Tryz.zeroValue9
 t21 := Tryz.underlying21
 a21 := Tryz.isAgg21
 z21 := Tryz.sizeOf21
 v21 := Tryz.zeroValue21
 t31 := Tryz.underlying96
 a31 := Tryz.isAgg96
 z31 := Tryz.sizeOf96
 v31 := Tryz.zeroValue96
 t46 := Tryz.underlying216
 a46 := Tryz.isAgg216
 z46 := Tryz.sizeOf216
 v46 := Tryz.zeroValue216
 t51 := Tryz.underlying279
 a51 := Tryz.isAgg279
 z51 := Tryz.sizeOf279
 v51 := Tryz.zeroValue279
 t105 := Tryz.underlying350
 a105 := Tryz.isAgg350
 z105 := Tryz.sizeOf350
 v105 := Tryz.zeroValue350
 t119 := Tryz.underlying370
 a119 := Tryz.isAgg370
 z119 := Tryz.sizeOf370
 t138 := Tryz.underlying372
 a138 := Tryz.isAgg372
 z138 := Tryz.sizeOf372
 v138 := Tryz.zeroValue372
 t139 := Tryz.underlying373
 a139 := Tryz.isAgg373
 z139 := Tryz.sizeOf373
 v139 := Tryz.zeroValue373
 t146 := Tryz.underlying388
 a146 := Tryz.isAgg388
 z146 := Tryz.sizeOf388
 v146 := Tryz.zeroValue388
 g1 := by kernel_rfl
 g3 := by kernel_rfl
 g4 := by kernel_rfl }
def Tryz.lays101_ren : Go.Shelf.Ren := ⟨fun | 101 => 220 | 208 => 238 | 206 => 258 | n => n, fun | 9 => 9 | 4 => 4 | 3 => 3 | n => n, fun | n => n⟩
theorem Tryz.lays101 : Go.Proofs.Lays.n101 Tryz.prog Tryz.lays101_ren := {
 mixed := by kernel_rfl
 f101 := Tryz.func220.trans (congrArg some (by kernel_rfl))
 f206 := Tryz.func258.trans (congrArg some (by kernel_rfl))
 f208 := Tryz.func238.trans (congrArg some (by kernel_rfl))
 t3 := Tryz.underlying3
 a3 := Tryz.isAgg3
 z3 := Tryz.sizeOf3
 v3 := Tryz.zeroValue3
 t4 := Tryz.underlying4
 a4 := Tryz.isAgg4
 z4 := Tryz.sizeOf4
 v4 := Tryz.zeroValue4
 t9 := Tryz.underlying9
 a9 := Tryz.isAgg9
 z9 := Tryz.sizeOf9
 v9 := Tryz.zeroValue9 }
def Tryz.lays190_ren : Go.Shelf.Ren := ⟨fun | 190 => 68 | 125 => 116 | 258 => 115 | 128 => 166 | 129 => 167 | 302 => 157 | 303 => 158 | 304 => 159 | 305 => 160 | 306 => 161 | 307 => 162 | 308 => 163 | 309 => 164 | 310 => 165 | 333 => 197 | 329 => 198 | 330 => 199 | 334 => 200 | 335 => 201 | 336 => 86 | 344 => 225 | n => n, fun | 31 => 96 | 9 => 9 | 3 => 3 | 46 => 216 | 0 => 0 | 51 => 279 | 53 => 281 | 4 => 4 | 183 => 273 | 182 => 272 | 131 => 174 | 5 => 5 | 218 => 313 | 222 => 317 | 228 => 343 | 229 => 344 | n => n, fun | n => n⟩
theorem Tryz.lays190 : Go.Proofs.Lays.n190 Tryz.prog Tryz.lays190_ren := {
 mixed := by kernel_rfl
 f125 := Tryz.func116.trans (congrArg some (by kernel_rfl))
 f128 := Tryz.func166.trans (congrArg some (by kernel_rfl))
 f129 := Tryz.func167.trans (congrArg some (by kernel_rfl))
 f190 := Tryz.func68.trans (congrArg some (by kernel_rfl))
 f258 := Tryz.func115.trans (congrArg some (by kernel_rfl))
 f302 := Tryz.func157.trans (congrArg some (by kernel_rfl))
 f303 := Tryz.func158.trans (congrArg some (by kernel_rfl))
 f304 := Tryz.func159.trans (congrArg some (by kernel_rfl))
 f305 := Tryz.func160.trans (congrArg some (by kernel_rfl))
 f306 := Tryz.func161.trans (congrArg some (by kernel_rfl))
 f307 := Tryz.func162.trans (congrArg some (by kernel_rfl))
 f308 := Tryz.func163.trans (congrArg some (by kernel_rfl))
 f309 := Tryz.func164.trans (congrArg some (by kernel_rfl))
 f310 := Tryz.func165.trans (congrArg some (by kernel_rfl))
 f329 := Tryz.func198.trans (congrArg some (by kernel_rfl))
 f330 := Tryz.func199.trans (congrArg some (by kernel_rfl))
 f333 := Tryz.func197.trans (congrArg some (by kernel_rfl))
 f334 := Tryz.func200.trans (congrArg some (by kernel_rfl))
 f335 := Tryz.func201.trans (congrArg some (by kernel_rfl))
 f336 := Tryz.func86.trans (congrArg some (by kernel_rfl))
 f344 := Tryz.func225.trans (congrArg some (by kernel_rfl))
 t0 := Tryz.underlying0
 a0 := Tryz.isAgg0
 z0 := Tryz.sizeOf0
 v0 := Tryz.zeroValue0
 t3 := Tryz.underlying3
 a3 := Tryz.isAgg3
 z3 := Tryz.sizeOf3
 v3 := Tryz.zeroValue3
 t4 := Tryz.underlying4
 a4 := Tryz.isAgg4
 z4 := Tryz.sizeOf4
 v4 := Tryz.zeroValue4
 t5 := Tryz.underlying5
 a5 := Tryz.isAgg5
 z5 := Tryz.sizeOf5
 v5 := Tryz.zeroValue5
 t9 := Tryz.underlying9
 a9 := Tryz.isAgg9
 z9 := Tryz.sizeOf9
 v9 := Tryz.zeroValue9
 t31 := Tryz.underlying96
 a31 := Tryz.isAgg96
 z31 := Tryz.sizeOf96
 v31 := Tryz.zeroValue96
 t46 := Tryz.underlying216
 a46 := Tryz.isAgg216
 z46 := Tryz.sizeOf216
 v46 := Tryz.zeroValue216
 t51 := Tryz.underlying279
 a51 := Tryz.isAgg279
 z51 := Tryz.sizeOf279
 v51 := Tryz.zeroValue279
 t53 := Tryz.underlying281
 a53 := Tryz.isAgg281
 z53 := Tryz.sizeOf281
 v53 := Tryz.zeroValue281
 t131 := Tryz.underlying174
 a131 := Tryz.isAgg174
 z131 := Tryz.sizeOf174
 v131 := Tryz.zeroValue174
 t182 := Tryz.underlying272
 a182 := Tryz.isAgg272
 z182 := Tryz.sizeOf272
 v182 := Tryz.zeroValue272
 t183 := Tryz.underlying273
 a183 := Tryz.isAgg273
 z183 := Tryz.sizeOf273
 v183 := Tryz.zeroValue273
 t218 := Tryz.underlying313
 a218 := Tryz.isAgg313
 z218 := Tryz.sizeOf313
 v218 := Tryz.zeroValue313
 t222 := Tryz.underlying317
 a222 := Tryz.isAgg317
 z222 := Tryz.sizeOf317
 v222 := Tryz.zeroValue317
 t228 := Tryz.underlying343
 a228 := Tryz.isAgg343
 z228 := Tryz.sizeOf343
 v228 := Tryz.zeroValue343
 t229 := Tryz.underlying344
 a229 := Tryz.isAgg344
 z229 := Tryz.sizeOf344
 v229 := Tryz.zeroValue344 }
end Go.Proofs
set_option maxRecDepth 20000
namespace Go.Proofs.YtophabkpfpbadaaGreatDoor
open Go Go.Eng
def oQCoA16_4 : OL := [(0, []), (1, []), (2, []), (3, []), (4, []), (5, rg 5), (6, rg 5), (7, rg 5), (8, rg 5), (9, rg 5), (10, []), (11, [])]
def oQCoA16_5 : OL := [(0, []), (1, []), (2, []), (3, []), (4, []), (5, rg 5), (6, rg 5), (7, rg 5), (8, rg 5), (9, rg 5), (10, []), (11, [])]
def eqTab : List Nat := [183, 225, 52, 142, 128, 131, 65, 70, 196, 341]
theorem eqTab_ok : eqTab.all (eqFits Tryz.prog) = true := by decide +kernel
noncomputable def T : Tab := tiOf Tryz.prog (mem eqTab)
theorem hT : TabOk Tryz.prog T := ⟨mem eqTab, fun _ _ h => h, fun t ht => List.all_eq_true.1 eqTab_ok t ((mem_iff _ _).1 ht)⟩
abbrev i64 (n : Int) : DV := .int .i64 n
def strm (n : Nat) (L : Nat → Int) (at' : Int) : Res := .cells 25 [.d (.ro 1 n fun i => [.int .i64 (L i)]), .d (.int .i64 at')]
def Rok (n : Nat) (L : Nat → Int) : Prop := n ≤ maxLen ∧ ∀ i, -2^63 ≤ L i ∧ L i < 2^63
theorem s148 (x n : Int) (hn : n ≤ 2^40) : FSpec Tryz.prog 38 [.d (.int .i64 x), .d (.int .i64 n)] [] (fun y r => (∃ m : Int, 0 ≤ m ∧ (1 ≤ n → m < n) ∧ (n < 1 → m = 0) ∧ y = .d (.int .i64 m)) ∧ r = []) := by
 refine spec_of hT (C := []) Tryz.func38 rfl Tryz.call38 rfl rfl rfl ?_; conv => whnf
 refine br_intro (fun h => ?_) (fun h => ?_)
 · conv => whnf
   refine .ret _ ?_; conv => whnf
   refine ⟨[], ⟨⟨_, ?_, ?_, ?_, rfl⟩, rfl⟩, trivial⟩; all_goals (simp at h; omega)
 · conv => whnf
   refine ⟨?_, ?_⟩
   · simp at h; omega
   conv => whnf
   simp at h; have h1 := Int.tmod_lt_of_pos x (b := n) (by omega); have h2 := Int.lt_tmod_of_pos x (b := n) (by omega); refine br_intro (fun h2 => ?_) (fun h2 => ?_)
   · conv => whnf
     simp at h2; refine ⟨?_, ?_⟩
     · unfold inI64; omega
     · conv => whnf
       refine .ret _ ?_; conv => whnf
       refine ⟨[], ⟨⟨_, ?_, ?_, ?_, rfl⟩, rfl⟩, trivial⟩; all_goals omega
   · conv => whnf
     simp at h2; refine .ret _ ?_; conv => whnf
     refine ⟨[], ⟨⟨_, ?_, ?_, ?_, rfl⟩, rfl⟩, trivial⟩; all_goals omega
theorem nextB {a n : Int} (h0 : 0 ≤ a) (hn : 1 ≤ n) : 0 ≤ a.tdiv n ∧ a.tdiv n ≤ a ∧ 0 ≤ a.tmod n ∧ a.tmod n < n ∧ 0 ≤ a.tdiv n * a.tmod n ∧ a.tdiv n * a.tmod n ≤ a ∧ a.tmod n ≤ a := by
 have h1 : 0 ≤ a.tdiv n := Int.tdiv_nonneg h0 (by omega); have h2 : 0 ≤ a.tmod n := Int.tmod_nonneg _ h0; have h3 : a.tmod n < n := Int.tmod_lt_of_pos _ (by omega); have h4 := Int.tmod_add_mul_tdiv a n; have h5 : a.tdiv n * 1 ≤ a.tdiv n * n := Int.mul_le_mul_of_nonneg_left hn h1; have h6 : a.tdiv n * a.tmod n ≤ a.tdiv n * n := Int.mul_le_mul_of_nonneg_left (by omega) h1; have h7 : 0 ≤ a.tdiv n * a.tmod n := Int.mul_nonneg h1 h2; rw [Int.mul_comm] at h4; have h8 : 0 ≤ a.tdiv n * n := Int.mul_nonneg h1 (by omega); refine ⟨h1, ?_, h2, h3, h7, ?_, ?_⟩ <;> omega
theorem s86 (n : Nat) (L : Nat → Int) (hL : Rok n L) (a : Int) (h0 : 0 ≤ a) (ha : a ≤ 2^40) (m : Int) (hm : m ≤ 2^40) :
 FSpec Tryz.prog 16 [.ptr 1000000 0, .d (.int .i64 m)] [(1000000, strm n L a)] (fun y r => (∃ j : Int, 0 ≤ j ∧ (1 ≤ m → j < m) ∧ (m < 1 → j = 0) ∧ y = .d (.int .i64 j)) ∧ r = [(1000000, strm n L (a + 1))]) := by
 refine spec_of hT (C := []) Tryz.func16 rfl Tryz.call16 rfl rfl rfl ?_; conv => whnf
 refine ⟨by unfold inI64; omega, ?_⟩; conv => whnf
 refine br_intro (fun h => ?_) (fun h => ?_)
 · conv => whnf
   refine ⟨by unfold inI64; omega, ?_⟩; conv => whnf
   refine CallX.of (s148 _ _ hm) [] rfl ⟨lr, lr, trivial⟩ trivial rfl rfl ?_; rintro x rout ⟨⟨j, j1, j2, j3, rfl⟩, rfl⟩; refine ⟨rfl, ?_⟩; conv => whnf
   refine .ret _ ?_; conv => whnf
   exact ⟨[(1000000, strm n L (a + 1))], ⟨⟨_, j1, j2, j3, rfl⟩, rfl⟩, rr, trivial⟩
 · conv => whnf
   simp at h; have hnp : (1:Int) ≤ n := by omega
   refine RegX.rule hT rfl [] oQCoA16_4 (by decide +kernel) ?_; conv => whnf
   refine ⟨by unfold inI64; omega, ?_⟩; conv => whnf
   refine ⟨by omega, ?_⟩; conv => whnf
   have ea : a + 1 - 1 = a := by omega
   obtain ⟨b1, b2, b3, b4, b5, b6, b7⟩ := nextB h0 hnp; refine RegX.rule hT rfl [] oQCoA16_5 (by decide +kernel) ?_; conv => whnf
   refine ⟨by unfold inI64; omega, ?_⟩; conv => whnf
   refine ⟨by omega, ?_⟩; conv => whnf
   refine ⟨by unfold inI64; rw [ea]; omega, ?_⟩; conv => whnf
   rw [ea]; refine ⟨⟨b3, b4⟩, ?_⟩; conv => whnf
   refine CallX.of (s148 _ _ (by omega)) [] rfl ⟨lr, lr, trivial⟩ trivial rfl rfl ?_; rintro x rout ⟨⟨j, j1, j2, j3, rfl⟩, rfl⟩; refine ⟨rfl, ?_⟩; conv => whnf
   refine ⟨by unfold inI64; omega, ?_⟩; conv => whnf
   have e2 : a.tdiv n * (7919 + a.tmod n) = 7919 * a.tdiv n + a.tdiv n * a.tmod n := by rw [Int.mul_add, Int.mul_comm _ 7919]
   rw [e2]; refine ⟨by unfold inI64; omega, ?_⟩; conv => whnf
   refine ⟨by unfold inI64; omega, ?_⟩; conv => whnf
   refine CallX.of (s148 _ _ hm) [] rfl ⟨lr, lr, trivial⟩ trivial rfl rfl ?_; rintro x rout ⟨⟨j, k1, k2, k3, rfl⟩, rfl⟩; refine ⟨rfl, ?_⟩; conv => whnf
   refine .ret _ ?_; conv => whnf
   exact ⟨[(1000000, strm n L (a + 1))], ⟨⟨_, k1, k2, k3, rfl⟩, rfl⟩, rr, trivial⟩
def Moved (n : Nat) (L : Nat → Int) (a : Int) (c : Int) (r : List (Nat × Res)) : Prop := ∃ b, a ≤ b ∧ b ≤ a + c ∧ r = [(1000000, strm n L b)]
theorem s64 (n : Nat) (L : Nat → Int) (hL : Rok n L) (a : Int) (h0 : 0 ≤ a) (ha : a ≤ 2^40) (lo hi : Int) (h1 : -2^41 ≤ lo) (h2 : hi ≤ lo + 2^40 - 1) (h3 : lo ≤ 2^41) (h4 : lo ≤ hi) :
 FSpec Tryz.prog 7 [.ptr 1000000 0, .d (.int .i64 lo), .d (.int .i64 hi)] [(1000000, strm n L a)] (fun y r => (∃ j : Int, lo ≤ j ∧ j ≤ hi ∧ y = .d (.int .i64 j)) ∧ Moved n L a 1 r) := by
 refine spec_of hT (C := []) Tryz.func7 rfl Tryz.call7 rfl rfl rfl ?_; conv => whnf
 refine br_intro (fun h => ?_) (fun h => ?_)
 · simp at h; omega
 conv => whnf
 refine ⟨by unfold inI64; omega, ?_⟩; conv => whnf
 refine ⟨by unfold inI64; omega, ?_⟩; conv => whnf
 refine CallX.of (s86 n L hL a h0 ha _ (by omega)) [(1000000, 1000000)] rfl ⟨lr, lr, trivial⟩ ⟨rr, trivial⟩ rfl rfl ?_; rintro x rout ⟨⟨j, k1, k2, k3, rfl⟩, rfl⟩; refine ⟨rfl, ?_⟩; conv => whnf
 refine ⟨by unfold inI64; omega, ?_⟩; conv => whnf
 refine .ret _ ?_; conv => whnf
 exact ⟨[(1000000, strm n L (a + 1))], ⟨⟨_, by omega, by omega, rfl⟩, a + 1, by omega, by omega, rfl⟩, rr, trivial⟩
theorem s84 (n : Nat) (L : Nat → Int) (hL : Rok n L) (a : Int) (h0 : 0 ≤ a) (ha : a ≤ 2^40) (m : Int) (hm : m ≤ 2^40) :
 FSpec Tryz.prog 17 [.ptr 1000000 0, .d (.int .i64 m)] [(1000000, strm n L a)] (fun y r => (∃ b : Bool, y = .d (.bool b)) ∧ Moved n L a 1 r) := by
 refine spec_of hT (C := []) Tryz.func17 rfl Tryz.call17 rfl rfl rfl ?_; conv => whnf
 refine CallX.of (s86 n L hL a h0 ha _ (by omega)) [(1000000, 1000000)] rfl ⟨lr, lr, trivial⟩ ⟨rr, trivial⟩ rfl rfl ?_; rintro x rout ⟨⟨j, k1, k2, k3, rfl⟩, rfl⟩; refine ⟨rfl, ?_⟩; conv => whnf
 refine .ret _ ?_; conv => whnf
 exact ⟨[(1000000, strm n L (a + 1))], ⟨⟨_, rfl⟩, a + 1, by omega, by omega, rfl⟩, rr, trivial⟩
theorem s33 (n : Nat) (L : Nat → Int) (hL : Rok n L) (a : Int) (h0 : 0 ≤ a) (ha : a ≤ 2^40) (l : List Int) (hl : 1 ≤ l.length) (hl2 : l.length ≤ 2^40) :
 FSpec Tryz.prog 59 [.ptr 1000000 0, .d (ints l)] [(1000000, strm n L a)] (fun y r => (∃ x ∈ l, y = .d (.int .i64 x)) ∧ Moved n L a 1 r) := by
 refine spec_of hT (C := []) Tryz.func59 rfl Tryz.call59 rfl rfl rfl ?_; conv => whnf
 refine oAx (s86 n L hL a h0 ha l.length (by omega)) [(1000000, 1000000)] ?_; rintro x rout ⟨⟨j, k1, k2, k3, rfl⟩, rfl⟩; refine ⟨rfl, ?_⟩; conv => whnf
 refine ⟨⟨k1, by omega⟩, ?_⟩; conv => whnf
 refine .ret _ ?_; conv => whnf
 exact ⟨[(1000000, strm n L (a + 1))], ⟨⟨_, getD_mem (by omega), rfl⟩, a + 1, by omega, by omega, rfl⟩, rr, trivial⟩
theorem s15 (n : Nat) (L : Nat → Int) (hL : Rok n L) (a : Int) (h0 : 0 ≤ a) (ha : a ≤ 2^40) (l : List (List UInt8)) (hl : 1 ≤ l.length) (hl2 : l.length ≤ 2^40) :
 FSpec Tryz.prog 27 [.ptr 1000000 0, .d (strs l)] [(1000000, strm n L a)] (fun y r => (∃ x ∈ l, y = .d (.str x)) ∧ Moved n L a 1 r) := by
 refine spec_of hT (C := []) Tryz.func27 rfl Tryz.call27 rfl rfl rfl ?_; conv => whnf
 refine oAx (s86 n L hL a h0 ha l.length (by omega)) [(1000000, 1000000)] ?_; rintro x rout ⟨⟨j, k1, k2, k3, rfl⟩, rfl⟩; refine ⟨rfl, ?_⟩; conv => whnf
 refine ⟨⟨k1, by omega⟩, ?_⟩; conv => whnf
 refine .ret _ ?_; conv => whnf
 exact ⟨[(1000000, strm n L (a + 1))], ⟨⟨_, getD_mem (by omega), rfl⟩, a + 1, by omega, by omega, rfl⟩, rr, trivial⟩
theorem Moved.trans {n : Nat} {L : Nat → Int} {a c : Int} {r : List (Nat × Res)} {b d : Int} (h1 : a ≤ b) (h2 : b + d ≤ a + c) (h : Moved n L b d r) : Moved n L a c r := by
 obtain ⟨e, q1, q2, rfl⟩ := h; exact ⟨e, by omega, by omega, rfl⟩
theorem s104 (n : Nat) (L : Nat → Int) (hL : Rok n L) (a : Int) (h0 : 0 ≤ a) (ha : a ≤ 2^39) (lo hi : Int) (h1 : -2^38 ≤ lo) (h2 : lo ≤ hi) (h3 : hi ≤ 2^39) :
 FSpec Tryz.prog 61 [.ptr 1000000 0, .d (.int .i64 lo), .d (.int .i64 hi)] [(1000000, strm n L a)] (fun y r => (∃ j : Int, -2^40 ≤ j ∧ j ≤ 2^40 ∧ y = .d (.int .i64 j)) ∧ Moved n L a 2 r) := by
 refine spec_of hT (C := []) Tryz.func61 rfl Tryz.call61 rfl rfl rfl ?_; conv => whnf
 refine oAx (s84 n L hL a h0 (by omega) 12 (by omega)) [(1000000, 1000000)] ?_; rintro x rout ⟨⟨f, rfl⟩, ⟨b, b1, b2, rfl⟩⟩; refine ⟨rfl, ?_⟩; conv => whnf
 refine br_intro (fun hf => ?_) (fun hf => ?_)
 · conv => whnf
   refine ⟨by unfold inI64; omega, ?_⟩; conv => whnf
   refine ⟨by unfold inI64; omega, ?_⟩; conv => whnf
   refine CallX.of (s33 n L hL b (by omega) (by omega) [lo - 1, hi + 1, lo, hi, -1099511627776, 1099511627776] (by simp) (by simp)) [(1000000, 1000000)] rfl ⟨lr, SV.le_lit (by rfl) (by rfl), trivial⟩ ⟨rr, trivial⟩ rfl rfl ?_; rintro x rout ⟨⟨j, hj, rfl⟩, ⟨c, c1, c2, rfl⟩⟩; refine ⟨rfl, ?_⟩; conv => whnf
   refine .ret _ ?_; conv => whnf
   exact ⟨[(1000000, strm n L c)], ⟨⟨j, by simp at hj; omega, by simp at hj; omega, rfl⟩, c, by omega, by omega, rfl⟩, rr, trivial⟩
 · conv => whnf
   refine oAx (s64 n L hL b (by omega) (by omega) lo hi (by omega) (by omega) (by omega) h2) [(1000000, 1000000)] ?_; rintro x rout ⟨⟨j, j1, j2, rfl⟩, ⟨c, c1, c2, rfl⟩⟩; refine ⟨rfl, ?_⟩; conv => whnf
   refine .ret _ ?_; conv => whnf
   exact ⟨[(1000000, strm n L c)], ⟨⟨j, by omega, by omega, rfl⟩, c, by omega, by omega, rfl⟩, rr, trivial⟩
end Go.Proofs.YtophabkpfpbadaaGreatDoor
namespace Go.Eng
open Go
end Go.Eng
namespace Go.Eng
open Go
end Go.Eng
namespace Go.Eng
open Go
end Go.Eng
namespace Go.Eng
open Go Go.RowKit
theorem know_look {Q : Hp → Prop} (d : Nat) (r : Res) (hd : lookL [((1000009 : Nat), Res.know Q)] d = some r) : d = 1000009 ∧ r = .know Q := by
 simp only [lookL] at hd
 cases hq : Nat.beq d 1000009 with
 | false => rw [hq] at hd; cases hd
 | true => rw [hq] at hd; cases hd; exact ⟨Nat.eq_of_beq_eq_true hq, rfl⟩
theorem FSpec.ofKnow {P : Program} {f : FuncId} {args : List SV} {y : SV} {Q : Hp → Prop} (henter : ∀ args w, (callFunc f args).run P w = .ok (.enter f args) w)
 (h : ∀ (G : Hp) (β : Env) (w : World) (vs : List Value), Q G → (∀ b o, G b = some o → w.heap[b]? = some o) → vs.length = args.length → (∀ (i : Nat) x v, args[i]? = some x → vs[i]? = some v → SV.Den G β x v) →
   ∃ u, (∀ G β, SV.Den G β y u) ∧ Calls P f vs.toArray w fun e w' => e = .returned u ∧ Below w.heap.size w w') : FSpec P f args [(1000009, .know Q)] (fun x r => x = y ∧ r = [(1000009, .know Q)]) := by
 refine ⟨henter, fun G β w vs hpre hl hd => ?_⟩; have hR : lookL [((1000009 : Nat), Res.know Q)] 1000009 = some (.know Q) := by simp [lookL]
 have hq : ResOk G β w 1000009 (.know Q) := hpre.rs _ _ hR; obtain ⟨u, hu, hc⟩ := h G β w vs (hq.2 G (Hp.le_refl G)) hpre.gw hl hd; refine hc.mono ?_; rintro e w' ⟨rfl, hb⟩; refine ⟨u, y, _, G, β, rfl, ⟨rfl, rfl⟩, ⟨Hp.le_refl G, Env.le_refl β, fun b o hg => ?_, fun b o hg => .inl hg, ⟨hb.os, hb.tape, hb.output, hb.size, fun b hlt _ => hb.block b hlt⟩, fun d r hd => ?_, fun d d' r r' v v' b h1 h2 o1 => ?_, fun d r v b h1 o1 => ?_⟩, hu G β⟩
 · have := hpre.gw b o hg; have hlt : b < w.heap.size := (Array.getElem?_eq_some_iff.1 this).1; rw [hb.block b hlt]; exact this
 · obtain ⟨rfl, rfl⟩ := know_look d r hd; exact ⟨hq.1, hq.2⟩
 · obtain ⟨_, rfl⟩ := know_look d r h1; cases o1
 · obtain ⟨_, rfl⟩ := know_look d r h1; cases o1
theorem FSpec.atStart {P : Program} {f : FuncId} {args : List SV} {post : SV → Prop} {Q : Hp → Prop} (h : FSpec P f args [(1000009, .know Q)] (fun x r => post x ∧ r = [(1000009, .know Q)])) (W : World) (hQ : ∀ G, (Hp.le (fun b => W.heap[b]?) G) → Q G) :
 Pre (fun b => W.heap[b]?) (fun d => if d = 1000009 then some (.bool true) else none) W (lookL [((1000009 : Nat), Res.know Q)]) := by
 refine ⟨fun _ _ e => e, fun d r hd => ?_, fun d d' r r' v v' b h1 h2 o1 => ?_, fun d r v b h1 o1 => ?_, fun d v hd => ?_⟩
 · obtain ⟨rfl, rfl⟩ := know_look d r hd; exact ⟨⟨_, if_pos rfl⟩, hQ⟩
 · obtain ⟨_, rfl⟩ := know_look d r h1; cases o1
 · obtain ⟨_, rfl⟩ := know_look d r h1; cases o1
 · by_cases q : d = 1000009
   · subst q; exact ⟨_, rfl⟩
   · rw [if_neg q] at hd; cases hd
end Go.Eng
namespace Go.Eng
open Go Go.RowKit
def facts (F : World → Prop) : Hp → Prop := fun G => ∀ w : World, (∀ (b : Nat) (o : Obj), G b = some o → w.heap[b]? = some o) → F w
theorem facts_start {F : World → Prop} {W : World} (h : ∀ w : World, (∀ (b : Nat) (o : Obj), W.heap[b]? = some o → w.heap[b]? = some o) → F w) (G : Hp) (hG : Hp.le (fun b => W.heap[b]?) G) : facts F G :=
 fun w hw => h w (fun b o e => hw b o (hG b o e))
mutual
theorem okN_more : ∀ x : SV, SV.okN [] x = true → SV.okN [((1000009 : Nat), (1000009 : Nat))] x = true
 | .any, _ => rfl
 | .bad, _ => rfl
 | .undef, _ => rfl
 | .d _, _ => rfl
 | .agg l, h => by simp only [SV.okN] at h ⊢; exact okNL_more l h
 | .tup l, h => by simp only [SV.okN] at h ⊢; exact okNL_more l h
 | .ptr _ _, h => by simp [SV.okN, lookN] at h
 | .buf _, h => by simp [SV.okN, lookN] at h
 | .bel _ _ _ _, h => by simp [SV.okN, lookN] at h
 | .mp _, h => by simp [SV.okN, lookN] at h
 | .fn f caps, h => by simp only [SV.okN] at h ⊢; exact okNL_more caps h
 | .sub _ _ _ _, h => by simp [SV.okN, lookN] at h
theorem okNL_more : ∀ l : List SV, SV.okNL [] l = true → SV.okNL [((1000009 : Nat), (1000009 : Nat))] l = true
 | [], _ => rfl
 | x :: l, h => by
   simp only [SV.okNL, Bool.and_eq_true] at h ⊢; exact ⟨okN_more x h.1, okNL_more l h.2⟩
end
theorem FSpec.ofKnowP {P : Program} {f : FuncId} {args : List SV} {Q : Hp → Prop} {post : SV → Prop} (henter : ∀ args w, (callFunc f args).run P w = .ok (.enter f args) w)
 (h : ∀ (G : Hp) (β : Env) (w : World) (vs : List Value), Q G → (∀ b o, G b = some o → w.heap[b]? = some o) → vs.length = args.length → (∀ (i : Nat) x v, args[i]? = some x → vs[i]? = some v → SV.Den G β x v) →
   Calls P f vs.toArray w fun e w' => ∃ u y G', e = .returned u ∧ post y ∧ G.le G' ∧ (∀ b o, G' b = some o → w'.heap[b]? = some o) ∧ (∀ b o, G' b = some o → G b = some o ∨ w.heap.size ≤ b) ∧ (∀ β, SV.Den G' β y u) ∧ Below w.heap.size w w') :
 FSpec P f args [(1000009, .know Q)] (fun x r => post x ∧ r = [(1000009, .know Q)]) := by
 refine ⟨henter, fun G β w vs hpre hl hd => ?_⟩; have hR : lookL [((1000009 : Nat), Res.know Q)] 1000009 = some (.know Q) := by simp [lookL]
 have hq : ResOk G β w 1000009 (.know Q) := hpre.rs _ _ hR; refine (h G β w vs (hq.2 G (Hp.le_refl G)) hpre.gw hl hd).mono ?_; rintro e w' ⟨u, y, G', rfl, hy, hle, hgw, hgn, hden, hb⟩; refine ⟨u, y, _, G', β, rfl, ⟨hy, rfl⟩, ⟨hle, Env.le_refl β, hgw, fun b o hg => (hgn b o hg).elim .inl (fun q => .inr (.inr q)), ⟨hb.os, hb.tape, hb.output, hb.size, fun b hlt _ => hb.block b hlt⟩, fun d r hd => ?_, fun d d' r r' v v' b h1 h2 o1 => ?_, fun d r v b h1 o1 => ?_⟩, hden β⟩
 · obtain ⟨rfl, rfl⟩ := know_look d r hd; exact ⟨hq.1, fun G'' h2 => hq.2 G'' (Hp.le_trans hle h2)⟩
 · obtain ⟨_, rfl⟩ := know_look d r h1; cases o1
 · obtain ⟨_, rfl⟩ := know_look d r h1; cases o1
theorem FSpec.ofKnowB {P : Program} {f : FuncId} {args : List SV} {Q : Hp → Prop} {post : SV → Prop} (henter : ∀ args w, (callFunc f args).run P w = .ok (.enter f args) w)
 (h : ∀ (G : Hp) (β : Env) (w : World) (vs : List Value), Q G → (∀ b o, G b = some o → w.heap[b]? = some o) → vs.length = args.length → (∀ (i : Nat) x v, args[i]? = some x → vs[i]? = some v → SV.Den G β x v) →
   Calls P f vs.toArray w fun e w' => ∃ u y, e = .returned u ∧ post y ∧ (∀ G β, SV.Den G β y u) ∧ Below w.heap.size w w') :
 FSpec P f args [(1000009, .know Q)] (fun x r => post x ∧ r = [(1000009, .know Q)]) :=
 FSpec.ofKnowP henter fun G β w vs hq hg hl hd => (h G β w vs hq hg hl hd).mono fun e w' => by
  rintro ⟨u, y, he, hy, hden, hb⟩; refine ⟨u, y, G, he, hy, Hp.le_refl G, fun b o e => ?_, fun b o e => .inl e, hden G, hb⟩; have := hg b o e; have hlt : b < w.heap.size := (Array.getElem?_eq_some_iff.1 this).1; rw [hb.block b hlt]; exact this
theorem CallX.kn {P : Program} {f : FuncId} {dst : Option Nat} {args : List SV} {s : St} {av : List Nat} {k : Upd → Prop} {y : SV} {Q : Hp → Prop}
 (hs : FSpec P f args [(1000009, .know Q)] fun x r => x = y ∧ r = [(1000009, .know Q)]) (hR : s.res 1000009 = some (.know Q)) (hargs : SV.okNL [] args = true) (hav : mem av 1099512627785 = false) (hy : SV.okN [] y = true)
 (hk : k ⟨dst, y, [], []⟩) : CallX P f dst args s av k := by
 have up : ∀ {x : SV}, SV.okN [] x = true → SV.okN [((1000009 : Nat), (1000009 : Nat))] x = true ∧ x.ren [((1000009 : Nat), (1000009 : Nat))] = x := by
  have idr : ∀ d c, lookN [((1000009 : Nat), (1000009 : Nat))] d = some c → c = d := by
   intro d c hd; simp only [lookN] at hd
   cases hq : Nat.beq d 1000009 with
   | false => rw [hq] at hd; cases hd
   | true => rw [hq] at hd; cases hd; exact (Nat.eq_of_beq_eq_true hq).symm
  have mono : ∀ x : SV, SV.okN [] x = true → SV.okN [((1000009 : Nat), (1000009 : Nat))] x = true := okN_more; exact fun {x} hx => ⟨mono x hx, ren_id idr x (mono x hx)⟩
 refine CallX.look hs [(1000009, 1000009)] rfl ?_ ⟨⟨1000009, rfl, hR⟩, trivial⟩ rfl (by simp [hav]) (by simp [(up hy).1, outN, lookN, Res.okN]) ?_
 · have : ∀ l : List SV, SV.okNL [] l = true → argsLe [((1000009 : Nat), (1000009 : Nat))] l l := by
    intro l
    induction l with
    | nil => intro _; trivial
    | cons x l ih =>
      intro h; simp only [SV.okNL, Bool.and_eq_true] at h; exact ⟨by rw [(up h.1).2]; exact SV.le_refl _, ih h.2⟩
   exact this args hargs
 · rw [(up hy).2]; exact hk
end Go.Eng
set_option maxRecDepth 20000
namespace Go.Proofs.YtophabkpfpbadaaGreatDoor
open Go Go.Eng Go.Shelf Go.RowKit
def FX (w : World) : Prop := (∀ n : Int, -9223372036854775808 ≤ n → n ≤ 9223372036854775807 → Calls Tryz.prog 103 #[.int .i64 n] w fun e w' => e = .returned (.string ⟨(Lib.itoa n).toArray⟩) ∧ ∃ k os, w' = Go.Sort.grow (w.drewN k) os) ∧ (∃ m, w.cell? ⟨Tryz.lays146_ren.g 1, 0, none⟩ = some (.int .i64 m)) ∧
 (∃ v, w.cell? ⟨Tryz.laysC172_ren.g 15, 0, none⟩ = some v ∧ (v = .nilIface ∨ ∃ t p, v = .iface t p)) ∧ (∃ v, w.cell? ⟨Tryz.laysC172_ren.g 16, 0, none⟩ = some v ∧ (v = .nilIface ∨ ∃ t p, v = .iface t p))
abbrev KX : Res := .know (facts FX)
abbrev kx : List (Nat × Res) := [(1000009, KX)]
theorem bsz (l : List UInt8) : (⟨l.toArray⟩ : ByteArray).size = l.length := by simp [ByteArray.size]
theorem below_grow {w : World} (n : Nat) (os : Array Obj) : Below w.heap.size w (Go.Sort.grow (w.drewN n) os) :=
 ⟨rfl, rfl, rfl, by simp [Go.Sort.grow, World.drewN], fun k hk => by
   show (w.heap ++ os)[k]? = _
   rw [Array.getElem?_append_left hk]⟩
theorem zItoa (n : Int) (h0 : -9223372036854775808 ≤ n) (h1 : n ≤ 9223372036854775807) : FSpec Tryz.prog 103 [.d (.int .i64 n)] kx (fun x r => x = .d (.str (Lib.itoa n)) ∧ r = kx) := by
 refine FSpec.ofKnow Tryz.call103 (fun G β w vs hq hg hvl hd => ?_)
 match vs, hvl with
 | [u], _ =>
   have h0' := hd 0 _ u rfl rfl
   cases h0' with | d _ _ h0' => cases h0' with | int _ _ =>
   have hF := hq w hg; refine ⟨.string ⟨(Lib.itoa n).toArray⟩, fun _ _ => .d _ _ (.str _), ?_⟩; have hcon := hF.1 n h0 h1; refine hcon.mono ?_; rintro e' w' ⟨rfl, k, os, rfl⟩; exact ⟨rfl, below_grow k os⟩
def atoiX (s : List UInt8) (y : SV) : Prop :=
 match Lib.atoiAll s with
 | .ok v => y = .tup [.d (.int .i64 v), .d (.opq .nilIface)]
 | .range => ∃ t p, y = .tup [.d (.int .i64 (Lib.atoiSat s)), .d (.opq (.iface t p))]
 | _ => ∃ t p, y = .tup [.d (.int .i64 0), .d (.opq (.iface t p))]
theorem tup2_den {G : Hp} {β : Env} {p q : SV} {a b : Value} (ha : SV.Den G β p a) (hb : SV.Den G β q b) : SV.Den G β (.tup [p, q]) (.tuple #[a, b]) :=
 .tup [p, q] [a, b] rfl (fun i x v hx hv => by
  match i, hx, hv with
  | 0, hx, hv => simp at hx hv; subst hx; subst hv; exact ha
  | 1, hx, hv => simp at hx hv; subst hx; subst hv; exact hb)
theorem zAtoi (s : List UInt8) (hl : s.length ≤ 2^40) : FSpec Tryz.prog 219 [.d (.str s)] kx (fun x r => atoiX s x ∧ r = kx) := by
 refine FSpec.ofKnowB Tryz.call219 (fun G β w vs hq hg hvl hd => ?_)
 match vs, hvl with
 | [u], _ =>
   have h0 := hd 0 _ u rfl rfl
   cases h0 with | d _ _ h0 => cases h0 with | str _ =>
   obtain ⟨_, _, ⟨v1, c1, d1⟩, ⟨v2, c2, d2⟩⟩ := hq w hg; have e : Tryz.laysC172_ren.f 172 = 219 := rfl
   cases hA : Lib.atoiAll s with
   | ok v =>
     have hcon := Any.strconv_Atoi_ok Tryz.laysC172 ⟨s.toArray⟩ (by rw [bsz]; omega) v (by simpa using hA) w; rw [e] at hcon; refine hcon.mono ?_; rintro e' w' ⟨rfl, hw⟩; refine ⟨_, _, rfl, by unfold atoiX; rw [hA], fun _ _ => tup2_den (.d _ _ (.int _ _)) (.d _ _ (.opq _ rfl)), ?_⟩; rcases hw with rfl | ⟨t, rfl⟩
     · exact Below.refl _ _
     · exact Lib.bytesWorld_below _ _ _
   | range =>
     have hcon := Any.strconv_Atoi_range Tryz.laysC172 ⟨s.toArray⟩ (by rw [bsz]; omega) (by simpa using hA) v2 w c2 d2; rw [e] at hcon; refine hcon.mono ?_; rintro e' w' ⟨N, rfl, _, _, hb⟩; refine ⟨_, _, rfl, by unfold atoiX; rw [hA]; exact ⟨_, _, rfl⟩, fun _ _ => tup2_den ?_ (.d _ _ (.opq _ rfl)), hb⟩
     simpa using SV.Den.d _ _ (DV.Den.int .i64 (Lib.atoiSat s))
   | _ =>
     have hcon := Any.strconv_Atoi_syntax Tryz.laysC172 ⟨s.toArray⟩ (by rw [bsz]; omega) (by simpa using hA) v1 w c1 d1; rw [e] at hcon; refine hcon.mono ?_; rintro e' w' ⟨N, rfl, _, _, hb⟩; exact ⟨_, _, rfl, by unfold atoiX; rw [hA]; exact ⟨_, _, rfl⟩, fun _ _ => tup2_den (.d _ _ (.int _ _)) (.d _ _ (.opq _ rfl)), hb⟩
theorem zTrimP (s p : List UInt8) : FSpec Tryz.prog 220 [.d (.str s), .d (.str p)] [] (fun x r => x = .d (.str (Lib.trimPrefix s p)) ∧ r = []) := by
 refine FSpec.ofBelow Tryz.call220 (fun G β w vs _ hvl hd => ?_)
 match vs, hvl with
 | [u, v], _ =>
   have h0 := hd 0 _ u rfl rfl; have h1 := hd 1 _ v rfl rfl
   cases h0 with | d _ _ h0 => cases h0 with | str _ =>
   cases h1 with | d _ _ h1 => cases h1 with | str _ =>
   refine ⟨.string ⟨(Lib.trimPrefix s p).toArray⟩, fun _ _ => .d _ _ (.str _), ?_⟩; have hcon := Any.strings_TrimPrefix Tryz.lays101 ⟨s.toArray⟩ ⟨p.toArray⟩ w; have e : Tryz.lays101_ren.f 101 = 220 := rfl; rw [e] at hcon; refine hcon.mono ?_; rintro e' w' ⟨rfl, rfl⟩; exact ⟨rfl, Below.refl _ _⟩
theorem newRow_den {G : Hp} {w : World} (hG : ∀ b o, G b = some o → w.heap[b]? = some o) (L : List ByteArray) (N : Nat) (hL : L.length ≤ N) (hN : N ≤ maxLen) (cs : Array Value) (e : TypeId) (hc : ∀ i, i < L.length → cs[i]? = some (.string (L.getD i ByteArray.empty))) :
 ∃ G', G.le G' ∧ (∀ b o, G' b = some o → (w.alloc (.cells cs e)).heap[b]? = some o) ∧ (∀ b o, G' b = some o → G b = some o ∨ w.heap.size ≤ b) ∧ (∀ β, SV.Den G' β (.d (strs (L.map (·.data.toList)))) (.slice (some ⟨w.heap.size, 0, none⟩) L.length N)) := by
 have hfree : G w.heap.size = none := by
  cases hg : G w.heap.size with
  | none => rfl
  | some o => have := (Array.getElem?_eq_some_iff.1 (hG _ _ hg)).1; omega
 refine ⟨G.add w.heap.size (.cells cs e), Hp.le_add hfree, fun b o hb => ?_, fun b o hb => ?_, fun β => .d _ _ ?_⟩
 · unfold Hp.add at hb; split at hb
   · rename_i q; subst q; cases hb; exact heap_alloc_new w _
   · rw [heap_alloc_old w _ (Array.getElem?_eq_some_iff.1 (hG _ _ hb)).1]; exact hG _ _ hb
 · unfold Hp.add at hb; split at hb
   · rename_i q; subst q; exact .inr (Nat.le_refl _)
   · exact .inl hb
 · have hlen : (L.map (·.data.toList)).length = L.length := by simp
   unfold strs seqD; rw [hlen]; refine .ro 1 L.length _ _ N (fun i _ => .string (L.getD i ByteArray.empty)) rfl hL hN (fun i _ => rfl) (fun i j x hi hx => ?_) (fun i j x hi hx => ?_)
   · have hj : j = 0 := by
      have := (List.getElem?_eq_some_iff.1 hx).1; simp [rowF, sF] at this; omega
     subst hj; refine ⟨cs, e, (0, 0), ?_, ?_, ?_⟩
     · rw [Eng.Addr.add_block]; simp [Hp.add]
     · exact Addr.add_spot _ rfl _
     · rw [Addr.add_lit]; simpa using hc i hi
   · have hj : j = 0 := by
      have := (List.getElem?_eq_some_iff.1 hx).1; simp [rowF, sF] at this; omega
     subst hj; simp only [rowF, sF, List.getElem?_cons_zero, Option.some.injEq] at hx; subst hx
     have h1 : (L.map (·.data.toList)).getD i [] = (L.getD i ByteArray.empty).data.toList := by
      simp [List.getD_eq_getElem?_getD, hi]
     rw [h1]; generalize L.getD i ByteArray.empty = ba; have := DV.Den.str (G := G.add w.heap.size (.cells cs e)) ba.data.toList; rw [show (⟨ba.data.toList.toArray⟩ : ByteArray) = ba from Lib.mk_data _] at this; exact this
theorem zSplit (s p : List UInt8) (hl : s.length ≤ 2^31) (hp : 1 ≤ p.length) : FSpec Tryz.prog 218 [.d (.str s), .d (.str p)] kx (fun x r => x = .d (strs (Lib.split s p)) ∧ r = kx) := by
 refine FSpec.ofKnowP (post := fun x => x = .d (strs (Lib.split s p))) Tryz.call218 (fun G β w vs hq hg hvl hd => ?_)
 match vs, hvl with
 | [u, v], _ =>
   have h0 := hd 0 _ u rfl rfl; have h1 := hd 1 _ v rfl rfl
   cases h0 with | d _ _ h0 => cases h0 with | str _ =>
   cases h1 with | d _ _ h1 => cases h1 with | str _ =>
   obtain ⟨_, ⟨m, c0⟩, _⟩ := hq w hg; have hcon := Any.strings_Split Tryz.lays146 (by kernel_rfl) ⟨s.toArray⟩ ⟨p.toArray⟩ m w (by rw [bsz]; omega) c0 (by rw [bsz]; exact hp); have e : Tryz.lays146_ren.f 146 = 218 := rfl; rw [e] at hcon
   have hdat : (Lib.splitB ⟨p.toArray⟩ 0 (Lib.countB ⟨s.toArray⟩ ⟨p.toArray⟩) ⟨s.toArray⟩).map (·.data.toList) = Lib.split s p := by
    rw [Lib.splitB_data]; simp [Lib.split]
   have hle := Lib.count_le s p; have hlen : (Lib.splitB ⟨p.toArray⟩ 0 (Lib.countB ⟨s.toArray⟩ ⟨p.toArray⟩) ⟨s.toArray⟩).length = Lib.countB ⟨s.toArray⟩ ⟨p.toArray⟩ + 1 := Lib.splitB_all _ (by rw [bsz]; exact hp) 0 _ _ rfl; generalize hLL : Lib.splitB ⟨p.toArray⟩ 0 (Lib.countB ⟨s.toArray⟩ ⟨p.toArray⟩) ⟨s.toArray⟩ = LL at hcon hdat hlen; have hcn : Lib.countB ⟨s.toArray⟩ ⟨p.toArray⟩ = Lib.count s p := by simp
   obtain ⟨G', g1, g2, g3, g4⟩ := newRow_den hg LL LL.length (Nat.le_refl _) (by rw [hlen, hcn]; unfold maxLen; omega) (LL.map Value.string).toArray (Tryz.lays146_ren.t 9) (fun i hi => by simp [List.getD_eq_getElem?_getD, hi]); rw [← hlen] at hcon; refine hcon.mono ?_; rintro e' w' ⟨rfl, rfl⟩; rw [hdat] at g4; exact ⟨_, _, G', rfl, rfl, g1, g2, g3, g4, (Below.refl _ _).alloc (Nat.le_refl _) _⟩
theorem s119 (n lo hi : Int) : FSpec Tryz.prog 70 [.d (.int .i64 n), .d (.int .i64 lo), .d (.int .i64 hi)] [] (fun x r => x = .d (.bool (decide (lo ≤ n ∧ n ≤ hi))) ∧ r = []) := by
 refine spec_of hT (C := []) Tryz.func70 rfl Tryz.call70 rfl rfl rfl ?_; conv => whnf
 refine br_intro (fun h => ?_) (fun h => ?_)
 · conv => whnf
   refine .ret _ ?_; conv => whnf
   refine ⟨[], ⟨?_, rfl⟩, trivial⟩; conv => lhs; whnf
   simp at h ⊢; simp [h]
 · conv => whnf
   refine .ret _ ?_; conv => whnf
   refine ⟨[], ⟨?_, rfl⟩, trivial⟩; conv => lhs; whnf
   simp at h ⊢; omega
theorem s109 (n lo hi : Int) : FSpec Tryz.prog 108 [.d (.int .i64 n), .d (.int .i64 lo), .d (.int .i64 hi)] [] (fun x r => x = .d (.bool (decide (lo ≤ n ∧ n ≤ hi))) ∧ r = []) := by
 refine spec_of hT (C := []) Tryz.func108 rfl Tryz.call108 rfl rfl rfl ?_; conv => whnf
 refine br_intro (fun h => ?_) (fun h => ?_)
 · conv => whnf
   refine .ret _ ?_; conv => whnf
   refine ⟨[], ⟨?_, rfl⟩, trivial⟩; conv => lhs; whnf
   simp at h ⊢; simp [h]
 · conv => whnf
   refine .ret _ ?_; conv => whnf
   refine ⟨[], ⟨?_, rfl⟩, trivial⟩; conv => lhs; whnf
   simp at h ⊢; omega
theorem s107 (b : Bool) (e : Int) : FSpec Tryz.prog 69 [.d (.bool b), .d (.int .i64 e)] [] (fun x r => x = .d (.int .i64 (if b then e else 0)) ∧ r = []) := by
 refine spec_of hT (C := []) Tryz.func69 rfl Tryz.call69 rfl rfl rfl ?_; conv => whnf
 refine br_intro (fun h => ?_) (fun h => ?_)
 · conv => whnf
   refine .ret _ ?_; conv => whnf
   refine ⟨[], ⟨?_, rfl⟩, trivial⟩; conv => lhs; whnf
   simp [h]
 · conv => whnf
   refine .ret _ ?_; conv => whnf
   refine ⟨[], ⟨?_, rfl⟩, trivial⟩; conv => lhs; whnf
   simp [h]
theorem getD_toNat {α : Type} {l : List α} {i : Nat} {d : α} (h : i < l.length) : l.getD (i : Int).toNat d = l[i] := by
 rw [Int.toNat_natCast, List.getD_eq_getElem?_getD]; simp [h]
theorem sum_take {l : List Int} {i : Nat} (hi : i < l.length) : (l.take (i + 1)).sum = (l.take i).sum + l[i] := by
 rw [← List.take_append_getElem hi, List.sum_append]; simp
def firstE : List Int → Int
 | [] => 0
 | x :: l => if x = 0 then firstE l else x
theorem s161 (l : List Int) (hl : l.length ≤ 2^40) : FSpec Tryz.prog 79 [.d (ints l)] [] (fun x r => x = .d (.int .i64 (firstE l)) ∧ r = []) := by
 refine spec_of hT (C := []) Tryz.func79 rfl Tryz.call79 rfl rfl rfl ?_; conv => whnf
 refine LoopX.rule hT (C := []) (ι := Nat) (fun i => i ≤ l.length ∧ firstE l = firstE (l.drop i)) (fun i => mkSt [(3, .d (.int .i64 0)), (6, .d (ints l)), (7, .d (.int .i64 l.length)), (8, .d (.int .i64 i))] []) (fun i => l.length - i) 0 ⟨by omega, by simp⟩ ?_ ?_
 · refine Entails.mk' [] rfl rfl ⟨lr, lr, lr, lr, trivial⟩ trivial
 rintro i ⟨p1, p2⟩; conv => whnf
 refine br_intro (fun h => ?_) (fun h => ?_)
 · simp only [decide_eq_true_eq] at h; conv => whnf
   refine ⟨⟨by omega, by omega⟩, ?_⟩; conv => whnf
   have hi : i < l.length := by omega
   have hd : l.drop i = l[i] :: l.drop (i + 1) := List.drop_eq_getElem_cons hi; refine br_intro (fun h2 => ?_) (fun h2 => ?_)
   · conv => whnf
     refine .ret _ ?_; conv => whnf
     refine ⟨[], ⟨?_, rfl⟩, trivial⟩; conv => lhs; whnf
     rw [getD_toNat hi] at h2 ⊢; simp at h2; rw [p2, hd, firstE, if_neg h2]
   · conv => whnf
     rw [getD_toNat hi] at h2; simp at h2; refine ⟨by unfold inI64; omega, ?_⟩; conv => whnf
     refine ⟨i + 1, ⟨hi, ?_⟩, by omega, ?_⟩
     · rw [p2, hd, firstE, if_pos h2]
     · exact Entails.mk' [] rfl rfl ⟨lr, lr, lr, lr, trivial⟩ trivial
 · simp only [decide_eq_false_iff_not] at h; conv => whnf
   refine .ret _ ?_; conv => whnf
   refine ⟨[], ⟨?_, rfl⟩, trivial⟩; conv => lhs; whnf
   rw [p2, List.drop_eq_nil_iff.2 (by omega)]; rfl
theorem s105 (l : List Int) (hl : l.length ≤ 2^40) : FSpec Tryz.prog 39 [.d (ints l)] [] (fun x r => x = .d (.int .i64 (firstE l)) ∧ r = []) := by
 refine spec_of hT (C := []) Tryz.func39 rfl Tryz.call39 rfl rfl rfl ?_; conv => whnf
 refine pAx (s161 l hl) ?_; conv => whnf
 refine .ret _ ?_; conv => whnf
 exact ⟨[], ⟨rfl, rfl⟩, trivial⟩
def splitF (cents : Int) (w : List Int) : Int :=
 if ¬ (0 ≤ cents ∧ cents ≤ 1000000000) then 1 else if 50 < w.length then 2 else if w.any (fun x => !decide (0 ≤ x ∧ x ≤ 5761440)) then 1 else if w.sum = 0 then 8 else 0
def keyCh (i : Nat) (c : UInt8) : Bool := (decide (97 ≤ c.toNat) && decide (c.toNat ≤ 122)) || (!decide (i = 0) && ((decide (48 ≤ c.toNat) && decide (c.toNat ≤ 57)) || decide (c.toNat = 45) || decide (c.toNat = 95)))
def isKeyB (s : List UInt8) : Bool := (List.range s.length).all (fun i => keyCh i (s.getD i 0)) && !s.isEmpty && decide (s.length ≤ 40)
theorem keyCh_iff {i : Nat} {c : UInt8} : keyCh i c = true ↔ ((97 ≤ (c.toNat : Int) ∧ (c.toNat : Int) ≤ 122) ∨ ((i : Int) ≠ 0 ∧ ((48 ≤ (c.toNat : Int) ∧ (c.toNat : Int) ≤ 57) ∨ (c.toNat : Int) = 45 ∨ (c.toNat : Int) = 95))) := by
 simp only [keyCh, Bool.or_eq_true, Bool.and_eq_true, decide_eq_true_eq, Bool.not_eq_true', decide_eq_false_iff_not]; omega
theorem s108 (s : List UInt8) (hl : s.length ≤ 2^40) : FSpec Tryz.prog 81 [.d (.str s)] [] (fun x r => x = .d (.bool (isKeyB s)) ∧ r = []) := by
 refine spec_of hT (C := []) Tryz.func81 rfl Tryz.call81 rfl rfl rfl ?_; conv => whnf
 refine LoopX.rule hT (C := []) (ι := Nat) (fun i => i ≤ s.length ∧ ∀ j, j < i → keyCh j (s.getD j 0) = true) (fun i => mkSt [(0, .d (.str s)), (7, .d (.int .i64 s.length)), (8, .d (.int .i64 i))] []) (fun i => s.length - i) 0 ⟨by omega, by omega⟩ ?_ ?_
 · exact Entails.mk' [] rfl rfl ⟨lr, lr, lr, trivial⟩ trivial
 rintro i ⟨p1, p2⟩; conv => whnf
 refine br_intro (fun h => ?_) (fun h => ?_)
 · simp only [decide_eq_true_eq] at h; have hi : i < s.length := by omega
   have e1 : (i : Int).toNat = i := Int.toNat_natCast i; conv => whnf
   repeat (refine And.intro (by (try unfold inI64); (try dsimp only); (try simp only [e1, List.length_cons, List.length_append, List.length_singleton, List.length_nil]); omega) ?_; conv => whnf)
   have hbad : keyCh i (s.getD i 0) = false → isKeyB s = false := fun h => by
    have : (List.range s.length).all (fun i => keyCh i (s.getD i 0)) = false := by
     rw [List.all_eq_false]; exact ⟨i, List.mem_range.2 hi, by rw [h]; simp⟩
    simp only [isKeyB, this, Bool.false_and]
   have hgood : keyCh i (s.getD i 0) = true → ∀ j, j < i + 1 → keyCh j (s.getD j 0) = true := fun h j hj => by
    rcases Nat.lt_or_ge j i with q | q
    · exact p2 j q
    · have : j = i := by omega
      subst this; exact h
   repeat' (refine br_intro (fun _ => ?_) (fun _ => ?_) <;> (conv => whnf))
   all_goals first
    | (refine And.intro (by unfold inI64; omega) ?_
       conv => whnf
       refine ⟨i + 1, ⟨hi, hgood ?_⟩, by omega, Entails.mk' [] rfl rfl ⟨lr, lr, lr, trivial⟩ trivial⟩; rw [keyCh_iff]; simp only [decide_eq_true_eq, decide_eq_false_iff_not, Bool.not_eq_true', Bool.not_eq_false', e1] at *
       omega)
    | (refine .ret _ ?_
       conv => whnf
       refine ⟨[], ⟨?_, rfl⟩, trivial⟩; conv => lhs; whnf
       rw [hbad]
       cases hq : keyCh i (s.getD i 0) with
       | false => rfl
       | true =>
         rw [keyCh_iff] at hq; simp only [decide_eq_true_eq, decide_eq_false_iff_not, Bool.not_eq_true', Bool.not_eq_false', e1] at *
         omega)
    | skip
 simp only [decide_eq_false_iff_not] at h; have e1 : i = s.length := by omega
 subst e1
 have hall : (List.range s.length).all (fun i => keyCh i (s.getD i 0)) = true := by
  rw [List.all_eq_true]; intro j hj; exact p2 j (List.mem_range.1 hj)
 conv => whnf
 repeat' (refine br_intro (fun _ => ?_) (fun _ => ?_) <;> (conv => whnf))
 all_goals (refine .ret _ ?_; conv => whnf)
 all_goals (refine ⟨[], ⟨?_, rfl⟩, trivial⟩; conv => lhs; whnf)
 · rename_i hq
   have : s.isEmpty = false := by
    cases s with
    | nil => exact absurd hq (by decide)
    | cons x l => rfl
   unfold isKeyB; rw [hall, this]; simp; omega
 · rename_i hq
   have : s.isEmpty = true := by
    cases s with
    | nil => rfl
    | cons x l => exact absurd hq (by simp)
   unfold isKeyB; rw [hall, this]; rfl
def strLe (a b : List UInt8) : Bool := Op.bytesLess a b || a == b
def firstAt (f : Nat → Int) : Nat → Int
 | 0 => 0
 | n + 1 => if firstAt f n = 0 then f n else firstAt f n
theorem firstAt_zero {f : Nat → Int} : ∀ {n : Nat}, (∀ j, j < n → f j = 0) → firstAt f n = 0 := by
 intro n
 induction n with
 | zero => intro _; rfl
 | succ n ih => intro h; rw [firstAt, if_pos (ih fun j hj => h j (by omega))]; exact h n (by omega)
theorem firstAt_eq {f : Nat → Int} {n i : Nat} {e : Int} (hi : i < n) (h : ∀ j, j < i → f j = 0) (h1 : e ≠ 0) (h2 : f i = e) : firstAt f n = e := by
 induction n with
 | zero => omega
 | succ n ih =>
   rw [firstAt]
   by_cases q : i < n
   · rw [ih q, if_neg h1]
   · have : i = n := by omega
     subst this; rw [if_pos (firstAt_zero h)]; exact h2
end Go.Proofs.YtophabkpfpbadaaGreatDoor
namespace Go.Proofs
open Go.Shelf
def Tryz.lays160_ren : Go.Shelf.Ren := ⟨fun | 160 => 184 | 232 => 212 | 231 => 211 | 227 => 213 | 234 => 215 | 233 => 214 | 236 => 217 | 235 => 216 | 228 => 231 | 271 => 234 | 151 => 233 | 197 => 232 | 120 => 249 | 152 => 248 | 260 => 247 | 137 => 261 | 119 => 262 | 224 => 263 | 225 => 264 | 217 => 271 | 266 => 275 | n => n, fun | 9 => 9 | 4 => 4 | 3 => 3 | 5 => 5 | 117 => 331 | 116 => 330 | 0 => 0 | 124 => 334 | 21 => 21 | 105 => 350 | 46 => 216 | 119 => 370 | 139 => 373 | 138 => 372 | n => n, fun | 3 => 4 | 4 => 5 | n => n⟩
theorem Tryz.lays160 : Go.Proofs.Lays.n160 Tryz.prog Tryz.lays160_ren := {
 mixed := by kernel_rfl
 f119 := Tryz.func262.trans (congrArg some (by kernel_rfl))
 f120 := Tryz.func249.trans (congrArg some (by kernel_rfl))
 f137 := Tryz.func261.trans (congrArg some (by kernel_rfl))
 f151 := Tryz.func233.trans (congrArg some (by kernel_rfl))
 f152 := Tryz.func248.trans (congrArg some (by kernel_rfl))
 f160 := Tryz.func184.trans (congrArg some (by kernel_rfl))
 f197 := Tryz.func232.trans (congrArg some (by kernel_rfl))
 f217 := Tryz.func271.trans (congrArg some (by kernel_rfl))
 f224 := Tryz.func263.trans (congrArg some (by kernel_rfl))
 f225 := Tryz.func264.trans (congrArg some (by kernel_rfl))
 f227 := Tryz.func213.trans (congrArg some (by kernel_rfl))
 f228 := Tryz.func231.trans (congrArg some (by kernel_rfl))
 f231 := Tryz.func211.trans (congrArg some (by kernel_rfl))
 f232 := Tryz.func212.trans (congrArg some (by kernel_rfl))
 f233 := Tryz.func214.trans (congrArg some (by kernel_rfl))
 f234 := Tryz.func215.trans (congrArg some (by kernel_rfl))
 f235 := Tryz.func216.trans (congrArg some (by kernel_rfl))
 f236 := Tryz.func217.trans (congrArg some (by kernel_rfl))
 f260 := Tryz.func247.trans (congrArg some (by kernel_rfl))
 f266 := Tryz.func275.trans (congrArg some (by kernel_rfl))
 f271 := Tryz.func234.trans (congrArg some (by kernel_rfl))
 t0 := Tryz.underlying0
 a0 := Tryz.isAgg0
 z0 := Tryz.sizeOf0
 v0 := Tryz.zeroValue0
 t3 := Tryz.underlying3
 a3 := Tryz.isAgg3
 z3 := Tryz.sizeOf3
 v3 := Tryz.zeroValue3
 t4 := Tryz.underlying4
 a4 := Tryz.isAgg4
 z4 := Tryz.sizeOf4
 v4 := Tryz.zeroValue4
 t5 := Tryz.underlying5
 a5 := Tryz.isAgg5
 z5 := Tryz.sizeOf5
 v5 := Tryz.zeroValue5
 t9 := Tryz.underlying9
 a9 := Tryz.isAgg9
 z9 := Tryz.sizeOf9
 v9 := Tryz.zeroValue9
 t21 := Tryz.underlying21
 a21 := Tryz.isAgg21
 z21 := Tryz.sizeOf21
 v21 := Tryz.zeroValue21
 t46 := Tryz.underlying216
 a46 := Tryz.isAgg216
 z46 := Tryz.sizeOf216
 v46 := Tryz.zeroValue216
 t105 := Tryz.underlying350
 a105 := Tryz.isAgg350
 z105 := Tryz.sizeOf350
 v105 := Tryz.zeroValue350
 t116 := Tryz.underlying330
 a116 := Tryz.isAgg330
 z116 := Tryz.sizeOf330
 t117 := Tryz.underlying331
 a117 := Tryz.isAgg331
 z117 := Tryz.sizeOf331
 v117 := Tryz.zeroValue331
 t119 := Tryz.underlying370
 a119 := Tryz.isAgg370
 z119 := Tryz.sizeOf370
 t124 := Tryz.underlying334
 a124 := Tryz.isAgg334
 z124 := Tryz.sizeOf334
 v124 := Tryz.zeroValue334
 t138 := Tryz.underlying372
 a138 := Tryz.isAgg372
 z138 := Tryz.sizeOf372
 v138 := Tryz.zeroValue372
 t139 := Tryz.underlying373
 a139 := Tryz.isAgg373
 z139 := Tryz.sizeOf373
 v139 := Tryz.zeroValue373
 g3 := by kernel_rfl
 g4 := by kernel_rfl }
end Go.Proofs
set_option maxRecDepth 20000
namespace Go.Proofs.YtophabkpfpbadaaGreatDoor
open Go Go.Eng Go.Shelf
theorem s162 (s cs : List UInt8) (hl : s.length ≤ 2^40) (hc : cs.length ≤ 2^20) (ha : cs.all (fun b => decide (b.toNat < 128)) = true) : FSpec Tryz.prog 184 [.d (.str s), .d (.str cs)] [] (fun x r => x = .d (.str (Lib.trimS s cs)) ∧ r = []) := by
 refine FSpec.ofBelow Tryz.call184 (fun G β w vs _ hvl hd => ?_)
 match vs, hvl with
 | [u, v], _ =>
   have h0 := hd 0 _ u rfl rfl; have h1 := hd 1 _ v rfl rfl
   cases h0 with | d _ _ h0 => cases h0 with | str _ =>
   cases h1 with | d _ _ h1 => cases h1 with | str _ =>
   refine ⟨.string ⟨(Lib.trimS s cs).toArray⟩, fun _ _ => .d _ _ (.str _), ?_⟩; have hcon := Any.strings_Trim_laid Tryz.lays160 (by kernel_rfl) ⟨s.toArray⟩ ⟨cs.toArray⟩ w (by simp [ByteArray.size]; omega) (by simp [ByteArray.size]; omega) (ascii_of_all (by simpa using ha)); have e : Tryz.lays160_ren.f 160 = 184 := rfl; rw [e] at hcon; simpa using hcon
theorem dropWhile_nil {p : UInt8 → Bool} {l : List UInt8} : l.dropWhile p = [] ↔ ∀ b ∈ l, p b = true := by
 induction l with
 | nil => simp
 | cons a l ih => by_cases h : p a = true <;> simp [List.dropWhile_cons, h, ih]
theorem trimS_nil {s cs : List UInt8} : Lib.trimS s cs = [] ↔ ∀ b ∈ s, cs.contains b = true := by
 unfold Lib.trimS Lib.trimLeftS Lib.trimRightS; rw [dropWhile_nil]; constructor
 · intro h b hb; have h1 : s.reverse.dropWhile (cs.contains ·) = [] ∨ ¬ s.reverse.dropWhile (cs.contains ·) = [] := Classical.em _; rcases h1 with h1 | h1
   · exact dropWhile_nil.1 h1 b (by simpa using hb)
   · obtain ⟨c, m, hc⟩ := List.exists_cons_of_ne_nil h1
     have h3 : cs.contains c = false := by
      have := List.head_dropWhile_not (cs.contains ·) (l := s.reverse) h1; simp only [hc, List.head_cons] at this; exact this
     have h4 := h c (by rw [List.mem_reverse, hc]; exact List.mem_cons_self); rw [h3] at h4; cases h4
 · intro h b hb; rw [List.mem_reverse] at hb; exact h b (by simpa using (List.dropWhile_sublist _).subset hb)
def onlyB (s cs : List UInt8) : Bool := s.all (cs.contains ·)
theorem s111 (s cs : List UInt8) (hl : s.length ≤ 2^40) (hc : cs.length ≤ 2^20) (ha : cs.all (fun b => decide (b.toNat < 128)) = true) : FSpec Tryz.prog 142 [.d (.str s), .d (.str cs)] [] (fun x r => x = .d (.bool (onlyB s cs)) ∧ r = []) := by
 refine spec_of hT (C := []) Tryz.func142 rfl Tryz.call142 rfl rfl rfl ?_; conv => whnf
 refine CallX.pure (s162 _ _ hl hc ha) ⟨lr, lr, trivial⟩ rfl ?_; conv => whnf
 refine .ret _ ?_; conv => whnf
 refine ⟨[], ⟨?_, rfl⟩, trivial⟩; show SV.d (.bool (Lib.trimS s cs == [])) = _; congr 2
 rw [Bool.eq_iff_iff]; simp only [beq_iff_eq, trimS_nil, onlyB, List.all_eq_true]
theorem s110 (a b c : Int) : FSpec Tryz.prog 102 [.d (.int .i64 a), .d (.int .i64 b), .d (.int .i64 c)] [] (fun x r => x = .d (.bool (decide (b ≤ a ∧ a ≤ c))) ∧ r = []) := by
 refine spec_of hT (C := []) Tryz.func102 rfl Tryz.call102 rfl rfl rfl ?_; conv => whnf
 repeat' (refine br_intro (fun _ => ?_) (fun _ => ?_) <;> (conv => whnf))
 all_goals
  refine .ret _ ?_; conv => whnf
  refine ⟨[], ⟨?_, rfl⟩, trivial⟩; conv => lhs; whnf
  congr 2
  grind
def smallsL : List UInt8 := [97, 98, 99, 100, 101, 102, 103, 104, 105, 106, 107, 108, 109, 110, 111, 112, 113, 114, 115, 116, 117, 118, 119, 120, 121, 122]
def keyL : List UInt8 := smallsL ++ [48, 49, 50, 51, 52, 53, 54, 55, 56, 57, 45, 95]
theorem u8_all {p : UInt8 → Bool} (h : (List.range 256).all (fun n => p (UInt8.ofNat n)) = true) (c : UInt8) : p c = true := by
 have := List.all_eq_true.1 h c.toNat (List.mem_range.2 c.toNat_lt); simpa using this
theorem small_iff (c : UInt8) : smallsL.contains c = keyCh 0 c := by
 have := u8_all (p := fun c => smallsL.contains c == keyCh 0 c) (by decide +kernel) c; simpa using this
theorem key_iff (c : UInt8) : keyL.contains c = keyCh 1 c := by
 have := u8_all (p := fun c => keyL.contains c == keyCh 1 c) (by decide +kernel) c; simpa using this
theorem keyCh_succ (i : Nat) (c : UInt8) : keyCh (i + 1) c = keyCh 1 c := by simp [keyCh]
theorem keyCh_one {c : UInt8} (h : keyCh 0 c = true) : keyCh 1 c = true := by
 simp only [keyCh] at h ⊢; simp at h; simp [h]
theorem isKey_eq (s : List UInt8) : isKeyB s = (decide (1 ≤ (s.length : Int) ∧ (s.length : Int) ≤ 40) && onlyB (s.take 1) smallsL && onlyB s keyL) := by
 cases s with
 | nil => rfl
 | cons c l =>
   have h1 : onlyB ((c :: l).take 1) smallsL = keyCh 0 c := by simp only [onlyB, List.take_succ_cons, List.take_zero, List.all_cons, List.all_nil, Bool.and_true, small_iff]
   have h2 : onlyB (c :: l) keyL = (keyCh 1 c && l.all (keyCh 1 ·)) := by simp only [onlyB, List.all_cons, key_iff]
   have h3 : (List.range (c :: l).length).all (fun i => keyCh i ((c :: l).getD i 0)) = (keyCh 0 c && l.all (keyCh 1 ·)) := by
    rw [List.length_cons, List.range_succ_eq_map, List.all_cons, List.all_map]; congr 1
    rw [Bool.eq_iff_iff, List.all_eq_true, List.all_eq_true]; constructor
    · intro h x hx; obtain ⟨i, hi, rfl⟩ := List.getElem_of_mem hx; have := h i (List.mem_range.2 hi); simp only [Function.comp, List.getD_cons_succ, keyCh_succ] at this; rwa [List.getD_eq_getElem?_getD, List.getElem?_eq_getElem hi] at this
    · intro h i hi; have hi := List.mem_range.1 hi; simp only [Function.comp, List.getD_cons_succ, keyCh_succ]; rw [List.getD_eq_getElem?_getD, List.getElem?_eq_getElem hi]; exact h _ (List.getElem_mem hi)
   unfold isKeyB; rw [h1, h2, h3, Bool.eq_iff_iff]; simp only [Bool.and_eq_true, decide_eq_true_eq, Bool.not_eq_true', List.isEmpty_cons, List.length_cons]; constructor
   · rintro ⟨⟨⟨a, b⟩, _⟩, d⟩; exact ⟨⟨⟨by omega, by omega⟩, a⟩, keyCh_one a, b⟩
   · rintro ⟨⟨⟨_, d⟩, a⟩, _, b⟩; exact ⟨⟨⟨a, b⟩, trivial⟩, by omega⟩
theorem s21 (s : List UInt8) (hl : s.length ≤ 2^40) : FSpec Tryz.prog 107 [.d (.str s)] [] (fun x r => x = .d (.bool (isKeyB s)) ∧ r = []) := by
 refine spec_of hT (C := []) Tryz.func107 rfl Tryz.call107 rfl rfl rfl ?_; conv => whnf
 repeat' (first | (refine CallX.exact (s110 _ _ _) rfl rfl ?_; rotate_right; conv => whnf) | (refine CallX.exact (s111 s keyL hl ?_ ?_) rfl rfl ?_; rotate_right; conv => whnf) | (refine CallX.exact (s111 _ smallsL ?_ ?_ ?_) rfl rfl ?_; rotate_right; conv => whnf) | ((first | (refine br_intro ?_ ?_ <;> intro hb <;> try simp only [brs] at hb) | omega | refine sAx ?_ | decide | assumption) <;> conv => whnf))
 all_goals try (simp; omega)
 all_goals
  refine .ret _ ?_; conv => whnf
  refine ⟨[], ⟨?_, rfl⟩, trivial⟩; conv => lhs; whnf
  rw [isKey_eq]; congr 2; grind
theorem first_step {f : Nat → Int} {i : Nat} (p : ∀ j, j < i → f j = 0) (h : f i = 0) : ∀ j, j < i + 1 → f j = 0 := fun j hj => by
 rcases Nat.lt_or_ge j i with q | q
 · exact p j q
 · have : j = i := by omega
   subst this; exact h
theorem toNat_pred (i : Nat) : ((i : Int) - 1).toNat = i - 1 := by omega
theorem take_snocD {α : Type} {l : List α} {i : Nat} {d : α} (h : i < l.length) : l.take (i + 1) = l.take i ++ [l.getD i d] := by
 rw [List.take_succ_eq_append_getElem h, List.getD_eq_getElem?_getD, List.getElem?_eq_getElem h]; rfl
theorem firstAt_all {f : Nat → Int} : ∀ {n : Nat}, firstAt f n = 0 → ∀ j, j < n → f j = 0 := by
 intro n
 induction n with
 | zero => intro _ j hj; omega
 | succ n ih =>
   intro h j hj; rw [firstAt] at h; split at h
   · rename_i q; rcases Nat.lt_or_ge j n with r | r
     · exact ih q j r
     · have : j = n := by omega
       subst this; exact h
   · omega
theorem mem_getD {α : Type} {l : List α} {x d : α} (h : x ∈ l) : ∃ j, j < l.length ∧ l.getD j d = x := by
 obtain ⟨j, hj, rfl⟩ := List.getElem_of_mem h; exact ⟨j, hj, by rw [List.getD_eq_getElem?_getD, List.getElem?_eq_getElem hj]; rfl⟩
def oQCoD202_4 : OL := [(0, []), (1, [0]), (2, []), (3, []), (4, []), (5, [4]), (6, [4, 5]), (7, [4]), (8, [4]), (9, [4, 5, 6, 7, 8]), (10, [4, 5, 6, 7, 8, 9]), (11, [4, 5, 6, 7, 8, 9]), (12, [4, 5, 6, 7, 8]), (13, [4, 5, 6, 7, 8]), (14, []), (15, []), (16, [])]
def oQCoD202_6 : OL := [(0, []), (1, [0]), (2, [0, 1]), (3, [0, 1, 2]), (4, [0, 1, 2]), (5, rg 5), (6, rg 6), (7, rg 6), (8, rg 5), (9, rg 5), (10, rg 10), (11, rg 11), (12, rg 10), (13, rg 10), (14, [2, 3, 4]), (15, [2, 3, 4]), (16, []), (17, [])]
section
variable {α : Type} (cmp : α → α → Int)
def insR (x : α) : List α → List α
 | [] => [x]
 | y :: r => if cmp x y < 0 then y :: insR x r else x :: y :: r
def isortR (l : List α) : List α := l.foldl (fun acc x => insR cmp x acc) []
def isort (l : List α) : List α := (isortR cmp l).reverse
theorem insR_length (x : α) : ∀ l : List α, (insR cmp x l).length = l.length + 1 := by
 intro l
 induction l with
 | nil => rfl
 | cons y r ih => simp only [insR]; split <;> simp [ih]
theorem isortR_snoc (l : List α) (x : α) : isortR cmp (l ++ [x]) = insR cmp x (isortR cmp l) := by simp [isortR]
theorem isortR_length (l : List α) : (isortR cmp l).length = l.length := by
 have : ∀ (l acc : List α), (l.foldl (fun acc x => insR cmp x acc) acc).length = acc.length + l.length := by
  intro l
  induction l with
  | nil => intro acc; simp
  | cons x l ih => intro acc; rw [List.foldl_cons, ih, insR_length]; simp; omega
 rw [isortR, this]; simp
theorem insR_mem (x y : α) : ∀ {l : List α}, y ∈ insR cmp x l ↔ y = x ∨ y ∈ l := by
 intro l
 induction l with
 | nil => simp [insR]
 | cons z r ih =>
   simp only [insR]; split
   · simp only [List.mem_cons, ih]; constructor
     · rintro (h | h | h)
       · exact .inr (.inl h)
       · exact .inl h
       · exact .inr (.inr h)
     · rintro (h | h | h)
       · exact .inr (.inl h)
       · exact .inl h
       · exact .inr (.inr h)
   · simp
theorem isortR_mem {y : α} (l : List α) : y ∈ isortR cmp l ↔ y ∈ l := by
 have : ∀ (l acc : List α), y ∈ (l.foldl (fun acc x => insR cmp x acc) acc) ↔ y ∈ acc ∨ y ∈ l := by
  intro l
  induction l with
  | nil => intro acc; simp
  | cons x l ih =>
    intro acc; rw [List.foldl_cons, ih, insR_mem, List.mem_cons]; constructor
    · rintro ((h | h) | h)
      · exact .inr (.inl h)
      · exact .inl h
      · exact .inr (.inr h)
    · rintro (h | h | h)
      · exact .inl (.inr h)
      · exact .inl (.inl h)
      · exact .inr h
 rw [isortR, this]; simp
end
def cap3 (x y z : SV) (e1 e2 e3 : TypeId) : List (Nat × Res) := [(1000002, .cells e1 [x]), (1000003, .cells e2 [y]), (1000004, .cells e3 [z])]
theorem take_snoc {α : Type} {l : List α} {i : Nat} (h : i < l.length) : l.take (i + 1) = l.take i ++ [l[i]] := (List.take_append_getElem h).symm
theorem getD_mid {α : Type} (A B : List α) (x d : α) {i : Nat} (h : i = A.length) : (A ++ x :: B).getD i d = x := by
 subst h; rw [List.getD_eq_getElem?_getD]; simp
theorem swap_lemma {α : Type} (A B : List α) (x y : α) : (((A ++ [y] ++ [x] ++ B).set (A.length + 1) y).set A.length x) = A ++ [x] ++ [y] ++ B := by
 simp [List.set_append]
theorem s228 (g : FuncId) (x1 x2 x3 : DV) (e1 e2 e3 : TypeId) (cmp : Int → Int → Int) (l : List Int) (hl : l.length ≤ 2^40)
 (hcmp : ∀ p q, p ∈ l → q ∈ l → FSpec Tryz.prog g [.d (.int .i64 p), .d (.int .i64 q), .ptr 1000002 0, .ptr 1000003 0, .ptr 1000004 0] (cap3 (.d x1) (.d x2) (.d x3) e1 e2 e3)
   (fun y r => y = .d (.int .i64 (cmp p q)) ∧ r = cap3 (.d x1) (.d x2) (.d x3) e1 e2 e3)) :
 FSpec Tryz.prog 202 [.buf 1000001, .d (.int .i64 0), .d (.int .i64 l.length), .fn g [.ptr 1000002 0, .ptr 1000003 0, .ptr 1000004 0]] ((1000001, seqB 3 1 iF 0 l) :: cap3 (.d x1) (.d x2) (.d x3) e1 e2 e3)
  (fun y r => y = .tup [] ∧ r = (1000001, seqB 3 1 iF 0 (isort cmp l)) :: cap3 (.d x1) (.d x2) (.d x3) e1 e2 e3) := by
 refine spec_of hT (C := []) Tryz.func202 rfl Tryz.call202 rfl rfl rfl ?_; conv => whnf
 refine ⟨by unfold inI64; omega, ?_⟩; conv => whnf
 refine LoopX.rule hT (C := []) (ι := Nat × List Int) (fun p => 1 ≤ p.1 ∧ (p.1 ≤ l.length ∨ p.1 = 1) ∧ p.2 = (isortR cmp (l.take p.1)).reverse ++ l.drop p.1)
  (fun p => mkSt [(0, .buf 1000001), (1, .d (.int .i64 0)), (2, .d (.int .i64 l.length)), (3, .fn g [.ptr 1000002 0, .ptr 1000003 0, .ptr 1000004 0]), (8, .d (.int .i64 p.1))] ((1000001, seqB 3 1 iF 0 p.2) :: cap3 (.d x1) (.d x2) (.d x3) e1 e2 e3))
  (fun p => l.length - p.1) (1, l) ⟨by simp, by simp, ?_⟩ ?_ ?_
 · simp only
   cases l with
   | nil => rfl
   | cons x l => simp [isortR, insR]
 · exact Entails.mk' rq0 rfl rfl ⟨lr, lr, lr, lr, lr, trivial⟩ ⟨rr, rr, rr, rr, trivial⟩
 rintro ⟨i, c⟩ ⟨p1, p2, p3⟩; simp only at p1 p2 p3; conv => whnf
 refine br_intro (fun h => ?_) (fun h => ?_)
 · simp only [decide_eq_true_eq] at h; have hi : i < l.length := by omega
   conv => whnf
   have hx : l[i] ∈ l := List.getElem_mem hi; have hmem : ∀ y ∈ isortR cmp (l.take i), y ∈ l := fun y hy => List.mem_of_mem_take ((isortR_mem cmp _).1 hy)
   refine LoopX.rule hT (C := []) (ι := List Int × List Int) (fun p => insR cmp l[i] (isortR cmp (l.take i)) = p.2.reverse ++ insR cmp l[i] p.1 ∧ p.1.length + p.2.length = i ∧ ∀ y ∈ p.1, y ∈ l)
    (fun p => mkSt [(0, .buf 1000001), (1, .d (.int .i64 0)), (2, .d (.int .i64 l.length)), (3, .fn g [.ptr 1000002 0, .ptr 1000003 0, .ptr 1000004 0]), (8, .d (.int .i64 i)), (9, .d (.int .i64 p.1.length))]
      ((1000001, seqB 3 1 iF 0 (p.1.reverse ++ [l[i]] ++ p.2 ++ l.drop (i + 1))) :: cap3 (.d x1) (.d x2) (.d x3) e1 e2 e3))
    (fun p => p.1.length) (isortR cmp (l.take i), []) ⟨by simp, ?_, hmem⟩ ?_ ?_
   · simp [isortR_length]; omega
   · refine Entails.mk' rq0 rfl rfl ⟨lr, lr, lr, lr, lr, SV.le_int ?_, trivial⟩ ⟨?_, rr, rr, rr, trivial⟩
     · simp [isortR_length]; omega
     · have : c = (isortR cmp (l.take i)).reverse ++ [l[i]] ++ [] ++ l.drop (i + 1) := by rw [p3, List.drop_eq_getElem_cons hi]; simp
       show Res.le (seqB 3 1 iF 0 c) _; rw [this]; exact rr
   rintro ⟨A, B⟩ ⟨q1, q2, q3⟩; simp only at q1 q2 q3; have hlen : (A.reverse ++ [l[i]] ++ B ++ l.drop (i + 1)).length = l.length := by simp; omega
   conv => whnf
   refine RegX.rule hT rfl [] oQCoD202_4 (by decide +kernel) ?_; conv => whnf
   refine br_intro (fun h2 => ?_) (fun h2 => ?_)
   · conv => whnf
     cases A with
     | nil => simp at h2
     | cons y A =>
     have g1 : ((y :: A).reverse ++ [l[i]] ++ B ++ l.drop (i + 1)).getD (((y :: A).length : Int)).toNat 0 = l[i] := by
      rw [show (y :: A).reverse ++ [l[i]] ++ B ++ l.drop (i + 1) = (y :: A).reverse ++ l[i] :: (B ++ l.drop (i + 1)) by simp]; exact getD_mid _ _ _ _ (by simp)
     have g2 : ((y :: A).reverse ++ [l[i]] ++ B ++ l.drop (i + 1)).getD ((((y :: A).length : Int)) - 1).toNat 0 = y := by
      rw [show (y :: A).reverse ++ [l[i]] ++ B ++ l.drop (i + 1) = A.reverse ++ y :: ([l[i]] ++ B ++ l.drop (i + 1)) by simp]; exact getD_mid _ _ _ _ (by simp)
     have hA : (y :: A).length = A.length + 1 := rfl; refine ⟨⟨by omega, by simp only [hlen]; omega⟩, ?_⟩; conv => whnf
     refine ⟨by simp only [hlen]; omega, ?_⟩; conv => whnf
     refine ⟨by unfold inI64; simp only [List.length_cons]; omega, ?_⟩; conv => whnf
     refine ⟨⟨by simp only [List.length_cons]; omega, by simp only [hlen, List.length_cons]; omega⟩, ?_⟩; conv => whnf
     refine ⟨by simp only [hlen, List.length_cons]; omega, ?_⟩; conv => whnf
     refine CallX.of (hcmp l[i] y hx (q3 y (by simp))) [(1000002, 1000002), (1000003, 1000003), (1000004, 1000004)] rfl ⟨SV.le_int g1, SV.le_int g2, lr, lr, lr, trivial⟩ ⟨rr, rr, rr, trivial⟩ rfl rfl ?_; rintro x rout ⟨rfl, rfl⟩; refine ⟨rfl, ?_⟩; conv => whnf
     refine br_intro (fun h3 => ?_) (fun h3 => ?_)
     · simp only [decide_eq_true_eq] at h3; conv => whnf
       refine RegX.rule hT rfl [] oQCoD202_6 (by decide +kernel) ?_; conv => whnf
       repeat (refine And.intro (by (try unfold inI64); (try dsimp only); (try simp only [hlen, List.length_cons, List.length_append, List.length_singleton, List.length_nil]); omega) ?_; conv => whnf)
       have hsw : (((y :: A).reverse ++ [l[i]] ++ B ++ l.drop (i + 1)).set (((y :: A).length : Int)).toNat y).set ((((y :: A).length : Int)) - 1).toNat l[i] = A.reverse ++ [l[i]] ++ (y :: B) ++ l.drop (i + 1) := by
        have k1 : (((y :: A).length : Int)).toNat = A.reverse.length + 1 := by simp
        have k2 : ((((y :: A).length : Int)) - 1).toNat = A.reverse.length := by simp
        rw [k1, k2]; have := swap_lemma A.reverse (B ++ l.drop (i + 1)) l[i] y; simp only [List.reverse_cons, List.append_assoc, List.singleton_append, List.cons_append, List.nil_append] at this ⊢; exact this
       refine ⟨(A, y :: B), ⟨?_, by simp only [List.length_cons] at q2 ⊢; omega, fun z hz => q3 z (by simp [hz])⟩, by simp only [List.length_cons]; omega, ?_⟩
       · rw [q1]; simp [insR, h3]
       · refine Entails.mk' rq0 rfl rfl ⟨lr, lr, lr, lr, lr, SV.le_int (by simp only [List.length_cons]; omega), trivial⟩ ⟨?_, rr, rr, rr, trivial⟩; show Res.le _ (seqB 3 1 iF 0 (A.reverse ++ [l[i]] ++ (y :: B) ++ l.drop (i + 1))); rw [← hsw]; refine Res.le_buf (by simp) (fun k hk => ?_); have e1 := rows_putG (f := iF) (d := 0) (l := ((y :: A).reverse ++ [l[i]] ++ B ++ l.drop (i + 1))) (x := y) (j := ((((y :: A).length : Int)).toNat)) (off := 0) (ds := [.int .i64 (((y :: A).reverse ++ [l[i]] ++ B ++ l.drop (i + 1)).getD ((((y :: A).length : Int) - 1).toNat) 0)]) (get := rowF iF 0 ((y :: A).reverse ++ [l[i]] ++ B ++ l.drop (i + 1))) (fun _ _ => rfl) (fun z _ => by rw [g2]; rfl)
         have e2 := rows_putG (f := iF) (d := 0) (l := ((y :: A).reverse ++ [l[i]] ++ B ++ l.drop (i + 1)).set ((((y :: A).length : Int)).toNat) y) (x := l[i]) (j := ((((y :: A).length : Int) - 1).toNat)) (off := 0) (ds := [.int .i64 (((y :: A).reverse ++ [l[i]] ++ B ++ l.drop (i + 1)).getD ((((y :: A).length : Int)).toNat) 0)])
          (get := fun k => bif Nat.beq k ((((y :: A).length : Int)).toNat) then setAtD (rowF iF 0 ((y :: A).reverse ++ [l[i]] ++ B ++ l.drop (i + 1)) k) 0 [.int .i64 (((y :: A).reverse ++ [l[i]] ++ B ++ l.drop (i + 1)).getD ((((y :: A).length : Int) - 1).toNat) 0)] else rowF iF 0 ((y :: A).reverse ++ [l[i]] ++ B ++ l.drop (i + 1)) k) (fun k hk => e1 k (by simpa using hk)) (fun z _ => by rw [g1]; rfl)
         exact e2 k (by simpa using hk)
     · simp only [decide_eq_false_iff_not] at h3; conv => whnf
       refine ⟨by unfold inI64; omega, ?_⟩; conv => whnf
       refine ⟨(i + 1, (y :: A).reverse ++ [l[i]] ++ B ++ l.drop (i + 1)), ⟨by simp only; omega, by simp only; omega, ?_⟩, by simp only; omega, ?_⟩
       · simp only; rw [take_snoc hi, isortR_snoc, q1]; simp [insR, h3]
       · exact Entails.mk' rq0 rfl rfl ⟨lr, lr, lr, lr, lr, trivial⟩ ⟨rr, rr, rr, rr, trivial⟩
   · conv => whnf
     refine ⟨by unfold inI64; omega, ?_⟩; conv => whnf
     have hA : A = [] := by cases A <;> simp at h2 ⊢
     subst hA; refine ⟨(i + 1, [].reverse ++ [l[i]] ++ B ++ l.drop (i + 1)), ⟨by simp only; omega, by simp only; omega, ?_⟩, by simp only; omega, ?_⟩
     · simp only; rw [take_snoc hi, isortR_snoc, q1]; simp [insR]
     · exact Entails.mk' rq0 rfl rfl ⟨lr, lr, lr, lr, lr, trivial⟩ ⟨rr, rr, rr, rr, trivial⟩
 · conv => whnf
   have e1 : c = isort cmp l := by
    simp only [decide_eq_false_iff_not] at h; rw [p3, List.take_of_length_le (by omega), List.drop_eq_nil_iff.2 (by omega), List.append_nil]; rfl
   refine .ret _ ?_; conv => whnf
   subst e1; exact ⟨_, ⟨rfl, rfl⟩, rr, rr, rr, rr, trivial⟩
def oQCoE118_1 : OL := [(0, []), (1, [0]), (2, [0, 1]), (3, [0]), (4, [0]), (5, []), (6, rg 6), (7, []), (8, rg 8), (9, rg 9), (10, rg 10), (11, rg 9), (12, rg 9), (13, rg 8), (14, rg 14), (15, rg 8), (16, []), (17, [])]
theorem s207 (g : FuncId) (x1 x2 x3 : DV) (e1 e2 e3 : TypeId) (cmp : Int → Int → Int) (l : List Int) (hl : l.length < 20)
 (hcmp : ∀ p q, p ∈ l → q ∈ l → FSpec Tryz.prog g [.d (.int .i64 p), .d (.int .i64 q), .ptr 1000002 0, .ptr 1000003 0, .ptr 1000004 0] (cap3 (.d x1) (.d x2) (.d x3) e1 e2 e3)
   (fun y r => y = .d (.int .i64 (cmp p q)) ∧ r = cap3 (.d x1) (.d x2) (.d x3) e1 e2 e3)) :
 FSpec Tryz.prog 168 [.buf 1000001, .d (.int .i64 l.length), .fn g [.ptr 1000002 0, .ptr 1000003 0, .ptr 1000004 0]] ((1000001, seqB 3 1 iF 0 l) :: cap3 (.d x1) (.d x2) (.d x3) e1 e2 e3)
  (fun y r => y = .tup [] ∧ r = (1000001, seqB 3 1 iF 0 (isort cmp l)) :: cap3 (.d x1) (.d x2) (.d x3) e1 e2 e3) := by
 refine spec_of hT (C := []) Tryz.func168 rfl Tryz.call168 rfl rfl rfl ?_; conv => whnf
 refine LoopX.unroll hT (C := []) (fun _ _ h => h) (fun _ h => h) ?_; conv => whnf
 refine br_intro (fun h => ?_) (fun h => ?_)
 · simp at h; omega
 conv => whnf
 refine oAx (s228 g x1 x2 x3 e1 e2 e3 cmp l (by omega) hcmp) rq0 ?_; rintro x rout ⟨rfl, rfl⟩; refine ⟨rfl, ?_⟩; conv => whnf
 refine LoopX.unroll hT (C := []) (fun _ _ h => h) (fun _ h => h) ?_; conv => whnf
 refine br_intro (fun h => ?_) (fun h => ?_)
 · simp at h; omega
 conv => whnf
 refine .ret _ ?_; conv => whnf
 exact ⟨_, ⟨rfl, rfl⟩, rr, rr, rr, rr, trivial⟩
theorem s173 (g : FuncId) (x1 x2 x3 : DV) (e1 e2 e3 : TypeId) (cmp : Int → Int → Int) (l : List Int) (hl : l.length < 20)
 (hcmp : ∀ p q, p ∈ l → q ∈ l → FSpec Tryz.prog g [.d (.int .i64 p), .d (.int .i64 q), .ptr 1000002 0, .ptr 1000003 0, .ptr 1000004 0] (cap3 (.d x1) (.d x2) (.d x3) e1 e2 e3)
   (fun y r => y = .d (.int .i64 (cmp p q)) ∧ r = cap3 (.d x1) (.d x2) (.d x3) e1 e2 e3)) :
 FSpec Tryz.prog 117 [.buf 1000001, .fn g [.ptr 1000002 0, .ptr 1000003 0, .ptr 1000004 0]] ((1000001, seqB 3 1 iF 0 l) :: cap3 (.d x1) (.d x2) (.d x3) e1 e2 e3)
  (fun y r => y = .tup [] ∧ r = (1000001, seqB 3 1 iF 0 (isort cmp l)) :: cap3 (.d x1) (.d x2) (.d x3) e1 e2 e3) := by
 refine spec_of hT (C := []) Tryz.func117 rfl Tryz.call117 rfl rfl rfl ?_; conv => whnf
 refine oAx (s207 g x1 x2 x3 e1 e2 e3 cmp l (by omega) hcmp) rq0 ?_; rintro x rout ⟨rfl, rfl⟩; refine ⟨rfl, ?_⟩; conv => whnf
 refine .ret _ ?_; conv => whnf
 exact ⟨_, ⟨rfl, rfl⟩, rr, rr, rr, rr, trivial⟩
theorem s174 (c s : Int) (w : List Int) (hc : 0 ≤ c ∧ c ≤ 1000000000) (hw : ∀ x ∈ w, 0 ≤ x ∧ x ≤ 5761440) (hs : 0 < s) (hs2 : s ≤ 2^40) (p q : Nat) (hp : p < w.length) (hq : q < w.length) :
 FSpec Tryz.prog 118 [.d (.int .i64 p), .d (.int .i64 q), .ptr 1000002 0, .ptr 1000003 0, .ptr 1000004 0] (cap3 (.d (.int .i64 c)) (.d (ints w)) (.d (.int .i64 s)) 3 22 3)
  (fun y r => y = .d (.int .i64 ((c * w.getD q 0).tmod s - (c * w.getD p 0).tmod s)) ∧ r = cap3 (.d (.int .i64 c)) (.d (ints w)) (.d (.int .i64 s)) 3 22 3) := by
 refine spec_of hT (C := []) Tryz.func118 rfl Tryz.call118 rfl rfl rfl ?_; conv => whnf
 have bd : ∀ i : Nat, i < w.length → 0 ≤ c * w.getD (i : Int).toNat 0 ∧ c * w.getD (i : Int).toNat 0 ≤ 1000000000 * 5761440 := fun i hi => by
  rw [getD_toNat hi]; have := hw _ (List.getElem_mem hi); exact ⟨Int.mul_nonneg hc.1 this.1, Int.mul_le_mul hc.2 this.2 this.1 (by omega)⟩
 have bp := bd p hp; have bq := bd q hq; have tp := Int.tmod_nonneg s bp.1; have tq := Int.tmod_nonneg s bq.1; have tp2 := Int.tmod_lt_of_pos (c * w.getD (p : Int).toNat 0) hs; have tq2 := Int.tmod_lt_of_pos (c * w.getD (q : Int).toNat 0) hs; refine RegX.rule hT rfl [] oQCoE118_1 (by decide +kernel) ?_; conv => whnf
 repeat (refine And.intro (by (try unfold inI64); (try dsimp only); (try simp only [List.length_cons, List.length_append, List.length_singleton, List.length_nil]); omega) ?_; conv => whnf)
 refine .ret _ ?_; conv => whnf
 exact ⟨_, ⟨rfl, rfl⟩, rr, rr, rr, trivial⟩
def oQCoF71_7 : OL := [(0, []), (1, []), (2, []), (3, [0, 1, 2]), (4, [0, 1, 2]), (5, [0, 1, 2]), (6, [3, 4, 5]), (7, [])]
def fillL (g : Nat → Int) (n i : Nat) : List Int := (List.range n).map fun j => if j < i then g j else 0
theorem fillL_length (g : Nat → Int) (n i : Nat) : (fillL g n i).length = n := by simp [fillL]
theorem fillL_get {g : Nat → Int} {n i j : Nat} (h : j < n) : (fillL g n i)[j]'(by rw [fillL_length]; exact h) = if j < i then g j else 0 := by simp [fillL]
theorem fillL_zero {e : Nat} {g : Nat → Int} {n m : Nat} {get : Nat → List DV} (hm : m = n) (hg : ∀ i, get i = iF 0) : Res.le (.buf e 1 m get) (seqB e 1 iF 0 (fillL g n 0)) :=
 Res.le_buf (by rw [fillL_length, hm]) (fun i hi => by rw [rowF_lt (by rw [fillL_length]; omega), hg i, fillL_get (by omega)]; simp)
theorem fillL_set (g : Nat → Int) (n i : Nat) : (fillL g n i).set i (g i) = fillL g n (i + 1) := by
 apply List.ext_getElem
 · simp [fillL]
 · intro j h1 h2; simp only [fillL, List.getElem_set, List.getElem_map, List.getElem_range]
   by_cases e : i = j
   · subst e; simp
   · by_cases q : j < i
     · have : j < i + 1 := by omega
       simp [e, q, this]
     · have : ¬ j < i + 1 := by omega
       simp [e, q, this]
def leftL (c : Int) (g : Nat → Int) (i : Nat) : Int := c - ((List.range i).map g).sum
theorem leftL_succ (c : Int) (g : Nat → Int) (i : Nat) : leftL c g (i + 1) = leftL c g i - g i := by
 simp [leftL, List.range_succ, List.sum_append]; omega
def partG (c : Int) (w : List Int) (j : Nat) : Int := (c * w.getD j 0).tdiv w.sum
def cmpG (c : Int) (w : List Int) (p q : Int) : Int := (c * w.getD q.toNat 0).tmod w.sum - (c * w.getD p.toNat 0).tmod w.sum
def orderG (c : Int) (w : List Int) : List Int := isort (cmpG c w) (fillL (fun j => (j : Int)) w.length w.length)
def incL (P : List Int) (js : List Int) : List Int := js.foldl (fun P j => P.set j.toNat (P.getD j.toNat 0 + 1)) P
def splitG (c : Int) (w : List Int) : List Int := incL (fillL (partG c w) w.length w.length) ((orderG c w).take (leftL c (partG c w) w.length).toNat)
theorem incL_snoc (P : List Int) (js : List Int) (j : Int) : incL P (js ++ [j]) = (incL P js).set j.toNat ((incL P js).getD j.toNat 0 + 1) := by simp [incL]
theorem sum_nonneg {l : List Int} (h : ∀ x ∈ l, 0 ≤ x) : 0 ≤ l.sum := by
 induction l with
 | nil => simp
 | cons x l ih => rw [List.sum_cons]; have := h x (by simp); have := ih (fun y hy => h y (by simp [hy])); omega
theorem sum_le {l : List Int} {b : Int} (h : ∀ x ∈ l, x ≤ b) : l.sum ≤ b * l.length := by
 induction l with
 | nil => simp
 | cons x l ih => rw [List.sum_cons]; have := h x (by simp); have := ih (fun y hy => h y (by simp [hy])); simp only [List.length_cons]; rw [show b * ((l.length + 1 : Nat) : Int) = b * l.length + b by push_cast; rw [Int.mul_add, Int.mul_one]]; omega
theorem s120 (c : Int) (w : List Int) (hc : 0 ≤ c ∧ c ≤ 1000000000) (hw : ∀ x ∈ w, 0 ≤ x ∧ x ≤ 5761440) (hn : w.length < 20) (hs : w.sum ≠ 0) (hleft : 0 ≤ leftL c (partG c w) w.length ∧ leftL c (partG c w) w.length ≤ w.length) :
 FSpec Tryz.prog 71 [.d (.int .i64 c), .d (ints w)] [] (fun y r => y = .d (ints (splitG c w)) ∧ r = []) := by
 have hs0 : 0 ≤ w.sum := sum_nonneg fun x hx => (hw x hx).1
 have hs1 : w.sum ≤ 5761440 * w.length := sum_le fun x hx => (hw x hx).2
 refine spec_of hT (C := []) Tryz.func71 rfl Tryz.call71 rfl rfl rfl ?_; conv => whnf
 refine LoopX.rule hT (C := []) (ι := Nat) (fun i => i ≤ w.length) (fun i => mkSt [(2, .ptr 2 0), (3, .ptr 3 0), (5, .ptr 5 0), (15, .d (ints w)), (16, .d (.int .i64 w.length)), (17, .d (.int .i64 i))]
  [(2, .cells 3 [.d (.int .i64 c)]), (3, .cells 22 [.d (ints w)]), (5, .cells 3 [.d (.int .i64 (w.take i).sum)])]) (fun i => w.length - i) 0 (by omega) ?_ ?_
 · exact Entails.mk' [(2, 2), (3, 3), (5, 5)] rfl rfl ⟨lr, lr, lr, lr, lr, lr, trivial⟩ ⟨rr, rr, rr, trivial⟩
 intro i p1; conv => whnf
 refine br_intro (fun h => ?_) (fun h => ?_)
 · simp only [decide_eq_true_eq] at h; have hi : i < w.length := by omega
   have b1 := hw _ (List.getElem_mem hi); have b2 : 0 ≤ (w.take i).sum := sum_nonneg fun x hx => (hw x (List.mem_of_mem_take hx)).1
   have b3 : (w.take i).sum ≤ 5761440 * (w.take i).length := sum_le fun x hx => (hw x (List.mem_of_mem_take hx)).2
   have b4 : (w.take i).length = i := by simp; omega
   have b5 : w.getD (i : Int).toNat 0 = w[i] := getD_toNat hi; conv => whnf
   repeat (refine And.intro (by (try unfold inI64); (try dsimp only); (try simp only [List.length_cons, List.length_append, List.length_singleton, List.length_nil]); omega) ?_; conv => whnf)
   refine ⟨i + 1, hi, by omega, ?_⟩; refine Entails.mk' [(2, 2), (3, 3), (5, 5)] rfl rfl ⟨lr, lr, lr, lr, lr, lr, trivial⟩ ⟨rr, rr, ?_, trivial⟩; show Res.le (.cells 3 [.d (.int .i64 ((w.take i).sum + w.getD (i : Int).toNat 0))]) (.cells 3 [.d (.int .i64 (w.take (i + 1)).sum)]); rw [b5, sum_take hi]; exact rr
 simp only [decide_eq_false_iff_not] at h; have e1 : i = w.length := by omega
 subst e1; rw [List.take_length]; conv => whnf
 refine RegX.rule hT rfl [] oQCoF71_7 (by decide +kernel) ?_; conv => whnf
 refine And.intro ⟨by omega, by omega, by show (8:Int) * w.length ≤ _; omega, by omega⟩ ?_; conv => whnf
 refine And.intro ⟨by omega, by omega, by show (8:Int) * w.length ≤ _; omega, by omega⟩ ?_; conv => whnf
 have hg0 : ∀ j, j < w.length → 0 ≤ c * w.getD j 0 ∧ c * w.getD j 0 ≤ 1000000000 * 5761440 := fun j hj => by
  have := hw _ (getD_mem (x := (0 : Int)) hj); exact ⟨Int.mul_nonneg hc.1 this.1, Int.mul_le_mul hc.2 this.2 this.1 (by omega)⟩
 have hg1 : ∀ j, j < w.length → 0 ≤ partG c w j ∧ partG c w j ≤ 1000000000 * 5761440 := fun j hj => by
  have := hg0 j hj; exact ⟨Int.tdiv_nonneg this.1 hs0, Int.le_trans (Int.tdiv_le_self _ this.1) this.2⟩
 have hl1 : ∀ i, i ≤ w.length → c - 1000000000 * 5761440 * i ≤ leftL c (partG c w) i ∧ leftL c (partG c w) i ≤ c := fun i => by
  induction i with
  | zero => intro _; simp [leftL]
  | succ i ih => intro hi; have := ih (by omega); have := hg1 i (by omega); rw [leftL_succ]; omega
 refine LoopX.rule hT (C := []) (ι := Nat) (fun i => i ≤ w.length) (fun i => mkSt [(2, .ptr 2 0), (3, .ptr 3 0), (5, .ptr 5 0), (8, .buf 27), (9, .buf 30), (10, .d (.int .i64 (leftL c (partG c w) i))), (32, .d (ints w)), (33, .d (.int .i64 w.length)), (34, .d (.int .i64 i))]
  [(2, .cells 3 [.d (.int .i64 c)]), (3, .cells 22 [.d (ints w)]), (5, .cells 3 [.d (.int .i64 w.sum)]), (27, seqB 3 1 iF 0 (fillL (partG c w) w.length i)), (30, seqB 3 1 iF 0 (fillL (fun j => (j : Int)) w.length i))]) (fun i => w.length - i) 0 (by omega) ?_ ?_
 · exact Entails.mk' [(2, 2), (3, 3), (5, 5), (27, 27), (30, 30)] rfl rfl ⟨lr, lr, lr, lr, lr, SV.le_int (by simp [leftL]), lr, lr, lr, trivial⟩
    ⟨rr, rr, rr, fillL_zero (by rfl) (fun _ => rfl), fillL_zero (by rfl) (fun _ => rfl), trivial⟩
 clear p1 h; intro i p1; conv => whnf
 refine br_intro (fun h => ?_) (fun h => ?_)
 · simp only [decide_eq_true_eq] at h; have hi : i < w.length := by omega
   have b0 := hg0 i hi; have b1 := hg1 i hi; have b2 := hl1 i p1; have e1 : (i : Int).toNat = i := Int.toNat_natCast i; have l1 := fillL_length (partG c w) w.length i; have l2 := fillL_length (fun j => (j : Int)) w.length i; conv => whnf
   repeat (refine And.intro (by (try unfold inI64); (try dsimp only); (try simp only [e1, l1, l2, List.length_cons, List.length_append, List.length_singleton, List.length_nil]); omega) ?_; conv => whnf)
   refine And.intro (by show inI64 (partG c w i); unfold inI64; omega) ?_; conv => whnf
   repeat (refine And.intro (by (try unfold inI64); (try dsimp only); (try simp only [e1, l1, l2, List.length_cons, List.length_append, List.length_singleton, List.length_nil]); omega) ?_; conv => whnf)
   simp only [e1, Nat.beq_refl, cond_true]; conv => whnf
   refine And.intro (by show inI64 (leftL c (partG c w) i - partG c w i); unfold inI64; omega) ?_; conv => whnf
   refine And.intro (by unfold inI64; omega) ?_; conv => whnf
   refine ⟨i + 1, hi, by omega, ?_⟩
   have r1 : Res.le (.buf 3 1 (fillL (partG c w) w.length i).length fun j => bif Nat.beq j i then setAtD (rowF iF 0 (fillL (partG c w) w.length i) j) 0 [.int .i64 (partG c w i)] else rowF iF 0 (fillL (partG c w) w.length i) j) (seqB 3 1 iF 0 (fillL (partG c w) w.length (i + 1))) := by
    rw [← fillL_set]; exact Res.le_putF (fun _ _ => rfl)
   have r2 : Res.le (.buf 3 1 (fillL (fun j => (j : Int)) w.length i).length fun j => bif Nat.beq j i then setAtD (rowF iF 0 (fillL (fun j => (j : Int)) w.length i) j) 0 [.int .i64 (i : Int)] else rowF iF 0 (fillL (fun j => (j : Int)) w.length i) j) (seqB 3 1 iF 0 (fillL (fun j => (j : Int)) w.length (i + 1))) := by
    rw [← fillL_set]; exact Res.le_putF (fun _ _ => rfl)
   exact Entails.mk' [(2, 2), (3, 3), (5, 5), (27, 27), (30, 30)] rfl rfl ⟨lr, lr, lr, lr, lr, SV.le_int (leftL_succ c (partG c w) i).symm, lr, lr, lr, trivial⟩
    ⟨rr, rr, rr, r1, r2, trivial⟩
 simp only [decide_eq_false_iff_not] at h; have e1 : i = w.length := by omega
 subst e1; conv => whnf
 have hlen : (fillL (fun j => (j : Int)) w.length w.length).length = w.length := fillL_length _ _ _
 have hmemo : ∀ p, p ∈ fillL (fun j => (j : Int)) w.length w.length → ∃ j : Nat, p = j ∧ j < w.length := fun p hp => by
  simp only [fillL, List.mem_map, List.mem_range] at hp; obtain ⟨j, hj, rfl⟩ := hp; exact ⟨j, by simp [hj], hj⟩
 refine CallX.of (s173 118 (.int .i64 c) (ints w) (.int .i64 w.sum) 3 22 3 (cmpG c w) (fillL (fun j => (j : Int)) w.length w.length) (by omega) (fun p q hp hq => by
  obtain ⟨j, rfl, hj⟩ := hmemo p hp; obtain ⟨k, rfl, hk⟩ := hmemo q hq
  exact s174 c w.sum w hc hw (by omega) (by omega) j k hj hk)) [(1000001, 30), (1000002, 2), (1000003, 3), (1000004, 5)] rfl ⟨lr, lr, trivial⟩ ⟨rr, rr, rr, rr, trivial⟩ rfl rfl ?_
 rintro x rout ⟨rfl, rfl⟩; refine ⟨rfl, ?_⟩; conv => whnf
 have hol : (orderG c w).length = w.length := by unfold orderG isort; rw [List.length_reverse, isortR_length, fillL_length]
 refine SliceX.freeze _ _ _ _ rfl ?_; conv => whnf
 refine And.intro ⟨by omega, hleft.1, by show _ ≤ ((orderG c w).length : Int); rw [hol]; exact hleft.2⟩ ?_; conv => whnf
 obtain ⟨idx, hidx⟩ : ∃ idx, idx = (orderG c w).take (leftL c (partG c w) w.length).toNat := ⟨_, rfl⟩; have hil : idx.length = (leftL c (partG c w) w.length).toNat := by rw [hidx, List.length_take, hol]; omega
 have him : ∀ p ∈ idx, ∃ j : Nat, p = j ∧ j < w.length := fun p hp => by
  rw [hidx] at hp; have := List.mem_of_mem_take hp; unfold orderG isort at this; rw [List.mem_reverse, isortR_mem] at this; exact hmemo p this
 refine LoopX.rule hT (C := []) (ι := Nat × List Int) (fun p => p.1 ≤ idx.length ∧ p.2 = incL (fillL (partG c w) w.length w.length) (idx.take p.1) ∧ p.2.length = w.length ∧ (∀ x ∈ p.2, 0 ≤ x ∧ x ≤ 1000000000 * 5761440 + p.1))
  (fun p => mkSt [(8, .buf 27), (63, .d (ints idx)), (64, .d (.int .i64 idx.length)), (65, .d (.int .i64 p.1))] [(27, seqB 3 1 iF 0 p.2)]) (fun p => idx.length - p.1) (0, fillL (partG c w) w.length w.length) ⟨by simp, by simp [incL], fillL_length _ _ _, ?_⟩ ?_ ?_
 · intro x hx; simp only [fillL, List.mem_map, List.mem_range] at hx; obtain ⟨j, hj, rfl⟩ := hx; have := hg1 j hj; simp [hj]; omega
 · refine Entails.mk' [(27, 27)] rfl rfl ⟨lr, SV.le_ro ?_ (fun i hi => ?_), SV.le_int ?_, lr, trivial⟩ ⟨rr, trivial⟩
   · rw [hil]; omega
   · change rowF iF 0 (orderG c w) (Int.toNat 0 + i) = _
     rw [rowF_lt (show Int.toNat 0 + i < (orderG c w).length by simp only [Int.toNat_zero]; omega), rowF_lt (show i < idx.length by omega)]; subst hidx; simp [orderG]
   · rw [hil]; omega
 rintro ⟨i, P⟩ ⟨p1, p2, p3, p4⟩; simp only at p1 p2 p3 p4; conv => whnf
 refine br_intro (fun h => ?_) (fun h => ?_)
 · simp only [decide_eq_true_eq] at h; have hi : i < idx.length := by omega
   obtain ⟨j, hj, hjw⟩ := him _ (List.getElem_mem hi); have e0 : (i : Int).toNat = i := Int.toNat_natCast i; have e1 : idx.getD (i : Int).toNat 0 = j := by rw [getD_toNat hi, hj]
   have e2 : (j : Int).toNat = j := Int.toNat_natCast j; conv => whnf
   repeat (refine And.intro (by (try unfold inI64); (try dsimp only); (try simp only [e1, e2, List.length_cons, List.length_append, List.length_singleton, List.length_nil]); omega) ?_; conv => whnf)
   have hjP : j < P.length := by omega
   have bP := p4 _ (getD_mem (x := (0 : Int)) hjP); refine And.intro (by simp only [e1, e2]; unfold inI64; omega) ?_; conv => whnf
   repeat (refine And.intro (by (try unfold inI64); (try dsimp only); (try simp only [e1, e2, List.length_cons, List.length_append, List.length_singleton, List.length_nil]); omega) ?_; conv => whnf)
   refine ⟨(i + 1, P.set j (P.getD j 0 + 1)), ⟨hi, ?_, by simp only [List.length_set]; exact p3, ?_⟩, by simp only; omega, ?_⟩
   · simp only; rw [take_snoc hi, incL_snoc, ← p2, hj, e2]
   · simp only; intro x hx; rcases List.mem_or_eq_of_mem_set hx with q | q
     · have := p4 x q; omega
     · subst q; omega
   · have r1 : Res.le (.buf 3 1 P.length fun k => bif Nat.beq k (idx.getD (i : Int).toNat 0).toNat then setAtD (rowF iF 0 P k) 0 [.int .i64 (P.getD (idx.getD (i : Int).toNat 0).toNat 0 + 1)] else rowF iF 0 P k) (seqB 3 1 iF 0 (P.set j (P.getD j 0 + 1))) := by
      rw [e1, e2]; exact Res.le_putF (fun _ _ => rfl)
     exact Entails.mk' [(27, 27)] rfl rfl ⟨lr, lr, lr, lr, trivial⟩ ⟨r1, trivial⟩
 simp only [decide_eq_false_iff_not] at h; have e1 : i = idx.length := by omega
 subst e1; conv => whnf
 rw [List.take_length, hidx] at p2; refine .freeze _ 27 3 1 _ _ rfl ?_; refine .ret _ ?_; conv => whnf
 refine ⟨[], ⟨?_, rfl⟩, trivial⟩; conv => lhs; whnf
 show SV.d (ints P) = SV.d (ints (splitG c w)); rw [p2]; rfl
theorem left_sum (c : Int) (w : List Int) (hc : 0 ≤ c) (hw : ∀ x ∈ w, 0 ≤ x) (hs : 0 < w.sum) : ∀ i, i ≤ w.length → ∃ R, 0 ≤ R ∧ R ≤ w.sum * i ∧ w.sum * ((List.range i).map (partG c w)).sum + R = c * (w.take i).sum := by
 intro i
 induction i with
 | zero => intro _; exact ⟨0, by omega, by simp, by simp⟩
 | succ i ih =>
   intro hi; obtain ⟨R, h1, h2, h3⟩ := ih (by omega); have hx : w.getD i 0 = w[i] := by rw [List.getD_eq_getElem?_getD]; simp [show i < w.length by omega]
   have h4 := Int.tmod_add_mul_tdiv (c * w[i]) w.sum; have h5 : 0 ≤ c * w[i] := Int.mul_nonneg hc (hw _ (List.getElem_mem _)); have h6 := Int.tmod_nonneg w.sum h5; have h7 := Int.tmod_lt_of_pos (c * w[i]) hs; refine ⟨R + (c * w[i]).tmod w.sum, by omega, ?_, ?_⟩
   · rw [show ((i + 1 : Nat) : Int) = (i : Int) + 1 by push_cast; rfl, Int.mul_add, Int.mul_one]; omega
   · rw [sum_take (show i < w.length by omega), Int.mul_add, ← h3, List.range_succ, List.map_append, List.sum_append, List.map_singleton, List.sum_singleton, Int.mul_add]; have : partG c w i = (c * w[i]).tdiv w.sum := by unfold partG; rw [hx]
     rw [this]; omega
theorem left_bound (c : Int) (w : List Int) (hc : 0 ≤ c) (hw : ∀ x ∈ w, 0 ≤ x) (hs : 0 < w.sum) : 0 ≤ leftL c (partG c w) w.length ∧ leftL c (partG c w) w.length ≤ w.length := by
 obtain ⟨R, h1, h2, h3⟩ := left_sum c w hc hw hs w.length (Nat.le_refl _); rw [List.take_length] at h3
 have e : w.sum * leftL c (partG c w) w.length = R := by
  unfold leftL; rw [Int.mul_sub, Int.mul_comm w.sum c]; omega
 constructor
 · refine Int.not_lt.1 fun h => ?_
   have := Int.mul_neg_of_pos_of_neg hs h; omega
 · exact Int.le_of_mul_le_mul_left (by rw [e]; exact h2) hs
theorem s35 (c : Int) (w : List Int) (hn : w.length < 20) : FSpec Tryz.prog 35 [.d (.int .i64 c), .d (ints w)] []
 (fun y r => y = .tup [.d (if splitF c w = 0 then ints (splitG c w) else .nilsl), .d (.int .i64 (splitF c w))] ∧ r = []) := by
 refine spec_of hT (C := []) Tryz.func35 rfl Tryz.call35 rfl rfl rfl ?_; conv => whnf
 refine CallX.pure (s119 _ _ _) ⟨lr, lr, lr, trivial⟩ rfl ?_; conv => whnf
 refine CallX.pure (s107 _ _) ⟨lr, lr, trivial⟩ rfl ?_; conv => whnf
 refine CallX.pure (s107 _ _) ⟨lr, lr, trivial⟩ rfl ?_; conv => whnf
 refine CallX.pure (s105 [_, _] (by simp)) ⟨SV.le_lit (by rfl) (by rfl), trivial⟩ rfl ?_; have hnl : ¬ (50 < w.length) := by omega
 generalize he : firstE _ = e
 have he2 : e = if 0 ≤ c ∧ c ≤ 1000000000 then 0 else 1 := by
  rw [← he]; simp only [firstE]
  by_cases h : 0 ≤ c ∧ c ≤ 1000000000 <;> simp [h] <;> omega
 conv => whnf
 refine br_intro (fun h => ?_) (fun h => ?_)
 · simp at h; conv => whnf
   refine .ret _ ?_; conv => whnf
   refine ⟨[], ⟨?_, rfl⟩, trivial⟩; show SV.tup [.d .nilsl, .d (.int .i64 e)] = _; have hc : ¬ (0 ≤ c ∧ c ≤ 1000000000) := fun q => h (by rw [he2, if_pos q])
   rw [if_neg hc] at he2; have : splitF c w = 1 := by simp only [splitF]; rw [if_pos hc]
   rw [this, he2]; rfl
 simp at h; have hc : 0 ≤ c ∧ c ≤ 1000000000 := Classical.byContradiction fun q => by rw [if_neg q] at he2; omega
 conv => whnf
 refine LoopX.rule hT (C := []) (ι := Nat) (fun i => i ≤ w.length ∧ (∀ x ∈ w.take i, 0 ≤ x ∧ x ≤ 5761440)) (fun i => mkSt [(0, .d (.int .i64 c)), (1, .d (ints w)), (7, .d (.int .i64 (w.take i).sum)), (23, .d (ints w)), (24, .d (.int .i64 w.length)), (25, .d (.int .i64 i))] []) (fun i => w.length - i) 0 ⟨by omega, by simp⟩ ?_ ?_
 · refine Entails.mk' [] rfl rfl ⟨lr, lr, lr, lr, lr, lr, trivial⟩ trivial
 rintro i ⟨p1, p2⟩; conv => whnf
 refine br_intro (fun h => ?_) (fun h => ?_)
 · simp only [decide_eq_true_eq] at h; have hi : i < w.length := by omega
   have b2 : 0 ≤ (w.take i).sum := sum_nonneg fun x hx => (p2 x hx).1
   have b3 : (w.take i).sum ≤ 5761440 * (w.take i).length := sum_le fun x hx => (p2 x hx).2
   have b4 : (w.take i).length = i := by simp; omega
   conv => whnf
   repeat (refine And.intro (by (try unfold inI64); (try dsimp only); (try simp only [List.length_cons, List.length_append, List.length_singleton, List.length_nil]); omega) ?_; conv => whnf)
   refine CallX.pure (s119 _ _ _) ⟨lr, lr, lr, trivial⟩ rfl ?_; rw [getD_toNat hi]; conv => whnf
   refine br_intro (fun h2 => ?_) (fun h2 => ?_)
   · conv => whnf
     refine .ret _ ?_; conv => whnf
     refine ⟨[], ⟨?_, rfl⟩, trivial⟩; show SV.tup [.d .nilsl, .d (.int .i64 1)] = _
     have : splitF c w = 1 := by
      simp only [splitF]; rw [if_neg (by omega), if_neg hnl, if_pos]; rw [List.any_eq_true]; exact ⟨w[i], List.getElem_mem hi, h2⟩
     rw [this]; rfl
   · simp at h2; conv => whnf
     repeat (refine And.intro (by (try unfold inI64); (try dsimp only); (try simp only [List.length_cons, List.length_append, List.length_singleton, List.length_nil]); omega) ?_; conv => whnf)
     refine ⟨i + 1, ⟨hi, fun x hx => ?_⟩, by omega, ?_⟩
     · rw [← List.take_append_getElem hi] at hx; rcases List.mem_append.1 hx with q | q
       · exact p2 x q
       · simp at q; subst q; omega
     · exact Entails.mk' [] rfl rfl ⟨lr, lr, SV.le_int (sum_take hi).symm, lr, lr, lr, trivial⟩ trivial
 simp only [decide_eq_false_iff_not] at h; have e1 : i = w.length := by omega
 subst e1; rw [List.take_length] at p2 ⊢
 have hany : w.any (fun x => !decide (0 ≤ x ∧ x ≤ 5761440)) = false := by
  rw [List.any_eq_false]; intro x hx; have := p2 x hx; simp; omega
 conv => whnf
 refine br_intro (fun h2 => ?_) (fun h2 => ?_)
 · conv => whnf
   refine .ret _ ?_; conv => whnf
   refine ⟨[], ⟨?_, rfl⟩, trivial⟩; show SV.tup [.d .nilsl, .d (.int .i64 8)] = _; simp at h2
   have : splitF c w = 8 := by
    simp only [splitF]; rw [if_neg (by omega), if_neg hnl, hany, if_neg (by simp), if_pos h2]
   rw [this]; rfl
 · simp at h2; have hs0 : 0 ≤ w.sum := sum_nonneg fun x hx => (p2 x hx).1
   conv => whnf
   refine pAx (s120 c w hc p2 hn h2 (left_bound c w hc.1 (fun x hx => (p2 x hx).1) (by omega))) ?_; conv => whnf
   refine .ret _ ?_; conv => whnf
   refine ⟨[], ⟨?_, rfl⟩, trivial⟩; show SV.tup [.d (ints (splitG c w)), .d (.int .i64 0)] = _
   have : splitF c w = 0 := by
    simp only [splitF]; rw [if_neg (by omega), if_neg hnl, hany, if_neg (by simp), if_neg h2]
   rw [this]; rfl
section
variable {α : Type} (cmp : α → α → Int)
theorem insR_perm (x : α) : ∀ l : List α, (insR cmp x l).Perm (x :: l) := by
 intro l
 induction l with
 | nil => exact .refl _
 | cons y r ih =>
   simp only [insR]; split
   · exact (ih.cons y).trans (.swap x y r)
   · exact .refl _
theorem isortR_perm (l : List α) : (isortR cmp l).Perm l := by
 have : ∀ (l acc : List α), (l.foldl (fun acc x => insR cmp x acc) acc).Perm (l ++ acc) := by
  intro l
  induction l with
  | nil => intro acc; exact .refl _
  | cons x l ih =>
    intro acc; rw [List.foldl_cons]; refine (ih _).trans (((insR_perm cmp x acc).append_left l).trans ?_); exact List.perm_middle
 have h := this l []; rw [List.append_nil] at h; exact h
theorem isort_perm (l : List α) : (isort cmp l).Perm l := (List.reverse_perm _).trans (isortR_perm cmp l)
variable (R : α → α → Prop) (tr : ∀ a b c, R a b → R b c → R a c)
include tr in
theorem insR_pairwise (x : α) : ∀ l : List α, l.Pairwise (fun a b => R b a) → (∀ y ∈ l, (cmp x y < 0 → R x y) ∧ (¬ cmp x y < 0 → R y x)) → (insR cmp x l).Pairwise (fun a b => R b a) := by
 intro l
 induction l with
 | nil => intro _ _; simp [insR]
 | cons y r ih =>
   intro h hc; have h' := List.pairwise_cons.1 h; simp only [insR]; split
   · rename_i hlt; rw [List.pairwise_cons]; refine ⟨fun z hz => ?_, ih h'.2 (fun z hz => hc z (by simp [hz]))⟩; rcases (insR_mem cmp x z).1 hz with q | q
     · subst q; exact (hc y (by simp)).1 hlt
     · exact h'.1 z q
   · rename_i hlt; have hyx := (hc y (by simp)).2 hlt; rw [List.pairwise_cons]; refine ⟨fun z hz => ?_, h⟩; rcases List.mem_cons.1 hz with q | q
     · subst q; exact hyx
     · exact tr _ _ _ (h'.1 z q) hyx
include tr in
theorem isort_pairwise : ∀ l : List α, l.Pairwise (fun y x => (cmp x y < 0 → R x y) ∧ (¬ cmp x y < 0 → R y x)) → (isort cmp l).Pairwise R := by
 intro l h; unfold isort; rw [List.pairwise_reverse]
 have : ∀ n, n ≤ l.length → (isortR cmp (l.take n)).Pairwise (fun a b => R b a) := by
  intro n
  induction n with
  | zero => intro _; simp [isortR]
  | succ n ih =>
    intro hn; rw [take_snoc hn, isortR_snoc]; refine insR_pairwise cmp R tr _ _ (ih (by omega)) (fun y hy => ?_); have hy := (isortR_mem cmp _).1 hy; have hp : (l.take (n + 1)).Pairwise (fun y x => (cmp x y < 0 → R x y) ∧ (¬ cmp x y < 0 → R y x)) := h.sublist (List.take_sublist _ _); rw [take_snoc hn, List.pairwise_append] at hp; exact hp.2.2 y hy _ (by simp)
 have := this l.length (Nat.le_refl _); rwa [List.take_length] at this
end
theorem eq_of_getD {α : Type} {l m : List α} (d : α) (hl : l.length = m.length) (h : ∀ j, j < l.length → l.getD j d = m.getD j d) : l = m := by
 refine List.ext_getElem hl (fun i h1 h2 => ?_); have := h i h1; rwa [List.getD_eq_getElem?_getD, List.getD_eq_getElem?_getD, List.getElem?_eq_getElem h1, List.getElem?_eq_getElem h2] at this
theorem all_step {p : Nat → Prop} {i : Nat} (h : ∀ j, j < i → p j) (h1 : p i) : ∀ j, j < i + 1 → p j := fun j hj => by
 rcases Nat.lt_or_ge j i with q | q
 · exact h j q
 · have : j = i := by omega
   subst this; exact h1
theorem splitF_31 : splitF 3 [1, 1] = 0 := by decide +kernel
theorem splitG_31 : splitG 3 [1, 1] = [2, 1] := by decide +kernel
structure Gate where
 key : List UInt8
 area : List UInt8
 clock : Int
structure Pas where
 tm : Int
 gate : List UInt8
 plate : List UInt8
 cents : Int
def plCh (c : UInt8) : Bool := (decide (65 ≤ c.toNat) && decide (c.toNat ≤ 90)) || (decide (48 ≤ c.toNat) && decide (c.toNat ≤ 57))
def isPlateB (s : List UInt8) : Bool := s.all plCh && decide (2 ≤ s.length) && decide (s.length ≤ 10)
theorem s185 (s : List UInt8) (hl : s.length ≤ 2^40) : FSpec Tryz.prog 119 [.d (.str s)] [] (fun x r => x = .d (.bool (isPlateB s)) ∧ r = []) := by
 refine spec_of hT (C := []) Tryz.func119 rfl Tryz.call119 rfl rfl rfl ?_; conv => whnf
 refine LoopX.rule hT (C := []) (ι := Nat) (fun i => i ≤ s.length ∧ ∀ j, j < i → plCh (s.getD j 0) = true) (fun i => mkSt [(0, .d (.str s)), (6, .d (.int .i64 s.length)), (7, .d (.int .i64 i))] []) (fun i => s.length - i) 0 ⟨by omega, by omega⟩ (by exact eAx []) ?_; rintro i ⟨p1, p2⟩; have e1 : (i : Int).toNat = i := Int.toNat_natCast i
 have hbad : i < s.length → plCh (s.getD i 0) = false → isPlateB s = false := fun hi h => by
  have : s.all plCh = false := by
   rw [List.all_eq_false]; exact ⟨s.getD i 0, getD_mem hi, by rw [h]; simp⟩
  simp only [isPlateB, this, Bool.false_and]
 have hall : i = s.length → s.all plCh = true := fun hi => by
  rw [List.all_eq_true]; intro c hc; obtain ⟨j, hj, rfl⟩ := mem_getD (d := 0) hc; exact p2 j (by omega)
 conv => whnf
 repeat' (first | ((first | (refine br_intro ?_ ?_ <;> intro hb <;> try simp only [brs] at hb) | omega | refine sAx ?_ | decide | assumption) <;> conv => whnf))
 all_goals first
  | (refine ⟨i + 1, ⟨by omega, all_step p2 (by clear p2 hbad hall; simp only [e1] at *; simp only [plCh]; grind)⟩, by omega, (by exact eAx [])⟩)
  | (refine .ret _ ?_
     conv => whnf
     refine ⟨[], ⟨?_, rfl⟩, trivial⟩; conv => lhs; whnf
     congr 2
     first
      | (rw [hbad (by omega) (by clear p2 hbad hall; simp only [e1] at *; simp only [plCh]; grind)])
      | (unfold isPlateB; rw [hall (by omega)]; clear p2 hbad hall; grind))
def cmpI (a b : Int) : Int := if a < b then -1 else if b < a then 1 else 0
def cmpS (a b : List UInt8) : Int := if Op.bytesLess a b = true then -1 else if Op.bytesLess b a = true then 1 else 0
theorem s210 (a : Int) : FSpec Tryz.prog 128 [.d (.int .i64 a)] [] (fun x r => x = .d (.bool false) ∧ r = []) := by
 refine spec_of hT (C := []) Tryz.func128 rfl Tryz.call128 rfl rfl rfl ?_; conv => whnf
 refine .ret _ ?_; conv => whnf
 refine ⟨[], ⟨?_, rfl⟩, trivial⟩; conv => lhs; whnf
 simp
theorem s211 (a : List UInt8) : FSpec Tryz.prog 86 [.d (.str a)] [] (fun x r => x = .d (.bool false) ∧ r = []) := by
 refine spec_of hT (C := []) Tryz.func86 rfl Tryz.call86 rfl rfl rfl ?_; conv => whnf
 refine .ret _ ?_; conv => whnf
 refine ⟨[], ⟨?_, rfl⟩, trivial⟩; conv => lhs; whnf
 simp
theorem s183 (a b : Int) : FSpec Tryz.prog 85 [.d (.int .i64 a), .d (.int .i64 b)] [] (fun x r => x = .d (.int .i64 (cmpI a b)) ∧ r = []) := by
 refine spec_of hT (C := []) Tryz.func85 rfl Tryz.call85 rfl rfl rfl ?_; conv => whnf
 repeat' (first | (refine CallX.exact (s210 _) rfl rfl ?_; rotate_right; conv => whnf) | ((first | (refine br_intro ?_ ?_ <;> intro hb <;> try simp only [brs] at hb) | omega | refine sAx ?_ | decide | assumption) <;> conv => whnf))
 all_goals
  refine .ret _ ?_; conv => whnf
  refine ⟨[], ⟨?_, rfl⟩, trivial⟩; conv => lhs; whnf
  congr 2; unfold cmpI; grind
theorem less_tri : ∀ (a b : List UInt8), Op.bytesLess a b = false → a ≠ b → Op.bytesLess b a = true := by
 intro a
 induction a with
 | nil => intro b h hn; cases b with
   | nil => exact absurd rfl hn
   | cons y ys => simp [Op.bytesLess] at h
 | cons x xs ih =>
   intro b h hn
   cases b with
   | nil => simp [Op.bytesLess]
   | cons y ys =>
     simp only [Op.bytesLess] at h ⊢; grind
theorem s184 (a b : List UInt8) : FSpec Tryz.prog 46 [.d (.str a), .d (.str b)] [] (fun x r => x = .d (.int .i64 (cmpS a b)) ∧ r = []) := by
 refine spec_of hT (C := []) Tryz.func46 rfl Tryz.call46 rfl rfl rfl ?_; conv => whnf
 repeat' (first | (refine CallX.exact (s211 _) rfl rfl ?_; rotate_right; conv => whnf) | ((first | (refine br_intro ?_ ?_ <;> intro hb <;> try simp only [brs] at hb) | omega | refine sAx ?_ | decide | assumption) <;> conv => whnf))
 all_goals
  refine .ret _ ?_; conv => whnf
  refine ⟨[], ⟨?_, rfl⟩, trivial⟩; conv => lhs; whnf
  congr 2; unfold cmpS; grind [less_tri]
theorem s182 (l : List Int) (hl : l.length ≤ 2^40) : FSpec Tryz.prog 44 [.d (ints l)] [] (fun x r => x = .d (.int .i64 (firstE l)) ∧ r = []) := by
 refine spec_of hT (C := []) Tryz.func44 rfl Tryz.call44 rfl rfl rfl ?_; conv => whnf
 refine LoopX.rule hT (C := []) (ι := Nat) (fun i => i ≤ l.length ∧ firstE l = firstE (l.drop i)) (fun i => mkSt [(3, .d (.int .i64 0)), (6, .d (ints l)), (7, .d (.int .i64 l.length)), (8, .d (.int .i64 i))] []) (fun i => l.length - i) 0 ⟨by omega, by simp⟩ (by exact eAx []) ?_; rintro i ⟨p1, p2⟩; have hd : i < l.length → l.drop i = l.getD i 0 :: l.drop (i + 1) := fun hi => by rw [List.drop_eq_getElem_cons hi, List.getD_eq_getElem?_getD, List.getElem?_eq_getElem hi]; rfl
 conv => whnf
 repeat' (first | ((first | (refine br_intro ?_ ?_ <;> intro hb <;> try simp only [brs] at hb) | omega | refine sAx ?_ | decide | assumption) <;> conv => whnf))
 · refine .ret _ ?_; conv => whnf
   refine ⟨[], ⟨?_, rfl⟩, trivial⟩; conv => lhs; whnf
   congr 2; rw [p2, hd (by omega), firstE, if_neg hb, Int.toNat_natCast]
 · exact ⟨i + 1, ⟨by omega, by rw [p2, hd (by omega), firstE, if_pos hb]⟩, by omega, (by exact eAx [])⟩
 · refine .ret _ ?_; conv => whnf
   refine ⟨[], ⟨?_, rfl⟩, trivial⟩; conv => lhs; whnf
   congr 2; rw [p2, List.drop_eq_nil_iff.2 (by omega)]; rfl
def ixF (p : Nat → Bool) : Nat → Int
 | 0 => -1
 | n + 1 => if ixF p n = -1 then (if p n = true then n else -1) else ixF p n
theorem ixF_none {p : Nat → Bool} : ∀ {n : Nat}, (∀ j, j < n → p j = false) → ixF p n = -1 := by
 intro n
 induction n with
 | zero => intro _; rfl
 | succ n ih => intro h; rw [ixF, if_pos (ih fun j hj => h j (by omega)), h n (by omega)]; rfl
theorem ixF_hit {p : Nat → Bool} {n i : Nat} (hi : i < n) (h : ∀ j, j < i → p j = false) (h1 : p i = true) : ixF p n = i := by
 induction n with
 | zero => omega
 | succ n ih =>
   rw [ixF]
   by_cases q : i < n
   · rw [ih q, if_neg (by omega)]
   · have : i = n := by omega
     subst this; rw [if_pos (ixF_none h), if_pos h1]
theorem ixF_bd {p : Nat → Bool} : ∀ {n : Nat}, -1 ≤ ixF p n ∧ ixF p n < n ∧ (0 ≤ ixF p n → p (ixF p n).toNat = true) := by
 intro n
 induction n with
 | zero => simp [ixF]
 | succ n ih =>
   rw [ixF]; split
   · split
     · rename_i h; exact ⟨by omega, by omega, fun _ => by simpa using h⟩
     · exact ⟨by omega, by omega, fun h => by omega⟩
   · exact ⟨ih.1, by omega, ih.2.2⟩
theorem s154 (n : Int) : FSpec Tryz.prog 80 [.d (.int .i64 n)] [] (fun x r => x = .d (.bool (decide (0 ≤ n ∧ n ≤ 5761439))) ∧ r = []) := by
 refine spec_of hT (C := []) Tryz.func80 rfl Tryz.call80 rfl rfl rfl ?_; conv => whnf
 repeat' (first | (refine CallX.exact (s119 _ _ _) rfl rfl ?_; rotate_right; conv => whnf) | ((first | (refine br_intro ?_ ?_ <;> intro hb <;> try simp only [brs] at hb) | omega | refine sAx ?_ | decide | assumption) <;> conv => whnf))
 refine .ret _ ?_; conv => whnf
 refine ⟨[], ⟨?_, rfl⟩, trivial⟩; conv => lhs; whnf
structure Chg where
 hire : List UInt8
 vehicle : List UInt8
 pas : Int
 cents : Int
structure Lin where
 kind : Int
 key : List UInt8
 cents : Int
deriving DecidableEq
theorem mem_len {l : List (List UInt8)} {u : List UInt8} (h : u ∈ l) (q : l.all (fun x => decide (x.length ≤ 8)) = true) : u.length ≤ 8 := by
 have := List.all_eq_true.1 q u h; exact of_decide_eq_true this
theorem s133 (n : Int) : FSpec Tryz.prog 106 [.d (.int .i64 n)] [] (fun x r => x = .d (.bool (decide (0 ≤ n ∧ n ≤ 5761439))) ∧ r = []) := by
 refine spec_of hT (C := []) Tryz.func106 rfl Tryz.call106 rfl rfl rfl ?_; conv => whnf
 repeat' (first | (refine CallX.exact (s110 _ _ _) rfl rfl ?_; rotate_right; conv => whnf) | ((first | (refine br_intro ?_ ?_ <;> intro hb <;> try simp only [brs] at hb) | omega | refine sAx ?_ | decide | assumption) <;> conv => whnf))
 refine .ret _ ?_; conv => whnf
 refine ⟨[], ⟨?_, rfl⟩, trivial⟩; conv => lhs; whnf
theorem isKey_nil : isKeyB [] = false := by decide
theorem less_nil (a : List UInt8) : Op.bytesLess a [] = false := by cases a <;> rfl
def oQHiA180_1 : OL := [(0, []), (1, []), (3, [0, 1]), (4, [0, 1]), (8, [0, 1, 3, 4]), (9, [0, 1, 3, 4]), (2, [3, 4, 8, 9]), (5, [8, 9]), (6, [8, 9]), (7, [8, 9]), (10, []), (11, []), (12, []), (13, []), (14, []), (15, []), (16, []), (17, []), (18, []), (19, []), (20, []), (21, [])]
def oQHiA137_2 : OL := [(0, []), (1, []), (5, [0, 1]), (6, [0, 1]), (2, [5, 6]), (3, [5, 6]), (4, [5, 6]), (7, []), (8, []), (9, []), (10, [])]
def oQHiA137_16 : OL := [(0, []), (1, []), (2, [0, 1]), (3, []), (5, rg 4), (6, [0, 1, 2, 3, 5]), (7, [0, 1, 2, 3, 5]), (8, [0, 1, 2, 3, 5]), (9, [0, 1, 2, 3, 5]), (10, rg 4), (4, [5, 6, 7, 8, 9, 10]), (11, []), (12, []), (13, []), (14, [])]
def oQHiA137_17 : OL := [(0, []), (1, []), (3, [0, 1]), (4, [0, 1]), (5, [0, 1]), (6, [0, 1, 3, 4, 5]), (7, [0, 1, 3, 4, 5]), (8, [0, 1, 3, 4, 5]), (9, [0, 1]), (2, [3, 4, 5, 6, 7, 8, 9]), (10, []), (11, []), (12, []), (13, [])]
def oQHiA90_1 : OL := [(0, []), (1, []), (11, [0, 1]), (12, [0, 1]), (2, [11, 12]), (3, [11, 12]), (4, [11, 12]), (5, [11, 12]), (6, [11, 12]), (7, [11, 12]), (8, [11, 12]), (9, [11, 12]), (10, [11, 12]), (13, []), (14, []), (15, []), (16, [])]
structure Rdg where
 tm : Int
 st : List UInt8
 meter : Int
 fuel : Int
def rgF : Rdg → List DV := fun r => [.int .i64 r.tm, .str r.st, .int .i64 r.meter, .int .i64 r.fuel]
structure Leg where
 veh : List UInt8
 out : Rdg
 inn : Rdg
def lgF : Leg → List DV := fun x => [.str x.veh, .int .i64 x.out.tm, .str x.out.st, .int .i64 x.out.meter, .int .i64 x.out.fuel, .int .i64 x.inn.tm, .str x.inn.st, .int .i64 x.inn.meter, .int .i64 x.inn.fuel]
def rg0 : Rdg := ⟨0, [], 0, 0⟩
def lg0 : Leg := ⟨[], rg0, rg0⟩
abbrev legs (l : List Leg) : DV := seqD 9 lgF lg0 l
structure Hir where
 key : List UInt8
 drv : List UInt8
 frm : Int
 to : Int
 legs : List Leg
def hiF : Hir → List DV := fun h => [.str h.key, .str h.drv, .int .i64 h.frm, .int .i64 h.to, Go.Proofs.YtophabkpfpbadaaGreatDoor.legs h.legs]
def hi0 : Hir := ⟨[], [], 0, 0, []⟩
abbrev hcell (h : Hir) : Res := .cells 146 [.d (.str h.key), .d (.str h.drv), .d (.int .i64 h.frm), .d (.int .i64 h.to), .d (Go.Proofs.YtophabkpfpbadaaGreatDoor.legs h.legs)]
def lgK (x : Leg) : Prop := x.veh.length ≤ 2^40 ∧ x.out.st.length ≤ 2^40 ∧ x.inn.st.length ≤ 2^40
def hiK (h : Hir) : Prop := h.key.length ≤ 2^40 ∧ h.drv.length ≤ 2^40 ∧ h.legs.length ≤ 2^40 ∧ ∀ x ∈ h.legs, lgK x
def rdgE (r : Rdg) : Int := if ¬ (0 ≤ r.tm ∧ r.tm ≤ 5761439) then 1 else if isKeyB r.st = false then 5 else if ¬ ((0 ≤ r.meter ∧ r.meter ≤ 999999) ∧ (0 ≤ r.fuel ∧ r.fuel ≤ 8)) then 1 else 0
def timE (a b : Int) : Int := if a < 0 ∨ b ≤ a ∨ 5761439 < b then 1 else if 172800 < b - a then 2 else 0
def legE (h : Hir) (i : Nat) : Int :=
 if isKeyB (h.legs.getD i lg0).veh = false then 5
 else if rdgE (h.legs.getD i lg0).out ≠ 0 then rdgE (h.legs.getD i lg0).out
 else if i = 0 ∧ (h.legs.getD i lg0).out.tm ≠ h.frm then 7
 else if 0 < i ∧ (h.legs.getD i lg0).out.tm ≠ (h.legs.getD (i - 1) lg0).inn.tm then 7
 else if 0 < i ∧ (h.legs.getD i lg0).veh = (h.legs.getD (i - 1) lg0).veh then 16
 else if 0 < i ∧ (h.legs.getD i lg0).out.st ≠ (h.legs.getD (i - 1) lg0).inn.st then 8
 else if (h.legs.getD i lg0).inn.tm = -1 then (if ¬ ((h.legs.getD i lg0).inn.st = [] ∧ (h.legs.getD i lg0).inn.meter = 0 ∧ (h.legs.getD i lg0).inn.fuel = 0) then 3 else if (i : Int) < (h.legs.length : Int) - 1 then 11 else 0)
 else if rdgE (h.legs.getD i lg0).inn ≠ 0 then rdgE (h.legs.getD i lg0).inn
 else if (h.legs.getD i lg0).inn.tm ≤ (h.legs.getD i lg0).out.tm then 7 else 0
def hirE (h : Hir) : Int :=
 if isKeyB h.key = false ∨ isKeyB h.drv = false then 5 else if timE h.frm h.to ≠ 0 then timE h.frm h.to
 else if h.legs.length = 0 then 3 else if 20 < h.legs.length then 2 else firstAt (legE h) h.legs.length
theorem z220 (n : Int) : FSpec Tryz.prog 74 [.d (.int .i64 n)] [] (fun x o => x = .d (.int .i64 (if 0 ≤ n ∧ n ≤ 5761439 then 0 else 1)) ∧ o = []) := by
 refine spec_of hT (C := []) Tryz.func74 rfl Tryz.call74 rfl rfl rfl ?_; conv => whnf
 repeat' (first | (refine CallX.exact (s154 _) rfl rfl ?_; rotate_right; conv => whnf) | (refine CallX.exact (s107 _ _) rfl rfl ?_; rotate_right; conv => whnf) | ((first | (refine br_intro ?_ ?_ <;> intro hb <;> try simp only [brs] at hb) | omega | refine sAx ?_ | decide | assumption) <;> conv => whnf))
 refine .ret _ ?_; conv => whnf
 refine ⟨[], ⟨?_, rfl⟩, trivial⟩; conv => lhs; whnf
 congr 2
 grind
theorem z312 (r : Rdg) (h : r.st.length ≤ 2^40) : FSpec Tryz.prog 180 [.agg ((rgF r).map .d)] [] (fun x o => x = .d (.int .i64 (rdgE r)) ∧ o = []) := by
 refine spec_of hT (C := []) Tryz.func180 rfl Tryz.call180 rfl rfl rfl ?_; conv => whnf
 repeat' (first | (refine CallX.exact (z220 _) rfl rfl ?_; rotate_right; conv => whnf) | (refine CallX.exact (s108 _ h) rfl rfl ?_; rotate_right; conv => whnf) | (refine CallX.exact (s119 _ _ _) rfl rfl ?_; rotate_right; conv => whnf) | (refine CallX.exact (s107 _ _) rfl rfl ?_; rotate_right; conv => whnf) | ((first | refine CallX.pure (s105 [_, _, _] (by simp)) ⟨SV.le_lit (by rfl) (by rfl), trivial⟩ rfl ?_ | (refine br_intro ?_ ?_ <;> intro hb <;> try simp only [brs] at hb) | refine rAx hT 1 oQHiA180_1 ?_ | omega | refine sAx ?_ | decide | assumption) <;> conv => whnf))
 all_goals
  refine .ret _ ?_; conv => whnf
  refine ⟨[], ⟨?_, rfl⟩, trivial⟩; conv => lhs; whnf
  congr 2
  unfold rdgE; simp only [firstE]; grind
def daysW (a b : Int) : Int := (b - a + 1440 - 1).tdiv 1440
theorem daysW_lt {a b : Int} (h : a < b) : 120 < daysW a b ↔ 172800 < b - a := by
 unfold daysW; rw [Int.tdiv_eq_ediv_of_nonneg (by omega)]; omega
theorem z311 (a b : Int) (h : 0 ≤ a ∧ a < b ∧ b ≤ 5761439) : FSpec Tryz.prog 179 [.agg [.d (.int .i64 a), .d (.int .i64 b)]] [] (fun x o => x = .d (.int .i64 (daysW a b)) ∧ o = []) := by
 obtain ⟨h1, h2, h3⟩ := h; have hd : inI64 ((b - a + 1440 - 1).tdiv 1440) := by unfold inI64; rw [Int.tdiv_eq_ediv_of_nonneg (by omega)]; omega
 refine spec_of hT (C := []) Tryz.func179 rfl Tryz.call179 rfl rfl rfl ?_; conv => whnf
 repeat' (first | ((first | refine And.intro hd ?_ | (refine br_intro ?_ ?_ <;> intro hb <;> try simp only [brs] at hb) | omega | refine sAx ?_ | decide | assumption) <;> conv => whnf))
 refine .ret _ ?_; conv => whnf
 refine ⟨[], ⟨?_, rfl⟩, trivial⟩; conv => lhs; whnf
 rfl
theorem z263 (a b : Int) : FSpec Tryz.prog 136 [.agg [.d (.int .i64 a), .d (.int .i64 b)]] [] (fun x o => x = .d (.int .i64 (timE a b)) ∧ o = []) := by
 have hd := daysW_lt (a := a) (b := b); refine spec_of hT (C := []) Tryz.func136 rfl Tryz.call136 rfl rfl rfl ?_; conv => whnf
 repeat' (first | (refine CallX.exact (z311 a b ⟨by omega, by omega, by omega⟩) rfl rfl ?_; rotate_right; conv => whnf) | (refine CallX.exact (s107 _ _) rfl rfl ?_; rotate_right; conv => whnf) | ((first | (refine br_intro ?_ ?_ <;> intro hb <;> try simp only [brs] at hb) | omega | refine sAx ?_ | decide | assumption) <;> conv => whnf))
 all_goals
  refine .ret _ ?_; conv => whnf
  refine ⟨[], ⟨?_, rfl⟩, trivial⟩; conv => lhs; whnf
  congr 2
  unfold timE; grind
set_option maxHeartbeats 2000000 in
theorem z264 (h : Hir) (hk : hiK h) (i : Nat) (hi : i < h.legs.length) : FSpec Tryz.prog 137 [.agg ((hiF h).map .d), .d (.int .i64 i)] [] (fun x o => x = .d (.int .i64 (legE h i)) ∧ o = []) := by
 have e1 : (i : Int).toNat = i := Int.toNat_natCast i; have hl := hk.2.2.1; have hx : lgK (h.legs.getD (i : Int).toNat lg0) := hk.2.2.2 _ (getD_mem (by omega)); refine spec_of hT (C := []) Tryz.func137 rfl Tryz.call137 rfl rfl rfl ?_; conv => whnf
 repeat' (first | (refine CallX.exact (s108 _ hx.1) rfl rfl ?_; rotate_right; conv => whnf) | (refine CallX.exact (z312 (h.legs.getD (i : Int).toNat lg0).out hx.2.1) rfl rfl ?_; rotate_right; conv => whnf) | (refine CallX.exact (z312 (h.legs.getD (i : Int).toNat lg0).inn hx.2.2) rfl rfl ?_; rotate_right; conv => whnf) | (refine CallX.exact (s107 _ _) rfl rfl ?_; rotate_right; conv => whnf) | ((first | refine CallX.pure (s105 [_, _] (by simp)) ⟨SV.le_lit (by rfl) (by rfl), trivial⟩ rfl ?_ | (refine br_intro ?_ ?_ <;> intro hb <;> try simp only [brs] at hb) | refine rAx hT 2 oQHiA137_2 ?_ | refine rAx hT 16 oQHiA137_16 ?_ | refine rAx hT 17 oQHiA137_17 ?_ | omega | refine sAx ?_ | decide | assumption) <;> conv => whnf))
 all_goals
  refine .ret _ ?_; conv => whnf
  refine ⟨[], ⟨?_, rfl⟩, trivial⟩; conv => lhs; whnf
  congr 2
  clear hx hk; simp only [e1, toNat_pred, firstE] at *; unfold legE; grind
theorem hirE_bad {h : Hir} (q : isKeyB h.key = false ∨ isKeyB h.drv = false) : hirE h = 5 := by unfold hirE; rw [if_pos q]
theorem hirE_time {h : Hir} (q1 : isKeyB h.key = true) (q2 : isKeyB h.drv = true) (q : timE h.frm h.to ≠ 0) : hirE h = timE h.frm h.to := by
 unfold hirE; rw [if_neg (by rw [q1, q2]; simp), if_pos q]
theorem hirE_legs {h : Hir} (q1 : isKeyB h.key = true) (q2 : isKeyB h.drv = true) (q : timE h.frm h.to = 0) : hirE h = if h.legs.length = 0 then 3 else if 20 < h.legs.length then 2 else firstAt (legE h) h.legs.length := by
 unfold hirE; rw [if_neg (by rw [q1, q2]; simp), if_neg (by omega)]
set_option maxHeartbeats 2000000 in
theorem z210 (h : Hir) (hk : hiK h) : FSpec Tryz.prog 90 [.agg ((hiF h).map .d)] [] (fun x o => x = .d (.int .i64 (hirE h)) ∧ o = []) := by
 have c1 := s108 h.key hk.1; have c2 := s108 h.drv hk.2.1; have c3 := z263 h.frm h.to; have hl := hk.2.2.1; have c5 := s105 [5, timE h.frm h.to] (by simp); rw [show firstE [5, timE h.frm h.to] = 5 from rfl] at c5; have c6 := s105 [0, timE h.frm h.to] (by simp); rw [show firstE [0, timE h.frm h.to] = timE h.frm h.to from by simp only [firstE]; grind] at c6
 cases q1 : isKeyB h.key with
 | false =>
   rw [hirE_bad (.inl q1)]; rw [q1] at c1; generalize timE h.frm h.to = E at c3 c5 c6; refine spec_of hT (C := []) Tryz.func90 rfl Tryz.call90 rfl rfl rfl ?_; conv => whnf
   repeat' (first | (refine CallX.exact (c1) rfl rfl ?_; rotate_right; conv => whnf) | (refine CallX.exact (c3) rfl rfl ?_; rotate_right; conv => whnf) | (refine CallX.exact (s107 _ _) rfl rfl ?_; rotate_right; conv => whnf) | ((first | refine CallX.pure c5 ⟨SV.le_lit (by rfl) (by rfl), trivial⟩ rfl ?_ | (refine br_intro ?_ ?_ <;> intro hb <;> try simp only [brs] at hb) | refine rAx hT 1 oQHiA90_1 ?_ | omega | refine sAx ?_ | decide | assumption) <;> conv => whnf))
   refine .ret _ ?_; conv => whnf
   refine ⟨[], ⟨?_, rfl⟩, trivial⟩
   conv => lhs; whnf
 | true =>
 rw [q1] at c1
 cases q2 : isKeyB h.drv with
 | false =>
   rw [hirE_bad (.inr q2)]; rw [q2] at c2; generalize timE h.frm h.to = E at c3 c5 c6; refine spec_of hT (C := []) Tryz.func90 rfl Tryz.call90 rfl rfl rfl ?_; conv => whnf
   repeat' (first | (refine CallX.exact (c1) rfl rfl ?_; rotate_right; conv => whnf) | (refine CallX.exact (c2) rfl rfl ?_; rotate_right; conv => whnf) | (refine CallX.exact (c3) rfl rfl ?_; rotate_right; conv => whnf) | (refine CallX.exact (s107 _ _) rfl rfl ?_; rotate_right; conv => whnf) | ((first | refine CallX.pure c5 ⟨SV.le_lit (by rfl) (by rfl), trivial⟩ rfl ?_ | (refine br_intro ?_ ?_ <;> intro hb <;> try simp only [brs] at hb) | refine rAx hT 1 oQHiA90_1 ?_ | omega | refine sAx ?_ | decide | assumption) <;> conv => whnf))
   refine .ret _ ?_; conv => whnf
   refine ⟨[], ⟨?_, rfl⟩, trivial⟩
   conv => lhs; whnf
 | true =>
 rw [q2] at c2
 by_cases q3 : timE h.frm h.to = 0
 · have hE := hirE_legs q1 q2 q3; rw [hE]; clear hE; rw [q3] at c3 c6
   by_cases q4 : h.legs.length = 0
   · rw [if_pos q4]; refine spec_of hT (C := []) Tryz.func90 rfl Tryz.call90 rfl rfl rfl ?_; conv => whnf
     repeat' (first | (refine CallX.exact (c1) rfl rfl ?_; rotate_right; conv => whnf) | (refine CallX.exact (c2) rfl rfl ?_; rotate_right; conv => whnf) | (refine CallX.exact (c3) rfl rfl ?_; rotate_right; conv => whnf) | (refine CallX.exact (s107 _ _) rfl rfl ?_; rotate_right; conv => whnf) | ((first | refine CallX.pure c6 ⟨SV.le_lit (by rfl) (by rfl), trivial⟩ rfl ?_ | (refine br_intro ?_ ?_ <;> intro hb <;> try simp only [brs] at hb) | refine rAx hT 1 oQHiA90_1 ?_ | omega | refine sAx ?_ | decide | assumption) <;> conv => whnf))
     all_goals first
      | (exfalso; omega)
      | (refine .ret _ ?_
         conv => whnf
         refine ⟨[], ⟨?_, rfl⟩, trivial⟩; conv => lhs; whnf
         all_goals rfl)
   by_cases q5 : 20 < h.legs.length
   · rw [if_neg q4, if_pos q5]; refine spec_of hT (C := []) Tryz.func90 rfl Tryz.call90 rfl rfl rfl ?_; conv => whnf
     repeat' (first | (refine CallX.exact (c1) rfl rfl ?_; rotate_right; conv => whnf) | (refine CallX.exact (c2) rfl rfl ?_; rotate_right; conv => whnf) | (refine CallX.exact (c3) rfl rfl ?_; rotate_right; conv => whnf) | (refine CallX.exact (s107 _ _) rfl rfl ?_; rotate_right; conv => whnf) | ((first | refine CallX.pure c6 ⟨SV.le_lit (by rfl) (by rfl), trivial⟩ rfl ?_ | (refine br_intro ?_ ?_ <;> intro hb <;> try simp only [brs] at hb) | refine rAx hT 1 oQHiA90_1 ?_ | omega | refine sAx ?_ | decide | assumption) <;> conv => whnf))
     all_goals first
      | (exfalso; omega)
      | (refine .ret _ ?_
         conv => whnf
         refine ⟨[], ⟨?_, rfl⟩, trivial⟩; conv => lhs; whnf
         all_goals rfl)
   obtain ⟨F, hfin⟩ : ∃ F : Int, F = firstAt (legE h) h.legs.length := ⟨_, rfl⟩; rw [if_neg q4, if_neg q5, ← hfin]; refine spec_of hT (C := []) Tryz.func90 rfl Tryz.call90 rfl rfl rfl ?_; conv => whnf
   repeat' (first | (refine CallX.exact (c1) rfl rfl ?_; rotate_right; conv => whnf) | (refine CallX.exact (c2) rfl rfl ?_; rotate_right; conv => whnf) | (refine CallX.exact (c3) rfl rfl ?_; rotate_right; conv => whnf) | (refine CallX.exact (s107 _ _) rfl rfl ?_; rotate_right; conv => whnf) | ((first | refine CallX.pure c6 ⟨SV.le_lit (by rfl) (by rfl), trivial⟩ rfl ?_ | (refine br_intro ?_ ?_ <;> intro hb <;> try simp only [brs] at hb) | refine rAx hT 1 oQHiA90_1 ?_ | omega | refine sAx ?_ | decide | assumption) <;> conv => whnf))
   all_goals first
    | (exfalso; omega)
    | skip
   refine LoopX.rule hT (C := []) (ι := Nat) (fun i => i ≤ h.legs.length ∧ ∀ j, j < i → legE h j = 0) (fun i => mkSt [(1, .ptr 1 0), (37, .d (.int .i64 h.legs.length)), (38, .d (.int .i64 i))] [(1, hcell h)]) (fun i => h.legs.length - i) 0 ⟨by omega, by omega⟩ (by exact eAx [(1, 1)]) ?_; rintro i ⟨p1, p2⟩; have e1 : (i : Int).toNat = i := Int.toNat_natCast i; conv => whnf
   repeat' (first | ((first | refine pAx (z264 h hk i (by omega)) ?_ | (refine br_intro ?_ ?_ <;> intro hb <;> try simp only [brs] at hb) | refine rAx hT 1 oQHiA90_1 ?_ | omega | refine sAx ?_ | decide | assumption) <;> conv => whnf))
   · refine .ret _ ?_; conv => whnf
     refine ⟨[], ⟨?_, rfl⟩, trivial⟩; conv => lhs; whnf
     congr 2
     rw [hfin]; exact (firstAt_eq (by omega) p2 (by simpa using hb) rfl).symm
   · exact ⟨i + 1, ⟨by omega, first_step p2 (by simpa using hb)⟩, by omega, (by exact eAx [(1, 1)])⟩
   · refine .ret _ ?_; conv => whnf
     refine ⟨[], ⟨?_, rfl⟩, trivial⟩; conv => lhs; whnf
     congr 2
     have : i = h.legs.length := by omega
     subst this; rw [hfin, firstAt_zero p2]
 · rw [hirE_time q1 q2 q3]; generalize timE h.frm h.to = E at c3 q3 c5 c6; refine spec_of hT (C := []) Tryz.func90 rfl Tryz.call90 rfl rfl rfl ?_; conv => whnf
   repeat' (first | (refine CallX.exact (c1) rfl rfl ?_; rotate_right; conv => whnf) | (refine CallX.exact (c2) rfl rfl ?_; rotate_right; conv => whnf) | (refine CallX.exact (c3) rfl rfl ?_; rotate_right; conv => whnf) | (refine CallX.exact (s107 _ _) rfl rfl ?_; rotate_right; conv => whnf) | ((first | refine CallX.pure c6 ⟨SV.le_lit (by rfl) (by rfl), trivial⟩ rfl ?_ | (refine br_intro ?_ ?_ <;> intro hb <;> try simp only [brs] at hb) | refine rAx hT 1 oQHiA90_1 ?_ | omega | refine sAx ?_ | decide | assumption) <;> conv => whnf))
   all_goals first
    | (exfalso; omega)
    | (refine .ret _ ?_
       conv => whnf
       refine ⟨[], ⟨?_, rfl⟩, trivial⟩; conv => lhs; whnf
       all_goals rfl)
theorem Res.le_put2 {α : Type} {f : α → List DV} {d : α} {l : List α} {x y : α} {e k j1 j2 : Nat} {ds1 ds2 : List DV} (h1 : ∀ z, setAtD (f z) 0 ds1 = f x) (h2 : ∀ z, setAtD (f z) 0 ds2 = f y) :
 Res.le (.buf e k l.length fun i => bif Nat.beq i j2 then setAtD (bif Nat.beq i j1 then setAtD (rowF f d l i) 0 ds1 else rowF f d l i) 0 ds2 else bif Nat.beq i j1 then setAtD (rowF f d l i) 0 ds1 else rowF f d l i) (seqB e k f d ((l.set j1 x).set j2 y)) := by
 refine Res.le_buf (by simp) (fun k hk => ?_); have e1 := rows_putG (f := f) (d := d) (l := l) (x := x) (j := j1) (off := 0) (ds := ds1) (get := rowF f d l) (fun _ _ => rfl) (fun z _ => h1 z); have e2 := rows_putG (f := f) (d := d) (l := l.set j1 x) (x := y) (j := j2) (off := 0) (ds := ds2) (get := fun i => bif Nat.beq i j1 then setAtD (rowF f d l i) 0 ds1 else rowF f d l i) (fun k hk => e1 k (by simpa using hk)) (fun z _ => h2 z); exact e2 k (by simpa using hk)
theorem mem_bd {l : List Int} {u : Int} (h : u ∈ l) (q : l.all (fun x => decide (-2^40 ≤ x ∧ x ≤ 2^40)) = true) : -2^40 ≤ u ∧ u ≤ 2^40 := by
 have := List.all_eq_true.1 q u h; exact of_decide_eq_true this
theorem SV.le_upd {α : Type} {f : α → List DV} {d : α} {l : List α} {k j off : Nat} {ds : List DV} (g : α → α) (hg : ∀ y, setAtD (f y) off ds = f (g y)) :
 SV.le (.d (.ro k l.length fun i => bif Nat.beq i j then setAtD (rowF f d l i) off ds else rowF f d l i)) (.d (seqD k f d (l.set j (g (l.getD j d))))) :=
 SV.le_putF fun y hy => by rw [hg, List.getD_eq_getElem?_getD, hy]; rfl
end Go.Proofs.YtophabkpfpbadaaGreatDoor
namespace Go.Proofs
open Go.Shelf
end Go.Proofs
set_option maxRecDepth 20000
namespace Go.Proofs.YtophabkpfpbadaaGreatDoor
open Go Go.Eng Go.RowKit
theorem Res.le_appF {α : Type} {f : α → List DV} {d : α} {l m : List α} {e k : Nat} : Res.le (.buf e k (l.length + m.length) (appGet l.length (rowF f d l) (rowF f d m))) (seqB e k f d (l ++ m)) := by
 refine Res.le_buf (by simp) (fun i hi => ?_)
 by_cases h : i < l.length
 · rw [appGet_lt h]; simp only [rowF]; rw [List.getD_eq_getElem?_getD, List.getD_eq_getElem?_getD, List.getElem?_append_left h]
 · rw [appGet_ge (by omega)]; simp only [rowF]; rw [List.getD_eq_getElem?_getD, List.getD_eq_getElem?_getD, List.getElem?_append_right (by omega)]
theorem pas_eq {a b : Pas} : a = b ↔ a.tm = b.tm ∧ a.gate = b.gate ∧ a.plate = b.plate ∧ a.cents = b.cents := by cases a; cases b; simp
instance : DecidableEq Pas := fun _ _ => decidable_of_iff _ pas_eq.symm
structure Slt where
 day : Int
 many : Int
structure Wnt where
 v : List UInt8
 fr : Int
 to : Int
def wn0 : Wnt := ⟨[], 0, 0⟩
structure Plc where
 v : List UInt8
 day : Int
def pl0 : Plc := ⟨[], 0⟩
structure Bsy where
 v : List UInt8
 fr : Int
 to : Int
 cents : Int
def namesB (w : List Wnt) (l : List Plc) : Prop := w.length = l.length ∧ ∀ i, i < w.length → (w.getD i wn0).v = (l.getD i pl0).v
instance (w : List Wnt) (l : List Plc) : Decidable (namesB w l) := inferInstanceAs (Decidable (_ ∧ _))
theorem SV.le_drop {α : Type} {f : α → List DV} {d : α} {l : List α} {k j m : Nat} (hm : m = (l.drop j).length) : SV.le (.d (.ro k m fun i => rowF f d l (j + i))) (.d (seqD k f d (l.drop j))) :=
 SV.le_ro hm (fun i hi => by simp only [rowF]; rw [List.getD_eq_getElem?_getD, List.getD_eq_getElem?_getD, List.getElem?_drop])
theorem Res.le_upd {α : Type} {f : α → List DV} {d : α} {l : List α} {e k j off : Nat} {ds : List DV} (g : α → α) (hg : ∀ y, setAtD (f y) off ds = f (g y)) :
 Res.le (.buf e k l.length fun i => bif Nat.beq i j then setAtD (rowF f d l i) off ds else rowF f d l i) (seqB e k f d (l.set j (g (l.getD j d)))) :=
 Res.le_putF fun y hy => by rw [hg, List.getD_eq_getElem?_getD, hy]; rfl
def allK {α : Type} (K : α → Prop) (k : Nat) (l : List α) : Prop := l.length ≤ k ∧ ∀ x ∈ l, K x
theorem allK_snoc {α : Type} {K : α → Prop} {l : List α} {k m : Nat} {x : α} (h : allK K k l) (hm : k + 1 ≤ m) (hx : K x) : allK K m (l ++ [x]) := by
 refine ⟨by rw [List.length_append]; have := h.1; simp; omega, fun p hp => ?_⟩; rcases List.mem_append.1 hp with q | q
 · exact h.2 p q
 · simp at q; subst q; exact hx
theorem allK_le {α : Type} {K : α → Prop} {l : List α} {k m : Nat} (h : allK K k l) (hm : k ≤ m) : allK K m l := ⟨by have := h.1; omega, h.2⟩
theorem allK_upd {α : Type} {K : α → Prop} {l : List α} {k j : Nat} {d : α} {g : α → α} (h : allK K k l) (hg : ∀ y, K y → K (g y)) : allK K k (l.set j (g (l.getD j d))) := by
 refine ⟨by rw [List.length_set]; exact h.1, fun p hp => ?_⟩
 by_cases hj : j < l.length
 · rcases List.mem_or_eq_of_mem_set hp with q | q
   · exact h.2 p q
   · subst q; exact hg _ (h.2 _ (getD_mem hj))
 · rw [List.set_eq_of_length_le (by omega)] at hp; exact h.2 p hp
theorem rows_updG {α : Type} {f : α → List DV} {d : α} {l : List α} {j off : Nat} {ds : List DV} {get : Nat → List DV} (hg : ∀ i, i < l.length → get i = rowF f d l i) (g : α → α) (h : ∀ y, setAtD (f y) off ds = f (g y)) :
 ∀ i, i < (l.set j (g (l.getD j d))).length → (bif Nat.beq i j then setAtD (get i) off ds else get i) = rowF f d (l.set j (g (l.getD j d))) i := by
 rw [List.length_set]; exact rows_putG hg (fun y hy => by rw [h, List.getD_eq_getElem?_getD, hy]; rfl)
abbrev updL {α : Type} (l : List α) (j : Nat) (d : α) (g : α → α) : List α := l.set j (g (l.getD j d))
def oQShG120_8 : OL := [(0, []), (1, []), (2, []), (3, []), (4, []), (5, [3, 4]), (6, [3, 4, 5]), (7, [3, 4, 5]), (8, [3, 4]), (9, [3, 4]), (10, [3, 4]), (11, []), (12, []), (13, [])]
def oQShG121_10 : OL := [(0, []), (1, []), (2, []), (3, []), (4, [3]), (5, [3]), (6, []), (7, []), (8, []), (9, [3, 4, 5, 6, 7, 8]), (10, [3, 4, 5, 6, 7, 8, 9]), (11, [3, 4, 5, 6, 7, 8, 9]), (12, [3, 4, 5, 6, 7, 8]), (13, [3, 4, 5, 6, 7, 8]), (14, [3, 4, 5, 6, 7, 8]), (15, [3, 4, 5, 6, 7, 8, 9, 10, 11, 12, 13, 14]), (16, [3, 4, 5, 6, 7, 8, 9, 10, 11, 12, 13, 14]), (17, [3, 4, 5, 6, 7, 8, 9, 10, 11, 12, 13, 14, 15, 16]), (18, [3, 4, 5, 6, 7, 8, 9, 10, 11, 12, 13, 14, 15, 16]), (19, []), (20, []), (21, []), (22, [])]
structure Ned where
 st : List UInt8
 many : Int
def ndF : Ned → List DV := fun s => [.str s.st, .int .i64 s.many]
def nd0 : Ned := ⟨[], 0⟩
abbrev neds (l : List Ned) : DV := seqD 2 ndF nd0 l
structure Roa where
 a : List UInt8
 b : List UInt8
 car : Int
 ride : Int
def rdF : Roa → List DV := fun s => [.str s.a, .str s.b, .int .i64 s.car, .int .i64 s.ride]
def rd0 : Roa := ⟨[], [], 0, 0⟩
abbrev roas (l : List Roa) : DV := seqD 4 rdF rd0 l
structure Mov where
 a : List UInt8
 b : List UInt8
 many : Int
def mvF : Mov → List DV := fun s => [.str s.a, .str s.b, .int .i64 s.many]
def mv0 : Mov := ⟨[], [], 0⟩
abbrev movs (l : List Mov) : DV := seqD 3 mvF mv0 l
def ndE (l : List Ned) (i : Nat) : Int :=
 let x := l.getD i nd0
 if isKeyB x.st = false then 5 else if 0 < i ∧ strLe x.st (l.getD (i - 1) nd0).st = true then 7 else if ¬ (-20 ≤ x.many ∧ x.many ≤ 20) then 1 else 0
def ndsE (l : List Ned) : Int := if 10 < l.length then 2 else firstAt (ndE l) l.length
def ndK (x : Ned) : Prop := x.st.length ≤ 2^40
def ndOk (l : List Ned) : Prop := l.length ≤ 2^40 ∧ ∀ x ∈ l, ndK x
def endsC (a b c d : List UInt8) : Int := firstE [cmpS a c, cmpS b d]
def rdE (l : List Roa) (i : Nat) : Int :=
 let x := l.getD i rd0
 if isKeyB x.a = false ∨ isKeyB x.b = false then 5 else if x.a = x.b then 14 else if 0 < i ∧ 0 ≤ endsC (l.getD (i - 1) rd0).a (l.getD (i - 1) rd0).b x.a x.b then 7 else if ¬ ((0 ≤ x.car ∧ x.car ≤ 1000000) ∧ (0 ≤ x.ride ∧ x.ride ≤ 1000000)) then 1 else 0
def rdsE (l : List Roa) : Int := if 2500 < l.length then 2 else firstAt (rdE l) l.length
def rdK (x : Roa) : Prop := x.a.length ≤ 2^40 ∧ x.b.length ≤ 2^40
def rdOk (l : List Roa) : Prop := l.length ≤ 2^40 ∧ ∀ x ∈ l, rdK x
theorem s204 (a b c d : List UInt8) : FSpec Tryz.prog 169 [.d (.str a), .d (.str b), .d (.str c), .d (.str d)] [] (fun x r => x = .d (.int .i64 (endsC a b c d)) ∧ r = []) := by
 refine spec_of hT (C := []) Tryz.func169 rfl Tryz.call169 rfl rfl rfl ?_; conv => whnf
 repeat' (first | (refine CallX.exact (s184 _ _) rfl rfl ?_; rotate_right; conv => whnf) | ((first | refine CallX.pure (s182 [_, _] (by simp)) ⟨SV.le_lit (by rfl) (by rfl), trivial⟩ rfl ?_ | (refine br_intro ?_ ?_ <;> intro hb <;> try simp only [brs] at hb) | omega | refine sAx ?_ | decide | assumption) <;> conv => whnf))
 refine .ret _ ?_; conv => whnf
 refine ⟨[], ⟨?_, rfl⟩, trivial⟩; conv => lhs; whnf
 rfl
theorem s163 (l : List Ned) (hk : ndOk l) : FSpec Tryz.prog 120 [.d (neds l)] [] (fun x r => x = .d (.int .i64 (ndsE l)) ∧ r = []) := by
 refine spec_of hT (C := []) Tryz.func120 rfl Tryz.call120 rfl rfl rfl ?_; conv => whnf
 refine br_intro (fun h0 => ?_) (fun h0 => ?_)
 · simp at h0; conv => whnf
   refine .ret _ ?_; conv => whnf
   refine ⟨[], ⟨?_, rfl⟩, trivial⟩; conv => lhs; whnf
   unfold ndsE; rw [if_pos (by omega)]
 simp at h0; conv => whnf
 refine LoopX.rule hT (C := []) (ι := Nat) (fun i => i ≤ l.length ∧ ∀ j, j < i → ndE l j = 0) (fun i => mkSt [(0, .d (neds l)), (8, .d (neds l)), (9, .d (.int .i64 l.length)), (10, .d (.int .i64 i))] []) (fun i => l.length - i) 0 ⟨by omega, by omega⟩ (by exact eAx []) ?_; rintro i ⟨p1, p2⟩; have hx : (i : Int) < l.length → ndK (l.getD (i : Int).toNat nd0) := fun hi => hk.2 _ (getD_mem (by omega))
 have e1 : (i : Int).toNat = i := Int.toNat_natCast i
 have hbad : ∀ e : Int, i < l.length → e ≠ 0 → ndE l i = e → ndsE l = e := fun e h h1 h2 => by
  unfold ndsE; rw [if_neg (by omega)]; exact firstAt_eq h p2 h1 h2
 conv => whnf
 repeat' (first | (refine CallX.exact (s108 _ (hx (by omega))) rfl rfl ?_; rotate_right; conv => whnf) | (refine CallX.exact (s119 _ _ _) rfl rfl ?_; rotate_right; conv => whnf) | ((first | (refine br_intro ?_ ?_ <;> intro hb <;> try simp only [brs] at hb) | refine rAx hT 8 oQShG120_8 ?_ | omega | refine sAx ?_ | decide | assumption) <;> conv => whnf))
 all_goals first
  | (refine ⟨i + 1, ⟨by omega, first_step p2 (by clear p2 hbad hk hx; simp only [e1, toNat_pred] at *; unfold ndE strLe; grind)⟩, by omega, (by exact eAx [])⟩)
  | (refine .ret _ ?_
     conv => whnf
     refine ⟨[], ⟨?_, rfl⟩, trivial⟩; conv => lhs; whnf
     congr 2
     first
      | exact (hbad _ (by omega) (by decide) (by clear p2 hbad hk hx; simp only [e1, toNat_pred] at *; unfold ndE strLe; grind)).symm
      | (have : i = l.length := by omega
         subst this
         unfold ndsE; rw [if_neg (by omega), firstAt_zero p2]))
theorem s164 (l : List Roa) (hk : rdOk l) : FSpec Tryz.prog 121 [.d (roas l)] [] (fun x r => x = .d (.int .i64 (rdsE l)) ∧ r = []) := by
 refine spec_of hT (C := []) Tryz.func121 rfl Tryz.call121 rfl rfl rfl ?_; conv => whnf
 refine br_intro (fun h0 => ?_) (fun h0 => ?_)
 · simp at h0; conv => whnf
   refine .ret _ ?_; conv => whnf
   refine ⟨[], ⟨?_, rfl⟩, trivial⟩; conv => lhs; whnf
   unfold rdsE; rw [if_pos (by omega)]
 simp at h0; conv => whnf
 refine LoopX.rule hT (C := []) (ι := Nat) (fun i => i ≤ l.length ∧ ∀ j, j < i → rdE l j = 0) (fun i => mkSt [(0, .d (roas l)), (8, .d (roas l)), (9, .d (.int .i64 l.length)), (10, .d (.int .i64 i))] []) (fun i => l.length - i) 0 ⟨by omega, by omega⟩ (by exact eAx []) ?_; rintro i ⟨p1, p2⟩; have hx : (i : Int) < l.length → rdK (l.getD (i : Int).toNat rd0) := fun hi => hk.2 _ (getD_mem (by omega))
 have e1 : (i : Int).toNat = i := Int.toNat_natCast i
 have hbad : ∀ e : Int, i < l.length → e ≠ 0 → rdE l i = e → rdsE l = e := fun e h h1 h2 => by
  unfold rdsE; rw [if_neg (by omega)]; exact firstAt_eq h p2 h1 h2
 conv => whnf
 repeat' (first | (refine CallX.exact (s108 _ (hx (by omega)).1) rfl rfl ?_; rotate_right; conv => whnf) | (refine CallX.exact (s108 _ (hx (by omega)).2) rfl rfl ?_; rotate_right; conv => whnf) | (refine CallX.exact (s204 _ _ _ _) rfl rfl ?_; rotate_right; conv => whnf) | (refine CallX.exact (s119 _ _ _) rfl rfl ?_; rotate_right; conv => whnf) | ((first | (refine br_intro ?_ ?_ <;> intro hb <;> try simp only [brs] at hb) | refine rAx hT 10 oQShG121_10 ?_ | omega | refine sAx ?_ | decide | assumption) <;> conv => whnf))
 all_goals first
  | (refine ⟨i + 1, ⟨by omega, first_step p2 (by clear p2 hbad hk hx; simp only [e1, toNat_pred] at *; unfold rdE ; grind)⟩, by omega, (by exact eAx [])⟩)
  | (refine .ret _ ?_
     conv => whnf
     refine ⟨[], ⟨?_, rfl⟩, trivial⟩; conv => lhs; whnf
     congr 2
     first
      | exact (hbad _ (by omega) (by decide) (by clear p2 hbad hk hx; simp only [e1, toNat_pred] at *; unfold rdE ; grind)).symm
      | (have : i = l.length := by omega
         subst this
         unfold rdsE; rw [if_neg (by omega), firstAt_zero p2]))
theorem s113 (l : List Ned) (m : List Roa) (hl : ndOk l) (hm : rdOk m) : FSpec Tryz.prog 75 [.d (neds l), .d (roas m)] [] (fun x r => x = .d (.int .i64 (firstE [ndsE l, rdsE m])) ∧ r = []) := by
 refine spec_of hT (C := []) Tryz.func75 rfl Tryz.call75 rfl rfl rfl ?_; conv => whnf
 repeat' (first | (refine CallX.exact (s163 l hl) rfl rfl ?_; rotate_right; conv => whnf) | (refine CallX.exact (s164 m hm) rfl rfl ?_; rotate_right; conv => whnf) | ((first | refine CallX.pure (s105 [_, _] (by simp)) ⟨SV.le_lit (by rfl) (by rfl), trivial⟩ rfl ?_ | (refine br_intro ?_ ?_ <;> intro hb <;> try simp only [brs] at hb) | omega | refine sAx ?_ | decide | assumption) <;> conv => whnf))
 refine .ret _ ?_; conv => whnf
 refine ⟨[], ⟨?_, rfl⟩, trivial⟩; conv => lhs; whnf
def tN : List Ned := [⟨[97], 1⟩, ⟨[98], -1⟩]
def tR : List Roa := [⟨[97], [98], 4, 0⟩]
theorem s113t : FSpec Tryz.prog 75 [.d (neds tN), .d (roas tR)] [] (fun x r => x = .d (.int .i64 0) ∧ r = []) := by
 have h := s113 tN tR ⟨by simp [tN], by intro x hx; simp [tN] at hx; rcases hx with rfl | rfl <;> simp [ndK]⟩ ⟨by simp [tR], by intro x hx; simp [tR] at hx; subst hx; simp [rdK]⟩; rwa [show firstE [ndsE tN, rdsE tR] = 0 by decide] at h
structure Plt where
 frm : Int
 veh : List UInt8
 plt : List UInt8
deriving DecidableEq
structure Hld where
 veh : List UInt8
 frm : Int
 til : Int
def clashP (o p : Plt) : Bool := decide (o.veh = p.veh) || decide (o.plt = p.plt)
def livStep (acc : List Plt) (x : Plt) : List Plt := acc.filter (fun e => !clashP e x) ++ [x]
def liv (l : List Plt) : List Plt := l.foldl livStep []
def early (l : List Plt) (t : Int) : List Plt := l.filter fun p => decide (p.frm ≤ t)
def findP (L : List Plt) (p : List UInt8) : Option Plt := L.find? fun e => decide (e.plt = p)
structure HS where
 live : List Plt
 out : List UInt8 → List Hld
def hdrop (s : HS) (p : List UInt8) (t : Int) : HS :=
 match findP s.live p with
 | none => s
 | some e => ⟨s.live.filter fun e => !decide (e.plt = p), fun q => if q = p ∧ e.frm < t then s.out q ++ [⟨e.veh, e.frm, t⟩] else s.out q⟩
def findV (L : List Plt) (v : List UInt8) : Option Plt := L.find? fun e => decide (e.veh = v)
def hmid (s : HS) (x : Plt) : HS := match findV s.live x.veh with | none => s | some e => hdrop s e.plt x.frm
def hstep (s : HS) (x : Plt) : HS := ⟨(hdrop (hmid s x) x.plt x.frm).live ++ [x], (hdrop (hmid s x) x.plt x.frm).out⟩
def hs0 : HS := ⟨[], fun _ => []⟩
def hall (l : List Plt) : HS := l.foldl hstep hs0
def inH (t : Int) (h : Hld) : Bool := decide (h.frm ≤ t) && decide (t < h.til)
def findH (o : List Hld) (t : Int) : Option (List UInt8) := (o.find? (inH t)).map (·.veh)
def expH (l live : List Plt) (p : List UInt8) (t : Int) : Option (List UInt8) :=
 match findP (liv (early l t)) p with
 | some e => if e ∈ live then none else some e.veh
 | none => none
structure HInv (T : Int) (l : List Plt) (s : HS) : Prop where
 eq : ∀ p t, t < T → findH (s.out p) t = expH l s.live p t
 til : ∀ p h, h ∈ s.out p → h.til ≤ T
 sub : ∀ e ∈ s.live, e ∈ liv l
 apart : s.live.Pairwise (fun p q => clashP p q = false)
theorem SV.le_agg {l m : List SV} (h : argsLe0 l m) : SV.le (.agg l) (.agg m) := by
 obtain ⟨h1, h2⟩ := argsLe0_get h; intro G β v hv
 cases hv with | agg _ vs hl hd =>
 refine .agg _ _ (hl.trans h1) (fun i y v hy hv => ?_); have hi : i < l.length := by rw [h1]; exact (List.getElem?_eq_some_iff.1 hy).1
 exact h2 i _ y (List.getElem?_eq_getElem hi) hy G β v (hd i _ v (List.getElem?_eq_getElem hi) hv)
theorem getD_app_lt {α : Type} {l m : List α} {i : Nat} {z : α} (h : i < l.length) : (l ++ m).getD i z = l.getD i z := by
 rw [List.getD_eq_getElem?_getD, List.getD_eq_getElem?_getD, List.getElem?_append_left h]
def rgN : Rdg := ⟨-1, [], 0, 0⟩
def setIn (l : List Leg) (r : Rdg) : List Leg := l.set ((l.length : Int) - 1).toNat { l.getD ((l.length : Int) - 1).toNat lg0 with inn := r }
theorem setIn_len (l : List Leg) (r : Rdg) : (setIn l r).length = l.length := by simp [setIn]
theorem Res.le_put_snocF {α : Type} {f : α → List DV} {d x y : α} {l : List α} {e k j off : Nat} {ds : List DV} {h : Nat → List DV} (hj : ∀ z, l[j]? = some z → setAtD (f z) off ds = f x) (hx : h 0 = f y) :
 Res.le (.buf e k (l.length + 1) (appGet l.length (fun i => bif Nat.beq i j then setAtD (rowF f d l i) off ds else rowF f d l i) h)) (seqB e k f d (l.set j x ++ [y])) := by
 refine Res.le_buf (by simp) (fun i hi => ?_); have h1 := rows_putF (f := f) (d := d) (l := l) (x := x) (j := j) (off := off) (ds := ds) hj; rcases Nat.lt_or_ge i l.length with q | q
 · rw [appGet_lt q, h1 i q]; simp only [rowF]; rw [getD_app_lt (by simpa using q)]
 · have : i = l.length := by omega
   subst this; rw [appGet_ge (Nat.le_refl _), Nat.sub_self, hx]; simp only [rowF]; congr 1
   rw [List.getD_eq_getElem?_getD, List.getElem?_append_right (by simp)]; simp
theorem setIn_put {l : List Leg} {r : Rdg} : ∀ z, l[((l.length : Int) - 1).toNat]? = some z → setAtD (lgF z) 5 [.int .i64 r.tm, .str r.st, .int .i64 r.meter, .int .i64 r.fuel] = lgF { l.getD ((l.length : Int) - 1).toNat lg0 with inn := r } := fun z hz => by
 rw [List.getD_eq_getElem?_getD, hz]; rfl
def startH (key drv : List UInt8) (a b : Int) (v : List UInt8) (o : Rdg) : Hir := ⟨key, drv, a, b, [⟨v, o, rgN⟩]⟩
theorem pkD {l : List Int} {x : Int} (h : x ∈ l) (hl : (l.all fun y => decide (0 ≤ y) && decide (y ≤ 3000)) = true) : 0 ≤ x ∧ x ≤ 3000 := by
 have := List.all_eq_true.1 hl x h; simpa using this
def oQDNtA73_8 : OL := [(0, []), (1, []), (2, []), (3, []), (4, []), (5, [3, 4]), (6, [3, 4, 5]), (7, [3, 4, 5]), (8, [3, 4]), (9, [3, 4]), (10, [3, 4]), (11, []), (12, []), (13, [])]
def oQDNtA36_1 : OL := [(0, []), (2, [0]), (3, [0]), (5, [0, 2, 3]), (7, [0, 2, 3, 5]), (8, [0, 2, 3, 5, 7]), (9, [0, 2, 3, 5, 7]), (10, [0, 2, 3, 5]), (1, [2, 3, 5, 7, 8, 9, 10]), (4, [5, 7, 8, 9, 10]), (6, [7, 8, 9, 10]), (11, []), (12, []), (13, []), (14, [])]
def oQDNtA36_5 : OL := [(0, []), (1, []), (2, [0, 1]), (3, [0, 1, 2]), (4, [0, 1, 2]), (5, [0, 1]), (6, [0, 1]), (7, rg 7), (8, rg 7), (9, [0, 1]), (10, rg 10), (11, rg 10), (12, [0, 1]), (13, []), (14, []), (15, [])]
structure Ntr where
 name : Int
 pay : Int
 step : Int
 late : Int
def ntrF : Ntr → List DV := fun r => [.int .i64 r.name, .int .i64 r.pay, .int .i64 r.step, .int .i64 r.late]
structure Ntc where
 key : List UInt8
 plate : List UInt8
 tm : Int
 came : Int
 cents : Int
def ntcF : Ntc → List DV := fun n => [.str n.key, .str n.plate, .int .i64 n.tm, .int .i64 n.came, .int .i64 n.cents]
def ntc0 : Ntc := ⟨[], [], 0, 0, 0⟩
abbrev ntcs (l : List Ntc) : DV := seqD 5 ntcF ntc0 l
def ntrE (r : Ntr) : Int := if (0 ≤ r.name ∧ r.name ≤ 4000) ∧ (0 ≤ r.pay ∧ r.pay ≤ 4000) ∧ (1 ≤ r.step ∧ r.step ≤ 4000) ∧ (0 ≤ r.late ∧ r.late ≤ 1000000) then 0 else 1
def ntcE (l : List Ntc) (i : Nat) : Int :=
 if isKeyB (l.getD i ntc0).key = false then 5 else if 0 < i ∧ strLe (l.getD i ntc0).key (l.getD (i - 1) ntc0).key = true then 7 else if isPlateB (l.getD i ntc0).plate = false then 3
 else if ¬ ((0 ≤ (l.getD i ntc0).tm ∧ (l.getD i ntc0).tm ≤ (l.getD i ntc0).came) ∧ (0 ≤ (l.getD i ntc0).came ∧ (l.getD i ntc0).came ≤ 5761439) ∧ (0 ≤ (l.getD i ntc0).cents ∧ (l.getD i ntc0).cents ≤ 1000000)) then 1 else 0
def ntcsE (l : List Ntc) : Int := if 200 < l.length then 2 else firstAt (ntcE l) l.length
def ntK (n : Ntc) : Prop := n.key.length ≤ 2^40 ∧ n.plate.length ≤ 2^40
def ntOk (l : List Ntc) : Prop := l.length ≤ 2^40 ∧ ∀ x ∈ l, ntK x
theorem sNtRules (r : Ntr) : FSpec Tryz.prog 72 [.agg ((ntrF r).map .d)] [] (fun x o => x = .d (.int .i64 (ntrE r)) ∧ o = []) := by
 refine spec_of hT (C := []) Tryz.func72 rfl Tryz.call72 rfl rfl rfl ?_; conv => whnf
 repeat' (first | (refine CallX.exact (s119 _ _ _) rfl rfl ?_; rotate_right; conv => whnf) | (refine CallX.exact (s107 _ _) rfl rfl ?_; rotate_right; conv => whnf) | ((first | (refine br_intro ?_ ?_ <;> intro hb <;> try simp only [brs] at hb) | omega | refine sAx ?_ | decide | assumption) <;> conv => whnf))
 all_goals
  refine .ret _ ?_; conv => whnf
  refine ⟨[], ⟨?_, rfl⟩, trivial⟩; conv => lhs; whnf
  congr 2
  unfold ntrE; grind
theorem sMoment (n : Int) : FSpec Tryz.prog 74 [.d (.int .i64 n)] [] (fun x o => x = .d (.int .i64 (if 0 ≤ n ∧ n ≤ 5761439 then 0 else 1)) ∧ o = []) := by
 refine spec_of hT (C := []) Tryz.func74 rfl Tryz.call74 rfl rfl rfl ?_; conv => whnf
 repeat' (first | (refine CallX.exact (s154 _) rfl rfl ?_; rotate_right; conv => whnf) | (refine CallX.exact (s107 _ _) rfl rfl ?_; rotate_right; conv => whnf) | ((first | (refine br_intro ?_ ?_ <;> intro hb <;> try simp only [brs] at hb) | omega | refine sAx ?_ | decide | assumption) <;> conv => whnf))
 refine .ret _ ?_; conv => whnf
 refine ⟨[], ⟨?_, rfl⟩, trivial⟩; conv => lhs; whnf
 congr 2
 grind
theorem sNotices (l : List Ntc) (hk : ntOk l) : FSpec Tryz.prog 73 [.d (ntcs l)] [] (fun x r => x = .d (.int .i64 (ntcsE l)) ∧ r = []) := by
 refine spec_of hT (C := []) Tryz.func73 rfl Tryz.call73 rfl rfl rfl ?_; conv => whnf
 refine br_intro (fun h0 => ?_) (fun h0 => ?_)
 · simp at h0; conv => whnf
   refine .ret _ ?_; conv => whnf
   refine ⟨[], ⟨?_, rfl⟩, trivial⟩; conv => lhs; whnf
   unfold ntcsE; rw [if_pos (by omega)]
 simp at h0; conv => whnf
 refine LoopX.rule hT (C := []) (ι := Nat) (fun i => i ≤ l.length ∧ ∀ j, j < i → ntcE l j = 0) (fun i => mkSt [(0, .d (ntcs l)), (8, .d (ntcs l)), (9, .d (.int .i64 l.length)), (10, .d (.int .i64 i))] []) (fun i => l.length - i) 0 ⟨by omega, by omega⟩ (by exact eAx []) ?_; rintro i ⟨p1, p2⟩; have hx : (i : Int) < l.length → ntK (l.getD (i : Int).toNat ntc0) := fun hi => hk.2 _ (getD_mem (by omega))
 have e1 : (i : Int).toNat = i := Int.toNat_natCast i
 have hbad : ∀ e : Int, i < l.length → e ≠ 0 → ntcE l i = e → ntcsE l = e := fun e h h1 h2 => by
  unfold ntcsE; rw [if_neg (by omega)]; exact firstAt_eq h p2 h1 h2
 conv => whnf
 repeat' (first | (refine CallX.exact (s108 _ (hx (by omega)).1) rfl rfl ?_; rotate_right; conv => whnf) | (refine CallX.exact (s185 _ (hx (by omega)).2) rfl rfl ?_; rotate_right; conv => whnf) | (refine CallX.exact (s119 _ _ _) rfl rfl ?_; rotate_right; conv => whnf) | (refine CallX.exact (s154 _) rfl rfl ?_; rotate_right; conv => whnf) | ((first | (refine br_intro ?_ ?_ <;> intro hb <;> try simp only [brs] at hb) | refine rAx hT 8 oQDNtA73_8 ?_ | omega | refine sAx ?_ | decide | assumption) <;> conv => whnf))
 all_goals first
  | (refine ⟨i + 1, ⟨by omega, first_step p2 (by clear p2 hbad hk hx; simp only [e1, toNat_pred] at *; unfold ntcE strLe; grind)⟩, by omega, (by exact eAx [])⟩)
  | (refine .ret _ ?_
     conv => whnf
     refine ⟨[], ⟨?_, rfl⟩, trivial⟩; conv => lhs; whnf
     congr 2
     first
      | exact (hbad _ (by omega) (by decide) (by clear p2 hbad hk hx; simp only [e1, toNat_pred] at *; unfold ntcE strLe; grind)).symm
      | (have : i = l.length := by omega
         subst this
         unfold ntcsE; rw [if_neg (by omega), firstAt_zero p2]))
def dueE (r : Ntr) (n : Ntc) (t : Int) : Int := firstE [ntrE r, ntcsE [n], if 0 ≤ t ∧ t ≤ 5761439 then 0 else 1, if t < n.came then 11 else 0]
def dueO (r : Ntr) (n : Ntc) (t : Int) : Int := (max 0 (t.tdiv 1440 - n.came.tdiv 1440 - r.pay) + r.step - 1).tdiv r.step
def dueV (r : Ntr) (n : Ntc) (t : Int) : Int := n.cents + dueO r n t * r.late
theorem ntc_one {n : Ntc} (h : ntcsE [n] = 0) : isKeyB n.key = true ∧ isPlateB n.plate = true ∧ (0 ≤ n.tm ∧ n.tm ≤ n.came) ∧ (0 ≤ n.came ∧ n.came ≤ 5761439) ∧ (0 ≤ n.cents ∧ n.cents ≤ 1000000) := by
 have h : ntcE [n] 0 = 0 := by simpa [ntcsE, firstAt] using h
 unfold ntcE at h; simp only [List.getD_cons_zero] at h; grind
theorem ntr_zero {r : Ntr} (h : ntrE r = 0) : (0 ≤ r.name ∧ r.name ≤ 4000) ∧ (0 ≤ r.pay ∧ r.pay ≤ 4000) ∧ (1 ≤ r.step ∧ r.step ≤ 4000) ∧ (0 ≤ r.late ∧ r.late ≤ 1000000) := by unfold ntrE at h; grind
theorem dueE_zero {r : Ntr} {n : Ntc} {t : Int} (h : dueE r n t = 0) : ntrE r = 0 ∧ ntcsE [n] = 0 ∧ (0 ≤ t ∧ t ≤ 5761439) ∧ n.came ≤ t := by
 unfold dueE at h; simp only [firstE] at h; grind
theorem mul_bdN {a b A B : Int} (h0 : 0 ≤ a) (h1 : a ≤ A) (h2 : 0 ≤ b) (h3 : b ≤ B) : 0 ≤ a * b ∧ a * b ≤ A * B :=
 ⟨Int.mul_nonneg h0 h2, Int.mul_le_mul h1 h3 h2 (by omega)⟩
theorem tdiv_bd {a b : Int} (h0 : 0 ≤ a) (h1 : 1 ≤ b) : 0 ≤ a.tdiv b ∧ a.tdiv b ≤ a := by
 refine ⟨Int.tdiv_nonneg h0 (by omega), ?_⟩; have h4 := Int.tmod_add_mul_tdiv a b; have h2 : 0 ≤ a.tmod b := Int.tmod_nonneg _ h0; have h5 : a.tdiv b * 1 ≤ a.tdiv b * b := Int.mul_le_mul_of_nonneg_left h1 (Int.tdiv_nonneg h0 (by omega)); rw [Int.mul_comm] at h4; omega
theorem dueO_bd {r : Ntr} {n : Ntc} {t : Int} (h1 : ntrE r = 0) (hc : 0 ≤ n.came) (ht : n.came ≤ t) (ht2 : t ≤ 5761439) : 0 ≤ dueO r n t ∧ dueO r n t ≤ 10000 := by
 obtain ⟨_, h2, h3, _⟩ := ntr_zero h1; unfold dueO; have a1 := tdiv_bd (a := t) (b := 1440) (by omega) (by omega); have a2 := tdiv_bd (a := n.came) (b := 1440) (by omega) (by omega); have h4 := Int.tmod_add_mul_tdiv t 1440; have h5 : 0 ≤ t.tmod 1440 := Int.tmod_nonneg _ (by omega); obtain ⟨q, hq⟩ : ∃ q, q = max 0 (t.tdiv 1440 - n.came.tdiv 1440 - r.pay) + r.step - 1 := ⟨_, rfl⟩; have hq0 : 0 ≤ q ∧ q ≤ 10000 := by omega
 rw [← hq]; have := tdiv_bd hq0.1 h3.1; omega
def dueW (r : Ntr) (n : Ntc) (t : Int) : SV := if dueE r n t = 0 then .tup [.d (.int .i64 (dueV r n t)), .d (.int .i64 0)] else .tup [.d (.int .i64 0), .d (.int .i64 (dueE r n t))]
theorem ntOk_one {n : Ntc} (h : ntK n) : ntOk [n] := ⟨by simp, fun x hx => by rw [List.mem_singleton] at hx; rw [hx]; exact h⟩
theorem sDue (r : Ntr) (n : Ntc) (t : Int) (hn : ntK n) : FSpec Tryz.prog 36 [.agg ((ntrF r).map .d), .agg ((ntcF n).map .d), .d (.int .i64 t)] [] (fun x o => x = dueW r n t ∧ o = []) := by
 have h105 := s105 [ntrE r, ntcsE [n], if 0 ≤ t ∧ t ≤ 5761439 then 0 else 1, if decide (t < n.came) = true then 11 else 0] (by simp)
 have hE : firstE [ntrE r, ntcsE [n], if 0 ≤ t ∧ t ≤ 5761439 then 0 else 1, if decide (t < n.came) = true then 11 else 0] = dueE r n t := by
  unfold dueE; simp only [decide_eq_true_eq]
 rw [hE] at h105; unfold dueW
 by_cases hz : dueE r n t = 0
 · rw [if_pos hz]; rw [hz] at h105; obtain ⟨h1, h2, h3, h4⟩ := dueE_zero hz; obtain ⟨_, _, _, h5, h6⟩ := ntc_one h2; obtain ⟨_, h7, h8, h9⟩ := ntr_zero h1; have hO := dueO_bd h1 h5.1 h4 h3.2; have hM := mul_bdN hO.1 hO.2 h9.1 h9.2; have a1 := tdiv_bd (a := t) (b := 1440) (by omega) (by omega); have a2 := tdiv_bd (a := n.came) (b := 1440) (by omega) (by omega); have hM1 : inI64 (dueO r n t * r.late) := by unfold inI64; omega
   have hM2 : inI64 (dueV r n t) := by unfold dueV inI64; omega
   have hq : inI64 (max 0 (t.tdiv 1440 - n.came.tdiv 1440 - r.pay) + r.step) := by unfold inI64; omega
   have hq2 : inI64 (max 0 (t.tdiv 1440 - n.came.tdiv 1440 - r.pay) + r.step - 1) := by unfold inI64; omega
   have hq3 : inI64 (dueO r n t) := by unfold inI64; omega
   refine spec_of hT (C := []) Tryz.func36 rfl Tryz.call36 rfl rfl rfl ?_; conv => whnf
   repeat' (first | (refine CallX.exact (sNtRules r) rfl rfl ?_; rotate_right; conv => whnf) | (refine CallX.pure (sNotices [n] (ntOk_one hn)) ⟨SV.le_lit (by rfl) (by rfl), trivial⟩ rfl ?_; conv => whnf) | (refine CallX.exact (sMoment t) rfl rfl ?_; rotate_right; conv => whnf) | (refine CallX.exact (s107 _ _) rfl rfl ?_; rotate_right; conv => whnf) | ((first | refine CallX.pure h105 ⟨SV.le_lit (by rfl) (by rfl), trivial⟩ rfl ?_ | refine And.intro hq ?_ | refine And.intro hq2 ?_ | refine And.intro hq3 ?_ | refine And.intro hM1 ?_ | refine And.intro hM2 ?_ | (refine br_intro ?_ ?_ <;> intro hb <;> try simp only [brs] at hb) | refine rAx hT 1 oQDNtA36_1 ?_ | refine rAx hT 5 oQDNtA36_5 ?_ | omega | refine sAx ?_ | decide | assumption) <;> conv => whnf))
   refine .ret _ ?_; conv => whnf
   refine ⟨[], ⟨congrArg SV.tup ?_, rfl⟩, trivial⟩; repeat' (refine cons_eq ?_ ?_)
   all_goals (conv => lhs; whnf)
   all_goals try (with_reducible rfl)
   all_goals rfl
 · rw [if_neg hz]; generalize dueE r n t = e at h105 hz; refine spec_of hT (C := []) Tryz.func36 rfl Tryz.call36 rfl rfl rfl ?_; conv => whnf
   repeat' (first | (refine CallX.exact (sNtRules r) rfl rfl ?_; rotate_right; conv => whnf) | (refine CallX.pure (sNotices [n] (ntOk_one hn)) ⟨SV.le_lit (by rfl) (by rfl), trivial⟩ rfl ?_; conv => whnf) | (refine CallX.exact (sMoment t) rfl rfl ?_; rotate_right; conv => whnf) | (refine CallX.exact (s107 _ _) rfl rfl ?_; rotate_right; conv => whnf) | ((first | refine CallX.pure h105 ⟨SV.le_lit (by rfl) (by rfl), trivial⟩ rfl ?_ | (refine br_intro ?_ ?_ <;> intro hb <;> try simp only [brs] at hb) | refine rAx hT 1 oQDNtA36_1 ?_ | refine rAx hT 5 oQDNtA36_5 ?_ | omega | refine sAx ?_ | decide | assumption) <;> conv => whnf))
   refine .ret _ ?_; conv => whnf
   refine ⟨[], ⟨congrArg SV.tup ?_, rfl⟩, trivial⟩; repeat' (refine cons_eq ?_ ?_)
   all_goals (conv => lhs; whnf)
   all_goals try (with_reducible rfl)
   all_goals rfl
structure Cls where
 key : List UInt8
 up : List UInt8
structure Veh where
 key : List UInt8
 cls : List UInt8
structure Sta where
 key : List UInt8
 h : Nat → Int
def clsF : Cls → List DV := fun c => [.str c.key, .str c.up]
def cls0 : Cls := ⟨[], []⟩
abbrev clss (l : List Cls) : DV := seqD 2 clsF cls0 l
def vehF : Veh → List DV := fun c => [.str c.key, .str c.cls]
def veh0 : Veh := ⟨[], []⟩
abbrev vehs (l : List Veh) : DV := seqD 2 vehF veh0 l
def pltF : Plt → List DV := fun p => [.int .i64 p.frm, .str p.veh, .str p.plt]
def plt0 : Plt := ⟨0, [], []⟩
abbrev plts (l : List Plt) : DV := seqD 3 pltF plt0 l
def staF : Sta → List DV := fun s => [.str s.key, .int .i64 (s.h 0), .int .i64 (s.h 1), .int .i64 (s.h 2), .int .i64 (s.h 3), .int .i64 (s.h 4), .int .i64 (s.h 5), .int .i64 (s.h 6), .int .i64 (s.h 7), .int .i64 (s.h 8), .int .i64 (s.h 9), .int .i64 (s.h 10), .int .i64 (s.h 11), .int .i64 (s.h 12), .int .i64 (s.h 13)]
def sta0 : Sta := ⟨[], fun _ => 0⟩
abbrev stas (l : List Sta) : DV := seqD 15 staF sta0 l
def clsK (c : Cls) : Prop := c.key.length ≤ 8 ∧ c.up.length ≤ 8
def vehK (c : Veh) : Prop := c.key.length ≤ 8 ∧ c.cls.length ≤ 8
def pltK (c : Plt) : Prop := (-2^40 ≤ c.frm ∧ c.frm ≤ 2^40) ∧ c.veh.length ≤ 8 ∧ c.plt.length ≤ 16
def staK (c : Sta) : Prop := c.key.length ≤ 8
def cls4 : List Cls := [⟨[98, 105, 103], []⟩, ⟨[109, 97, 120, 105], []⟩, ⟨[109, 105, 100, 105], []⟩, ⟨[109, 105, 110, 105], []⟩]
def clsB (l : List Cls) : Prop := l.length ≤ 4 ∧ ∀ x ∈ l, clsK x
def oQShH76_1 : OL := [(0, []), (1, []), (2, []), (3, [0, 1, 2]), (4, [0, 1, 2]), (5, [0, 1, 2]), (6, []), (7, []), (8, [])]
def oQShH76_6 : OL := [(0, []), (1, []), (2, []), (3, []), (4, rg 4), (5, rg 5), (6, rg 5), (7, rg 5), (8, rg 5), (9, rg 9), (10, rg 10), (11, rg 10), (12, rg 10), (13, rg 13), (14, rg 13), (15, rg 13), (16, rg 13), (17, [9, 13, 14, 15, 16]), (18, [9, 13, 14, 15, 16]), (19, []), (20, [])]
def oQShH76_12 : OL := [(0, []), (1, [0]), (2, [0]), (3, [0]), (4, [0]), (5, rg 5), (6, rg 6), (7, rg 7), (8, rg 7), (9, rg 5), (10, rg 5), (11, [0]), (12, []), (13, []), (14, [])]
def nHas (l : List Roa) : Nat → List DV → Bool
 | 0 => fun _ => false
 | n + 1 => fun q => keyEq q [.str (l.getD n rd0).a, .str (l.getD n rd0).b] || nHas l n q
def nVal (l : List Roa) : Nat → List DV → List DV
 | 0 => fun _ => [.str [], .str [], .int .i64 0, .int .i64 0]
 | n + 1 => fun q => bif keyEq q [.str (l.getD n rd0).a, .str (l.getD n rd0).b] then rdF (l.getD n rd0) else nVal l n q
abbrev netR (l : List Roa) (n : Nat) : Res := .map true true [.str, .str] [.str [], .str [], .int .i64 0, .int .i64 0] (nHas l n) (nVal l n)
theorem s165 (l : List Roa) (hl : l.length ≤ 2^40) : FSpec Tryz.prog 122 [.d (roas l)] [] (fun y r => y = .mp 3 ∧ r = [(3, netR l l.length)]) := by
 refine spec_of hT (C := []) Tryz.func122 rfl Tryz.call122 rfl rfl rfl ?_; conv => whnf
 refine LoopX.rule hT (C := []) (ι := Nat) (fun i => i ≤ l.length) (fun i => mkSt [(3, .mp 3), (7, .d (roas l)), (8, .d (.int .i64 l.length)), (9, .d (.int .i64 i))] [(3, netR l i)]) (fun i => l.length - i) 0 (by omega) ?_ ?_
 · exact Entails.mk' [(3, 6)] rfl rfl ⟨lr, lr, lr, lr, trivial⟩ ⟨rr, trivial⟩
 rintro i p1; conv => whnf
 repeat' (first | ((first | (refine br_intro ?_ ?_ <;> intro hb <;> try simp only [brs] at hb) | omega | refine sAx ?_ | decide | assumption) <;> conv => whnf))
 · exact ⟨i + 1, by omega, by omega, Entails.mk' [(3, 3)] rfl rfl ⟨lr, lr, lr, lr, trivial⟩ ⟨rr, trivial⟩⟩
 · have : i = l.length := by omega
   subst this; refine .ret _ ?_; conv => whnf
   exact ⟨_, ⟨rfl, rfl⟩, rr, trivial⟩
structure Arc where
 fr : Int
 to : Int
 car : Int
 flow : Int
def arF : Arc → List DV := fun s => [.int .i64 s.fr, .int .i64 s.to, .int .i64 s.car, .int .i64 s.flow]
def ar0 : Arc := ⟨0, 0, 0, 0⟩
abbrev froI (l : List Int) : Res := .fro 1 l.length (rowF iF 0 l)
abbrev arcB (l : List Arc) : Res := seqB 180 4 arF ar0 l
set_option maxHeartbeats 4000000 in
theorem s114t : FSpec Tryz.prog 76 [.d (neds tN), .d (roas tR)] [] (fun y r => y = .ptr 20 0 ∧ r = [(20, .cells 178 [.buf 15, .buf 18, .buf 88]), (15, froI [1, 0]), (18, froI [0, 1]), (88, arcB [⟨0, 1, 4, 0⟩])]) := by
 refine spec_of hT (C := []) Tryz.func76 rfl Tryz.call76 rfl rfl rfl ?_; conv => whnf
 repeat' (first | ((first | (refine oAx (s165 tR (by simp [tR])) [(3, 22)] ?_; rintro x rout ⟨rfl, rfl⟩; refine ⟨rfl, ?_⟩) | refine LoopX.run hT (C := []) 8 rfl [0, 5, 6, 23, 24, 25] [] (fun _ _ h => h) (fun _ h => h) ?_ | refine LoopX.run hT (C := []) 16 rfl [0, 5, 6, 7, 8, 23, 24, 25, 49, 50, 51] [] (fun _ _ h => h) (fun _ h => h) ?_ | refine And.intro (rfl : zrow _ = some [.str [], .str [], .int .i64 0, .int .i64 0]) ?_ | (refine br_intro ?_ ?_ <;> intro hb <;> try simp only [brs] at hb) | refine rAx hT 1 oQShH76_1 ?_ | refine rAx hT 6 oQShH76_6 ?_ | refine rAx hT 12 oQShH76_12 ?_ | omega | refine sAx ?_ | decide | assumption) <;> conv => whnf))
 refine .freeze _ 15 3 1 _ _ rfl (.freeze _ 18 3 1 _ _ rfl (.ret _ ?_)); conv => whnf
 refine ⟨_, ⟨rfl, rfl⟩, rr, Res.le_fro rfl ?_, Res.le_fro rfl ?_, Res.le_buf rfl ?_, trivial⟩
 · intro i hi; have : i = 0 ∨ i = 1 := by simp [tN] at hi; omega
   rcases this with rfl | rfl <;> rfl
 · intro i hi; have : i = 0 ∨ i = 1 := by simp [tN] at hi; omega
   rcases this with rfl | rfl <;> rfl
 · intro i hi; have : i = 0 := by simp at hi; omega
   subst this; rfl
theorem s166 (l : List Int) (hl : l.length ≤ 2^20) (h0 : 0 < l.length) : FSpec Tryz.prog 123 [.d (ints l)] [] (fun y r => y = .buf 7 ∧ r = [(7, seqB 3 1 iF 0 l)]) := by
 refine spec_of hT (C := [5]) Tryz.func123 rfl Tryz.call123 rfl rfl rfl ?_; conv => whnf
 rintro b hbn; conv => whnf
 repeat' (first | ((first | (refine br_intro ?_ ?_ <;> intro hb <;> try simp only [brs] at hb) | omega | refine sAx ?_ | decide | assumption) <;> conv => whnf))
 · exact absurd (hbn (by assumption)) (by omega)
 · refine .ret _ ?_; conv => whnf
   refine ⟨_, ⟨rfl, rfl⟩, Res.le_buf (by simp) (fun i hi => ?_), trivial⟩; rw [appGet_ge (by omega)]; rfl
theorem s168e (g : Nat → List DV) : FSpec Tryz.prog 125 [.d (.ro 4 0 g)] [] (fun y r => y = .d (seqD 4 arF ar0 []) ∧ r = []) := by
 refine spec_of hT (C := [5]) Tryz.func125 rfl Tryz.call125 rfl rfl rfl ?_; conv => whnf
 rintro b hbn; conv => whnf
 repeat' (first | ((first | (refine br_intro ?_ ?_ <;> intro hb <;> try simp only [brs] at hb) | omega | refine sAx ?_ | decide | assumption) <;> conv => whnf))
 · refine .weak _ ?_; conv => whnf
   exact ⟨_, [], SV.le_nilS, ⟨rfl, rfl⟩, trivial⟩
 · refine .freeze _ 7 180 4 _ _ rfl (.weak _ ?_); conv => whnf
   exact ⟨_, [], SV.le_ro (by simp) (fun i hi => absurd hi (by simp)), ⟨rfl, rfl⟩, trivial⟩
def oQShI124_1 : OL := [(0, []), (1, []), (2, []), (3, []), (4, []), (5, []), (6, rg 6), (7, rg 6), (8, rg 6), (9, rg 6), (10, rg 6), (11, rg 6), (12, [6, 7, 8, 9, 10, 11]), (13, [])]
def oQShI124_15 : OL := [(0, []), (1, [0]), (2, [0]), (3, []), (4, []), (5, []), (6, []), (7, []), (8, [7]), (9, [7]), (10, []), (11, []), (12, [7, 8, 9, 10, 11]), (13, [7, 8, 9, 10, 11]), (14, []), (15, [7, 8, 9, 10, 11, 12, 13, 14]), (16, [7, 8, 9, 10, 11, 12, 13, 14, 15]), (17, [7, 8, 9, 10, 11, 12, 13, 14, 15]), (18, [7, 8, 9, 10, 11, 12, 13, 14]), (19, [7, 8, 9, 10, 11, 12, 13, 14]), (20, []), (21, [])]
def oQShI124_16 : OL := [(0, []), (1, [0]), (2, [0]), (3, [0, 1, 2]), (4, rg 4), (5, rg 4), (6, rg 6), (7, rg 7), (8, rg 7), (9, rg 6), (10, rg 6), (11, rg 11), (12, rg 11), (13, rg 6), (14, rg 14), (15, rg 14), (16, [3, 4, 5, 14, 15]), (17, [3, 4, 5, 14, 15]), (18, []), (19, []), (20, [])]
def oQShI124_17 : OL := [(0, []), (1, []), (2, []), (3, []), (4, []), (5, [4]), (6, [4]), (7, []), (8, []), (9, []), (10, []), (11, []), (12, []), (13, [12]), (14, [12]), (15, []), (16, []), (17, [12, 13, 14, 15, 16]), (18, [12, 13, 14, 15, 16]), (19, []), (20, [12, 13, 14, 15, 16, 17, 18, 19]), (21, [12, 13, 14, 15, 16, 17, 18, 19, 20]), (22, [12, 13, 14, 15, 16, 17, 18, 19, 20]), (23, [12, 13, 14, 15, 16, 17, 18, 19]), (24, [12, 13, 14, 15, 16, 17, 18, 19]), (25, []), (26, [])]
def oQShI124_18 : OL := [(0, []), (1, [0]), (2, [0]), (3, [0, 1, 2]), (4, rg 4), (5, rg 4), (6, rg 6), (7, rg 7), (8, rg 7), (9, rg 6), (10, rg 6), (11, rg 11), (12, rg 11), (13, rg 6), (14, rg 14), (15, rg 14), (16, [3, 4, 5, 14, 15]), (17, [3, 4, 5, 14, 15]), (18, []), (19, []), (20, [])]
def oQShI78_1 : OL := [(0, []), (1, []), (2, []), (3, []), (5, rg 4), (6, rg 4), (7, rg 4), (8, rg 4), (10, [0, 1, 2, 3, 5, 6, 7, 8]), (11, [0, 1, 2, 3, 5, 6, 7, 8]), (12, [0, 1, 2, 3, 5, 6, 7, 8]), (13, [0, 1, 2, 3, 5, 6, 7, 8]), (14, [0, 1, 2, 3, 5, 6, 7, 8, 10, 11, 12, 13]), (15, [0, 1, 2, 3, 5, 6, 7, 8]), (4, [5, 6, 7, 8, 10, 11, 12, 13, 14, 15]), (9, [10, 11, 12, 13, 14, 15]), (16, []), (17, []), (18, []), (19, [])]
def stF : Int × Bool → List DV := fun s => [.int .i64 s.1, .bool s.2]
abbrev steps (l : List (Int × Bool)) : DV := seqD 2 stF (0, false) l
abbrev tpC : Res := .cells 178 [.buf 1000001, .buf 1000002, .buf 1000003]
abbrev tpB (h w : List Int) (l : List Arc) : List (Nat × Res) := [(1000000, tpC), (1000001, froI h), (1000002, froI w), (1000003, arcB l)]
abbrev tpD (h w : List Int) : List (Nat × Res) := [(1000000, .cells 178 [.buf 1000001, .buf 1000002, .d (seqD 4 arF ar0 [])]), (1000001, froI h), (1000002, froI w)]
set_option maxHeartbeats 4000000 in
theorem s167a : FSpec Tryz.prog 124 [.ptr 1000000 0, .buf 1000004] ([(1000004, seqB 3 1 iF 0 [1, 0])] ++ tpB [1, 0] [0, 1] [⟨0, 1, 4, 0⟩])
 (fun y r => y = .tup [.d (ints [0, 4]), .d (steps [(-1, false), (0, false)])] ∧ r = [(1000004, seqB 3 1 iF 0 [1, 0])] ++ tpB [1, 0] [0, 1] [⟨0, 1, 4, 0⟩]) := by
 refine spec_of hT (C := []) Tryz.func124 rfl Tryz.call124 rfl rfl rfl ?_; conv => whnf
 repeat' (first | ((first | refine LoopX.run hT (C := []) 6 rfl [0, 1, 4, 5, 23, 24] [1000000, 1000001, 1000002, 1000003, 1000004] (fun _ _ h => h) (fun _ h => h) ?_ | refine LoopX.run hT (C := []) 20 rfl [0, 4, 5, 7] [1000000, 1000001, 1000002, 1000003, 1000004] (fun _ _ h => h) (fun _ h => h) ?_ | refine LoopX.run hT (C := []) 26 rfl [0, 4, 5, 7, 47, 48, 49] [1000000, 1000001, 1000002, 1000003, 1000004] (fun _ _ h => h) (fun _ h => h) ?_ | (refine br_intro ?_ ?_ <;> intro hb <;> try simp only [brs] at hb) | refine rAx hT 1 oQShI124_1 ?_ | refine rAx hT 15 oQShI124_15 ?_ | refine rAx hT 16 oQShI124_16 ?_ | refine rAx hT 17 oQShI124_17 ?_ | refine rAx hT 18 oQShI124_18 ?_ | omega | refine sAx ?_ | decide | assumption) <;> conv => whnf))
 refine .freeze _ 15 3 1 _ _ rfl (.freeze _ 21 231 2 _ _ rfl (.weak _ ?_)); conv => whnf
 refine ⟨.tup [.d (ints [0, 4]), .d (steps [(-1, false), (0, false)])], _, SV.le_tup ⟨SV.le_ro rfl ?_, SV.le_ro rfl ?_, trivial⟩, ⟨rfl, rfl⟩, ?_⟩
 · intro i hi; have : i = 0 ∨ i = 1 := by simp at hi; omega
   rcases this with rfl | rfl <;> rfl
 · intro i hi; have : i = 0 ∨ i = 1 := by simp at hi; omega
   rcases this with rfl | rfl <;> rfl
 · refine ⟨rr, rr, rr, rr, ?_⟩; first | exact trivial | exact ⟨rr, trivial⟩
set_option maxHeartbeats 4000000 in
theorem s167b : FSpec Tryz.prog 124 [.ptr 1000000 0, .buf 1000004] ([(1000004, seqB 3 1 iF 0 [0, 0])] ++ tpB [1, 0] [0, 1] [⟨0, 1, 4, 1⟩])
 (fun y r => y = .tup [.d (ints [1125899906842624, 1125899906842624]), .d (steps [(-1, false), (-1, false)])] ∧ r = [(1000004, seqB 3 1 iF 0 [0, 0])] ++ tpB [1, 0] [0, 1] [⟨0, 1, 4, 1⟩]) := by
 refine spec_of hT (C := []) Tryz.func124 rfl Tryz.call124 rfl rfl rfl ?_; conv => whnf
 repeat' (first | ((first | refine LoopX.run hT (C := []) 6 rfl [0, 1, 4, 5, 23, 24] [1000000, 1000001, 1000002, 1000003, 1000004] (fun _ _ h => h) (fun _ h => h) ?_ | refine LoopX.run hT (C := []) 20 rfl [0, 4, 5, 7] [1000000, 1000001, 1000002, 1000003, 1000004] (fun _ _ h => h) (fun _ h => h) ?_ | refine LoopX.run hT (C := []) 26 rfl [0, 4, 5, 7, 47, 48, 49] [1000000, 1000001, 1000002, 1000003, 1000004] (fun _ _ h => h) (fun _ h => h) ?_ | (refine br_intro ?_ ?_ <;> intro hb <;> try simp only [brs] at hb) | refine rAx hT 1 oQShI124_1 ?_ | refine rAx hT 15 oQShI124_15 ?_ | refine rAx hT 16 oQShI124_16 ?_ | refine rAx hT 17 oQShI124_17 ?_ | refine rAx hT 18 oQShI124_18 ?_ | omega | refine sAx ?_ | decide | assumption) <;> conv => whnf))
 refine .freeze _ 15 3 1 _ _ rfl (.freeze _ 21 231 2 _ _ rfl (.weak _ ?_)); conv => whnf
 refine ⟨.tup [.d (ints [1125899906842624, 1125899906842624]), .d (steps [(-1, false), (-1, false)])], _, SV.le_tup ⟨SV.le_ro rfl ?_, SV.le_ro rfl ?_, trivial⟩, ⟨rfl, rfl⟩, ?_⟩
 · intro i hi; have : i = 0 ∨ i = 1 := by simp at hi; omega
   rcases this with rfl | rfl <;> rfl
 · intro i hi; have : i = 0 ∨ i = 1 := by simp at hi; omega
   rcases this with rfl | rfl <;> rfl
 · refine ⟨rr, rr, rr, rr, ?_⟩; first | exact trivial | exact ⟨rr, trivial⟩
set_option maxHeartbeats 4000000 in
theorem s167c : FSpec Tryz.prog 124 [.ptr 1000000 0, .buf 1000004] ([(1000004, seqB 3 1 iF 0 [0, 0])] ++ tpD [0, 0] [0, 0])
 (fun y r => y = .tup [.d (ints [1125899906842624, 1125899906842624]), .d (steps [(-1, false), (-1, false)])] ∧ r = [(1000004, seqB 3 1 iF 0 [0, 0])] ++ tpD [0, 0] [0, 0]) := by
 refine spec_of hT (C := []) Tryz.func124 rfl Tryz.call124 rfl rfl rfl ?_; conv => whnf
 repeat' (first | ((first | refine LoopX.run hT (C := []) 6 rfl [0, 1, 4, 5, 23, 24] [1000000, 1000001, 1000002, 1000004] (fun _ _ h => h) (fun _ h => h) ?_ | refine LoopX.run hT (C := []) 20 rfl [0, 4, 5, 7] [1000000, 1000001, 1000002, 1000004] (fun _ _ h => h) (fun _ h => h) ?_ | refine LoopX.run hT (C := []) 26 rfl [0, 4, 5, 7, 47, 48, 49] [1000000, 1000001, 1000002, 1000004] (fun _ _ h => h) (fun _ h => h) ?_ | (refine br_intro ?_ ?_ <;> intro hb <;> try simp only [brs] at hb) | refine rAx hT 1 oQShI124_1 ?_ | refine rAx hT 15 oQShI124_15 ?_ | refine rAx hT 16 oQShI124_16 ?_ | refine rAx hT 17 oQShI124_17 ?_ | refine rAx hT 18 oQShI124_18 ?_ | omega | refine sAx ?_ | decide | assumption) <;> conv => whnf))
 refine .freeze _ 15 3 1 _ _ rfl (.freeze _ 21 231 2 _ _ rfl (.weak _ ?_)); conv => whnf
 refine ⟨.tup [.d (ints [1125899906842624, 1125899906842624]), .d (steps [(-1, false), (-1, false)])], _, SV.le_tup ⟨SV.le_ro rfl ?_, SV.le_ro rfl ?_, trivial⟩, ⟨rfl, rfl⟩, ?_⟩
 · intro i hi; have : i = 0 ∨ i = 1 := by simp at hi; omega
   rcases this with rfl | rfl <;> rfl
 · intro i hi; have : i = 0 ∨ i = 1 := by simp at hi; omega
   rcases this with rfl | rfl <;> rfl
 · refine ⟨rr, rr, rr, rr, ?_⟩; first | exact trivial | exact ⟨rr, trivial⟩
set_option maxHeartbeats 4000000 in
theorem s116t : FSpec Tryz.prog 78 [.ptr 1000000 0, .d (.int .i64 1), .d (.int .i64 0), .d (.int .i64 1), .d (.int .i64 1)] [(1000000, tpC), (1000001, froI [1, 0]), (1000002, froI [0, 1]), (1000003, .fro 4 1 (rowF arF ar0 [⟨0, 1, 4, 1⟩]))]
 (fun y r => y = .ptr 30 0 ∧ r = [(1000000, tpC), (1000001, froI [1, 0]), (1000002, froI [0, 1]), (1000003, .fro 4 1 (rowF arF ar0 [⟨0, 1, 4, 1⟩])), (30, .cells 178 [.buf 16, .buf 21, .d (seqD 4 arF ar0 [])]), (16, froI [0, 0]), (21, froI [0, 0])]) := by
 refine spec_of hT (C := []) Tryz.func78 rfl Tryz.call78 rfl rfl rfl ?_; conv => whnf
 refine RegX.rule hT rfl [] oQShI78_1 (by decide +kernel) ?_; conv => whnf
 repeat' (first | ((first | (refine oAx (s166 [1, 0] (by simp) (by simp)) [(7, 16)] ?_; rintro x rout ⟨rfl, rfl⟩; refine ⟨rfl, ?_⟩) | (refine oAx (s166 [0, 1] (by simp) (by simp)) [(7, 21)] ?_; rintro x rout ⟨rfl, rfl⟩; refine ⟨rfl, ?_⟩) | refine CallX.pure (s168e _) ⟨lr, trivial⟩ rfl ?_ | (refine br_intro ?_ ?_ <;> intro hb <;> try simp only [brs] at hb) | refine rAx hT 1 oQShI78_1 ?_ | omega | refine sAx ?_ | decide | assumption) <;> conv => whnf))
 refine .freeze _ 16 3 1 _ _ rfl (.freeze _ 21 3 1 _ _ rfl (.ret _ ?_)); conv => whnf
 refine ⟨_, ⟨rfl, rfl⟩, rr, rr, rr, rr, rr, Res.le_fro rfl ?_, Res.le_fro rfl ?_, trivial⟩
 · intro i hi; have : i = 0 ∨ i = 1 := by simp at hi; omega
   rcases this with rfl | rfl <;> rfl
 · intro i hi; have : i = 0 ∨ i = 1 := by simp at hi; omega
   rcases this with rfl | rfl <;> rfl
def oQShJ77_1 : OL := [(0, []), (1, []), (2, []), (3, []), (5, rg 4), (6, rg 4), (7, rg 4), (8, rg 4), (4, [5, 6, 7, 8]), (9, []), (10, []), (11, [])]
def oQShJ77_14 : OL := [(0, []), (1, []), (2, []), (3, []), (4, [3]), (5, []), (6, []), (7, []), (8, []), (9, []), (10, []), (11, []), (12, []), (13, []), (14, [13]), (15, []), (16, []), (17, [13, 14, 15, 16]), (18, [13, 14, 15, 16, 17]), (19, [13, 14, 15, 16]), (20, [13, 14, 15, 16]), (21, []), (22, []), (23, [])]
def oQShJ77_21 : OL := [(0, []), (1, []), (2, []), (3, []), (4, rg 4), (5, rg 5), (6, rg 4), (7, rg 4), (8, rg 4), (9, []), (10, []), (11, rg 11), (12, [])]
def oQShJ77_23 : OL := [(0, []), (1, [0]), (2, [0]), (3, []), (4, rg 4), (5, rg 4), (6, [4, 5]), (7, [])]
def oQShJ77_31 : OL := [(0, []), (1, []), (2, []), (3, []), (4, rg 4), (5, rg 5), (6, rg 4), (7, rg 4), (8, rg 4), (9, []), (10, [])]
def oQShJ37_13 : OL := [(0, []), (1, [0]), (2, [0]), (3, [0]), (4, [0]), (5, rg 5), (6, rg 5), (7, [0]), (8, [0]), (9, rg 9), (10, rg 9), (11, rg 9), (12, rg 9), (13, rg 13), (14, rg 13), (15, rg 9), (16, rg 9), (17, [0]), (18, [])]
def oQShJ37_19 : OL := [(0, []), (1, [0]), (2, [0, 1]), (3, [0, 1]), (4, [0]), (5, [0]), (6, [0]), (7, rg 7), (8, rg 8), (9, rg 8), (10, rg 7), (11, rg 7), (12, rg 7), (13, rg 13), (14, [0]), (15, [0]), (16, []), (17, [])]
set_option maxHeartbeats 8000000 in
theorem s115a : FSpec Tryz.prog 77 [.ptr 1000000 0] (tpB [1, 0] [0, 1] [⟨0, 1, 4, 0⟩]) (fun y r => y = .tup [.d (.int .i64 4), .d (.bool true)] ∧ r = tpB [1, 0] [0, 1] [⟨0, 1, 4, 1⟩]) := by
 refine spec_of hT (C := []) Tryz.func77 rfl Tryz.call77 rfl rfl rfl ?_; conv => whnf
 refine RegX.rule hT rfl [] oQShJ77_1 (by decide +kernel) ?_; conv => whnf
 repeat' (first | ((first | (refine oAx (s166 [1, 0] (by simp) (by simp)) [(7, 22)] ?_; rintro x rout ⟨rfl, rfl⟩; refine ⟨rfl, ?_⟩) | (refine oAx (s166 [0, 1] (by simp) (by simp)) [(7, 27)] ?_; rintro x rout ⟨rfl, rfl⟩; refine ⟨rfl, ?_⟩)) <;> conv => whnf) | (refine CallX.of s167a [(1000000, 1000000), (1000001, 1000001), (1000002, 1000002), (1000003, 1000003), (1000004, 22)] rfl ⟨lr, lr, trivial⟩ ⟨(Res.le_buf rfl (fun i hi => by (have : i = 0 ∨ i = 1 := by simp at hi; omega); rcases this with (rfl | rfl) <;> rfl)), rr, rr, rr, (Res.le_buf rfl (fun i hi => by (have : i = 0 := by simp at hi; omega); subst this; rfl)), trivial⟩ rfl rfl ?_; rintro x rout ⟨rfl, rfl⟩; refine ⟨rfl, ?_⟩; conv => whnf) | (refine CallX.of s167b [(1000000, 1000000), (1000001, 1000001), (1000002, 1000002), (1000003, 1000003), (1000004, 22)] rfl ⟨lr, lr, trivial⟩ ⟨(Res.le_buf rfl (fun i hi => by (have : i = 0 ∨ i = 1 := by simp at hi; omega); rcases this with (rfl | rfl) <;> rfl)), rr, rr, rr, (Res.le_buf rfl (fun i hi => by (have : i = 0 := by simp at hi; omega); subst this; rfl)), trivial⟩ rfl rfl ?_; rintro x rout ⟨rfl, rfl⟩; refine ⟨rfl, ?_⟩; conv => whnf) | ((first | refine LoopX.run hT (C := []) 6 rfl [0, 4, 5, 32, 33] [1000000, 1000001, 1000002, 1000003] (fun _ _ h => h) (fun _ h => h) ?_ | refine LoopX.run hT (C := []) 7 rfl [0, 4, 5, 7] [1000000, 1000001, 1000002, 1000003] (fun _ _ h => h) (fun _ h => h) ?_ | refine LoopX.run hT (C := []) 22 rfl [0, 4, 5, 7, 8, 9, 10, 11, 50, 51, 52] [1000000, 1000001, 1000002, 1000003] (fun _ _ h => h) (fun _ h => h) ?_ | refine LoopX.run hT (C := []) 40 rfl [0, 4, 5, 7, 8, 9, 10, 14, 15] [1000000, 1000001, 1000002, 1000003] (fun _ _ h => h) (fun _ h => h) ?_ | refine LoopX.run hT (C := []) 60 rfl [0, 4, 5, 7, 9, 14, 15] [1000000, 1000001, 1000002, 1000003] (fun _ _ h => h) (fun _ h => h) ?_ | (refine br_intro ?_ ?_ <;> intro hb <;> try simp only [brs] at hb) | refine rAx hT 1 oQShJ77_1 ?_ | refine rAx hT 14 oQShJ77_14 ?_ | refine rAx hT 21 oQShJ77_21 ?_ | refine rAx hT 23 oQShJ77_23 ?_ | refine rAx hT 31 oQShJ77_31 ?_ | omega | refine sAx ?_ | decide | assumption) <;> conv => whnf))
 refine .weak _ ?_; conv => whnf
 exact ⟨.tup [.d (.int .i64 4), .d (.bool true)], _, SV.le_tup ⟨SV.le_int rfl, SV.le_bool rfl, trivial⟩, ⟨rfl, rfl⟩, rr, rr, rr, (Res.le_buf rfl (fun i hi => by (have : i = 0 := by simp at hi; omega); subst this; rfl)), trivial⟩
set_option maxHeartbeats 8000000 in
theorem s115b : FSpec Tryz.prog 77 [.ptr 1000000 0] (tpD [0, 0] [0, 0]) (fun y r => y = .tup [.d (.int .i64 0), .d (.bool true)] ∧ r = tpD [0, 0] [0, 0]) := by
 refine spec_of hT (C := []) Tryz.func77 rfl Tryz.call77 rfl rfl rfl ?_; conv => whnf
 refine RegX.rule hT rfl [] oQShJ77_1 (by decide +kernel) ?_; conv => whnf
 repeat' (first | ((first | (refine oAx (s166 [0, 0] (by simp) (by simp)) [(7, 22)] ?_; rintro x rout ⟨rfl, rfl⟩; refine ⟨rfl, ?_⟩) | (refine oAx (s166 [0, 0] (by simp) (by simp)) [(7, 27)] ?_; rintro x rout ⟨rfl, rfl⟩; refine ⟨rfl, ?_⟩) | (refine oAx s167c [(1000000, 1000000), (1000001, 1000001), (1000002, 1000002), (1000004, 22)] ?_; rintro x rout ⟨rfl, rfl⟩; refine ⟨rfl, ?_⟩) | refine LoopX.run hT (C := []) 6 rfl [0, 4, 5, 32, 33] [1000000, 1000001, 1000002] (fun _ _ h => h) (fun _ h => h) ?_ | refine LoopX.run hT (C := []) 7 rfl [0, 4, 5, 7] [1000000, 1000001, 1000002] (fun _ _ h => h) (fun _ h => h) ?_ | refine LoopX.run hT (C := []) 22 rfl [0, 4, 5, 7, 8, 9, 10, 11, 50, 51, 52] [1000000, 1000001, 1000002] (fun _ _ h => h) (fun _ h => h) ?_ | refine LoopX.run hT (C := []) 40 rfl [0, 4, 5, 7, 8, 9, 10, 14, 15] [1000000, 1000001, 1000002] (fun _ _ h => h) (fun _ h => h) ?_ | refine LoopX.run hT (C := []) 60 rfl [0, 4, 5, 7, 9, 14, 15] [1000000, 1000001, 1000002] (fun _ _ h => h) (fun _ h => h) ?_ | (refine br_intro ?_ ?_ <;> intro hb <;> try simp only [brs] at hb) | refine rAx hT 1 oQShJ77_1 ?_ | refine rAx hT 14 oQShJ77_14 ?_ | refine rAx hT 21 oQShJ77_21 ?_ | refine rAx hT 23 oQShJ77_23 ?_ | refine rAx hT 31 oQShJ77_31 ?_ | omega | refine sAx ?_ | decide | assumption) <;> conv => whnf))
 refine .weak _ ?_; conv => whnf
 exact ⟨.tup [.d (.int .i64 0), .d (.bool true)], _, SV.le_tup ⟨SV.le_int rfl, SV.le_bool rfl, trivial⟩, ⟨rfl, rfl⟩, rr, rr, rr, trivial⟩
set_option maxHeartbeats 8000000 in
theorem s27t : FSpec Tryz.prog 37 [.d (neds tN), .d (roas tR)] [] (fun y r => y = .tup [.d (movs [⟨[97], [98], 1⟩]), .d (.int .i64 0)] ∧ r = []) := by
 refine spec_of hT (C := []) Tryz.func37 rfl Tryz.call37 rfl rfl rfl ?_; conv => whnf
 repeat' (first | (refine CallX.exact (s113t) rfl rfl ?_; rotate_right; conv => whnf) | ((first | (refine oAx s114t [(20, 24), (15, 1000), (18, 1001), (88, 1002)] ?_; rintro x rout ⟨rfl, rfl⟩; refine ⟨rfl, ?_⟩) | (refine oAx s115a [(1000000, 24), (1000001, 1000), (1000002, 1001), (1000003, 1002)] ?_; rintro x rout ⟨rfl, rfl⟩; refine ⟨rfl, ?_⟩) | (refine br_intro ?_ ?_ <;> intro hb <;> try simp only [brs] at hb) | refine rAx hT 13 oQShJ37_13 ?_ | refine rAx hT 19 oQShJ37_19 ?_ | omega | refine sAx ?_ | decide | assumption) <;> conv => whnf))
 refine LoopX.freeze 1002 180 4 1 _ rfl ?_; repeat' (first | ((first | (refine CallX.of s116t [(1000000, 24), (1000001, 1000), (1000002, 1001), (1000003, 1002), (30, 1100), (16, 1101), (21, 1102)] rfl ⟨lr, SV.le_int rfl, SV.le_int rfl, SV.le_int rfl, SV.le_int rfl, trivial⟩ ⟨rr, rr, rr, Res.le_fro rfl (fun i hi => by (have : i = 0 := by simp at hi; omega); subst this; rfl), trivial⟩ rfl rfl ?_; rintro x rout ⟨rfl, rfl⟩; refine ⟨rfl, ?_⟩) | (refine CallX.of s116t [(1000000, 24), (1000001, 1000), (1000002, 1001), (1000003, 1002), (30, 1200), (16, 1201), (21, 1202)] rfl ⟨lr, SV.le_int rfl, SV.le_int rfl, SV.le_int rfl, SV.le_int rfl, trivial⟩ ⟨rr, rr, rr, Res.le_fro rfl (fun i hi => by (have : i = 0 := by simp at hi; omega); subst this; rfl), trivial⟩ rfl rfl ?_; rintro x rout ⟨rfl, rfl⟩; refine ⟨rfl, ?_⟩) | (refine oAx s115b [(1000000, 1100), (1000001, 1101), (1000002, 1102)] ?_; rintro x rout ⟨rfl, rfl⟩; refine ⟨rfl, ?_⟩) | refine LoopX.run hT (C := []) 18 rfl [0, 7, 8, 10] [] (fun _ _ h => h) (fun _ h => h) ?_ | refine LoopX.run hT (C := []) 26 rfl [0, 7, 8, 10, 11, 12, 13] [] (fun _ _ h => h) (fun _ h => h) ?_ | (refine br_intro ?_ ?_ <;> intro hb <;> try simp only [brs] at hb) | refine rAx hT 13 oQShJ37_13 ?_ | refine rAx hT 19 oQShJ37_19 ?_ | omega | refine sAx ?_ | decide | assumption) <;> conv => whnf))
 refine .freeze _ 106 183 3 _ _ rfl (.weak _ ?_); conv => whnf
 exact ⟨.tup [.d (movs [⟨[97], [98], 1⟩]), .d (.int .i64 0)], _, SV.le_tup ⟨SV.le_ro rfl (fun i hi => by (have : i = 0 := by simp at hi; omega); subst this; rfl), SV.le_int rfl, trivial⟩, ⟨rfl, rfl⟩, trivial⟩
theorem mov_eq {a b : Mov} : a = b ↔ a.a = b.a ∧ a.b = b.b ∧ a.many = b.many := by cases a; cases b; simp
instance : DecidableEq Mov := fun _ _ => decidable_of_iff _ mov_eq.symm
structure Pnl where
 key : List UInt8
 w : Int
 h : Int
 pr : Int
structure Mrk where
 pan : List UInt8
 kind : Int
 x : Int
 y : Int
 size : Int
structure Rul where
 near : Int
 slack : Int
 join : Int
 part : Int
theorem less_trans : ∀ {a b c : List UInt8}, Op.bytesLess a b = true → Op.bytesLess b c = true → Op.bytesLess a c = true := by
 intro a
 induction a with
 | nil => intro b c h1 h2; cases b <;> cases c <;> simp_all [Op.bytesLess]
 | cons x a ih =>
   intro b c h1 h2
   cases b with
   | nil => simp [Op.bytesLess] at h1
   | cons y b =>
     cases c with
     | nil => simp [Op.bytesLess] at h2
     | cons z c =>
       simp only [Op.bytesLess] at h1 h2 ⊢; grind [UInt8.lt_trans]
theorem less_irr : ∀ (a : List UInt8), Op.bytesLess a a = false := by
 intro a
 induction a with
 | nil => rfl
 | cons x a ih => simp [Op.bytesLess, ih]
def onRd (l : List Roa) (a b : List UInt8) (i : Nat) : Bool := (l.getD i rd0).a == a && (l.getD i rd0).b == b
def roadX (l : List Roa) (a b : List UInt8) : Int := ixF (onRd l a b) l.length
theorem ixF_pos {p : Nat → Bool} {n k : Nat} (hk : k < n) (h : p k = true) : 0 ≤ ixF p n := by
 have hb := ixF_bd (p := p) (n := n); rcases Int.lt_or_le (ixF p n) 0 with q | q
 · exfalso
   have hn : ∀ m, ixF p m < 0 → ∀ j, j < m → p j = false := by
    intro m
    induction m with
    | zero => intro _ j hj; omega
    | succ m ih =>
      intro hm j hj; rw [ixF] at hm; split at hm
      · rename_i hz
        by_cases hjm : j = m
        · subst hjm; split at hm
          · omega
          · rename_i hf; simpa using hf
        · exact ih (by omega) j (by omega)
      · rename_i hz; have := (ixF_bd (p := p) (n := m)).1; omega
   rw [hn n q k hk] at h; cases h
 · exact q
def roadO (l : List Roa) (a b : List UInt8) : Option Roa := if 0 ≤ roadX l a b then some (l.getD (roadX l a b).toNat rd0) else none
def rideO (l : List Roa) (a b : List UInt8) : Option Int := if a = b then some 0 else (roadO l a b).map (·.ride)
def makeO (l : List Roa) (a : List UInt8) (m : Mov) : Option Int := (rideO l a m.a).bind fun n => (roadO l m.a m.b).map fun r => n + r.car
abbrev RPt := Option (List UInt8 × Int)
def stepR (l : List Roa) (m : List Mov) (st : RPt) (k : Int) : RPt := st.bind fun p => (makeO l p.1 (m.getD k.toNat mv0)).map fun n => ((m.getD k.toNat mv0).b, p.2 + n)
def partR (l : List Roa) (start : List UInt8) (m : List Mov) (o : List Int) : RPt := o.foldl (stepR l m) (some (start, 0))
def roundO (l : List Roa) (start : List UInt8) (m : List Mov) (o : List Int) : Option Int := (partR l start m o).bind fun p => (rideO l p.1 start).map fun n => p.2 + n
abbrev RSt := List Int × Int
def rs (l : List Roa) (start : List UInt8) (m : List Mov) : Nat → List Int → RSt → RSt
 | 0, o, st => match roundO l start m o with
   | some n => if 0 ≤ st.2 ∧ st.2 ≤ n then st else (o, n)
   | none => st
 | d + 1, o, st => (List.range m.length).foldl (fun (st : RSt) (k : Nat) => if o.contains (k : Int) then st else rs l start m d (o ++ [(k : Int)]) st) st
def kyC (key : List UInt8) : Res := .cells 9 [.d (.str key)]
def clIx (l : List Cls) (key : List UInt8) : Int := ixF (fun i => (l.getD i cls0).key == key) l.length
def veIx (l : List Veh) (key : List UInt8) : Int := ixF (fun i => (l.getD i veh0).key == key) l.length
theorem z242 (x : Cls) (key : List UInt8) : FSpec Tryz.prog 174 [.agg ((clsF x).map .d), .ptr 1000001 0] [(1000001, kyC key)] (fun y r => y = .d (.bool (x.key == key)) ∧ r = [(1000001, kyC key)]) := by
 refine spec_of hT (C := []) Tryz.func174 rfl Tryz.call174 rfl rfl rfl ?_; conv => whnf
 refine .ret _ ?_; conv => whnf
 exact ⟨[(1000001, kyC key)], ⟨rfl, rfl⟩, rr, trivial⟩
theorem z155b (l : List Cls) (hl : l.length ≤ 2^40) (key : List UInt8) : FSpec Tryz.prog 173 [.d (clss l), .fn 174 [.ptr 1000001 0]] [(1000001, kyC key)] (fun x r => x = .d (.int .i64 (clIx l key)) ∧ r = [(1000001, kyC key)]) := by
 refine spec_of hT (C := []) Tryz.func173 rfl Tryz.call173 rfl rfl rfl ?_; conv => whnf
 refine LoopX.rule hT (C := []) (ι := Nat) (fun i => i ≤ l.length ∧ ∀ j, j < i → ((l.getD j cls0).key == key) = false) (fun i => mkSt [(0, .d (clss l)), (1, .fn 174 [.ptr 1000001 0]), (7, .d (.int .i64 l.length)), (8, .d (.int .i64 i))] [(1000001, kyC key)]) (fun i => l.length - i) 0 ⟨by omega, by omega⟩ (by exact eAx [(1000001, 1000001)]) ?_; rintro i ⟨p1, p2⟩; have e1 : (i : Int).toNat = i := Int.toNat_natCast i; conv => whnf
 repeat' (first | ((first | (refine oAx (z242 (l.getD (i : Int).toNat cls0) key) [(1000001, 1000001)] ?_; rintro x rout ⟨rfl, rfl⟩; refine ⟨rfl, ?_⟩) | (refine br_intro ?_ ?_ <;> intro hb <;> try simp only [brs] at hb) | omega | refine sAx ?_ | decide | assumption) <;> conv => whnf))
 · refine .ret _ ?_; conv => whnf
   refine ⟨[(1000001, kyC key)], ⟨?_, rfl⟩, rr, trivial⟩; conv => lhs; whnf
   congr 2
   exact (ixF_hit (by omega) p2 (by simpa using hb)).symm
 · exact ⟨i + 1, ⟨by omega, all_step p2 (by simpa using hb)⟩, by omega, (by exact eAx [(1000001, 1000001)])⟩
 · refine .ret _ ?_; conv => whnf
   refine ⟨[(1000001, kyC key)], ⟨?_, rfl⟩, rr, trivial⟩; conv => lhs; whnf
   congr 2
   have : i = l.length := by omega
   subst this; exact (ixF_none p2).symm
theorem z176 (l : List Cls) (hl : l.length ≤ 2^40) (key : List UInt8) : FSpec Tryz.prog 131 [.d (clss l), .d (.str key)] [] (fun x r => x = .d (.int .i64 (clIx l key)) ∧ r = []) := by
 refine spec_of hT (C := []) Tryz.func131 rfl Tryz.call131 rfl rfl rfl ?_; conv => whnf
 refine oAx (z155b l hl key) [(1000001, 3)] ?_; rintro x rout ⟨rfl, rfl⟩; refine ⟨rfl, ?_⟩; conv => whnf
 refine .ret _ ?_; conv => whnf
 refine ⟨[], ⟨?_, rfl⟩, trivial⟩; conv => lhs; whnf
structure Flt where
 sta : List Sta
 cls : List Cls
 veh : List Veh
 plt : List Plt
abbrev flt (f : Flt) : SV := .agg [.d (stas f.sta), .d (clss f.cls), .d (vehs f.veh), .d (plts f.plt)]
theorem clIx_bd (l : List Cls) (key : List UInt8) : -1 ≤ clIx l key ∧ clIx l key < l.length := ⟨ixF_bd.1, ixF_bd.2.1⟩
theorem clIx_at {l : List Cls} {key : List UInt8} (h : 0 ≤ clIx l key) : (l.getD (clIx l key).toNat cls0).key = key := by
 have := (ixF_bd (p := fun i => (l.getD i cls0).key == key) (n := l.length)).2.2 h; exact eq_of_beq this
def upC (l : List Cls) (key : List UInt8) : List UInt8 := (l.getD (clIx l key).toNat cls0).up
def abv (l : List Cls) : Nat → List UInt8 → List (List UInt8)
 | 0, _ => []
 | n + 1, key => if upC l key = [] then [] else upC l key :: abv l n (upC l key)
theorem abv_len (l : List Cls) : ∀ (n : Nat) (key : List UInt8), (abv l n key).length ≤ n := by
 intro n
 induction n with
 | zero => intro key; simp [abv]
 | succ n ih => intro key; rw [abv]; split; simp; simp; exact ih _
def upsOk (l : List Cls) : Prop := (∀ c ∈ l, c.up ≠ [] → 0 ≤ clIx l c.up)
theorem z241 (l : List Cls) (hl : l.length ≤ 2^20) (hu : upsOk l) (key : List UInt8) (hk : 0 ≤ clIx l key) :
 FSpec Tryz.prog 172 [.d (clss l), .d (.str key)] [] (fun x r => x = .d (strs (abv l l.length key)) ∧ r = []) := by
 refine spec_of hT (C := []) Tryz.func172 rfl Tryz.call172 rfl rfl rfl ?_; conv => whnf
 refine LoopX.rule hT (C := []) (ι := List (List UInt8) × List UInt8 × Nat) (fun (o, k, i) => i ≤ l.length ∧ o.length ≤ i ∧ 0 ≤ clIx l k ∧ o ++ abv l (l.length - i) k = abv l l.length key)
  (fun (o, k, i) => mkSt [(0, .d (clss l)), (1, .d (.str k)), (5, .buf 5), (7, .d (.int .i64 l.length)), (8, .d (.int .i64 i))] [(5, seqB 9 1 sF [] o)])
  (fun (_, _, i) => l.length - i) ([], key, 0) ⟨by simp, by simp, hk, by simp⟩ ?_ ?_
 · exact (Entails.nil 5 5 9 1 (rowF sF [] []) rfl rfl (by decide)).trans (Entails.mk' [(5, 5)] rfl rfl ⟨lr, lr, lr, lr, lr, trivial⟩ ⟨rr, trivial⟩)
 rintro ⟨o, k, i⟩ ⟨p1, p2, p3, p4⟩; have p1 : i ≤ l.length := p1; have p2 : o.length ≤ i := p2; have p3 : 0 ≤ clIx l k := p3; have p4 : o ++ abv l (l.length - i) k = abv l l.length key := p4; have hb1 := (clIx_bd l k).2; conv => whnf
 repeat' (first | (refine CallX.exact (z176 l (by omega) k) rfl rfl ?_; rotate_right; conv => whnf) | ((first | (refine br_intro ?_ ?_ <;> intro hb <;> try simp only [brs] at hb) | omega | refine sAx ?_ | decide | assumption) <;> conv => whnf))
 · refine .freeze _ 5 9 1 _ _ rfl (.weak _ ?_); conv => whnf
   refine ⟨.d (strs o), [], lr, ⟨?_, rfl⟩, trivial⟩; rw [← p4, show l.length - i = (l.length - i - 1) + 1 by omega, abv, if_pos (show upC l k = [] from hb), List.append_nil]
 · have hm : (l.getD (clIx l k).toNat cls0) ∈ l := getD_mem (by omega)
   refine ⟨(o ++ [upC l k], upC l k, i + 1), ⟨by omega, by simp; omega, hu _ hm hb, ?_⟩, by show l.length - (i + 1) < l.length - i; omega,
    Entails.mk' [(5, 22)] rfl rfl ⟨lr, lr, lr, lr, lr, trivial⟩ ⟨Res.le_snocF rfl, trivial⟩⟩
   rw [← p4, show l.length - i = (l.length - (i + 1)) + 1 by omega, abv, if_neg (show ¬ upC l k = [] from hb), List.append_assoc]; rfl
 · refine .freeze _ 5 9 1 _ _ rfl (.weak _ ?_); conv => whnf
   refine ⟨.d (strs o), [], lr, ⟨?_, rfl⟩, trivial⟩; rw [← p4, show l.length - i = 0 by omega, abv, List.append_nil]
theorem z208 (l : List (List UInt8)) (hl : l.length ≤ 2^40) (v : List UInt8) : FSpec Tryz.prog 205 [.d (strs l), .d (.str v)] [] (fun x r => x = .d (.int .i64 (ixF (fun i => l.getD i [] == v) l.length)) ∧ r = []) := by
 refine spec_of hT (C := []) Tryz.func205 rfl Tryz.call205 rfl rfl rfl ?_; conv => whnf
 refine LoopX.rule hT (C := []) (ι := Nat) (fun i => i ≤ l.length ∧ ∀ j, j < i → (l.getD j [] == v) = false) (fun i => mkSt [(0, .d (strs l)), (1, .d (.str v)), (7, .d (.int .i64 l.length)), (8, .d (.int .i64 i))] []) (fun i => l.length - i) 0 ⟨by omega, by omega⟩ (by exact eAx []) ?_; rintro i ⟨p1, p2⟩; have e1 : (i : Int).toNat = i := Int.toNat_natCast i; conv => whnf
 repeat' (first | ((first | (refine br_intro ?_ ?_ <;> intro hb <;> try simp only [brs] at hb) | omega | refine sAx ?_ | decide | assumption) <;> conv => whnf))
 · refine .ret _ ?_; conv => whnf
   refine ⟨[], ⟨?_, rfl⟩, trivial⟩; conv => lhs; whnf
   congr 2
   exact (ixF_hit (by omega) p2 (by rw [← hb]; simp)).symm
 · exact ⟨i + 1, ⟨by omega, all_step p2 (beq_eq_false_iff_ne.2 fun q => hb q.symm)⟩, by omega, (by exact eAx [])⟩
 · refine .ret _ ?_; conv => whnf
   refine ⟨[], ⟨?_, rfl⟩, trivial⟩; conv => lhs; whnf
   congr 2
   have : i = l.length := by omega
   subst this; exact (ixF_none p2).symm
theorem ix_memF (l : List (List UInt8)) (v : List UInt8) : decide (0 ≤ ixF (fun i => l.getD i [] == v) l.length) = decide (v ∈ l) := by
 rw [decide_eq_decide]; constructor
 · intro h; have := ixF_bd (p := fun i => l.getD i [] == v) (n := l.length); rw [← eq_of_beq (this.2.2 h)]; exact getD_mem (by omega)
 · intro h; obtain ⟨j, hj, rfl⟩ := mem_getD (d := []) h; exact ixF_pos hj (by simp)
theorem z153 (l : List (List UInt8)) (hl : l.length ≤ 2^40) (v : List UInt8) : FSpec Tryz.prog 171 [.d (strs l), .d (.str v)] [] (fun x r => x = .d (.bool (decide (v ∈ l))) ∧ r = []) := by
 refine spec_of hT (C := []) Tryz.func171 rfl Tryz.call171 rfl rfl rfl ?_; conv => whnf
 repeat' (first | (refine CallX.exact (z208 l hl v) rfl rfl ?_; rotate_right; conv => whnf) | ((first | (refine br_intro ?_ ?_ <;> intro hb <;> try simp only [brs] at hb) | omega | refine sAx ?_ | decide | assumption) <;> conv => whnf))
 refine .ret _ ?_; conv => whnf
 refine ⟨[], ⟨?_, rfl⟩, trivial⟩; conv => lhs; whnf
 rw [← ix_memF]
end Go.Proofs.YtophabkpfpbadaaGreatDoor
