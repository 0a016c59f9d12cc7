/- The contracts of library functions that the proof uses, at this program, in plain words (written by the kit's tool lay-plain.mjs; the unused left out). No conditions of its own. -/
import Derived.Shelf.Strings.Builder1
import Derived.Shelf.Strings.Builder2
import Derived.Shelf.Strings.OnBuilder
import Derived.Shelf.Small.Utf8
import Derived.Shelf.Small.Wraps
import Derived.Shelf.Strings.BuilderF
import Derived.Shelf.Strings.BuilderK
import Derived.Shelf.Strings.BuilderRune
import Derived.Shelf.Strings.Builder2Cap
import Derived.Shelf.Strconv.Atoi
import Derived.Shelf.Strconv.Itoa1
import Derived.Shelf.LaysM
import Derived.Shelf.Strconv.Itoa3
import Derived.Shelf.Strconv.AtoiErrFast
import Derived.Shelf.Strconv.ParseIntEmpty
import Derived.Shelf.Strconv.AtoiFail
import Derived.Shelf.Strconv.Clone
import Derived.Shelf.Strconv.SyntaxError
import Derived.Shelf.LaysC
import Derived.Shelf.Strconv.ToError
import Derived.Shelf.Strconv.Lower
import Derived.Shelf.Strconv.ParseUint10
import Derived.Shelf.Strconv.ParseUint10Empty
import Derived.Shelf.Strconv.ParseUint10Any
import Derived.Shelf.Strconv.ParseInt10
import Derived.Shelf.Strconv.AtoiLong
import Derived.Shelf.Strconv.AtoiInnerAll
import Derived.Shelf.Strconv.AtoiAll
import Derived.Shelf.Strings.Search1
import Derived.Shelf.Strings.Search2
import Derived.Shelf.Strings.Search3
import Derived.Shelf.Strings.Cut
import Derived.Shelf.Strings.Count
import Derived.Shelf.Strings.LastIndex
import Derived.Shelf.GgClosure.StringsIndexFunc
import Derived.Shelf.Strings.Prefix
import Derived.Shelf.Unicode.DecodeSlow
import Derived.Shelf.Unicode.DecodeAny
import Derived.Shelf.Strings.MapAny
import Derived.Shelf.Strings.BuilderCap
import Derived.Shelf.Strings.MapGrows
import Derived.Shelf.Unicode.ValidAny
import Derived.Test.YtanjcjdiabfggaaGreatDoorProg
namespace Go.Proofs
open Go.Shelf
def Tryz.lays156_ren : Go.Shelf.Ren := ⟨fun | 156 => 142 | 165 => 185 | 166 => 186 | 169 => 190 | 240 => 250 | 241 => 251 | 276 => 303 | 277 => 304 | n => n, fun | 31 => 62 | 9 => 9 | 3 => 3 | 4 => 4 | 0 => 0 | 20 => 20 | 72 => 249 | 76 => 256 | 70 => 247 | 37 => 171 | 75 => 255 | 127 => 304 | 164 => 324 | 5 => 5 | 80 => 261 | n => n, fun | n => n⟩
theorem Tryz.lays156 : Go.Proofs.Lays.n156 Tryz.prog Tryz.lays156_ren := {
 mixed := by kernel_rfl
 f156 := Tryz.func142.trans (congrArg some (by kernel_rfl))
 f165 := Tryz.func185.trans (congrArg some (by kernel_rfl))
 f166 := Tryz.func186.trans (congrArg some (by kernel_rfl))
 f169 := Tryz.func190.trans (congrArg some (by kernel_rfl))
 f240 := Tryz.func250.trans (congrArg some (by kernel_rfl))
 f241 := Tryz.func251.trans (congrArg some (by kernel_rfl))
 f276 := Tryz.func303.trans (congrArg some (by kernel_rfl))
 f277 := Tryz.func304.trans (congrArg some (by kernel_rfl))
 t0 := Tryz.underlying0
 a0 := Tryz.isAgg0
 z0 := Tryz.sizeOf0
 v0 := Tryz.zeroValue0
 t3 := Tryz.underlying3
 a3 := Tryz.isAgg3
 z3 := Tryz.sizeOf3
 v3 := Tryz.zeroValue3
 t4 := Tryz.underlying4
 a4 := Tryz.isAgg4
 z4 := Tryz.sizeOf4
 v4 := Tryz.zeroValue4
 t9 := Tryz.underlying9
 a9 := Tryz.isAgg9
 z9 := Tryz.sizeOf9
 v9 := Tryz.zeroValue9
 t20 := Tryz.underlying20
 a20 := Tryz.isAgg20
 z20 := Tryz.sizeOf20
 v20 := Tryz.zeroValue20
 t31 := Tryz.underlying62
 a31 := Tryz.isAgg62
 z31 := Tryz.sizeOf62
 v31 := Tryz.zeroValue62
 t37 := Tryz.underlying171
 a37 := Tryz.isAgg171
 z37 := Tryz.sizeOf171
 v37 := Tryz.zeroValue171
 t70 := Tryz.underlying247
 a70 := Tryz.isAgg247
 z70 := Tryz.sizeOf247
 v70 := Tryz.zeroValue247
 t72 := Tryz.underlying249
 a72 := Tryz.isAgg249
 z72 := Tryz.sizeOf249
 v72 := Tryz.zeroValue249
 t75 := Tryz.underlying255
 a75 := Tryz.isAgg255
 z75 := Tryz.sizeOf255
 v75 := Tryz.zeroValue255
 t76 := Tryz.underlying256
 a76 := Tryz.isAgg256
 z76 := Tryz.sizeOf256
 v76 := Tryz.zeroValue256
 t127 := Tryz.underlying304
 a127 := Tryz.isAgg304
 z127 := Tryz.sizeOf304
 v127 := Tryz.zeroValue304
 t164 := Tryz.underlying324
 a164 := Tryz.isAgg324
 z164 := Tryz.sizeOf324
 v164 := Tryz.zeroValue324 }
theorem Tryz.Builder_Extra_156 : Builder.Extra Tryz.prog Tryz.lays156_ren := {
 sizeBuilder := by kernel_rfl
 liesBuilder := by kernel_rfl
 t5 := Tryz.underlying5
 a5 := Tryz.isAgg5
 z5 := Tryz.sizeOf5
 v5 := Tryz.zeroValue5
 infoByte := by kernel_rfl
 cellsByte := by kernel_rfl
 sizeByte := by kernel_rfl
 neB5 := by decide }
open Go.RowKit in
theorem Tryz.strings_Join_none (a : Option Addr) (c : Nat) (sep : ByteArray) (w : World) :
 Calls Tryz.prog 142 #[.slice a 0 c, .string sep] w fun e w' => e = .returned (.string ⟨#[]⟩) ∧ w' = w := Any.strings_Join_none Tryz.lays156 Tryz.Builder_Extra_156 a c sep w
open Go.RowKit in
theorem Tryz.strings_Join (bk o c : Nat) (xs : List ByteArray) (sep : ByteArray) (w : World) (hcells : ∀ (j : Nat) x, xs[j]? = some x → w.cell? ⟨bk, o + j, none⟩ = some (.string x)) (hbk : bk < w.heap.size) (hN : xs.length ≤ 140737488355328) (hcap : xs.length ≤ c) (hlen : (Lib.join (xs.map (·.data.toList)) sep.data.toList).length ≤ 140737488355328) :
 Calls Tryz.prog 142 #[.slice (some ⟨bk, o, none⟩) xs.length c, .string sep] w fun e w' => e = .returned (.string ⟨(Lib.join (xs.map (·.data.toList)) sep.data.toList).toArray⟩) ∧ Below w.heap.size w w' := Any.strings_Join Tryz.lays156 Tryz.Builder_Extra_156 bk o c xs sep w hcells hbk hN hcap hlen
def Tryz.lays231_ren : Go.Shelf.Ren := ⟨fun | 231 => 239 | n => n, fun | 9 => 9 | 5 => 5 | 3 => 3 | 4 => 4 | n => n, fun | n => n⟩
def Tryz.lays160_ren : Go.Shelf.Ren := ⟨fun | 160 => 176 | 232 => 240 | 231 => 239 | 227 => 241 | 234 => 243 | 233 => 242 | 236 => 245 | 235 => 244 | 228 => 300 | 271 => 302 | 151 => 301 | 197 => 183 | 120 => 341 | 152 => 340 | 260 => 249 | 137 => 361 | 119 => 362 | 224 => 350 | 225 => 349 | 217 => 348 | 266 => 365 | n => n, fun | 9 => 9 | 4 => 4 | 3 => 3 | 5 => 5 | 117 => 298 | 116 => 297 | 0 => 0 | 124 => 301 | 21 => 21 | 105 => 250 | 46 => 284 | 119 => 280 | 139 => 283 | 138 => 282 | n => n, fun | 3 => 0 | 4 => 1 | n => n⟩
def Tryz.lays210_ren : Go.Shelf.Ren := ⟨fun | 210 => 77 | 206 => 126 | n => n, fun | 9 => 9 | 4 => 4 | 3 => 3 | n => n, fun | n => n⟩
def Tryz.lays103_ren : Go.Shelf.Ren := ⟨fun | 103 => 43 | 210 => 77 | 206 => 126 | n => n, fun | 9 => 9 | 4 => 4 | 24 => 116 | 3 => 3 | n => n, fun | n => n⟩
theorem Tryz.lays103 : Go.Proofs.Lays.n103 Tryz.prog Tryz.lays103_ren := {
 mixed := by kernel_rfl
 f103 := Tryz.func43.trans (congrArg some (by kernel_rfl))
 f206 := Tryz.func126.trans (congrArg some (by kernel_rfl))
 f210 := Tryz.func77.trans (congrArg some (by kernel_rfl))
 t3 := Tryz.underlying3
 a3 := Tryz.isAgg3
 z3 := Tryz.sizeOf3
 v3 := Tryz.zeroValue3
 t4 := Tryz.underlying4
 a4 := Tryz.isAgg4
 z4 := Tryz.sizeOf4
 v4 := Tryz.zeroValue4
 t9 := Tryz.underlying9
 a9 := Tryz.isAgg9
 z9 := Tryz.sizeOf9
 v9 := Tryz.zeroValue9
 t24 := Tryz.underlying116
 a24 := Tryz.isAgg116
 z24 := Tryz.sizeOf116
 v24 := Tryz.zeroValue116 }
open Go.RowKit in
theorem Tryz.strings_CutPrefix (s p : ByteArray) (w : World) :
 Calls Tryz.prog 43 #[.string s, .string p] w fun e w' => e = .returned (.tuple #[.string ⟨(Lib.trimPrefix s.data.toList p.data.toList).toArray⟩, .bool (Lib.hasPrefix s.data.toList p.data.toList)]) ∧ w' = w := Any.strings_CutPrefix Tryz.lays103 s p w
def Tryz.lays172_ren : Go.Shelf.Ren := ⟨fun | 172 => 237 | 244 => 298 | 245 => 299 | 247 => 335 | 279 => 336 | 280 => 337 | 281 => 338 | 282 => 339 | 287 => 358 | 316 => 359 | 171 => 215 | 205 => 360 | 321 => 371 | 322 => 372 | 243 => 286 | 246 => 331 | 283 => 354 | 284 => 355 | 285 => 356 | 286 => 357 | 129 => 364 | 317 => 367 | 318 => 368 | 319 => 369 | 320 => 370 | 337 => 374 | 338 => 375 | n => n, fun | 9 => 9 | 3 => 3 | 75 => 255 | 76 => 256 | 4 => 4 | 5 => 5 | 167 => 344 | 37 => 171 | 0 => 0 | 85 => 345 | 2 => 2 | 168 => 347 | 53 => 311 | 175 => 359 | 46 => 284 | 210 => 362 | 127 => 304 | 145 => 374 | 143 => 372 | 21 => 21 | 171 => 355 | 173 => 357 | 212 => 368 | 51 => 327 | 20 => 20 | 213 => 369 | 232 => 376 | 233 => 377 | 80 => 261 | n => n, fun | 15 => 7 | 16 => 8 | 17 => 9 | 18 => 10 | 19 => 11 | n => n⟩
def Tryz.laysM246_ren : Go.Shelf.Ren := ⟨fun | 246 => 331 | 283 => 354 | 284 => 355 | 285 => 356 | 286 => 357 | 129 => 364 | 317 => 367 | 318 => 368 | 319 => 369 | 320 => 370 | 337 => 374 | 338 => 375 | n => n, fun | 2 => 2 | 3 => 3 | 9 => 9 | 4 => 4 | 171 => 355 | 0 => 0 | 53 => 311 | 37 => 171 | 5 => 5 | 173 => 357 | 212 => 368 | 51 => 327 | 20 => 20 | 213 => 369 | 46 => 284 | 232 => 376 | 233 => 377 | n => n, fun | 17 => 9 | 18 => 10 | 19 => 11 | n => n⟩
def Tryz.laysM243_ren : Go.Shelf.Ren := ⟨fun | 243 => 286 | 246 => 331 | 283 => 354 | 284 => 355 | 285 => 356 | 286 => 357 | 129 => 364 | 317 => 367 | 318 => 368 | 319 => 369 | 320 => 370 | 337 => 374 | 338 => 375 | n => n, fun | 3 => 3 | 9 => 9 | 2 => 2 | 4 => 4 | 171 => 355 | 0 => 0 | 53 => 311 | 37 => 171 | 5 => 5 | 173 => 357 | 212 => 368 | 51 => 327 | 20 => 20 | 213 => 369 | 46 => 284 | 232 => 376 | 233 => 377 | n => n, fun | 17 => 9 | 18 => 10 | 19 => 11 | n => n⟩
def Tryz.laysM171_ren : Go.Shelf.Ren := ⟨fun | 171 => 215 | 243 => 286 | 246 => 331 | 283 => 354 | 284 => 355 | 285 => 356 | 286 => 357 | 129 => 364 | 317 => 367 | 318 => 368 | 319 => 369 | 320 => 370 | 337 => 374 | 338 => 375 | n => n, fun | 3 => 3 | 9 => 9 | 2 => 2 | 4 => 4 | 171 => 355 | 0 => 0 | 53 => 311 | 37 => 171 | 5 => 5 | 173 => 357 | 212 => 368 | 51 => 327 | 20 => 20 | 213 => 369 | 46 => 284 | 232 => 376 | 233 => 377 | n => n, fun | 17 => 9 | 18 => 10 | 19 => 11 | n => n⟩
def Tryz.lays171_ren : Go.Shelf.Ren := ⟨fun | 171 => 215 | 243 => 286 | 246 => 331 | 283 => 354 | 284 => 355 | 285 => 356 | 286 => 357 | 129 => 364 | 317 => 367 | 318 => 368 | 319 => 369 | 320 => 370 | 337 => 374 | 338 => 375 | n => n, fun | 3 => 3 | 9 => 9 | 2 => 2 | 4 => 4 | 171 => 355 | 0 => 0 | 53 => 311 | 37 => 171 | 5 => 5 | 173 => 357 | 212 => 368 | 51 => 327 | 20 => 20 | 213 => 369 | 46 => 284 | 232 => 376 | 233 => 377 | n => n, fun | 17 => 9 | 18 => 10 | 19 => 11 | n => n⟩
theorem Tryz.lays171 : Go.Proofs.Lays.n171 Tryz.prog Tryz.lays171_ren := {
 mixed := by kernel_rfl
 f129 := Tryz.func364.trans (congrArg some (by kernel_rfl))
 f171 := Tryz.func215.trans (congrArg some (by kernel_rfl))
 f243 := Tryz.func286.trans (congrArg some (by kernel_rfl))
 f246 := Tryz.func331.trans (congrArg some (by kernel_rfl))
 f283 := Tryz.func354.trans (congrArg some (by kernel_rfl))
 f284 := Tryz.func355.trans (congrArg some (by kernel_rfl))
 f285 := Tryz.func356.trans (congrArg some (by kernel_rfl))
 f286 := Tryz.func357.trans (congrArg some (by kernel_rfl))
 f317 := Tryz.func367.trans (congrArg some (by kernel_rfl))
 f318 := Tryz.func368.trans (congrArg some (by kernel_rfl))
 f319 := Tryz.func369.trans (congrArg some (by kernel_rfl))
 f320 := Tryz.func370.trans (congrArg some (by kernel_rfl))
 f337 := Tryz.func374.trans (congrArg some (by kernel_rfl))
 f338 := Tryz.func375.trans (congrArg some (by kernel_rfl))
 t0 := Tryz.underlying0
 a0 := Tryz.isAgg0
 z0 := Tryz.sizeOf0
 v0 := Tryz.zeroValue0
 t2 := Tryz.underlying2
 a2 := Tryz.isAgg2
 z2 := Tryz.sizeOf2
 v2 := Tryz.zeroValue2
 t3 := Tryz.underlying3
 a3 := Tryz.isAgg3
 z3 := Tryz.sizeOf3
 v3 := Tryz.zeroValue3
 t4 := Tryz.underlying4
 a4 := Tryz.isAgg4
 z4 := Tryz.sizeOf4
 v4 := Tryz.zeroValue4
 t5 := Tryz.underlying5
 a5 := Tryz.isAgg5
 z5 := Tryz.sizeOf5
 v5 := Tryz.zeroValue5
 t9 := Tryz.underlying9
 a9 := Tryz.isAgg9
 z9 := Tryz.sizeOf9
 v9 := Tryz.zeroValue9
 t20 := Tryz.underlying20
 a20 := Tryz.isAgg20
 z20 := Tryz.sizeOf20
 v20 := Tryz.zeroValue20
 t37 := Tryz.underlying171
 a37 := Tryz.isAgg171
 z37 := Tryz.sizeOf171
 v37 := Tryz.zeroValue171
 t46 := Tryz.underlying284
 a46 := Tryz.isAgg284
 z46 := Tryz.sizeOf284
 v46 := Tryz.zeroValue284
 t51 := Tryz.underlying327
 a51 := Tryz.isAgg327
 z51 := Tryz.sizeOf327
 v51 := Tryz.zeroValue327
 t53 := Tryz.underlying311
 a53 := Tryz.isAgg311
 z53 := Tryz.sizeOf311
 v53 := Tryz.zeroValue311
 t171 := Tryz.underlying355
 a171 := Tryz.isAgg355
 z171 := Tryz.sizeOf355
 v171 := Tryz.zeroValue355
 t173 := Tryz.underlying357
 a173 := Tryz.isAgg357
 z173 := Tryz.sizeOf357
 v173 := Tryz.zeroValue357
 t212 := Tryz.underlying368
 a212 := Tryz.isAgg368
 z212 := Tryz.sizeOf368
 v212 := Tryz.zeroValue368
 t213 := Tryz.underlying369
 a213 := Tryz.isAgg369
 z213 := Tryz.sizeOf369
 t232 := Tryz.underlying376
 a232 := Tryz.isAgg376
 z232 := Tryz.sizeOf376
 v232 := Tryz.zeroValue376
 t233 := Tryz.underlying377
 a233 := Tryz.isAgg377
 z233 := Tryz.sizeOf377
 v233 := Tryz.zeroValue377
 g17 := by kernel_rfl
 g18 := by kernel_rfl
 g19 := by kernel_rfl }
open Go.RowKit Go.Sort Go.Lib in
theorem Tryz.strconv_Itoa_small (i : Nat) (hi : i < 100) (w : World) :
 Calls Tryz.prog 215 #[.int .i64 i] w fun e w' => e = .returned (.string ⟨(Lib.decDigits i).toArray⟩) ∧ w' = w := Any.strconv_Itoa_small Tryz.lays171 i hi w
def Tryz.laysC172_ren : Go.Shelf.Ren := ⟨fun | 172 => 237 | 244 => 298 | 245 => 299 | 247 => 335 | 279 => 336 | 280 => 337 | 281 => 338 | 282 => 339 | 287 => 358 | 316 => 359 | 171 => 215 | 205 => 360 | 321 => 371 | 322 => 372 | 243 => 286 | 246 => 331 | 283 => 354 | 284 => 355 | 285 => 356 | 286 => 357 | 129 => 364 | 317 => 367 | 318 => 368 | 319 => 369 | 320 => 370 | 337 => 374 | 338 => 375 | n => n, fun | 9 => 9 | 3 => 3 | 75 => 255 | 76 => 256 | 4 => 4 | 5 => 5 | 167 => 344 | 37 => 171 | 0 => 0 | 85 => 345 | 2 => 2 | 168 => 347 | 53 => 311 | 175 => 359 | 46 => 284 | 210 => 362 | 127 => 304 | 145 => 374 | 143 => 372 | 21 => 21 | 171 => 355 | 173 => 357 | 212 => 368 | 51 => 327 | 20 => 20 | 213 => 369 | 232 => 376 | 233 => 377 | 80 => 261 | n => n, fun | 15 => 7 | 16 => 8 | 17 => 9 | 18 => 10 | 19 => 11 | n => n⟩
theorem Tryz.laysC172 : Go.Proofs.LaysC.n172 Tryz.prog Tryz.laysC172_ren := {
 mixed := by kernel_rfl
 f129 := Tryz.func364.trans (congrArg some (by kernel_rfl))
 f171 := Tryz.func215.trans (congrArg some (by kernel_rfl))
 f172 := Tryz.func237.trans (congrArg some (by kernel_rfl))
 f205 := Tryz.func360.trans (congrArg some (by kernel_rfl))
 f243 := Tryz.func286.trans (congrArg some (by kernel_rfl))
 f244 := Tryz.func298.trans (congrArg some (by kernel_rfl))
 f245 := Tryz.func299.trans (congrArg some (by kernel_rfl))
 f246 := Tryz.func331.trans (congrArg some (by kernel_rfl))
 f247 := Tryz.func335.trans (congrArg some (by kernel_rfl))
 f279 := Tryz.func336.trans (congrArg some (by kernel_rfl))
 f280 := Tryz.func337.trans (congrArg some (by kernel_rfl))
 f281 := Tryz.func338.trans (congrArg some (by kernel_rfl))
 f282 := Tryz.func339.trans (congrArg some (by kernel_rfl))
 f283 := Tryz.func354.trans (congrArg some (by kernel_rfl))
 f284 := Tryz.func355.trans (congrArg some (by kernel_rfl))
 f285 := Tryz.func356.trans (congrArg some (by kernel_rfl))
 f286 := Tryz.func357.trans (congrArg some (by kernel_rfl))
 f287 := Tryz.func358.trans (congrArg some (by kernel_rfl))
 f316 := Tryz.func359.trans (congrArg some (by kernel_rfl))
 f317 := Tryz.func367.trans (congrArg some (by kernel_rfl))
 f318 := Tryz.func368.trans (congrArg some (by kernel_rfl))
 f319 := Tryz.func369.trans (congrArg some (by kernel_rfl))
 f320 := Tryz.func370.trans (congrArg some (by kernel_rfl))
 f321 := Tryz.func371.trans (congrArg some (by kernel_rfl))
 f322 := Tryz.func372.trans (congrArg some (by kernel_rfl))
 f337 := Tryz.func374.trans (congrArg some (by kernel_rfl))
 f338 := Tryz.func375.trans (congrArg some (by kernel_rfl))
 t0 := Tryz.underlying0
 a0 := Tryz.isAgg0
 z0 := Tryz.sizeOf0
 v0 := Tryz.zeroValue0
 t2 := Tryz.underlying2
 a2 := Tryz.isAgg2
 z2 := Tryz.sizeOf2
 v2 := Tryz.zeroValue2
 t3 := Tryz.underlying3
 a3 := Tryz.isAgg3
 z3 := Tryz.sizeOf3
 v3 := Tryz.zeroValue3
 t4 := Tryz.underlying4
 a4 := Tryz.isAgg4
 z4 := Tryz.sizeOf4
 v4 := Tryz.zeroValue4
 t5 := Tryz.underlying5
 a5 := Tryz.isAgg5
 z5 := Tryz.sizeOf5
 v5 := Tryz.zeroValue5
 t9 := Tryz.underlying9
 a9 := Tryz.isAgg9
 z9 := Tryz.sizeOf9
 v9 := Tryz.zeroValue9
 t20 := Tryz.underlying20
 a20 := Tryz.isAgg20
 z20 := Tryz.sizeOf20
 v20 := Tryz.zeroValue20
 t21 := Tryz.underlying21
 a21 := Tryz.isAgg21
 z21 := Tryz.sizeOf21
 v21 := Tryz.zeroValue21
 t37 := Tryz.underlying171
 a37 := Tryz.isAgg171
 z37 := Tryz.sizeOf171
 v37 := Tryz.zeroValue171
 t46 := Tryz.underlying284
 a46 := Tryz.isAgg284
 z46 := Tryz.sizeOf284
 v46 := Tryz.zeroValue284
 t51 := Tryz.underlying327
 a51 := Tryz.isAgg327
 z51 := Tryz.sizeOf327
 v51 := Tryz.zeroValue327
 t53 := Tryz.underlying311
 a53 := Tryz.isAgg311
 z53 := Tryz.sizeOf311
 v53 := Tryz.zeroValue311
 t75 := Tryz.underlying255
 a75 := Tryz.isAgg255
 z75 := Tryz.sizeOf255
 v75 := Tryz.zeroValue255
 t76 := Tryz.underlying256
 a76 := Tryz.isAgg256
 z76 := Tryz.sizeOf256
 v76 := Tryz.zeroValue256
 t85 := Tryz.underlying345
 a85 := Tryz.isAgg345
 z85 := Tryz.sizeOf345
 v85 := Tryz.zeroValue345
 t127 := Tryz.underlying304
 a127 := Tryz.isAgg304
 z127 := Tryz.sizeOf304
 v127 := Tryz.zeroValue304
 t143 := Tryz.underlying372
 a143 := Tryz.isAgg372
 z143 := Tryz.sizeOf372
 v143 := Tryz.zeroValue372
 t145 := Tryz.underlying374
 a145 := Tryz.isAgg374
 z145 := Tryz.sizeOf374
 v145 := Tryz.zeroValue374
 t167 := Tryz.underlying344
 a167 := Tryz.isAgg344
 z167 := Tryz.sizeOf344
 v167 := Tryz.zeroValue344
 t168 := Tryz.underlying347
 a168 := Tryz.isAgg347
 z168 := Tryz.sizeOf347
 v168 := Tryz.zeroValue347
 t171 := Tryz.underlying355
 a171 := Tryz.isAgg355
 z171 := Tryz.sizeOf355
 v171 := Tryz.zeroValue355
 t173 := Tryz.underlying357
 a173 := Tryz.isAgg357
 z173 := Tryz.sizeOf357
 v173 := Tryz.zeroValue357
 t175 := Tryz.underlying359
 a175 := Tryz.isAgg359
 z175 := Tryz.sizeOf359
 v175 := Tryz.zeroValue359
 t210 := Tryz.underlying362
 a210 := Tryz.isAgg362
 z210 := Tryz.sizeOf362
 v210 := Tryz.zeroValue362
 t212 := Tryz.underlying368
 a212 := Tryz.isAgg368
 z212 := Tryz.sizeOf368
 v212 := Tryz.zeroValue368
 t213 := Tryz.underlying369
 a213 := Tryz.isAgg369
 z213 := Tryz.sizeOf369
 t232 := Tryz.underlying376
 a232 := Tryz.isAgg376
 z232 := Tryz.sizeOf376
 v232 := Tryz.zeroValue376
 t233 := Tryz.underlying377
 a233 := Tryz.isAgg377
 z233 := Tryz.sizeOf377
 v233 := Tryz.zeroValue377
 g15 := by kernel_rfl
 g16 := by kernel_rfl
 g17 := by kernel_rfl
 g18 := by kernel_rfl
 g19 := by kernel_rfl
 t80 := Tryz.underlying261
 a80 := Tryz.isAgg261
 z80 := Tryz.sizeOf261
 v80 := Tryz.zeroValue261
 i0 := by kernel_rfl
 i2 := by kernel_rfl
 i3 := by kernel_rfl
 i4 := by kernel_rfl
 i5 := by kernel_rfl
 i9 := by kernel_rfl
 i20 := by kernel_rfl
 i21 := by kernel_rfl
 i37 := by kernel_rfl
 i46 := by kernel_rfl
 i51 := by kernel_rfl
 i53 := by kernel_rfl
 i75 := by kernel_rfl
 i76 := by kernel_rfl
 i80 := by kernel_rfl
 i85 := by kernel_rfl
 i127 := by kernel_rfl
 i143 := by kernel_rfl
 i145 := by kernel_rfl
 i167 := by kernel_rfl
 i168 := by kernel_rfl
 i171 := by kernel_rfl
 i173 := by kernel_rfl
 i175 := by kernel_rfl
 i210 := by kernel_rfl
 i212 := by kernel_rfl
 i232 := by kernel_rfl
 i233 := by kernel_rfl
 m15 := by kernel_rfl
 m16 := by kernel_rfl
 m17 := by kernel_rfl
 m18 := by kernel_rfl
 m19 := by kernel_rfl
 c0 := by kernel_rfl
 c2 := by kernel_rfl
 c3 := by kernel_rfl
 c4 := by kernel_rfl
 c5 := by kernel_rfl
 c9 := by kernel_rfl
 c20 := by kernel_rfl
 c21 := by kernel_rfl
 c37 := by kernel_rfl
 c46 := by kernel_rfl
 c51 := by kernel_rfl
 c53 := by kernel_rfl
 c75 := by kernel_rfl
 c76 := by kernel_rfl
 c80 := by kernel_rfl
 c85 := by kernel_rfl
 c127 := by kernel_rfl
 c143 := by kernel_rfl
 c145 := by kernel_rfl
 c167 := by kernel_rfl
 c168 := by kernel_rfl
 c171 := by kernel_rfl
 c173 := by kernel_rfl
 c175 := by kernel_rfl
 c210 := by kernel_rfl
 c212 := by kernel_rfl
 c213 := by kernel_rfl
 c232 := by kernel_rfl
 c233 := by kernel_rfl }
open Go.RowKit in
theorem Tryz.strconv_Atoi_ok (s : ByteArray) (hmax : s.size ≤ 9223372036854775806) (v : Int) (h : Lib.atoiAll s.data.toList = .ok v) (w : World) :
 Calls Tryz.prog 237 #[.string s] w fun e w' => e = .returned (.tuple #[.int .i64 v, .nilIface]) ∧ (w' = w ∨ ∃ t, w' = Lib.bytesWorld w 5 t) := Any.strconv_Atoi_ok Tryz.laysC172 s hmax v h w
open Go.RowKit in
theorem Tryz.strconv_Atoi_syntax (s : ByteArray) (hlim : s.size ≤ 281474976710656) (h : Lib.atoiAll s.data.toList = Lib.NumEnd.syntax) (ev : Value) (w : World) (hv : w.cell? ⟨7, 0, none⟩ = some ev) (hev : ev = .nilIface ∨ ∃ te pe, ev = .iface te pe) :
 Calls Tryz.prog 237 #[.string s] w fun e w' => ∃ N, e = .returned (.tuple #[.int .i64 (0), .iface 347 (.pointer (some ⟨N, 0, none⟩))]) ∧ w.heap.size ≤ N ∧ w'.heap[N]? = some (.cells #[.string ⟨#[65, 116, 111, 105]⟩, .string s, ev] 362 (0, 0)) ∧ Below w.heap.size w w' := Any.strconv_Atoi_syntax Tryz.laysC172 s hlim h ev w hv hev
def Tryz.lays219_ren : Go.Shelf.Ren := ⟨fun | 219 => 321 | 217 => 348 | 225 => 349 | 224 => 350 | 267 => 351 | 266 => 365 | 314 => 366 | n => n, fun | 9 => 9 | 3 => 3 | 4 => 4 | 5 => 5 | 46 => 284 | 146 => 365 | 51 => 327 | n => n, fun | 1 => 4 | n => n⟩
def Tryz.lays143_ren : Go.Shelf.Ren := ⟨fun | 143 => 281 | 219 => 321 | 217 => 348 | 225 => 349 | 224 => 350 | 267 => 351 | 266 => 365 | 314 => 366 | n => n, fun | 9 => 9 | 3 => 3 | 4 => 4 | 5 => 5 | 46 => 284 | 146 => 365 | 51 => 327 | n => n, fun | 1 => 4 | n => n⟩
theorem Tryz.lays143 : Go.Proofs.Lays.n143 Tryz.prog Tryz.lays143_ren := {
 mixed := by kernel_rfl
 f143 := Tryz.func281.trans (congrArg some (by kernel_rfl))
 f217 := Tryz.func348.trans (congrArg some (by kernel_rfl))
 f219 := Tryz.func321.trans (congrArg some (by kernel_rfl))
 f224 := Tryz.func350.trans (congrArg some (by kernel_rfl))
 f225 := Tryz.func349.trans (congrArg some (by kernel_rfl))
 f266 := Tryz.func365.trans (congrArg some (by kernel_rfl))
 f267 := Tryz.func351.trans (congrArg some (by kernel_rfl))
 f314 := Tryz.func366.trans (congrArg some (by kernel_rfl))
 t3 := Tryz.underlying3
 a3 := Tryz.isAgg3
 z3 := Tryz.sizeOf3
 v3 := Tryz.zeroValue3
 t4 := Tryz.underlying4
 a4 := Tryz.isAgg4
 z4 := Tryz.sizeOf4
 v4 := Tryz.zeroValue4
 t5 := Tryz.underlying5
 a5 := Tryz.isAgg5
 z5 := Tryz.sizeOf5
 v5 := Tryz.zeroValue5
 t9 := Tryz.underlying9
 a9 := Tryz.isAgg9
 z9 := Tryz.sizeOf9
 v9 := Tryz.zeroValue9
 t46 := Tryz.underlying284
 a46 := Tryz.isAgg284
 z46 := Tryz.sizeOf284
 v46 := Tryz.zeroValue284
 t51 := Tryz.underlying327
 a51 := Tryz.isAgg327
 z51 := Tryz.sizeOf327
 v51 := Tryz.zeroValue327
 t146 := Tryz.underlying365
 a146 := Tryz.isAgg365
 z146 := Tryz.sizeOf365
 v146 := Tryz.zeroValue365
 g1 := by kernel_rfl }
open Go.RowKit Go.Lib in
theorem Tryz.strings_Index (s sub : ByteArray) (m : Int) (w : World) (hs : s.size < 4294967281) (hm : w.cell? ⟨4, 0, none⟩ = some (.int .i64 m)) :
 Calls Tryz.prog 281 #[.string s, .string sub] w fun e w' => e = .returned (.int .i64 (Lib.index s.data.toList sub.data.toList)) ∧ w' = w := Any.strings_Index Tryz.lays143 s sub m w hs hm
def Tryz.lays144_ren : Go.Shelf.Ren := ⟨fun | 144 => 296 | 143 => 281 | 219 => 321 | 217 => 348 | 225 => 349 | 224 => 350 | 267 => 351 | 266 => 365 | 314 => 366 | n => n, fun | 9 => 9 | 4 => 4 | 3 => 3 | 5 => 5 | 46 => 284 | 146 => 365 | 51 => 327 | n => n, fun | 1 => 4 | n => n⟩
theorem Tryz.lays144 : Go.Proofs.Lays.n144 Tryz.prog Tryz.lays144_ren := {
 mixed := by kernel_rfl
 f143 := Tryz.func281.trans (congrArg some (by kernel_rfl))
 f144 := Tryz.func296.trans (congrArg some (by kernel_rfl))
 f217 := Tryz.func348.trans (congrArg some (by kernel_rfl))
 f219 := Tryz.func321.trans (congrArg some (by kernel_rfl))
 f224 := Tryz.func350.trans (congrArg some (by kernel_rfl))
 f225 := Tryz.func349.trans (congrArg some (by kernel_rfl))
 f266 := Tryz.func365.trans (congrArg some (by kernel_rfl))
 f267 := Tryz.func351.trans (congrArg some (by kernel_rfl))
 f314 := Tryz.func366.trans (congrArg some (by kernel_rfl))
 t3 := Tryz.underlying3
 a3 := Tryz.isAgg3
 z3 := Tryz.sizeOf3
 v3 := Tryz.zeroValue3
 t4 := Tryz.underlying4
 a4 := Tryz.isAgg4
 z4 := Tryz.sizeOf4
 v4 := Tryz.zeroValue4
 t5 := Tryz.underlying5
 a5 := Tryz.isAgg5
 z5 := Tryz.sizeOf5
 v5 := Tryz.zeroValue5
 t9 := Tryz.underlying9
 a9 := Tryz.isAgg9
 z9 := Tryz.sizeOf9
 v9 := Tryz.zeroValue9
 t46 := Tryz.underlying284
 a46 := Tryz.isAgg284
 z46 := Tryz.sizeOf284
 v46 := Tryz.zeroValue284
 t51 := Tryz.underlying327
 a51 := Tryz.isAgg327
 z51 := Tryz.sizeOf327
 v51 := Tryz.zeroValue327
 t146 := Tryz.underlying365
 a146 := Tryz.isAgg365
 z146 := Tryz.sizeOf365
 v146 := Tryz.zeroValue365
 g1 := by kernel_rfl }
open Go.RowKit Go.Lib in
theorem Tryz.strings_Contains (s sub : ByteArray) (m : Int) (w : World) (hs : s.size < 4294967281) (hm : w.cell? ⟨4, 0, none⟩ = some (.int .i64 m)) :
 Calls Tryz.prog 296 #[.string s, .string sub] w fun e w' => e = .returned (.bool (Lib.contains s.data.toList sub.data.toList)) ∧ w' = w := Any.strings_Contains Tryz.lays144 s sub m w hs hm
def Tryz.lays145_ren : Go.Shelf.Ren := ⟨fun | 145 => 222 | 220 => 289 | 219 => 321 | 217 => 348 | 225 => 349 | 224 => 350 | 267 => 351 | 266 => 365 | 314 => 366 | n => n, fun | 9 => 9 | 4 => 4 | 59 => 285 | 3 => 3 | 5 => 5 | 46 => 284 | 146 => 365 | 51 => 327 | n => n, fun | 1 => 4 | n => n⟩
theorem Tryz.lays145 : Go.Proofs.Lays.n145 Tryz.prog Tryz.lays145_ren := {
 mixed := by kernel_rfl
 f145 := Tryz.func222.trans (congrArg some (by kernel_rfl))
 f217 := Tryz.func348.trans (congrArg some (by kernel_rfl))
 f219 := Tryz.func321.trans (congrArg some (by kernel_rfl))
 f220 := Tryz.func289.trans (congrArg some (by kernel_rfl))
 f224 := Tryz.func350.trans (congrArg some (by kernel_rfl))
 f225 := Tryz.func349.trans (congrArg some (by kernel_rfl))
 f266 := Tryz.func365.trans (congrArg some (by kernel_rfl))
 f267 := Tryz.func351.trans (congrArg some (by kernel_rfl))
 f314 := Tryz.func366.trans (congrArg some (by kernel_rfl))
 t3 := Tryz.underlying3
 a3 := Tryz.isAgg3
 z3 := Tryz.sizeOf3
 v3 := Tryz.zeroValue3
 t4 := Tryz.underlying4
 a4 := Tryz.isAgg4
 z4 := Tryz.sizeOf4
 v4 := Tryz.zeroValue4
 t5 := Tryz.underlying5
 a5 := Tryz.isAgg5
 z5 := Tryz.sizeOf5
 v5 := Tryz.zeroValue5
 t9 := Tryz.underlying9
 a9 := Tryz.isAgg9
 z9 := Tryz.sizeOf9
 v9 := Tryz.zeroValue9
 t46 := Tryz.underlying284
 a46 := Tryz.isAgg284
 z46 := Tryz.sizeOf284
 v46 := Tryz.zeroValue284
 t51 := Tryz.underlying327
 a51 := Tryz.isAgg327
 z51 := Tryz.sizeOf327
 v51 := Tryz.zeroValue327
 t59 := Tryz.underlying285
 a59 := Tryz.isAgg285
 z59 := Tryz.sizeOf285
 v59 := Tryz.zeroValue285
 t146 := Tryz.underlying365
 a146 := Tryz.isAgg365
 z146 := Tryz.sizeOf365
 v146 := Tryz.zeroValue365
 g1 := by kernel_rfl }
open Go.RowKit Go.Lib in
theorem Tryz.strings_Cut (s sep : ByteArray) (m : Int) (w : World) (hs : s.size < 4294967281) (hm : w.cell? ⟨4, 0, none⟩ = some (.int .i64 m)) :
 Calls Tryz.prog 222 #[.string s, .string sep] w fun e w' => e = .returned (.tuple #[.string ⟨(Lib.cut s.data.toList sep.data.toList).1.toArray⟩, .string ⟨(Lib.cut s.data.toList sep.data.toList).2.1.toArray⟩, .bool (Lib.cut s.data.toList sep.data.toList).2.2]) ∧ ∃ n, w' = w.drewN n := Any.strings_Cut Tryz.lays145 s sep m w hs hm
def Tryz.lays138_ren : Go.Shelf.Ren := ⟨fun | 138 => 278 | 195 => 318 | 218 => 319 | 143 => 281 | 219 => 321 | 217 => 348 | 225 => 349 | 224 => 350 | 267 => 351 | 266 => 365 | 314 => 366 | n => n, fun | 9 => 9 | 3 => 3 | 4 => 4 | 5 => 5 | 0 => 0 | 46 => 284 | 146 => 365 | 51 => 327 | n => n, fun | 1 => 4 | n => n⟩
theorem Tryz.lays138 : Go.Proofs.Lays.n138 Tryz.prog Tryz.lays138_ren := {
 mixed := by kernel_rfl
 f138 := Tryz.func278.trans (congrArg some (by kernel_rfl))
 f143 := Tryz.func281.trans (congrArg some (by kernel_rfl))
 f195 := Tryz.func318.trans (congrArg some (by kernel_rfl))
 f217 := Tryz.func348.trans (congrArg some (by kernel_rfl))
 f218 := Tryz.func319.trans (congrArg some (by kernel_rfl))
 f219 := Tryz.func321.trans (congrArg some (by kernel_rfl))
 f224 := Tryz.func350.trans (congrArg some (by kernel_rfl))
 f225 := Tryz.func349.trans (congrArg some (by kernel_rfl))
 f266 := Tryz.func365.trans (congrArg some (by kernel_rfl))
 f267 := Tryz.func351.trans (congrArg some (by kernel_rfl))
 f314 := Tryz.func366.trans (congrArg some (by kernel_rfl))
 t0 := Tryz.underlying0
 a0 := Tryz.isAgg0
 z0 := Tryz.sizeOf0
 v0 := Tryz.zeroValue0
 t3 := Tryz.underlying3
 a3 := Tryz.isAgg3
 z3 := Tryz.sizeOf3
 v3 := Tryz.zeroValue3
 t4 := Tryz.underlying4
 a4 := Tryz.isAgg4
 z4 := Tryz.sizeOf4
 v4 := Tryz.zeroValue4
 t5 := Tryz.underlying5
 a5 := Tryz.isAgg5
 z5 := Tryz.sizeOf5
 v5 := Tryz.zeroValue5
 t9 := Tryz.underlying9
 a9 := Tryz.isAgg9
 z9 := Tryz.sizeOf9
 v9 := Tryz.zeroValue9
 t46 := Tryz.underlying284
 a46 := Tryz.isAgg284
 z46 := Tryz.sizeOf284
 v46 := Tryz.zeroValue284
 t51 := Tryz.underlying327
 a51 := Tryz.isAgg327
 z51 := Tryz.sizeOf327
 v51 := Tryz.zeroValue327
 t146 := Tryz.underlying365
 a146 := Tryz.isAgg365
 z146 := Tryz.sizeOf365
 v146 := Tryz.zeroValue365
 g1 := by kernel_rfl }
open Go.RowKit Go.Lib in
theorem Tryz.strings_Count_one (s : ByteArray) (c : UInt8) (w : World) :
 Calls Tryz.prog 278 #[.string s, .string ⟨#[c]⟩] w fun e w' => e = .returned (.int .i64 (Lib.countByte s.data.toList c)) ∧ w' = w := Any.strings_Count_one Tryz.lays138 s c w
def Tryz.lays149_ren : Go.Shelf.Ren := ⟨fun | 149 => 295 | 222 => 334 | n => n, fun | 9 => 9 | 5 => 5 | 3 => 3 | 4 => 4 | n => n, fun | n => n⟩
theorem Tryz.lays149 : Go.Proofs.Lays.n149 Tryz.prog Tryz.lays149_ren := {
 mixed := by kernel_rfl
 f149 := Tryz.func295.trans (congrArg some (by kernel_rfl))
 f222 := Tryz.func334.trans (congrArg some (by kernel_rfl))
 t3 := Tryz.underlying3
 a3 := Tryz.isAgg3
 z3 := Tryz.sizeOf3
 v3 := Tryz.zeroValue3
 t4 := Tryz.underlying4
 a4 := Tryz.isAgg4
 z4 := Tryz.sizeOf4
 v4 := Tryz.zeroValue4
 t5 := Tryz.underlying5
 a5 := Tryz.isAgg5
 z5 := Tryz.sizeOf5
 v5 := Tryz.zeroValue5
 t9 := Tryz.underlying9
 a9 := Tryz.isAgg9
 z9 := Tryz.sizeOf9
 v9 := Tryz.zeroValue9 }
open Go.RowKit Go.Lib in
theorem Tryz.strings_LastIndexByte (s : ByteArray) (c : Int) (hs : s.size < 4611686018427387904) (w : World) :
 Calls Tryz.prog 295 #[.string s, .int .u8 c] w fun e w' => e = .returned (.int .i64 (Lib.lastIndexByte s c)) ∧ w' = w := Any.strings_LastIndexByte Tryz.lays149 s c hs w
def Tryz.lays99_ren : Go.Shelf.Ren := ⟨fun | 99 => 253 | 206 => 126 | n => n, fun | 9 => 9 | 4 => 4 | 3 => 3 | n => n, fun | n => n⟩
theorem Tryz.lays99 : Go.Proofs.Lays.n99 Tryz.prog Tryz.lays99_ren := {
 mixed := by kernel_rfl
 f99 := Tryz.func253.trans (congrArg some (by kernel_rfl))
 f206 := Tryz.func126.trans (congrArg some (by kernel_rfl))
 t3 := Tryz.underlying3
 a3 := Tryz.isAgg3
 z3 := Tryz.sizeOf3
 v3 := Tryz.zeroValue3
 t4 := Tryz.underlying4
 a4 := Tryz.isAgg4
 z4 := Tryz.sizeOf4
 v4 := Tryz.zeroValue4
 t9 := Tryz.underlying9
 a9 := Tryz.isAgg9
 z9 := Tryz.sizeOf9
 v9 := Tryz.zeroValue9 }
open Go.RowKit Go.Lib in
theorem Tryz.strings_HasPrefix (s p : ByteArray) (w : World) :
 Calls Tryz.prog 253 #[.string s, .string p] w fun e w' => e = .returned (.bool (Lib.hasPrefix s.data.toList p.data.toList)) ∧ w' = w := Any.strings_HasPrefix Tryz.lays99 s p w
def Tryz.lays230_ren : Go.Shelf.Ren := ⟨fun | 230 => 118 | 197 => 183 | 118 => 184 | 165 => 185 | 166 => 186 | 168 => 187 | 270 => 188 | 167 => 189 | 169 => 190 | 260 => 249 | 240 => 250 | 241 => 251 | 242 => 252 | 276 => 303 | 277 => 304 | 278 => 305 | n => n, fun | 107 => 189 | 9 => 9 | 72 => 249 | 0 => 0 | 4 => 4 | 3 => 3 | 21 => 21 | 105 => 250 | 76 => 256 | 5 => 5 | 75 => 255 | 70 => 247 | 20 => 20 | 37 => 171 | 127 => 304 | 119 => 280 | 46 => 284 | 139 => 283 | 138 => 282 | 164 => 324 | 51 => 327 | 80 => 261 | n => n, fun | 3 => 0 | 4 => 1 | n => n⟩
theorem Tryz.lays230 : Go.Proofs.Lays.n230 Tryz.prog Tryz.lays230_ren := {
 mixed := by kernel_rfl
 f118 := Tryz.func184.trans (congrArg some (by kernel_rfl))
 f165 := Tryz.func185.trans (congrArg some (by kernel_rfl))
 f166 := Tryz.func186.trans (congrArg some (by kernel_rfl))
 f167 := Tryz.func189.trans (congrArg some (by kernel_rfl))
 f168 := Tryz.func187.trans (congrArg some (by kernel_rfl))
 f169 := Tryz.func190.trans (congrArg some (by kernel_rfl))
 f197 := Tryz.func183.trans (congrArg some (by kernel_rfl))
 f230 := Tryz.func118.trans (congrArg some (by kernel_rfl))
 f240 := Tryz.func250.trans (congrArg some (by kernel_rfl))
 f241 := Tryz.func251.trans (congrArg some (by kernel_rfl))
 f242 := Tryz.func252.trans (congrArg some (by kernel_rfl))
 f260 := Tryz.func249.trans (congrArg some (by kernel_rfl))
 f270 := Tryz.func188.trans (congrArg some (by kernel_rfl))
 f276 := Tryz.func303.trans (congrArg some (by kernel_rfl))
 f277 := Tryz.func304.trans (congrArg some (by kernel_rfl))
 f278 := Tryz.func305.trans (congrArg some (by kernel_rfl))
 t0 := Tryz.underlying0
 a0 := Tryz.isAgg0
 z0 := Tryz.sizeOf0
 v0 := Tryz.zeroValue0
 t3 := Tryz.underlying3
 a3 := Tryz.isAgg3
 z3 := Tryz.sizeOf3
 v3 := Tryz.zeroValue3
 t4 := Tryz.underlying4
 a4 := Tryz.isAgg4
 z4 := Tryz.sizeOf4
 v4 := Tryz.zeroValue4
 t5 := Tryz.underlying5
 a5 := Tryz.isAgg5
 z5 := Tryz.sizeOf5
 v5 := Tryz.zeroValue5
 t9 := Tryz.underlying9
 a9 := Tryz.isAgg9
 z9 := Tryz.sizeOf9
 v9 := Tryz.zeroValue9
 t20 := Tryz.underlying20
 a20 := Tryz.isAgg20
 z20 := Tryz.sizeOf20
 v20 := Tryz.zeroValue20
 t21 := Tryz.underlying21
 a21 := Tryz.isAgg21
 z21 := Tryz.sizeOf21
 v21 := Tryz.zeroValue21
 t37 := Tryz.underlying171
 a37 := Tryz.isAgg171
 z37 := Tryz.sizeOf171
 v37 := Tryz.zeroValue171
 t46 := Tryz.underlying284
 a46 := Tryz.isAgg284
 z46 := Tryz.sizeOf284
 v46 := Tryz.zeroValue284
 t51 := Tryz.underlying327
 a51 := Tryz.isAgg327
 z51 := Tryz.sizeOf327
 v51 := Tryz.zeroValue327
 t70 := Tryz.underlying247
 a70 := Tryz.isAgg247
 z70 := Tryz.sizeOf247
 v70 := Tryz.zeroValue247
 t72 := Tryz.underlying249
 a72 := Tryz.isAgg249
 z72 := Tryz.sizeOf249
 v72 := Tryz.zeroValue249
 t75 := Tryz.underlying255
 a75 := Tryz.isAgg255
 z75 := Tryz.sizeOf255
 v75 := Tryz.zeroValue255
 t76 := Tryz.underlying256
 a76 := Tryz.isAgg256
 z76 := Tryz.sizeOf256
 v76 := Tryz.zeroValue256
 t105 := Tryz.underlying250
 a105 := Tryz.isAgg250
 z105 := Tryz.sizeOf250
 v105 := Tryz.zeroValue250
 t107 := Tryz.underlying189
 a107 := Tryz.isAgg189
 z107 := Tryz.sizeOf189
 v107 := Tryz.zeroValue189
 t119 := Tryz.underlying280
 a119 := Tryz.isAgg280
 z119 := Tryz.sizeOf280
 t127 := Tryz.underlying304
 a127 := Tryz.isAgg304
 z127 := Tryz.sizeOf304
 v127 := Tryz.zeroValue304
 t138 := Tryz.underlying282
 a138 := Tryz.isAgg282
 z138 := Tryz.sizeOf282
 v138 := Tryz.zeroValue282
 t139 := Tryz.underlying283
 a139 := Tryz.isAgg283
 z139 := Tryz.sizeOf283
 v139 := Tryz.zeroValue283
 t164 := Tryz.underlying324
 a164 := Tryz.isAgg324
 z164 := Tryz.sizeOf324
 v164 := Tryz.zeroValue324
 g3 := by kernel_rfl
 g4 := by kernel_rfl }
theorem Tryz.Builder_Extra_230 : Builder.Extra Tryz.prog Tryz.lays230_ren := {
 sizeBuilder := by kernel_rfl
 liesBuilder := by kernel_rfl
 t5 := Tryz.underlying5
 a5 := Tryz.isAgg5
 z5 := Tryz.sizeOf5
 v5 := Tryz.zeroValue5
 infoByte := by kernel_rfl
 cellsByte := by kernel_rfl
 sizeByte := by kernel_rfl
 neB5 := by decide }
open Go.RowKit Go.Lib in
theorem Tryz.strings_Map_grows (g : Nat) (lb : Array Value) (eg : ∀ args w, (callFunc g args).run Tryz.prog w = .ok (.enter g args) w) (f : Int → Int) (s : ByteArray) (w : World) (hs : s.size < 35184372088832) (hf : MapGrows Tryz.prog g lb f w) (hnn : ∀ x : Nat, x ≤ 1114111 → -2147483648 ≤ f x ∧ f x ≤ 2147483647) (hT : Lib.Utf8Tabs 0 1 w) :
 Calls Tryz.prog 118 #[.func (.func g) #[] lb, .string s] w fun e w' => e = .returned (.string ⟨(Lib.mapD f s.data.toList).toArray⟩) ∧ Below w.heap.size w w' := Any.strings_Map_grows Tryz.lays230 Tryz.Builder_Extra_230 g lb eg f s w hs hf hnn hT
def Tryz.laysValid_ren : Go.Shelf.Ren := ⟨fun | 196 => 156 | 259 => 221 | n => n, fun | 9 => 9 | 4 => 4 | 3 => 3 | 5 => 5 | 12 => 12 | 119 => 280 | 0 => 0 | 46 => 284 | 139 => 283 | 138 => 282 | 53 => 311 | n => n, fun | 3 => 0 | 4 => 1 | n => n⟩
theorem Tryz.laysValid : Go.Proofs.Lays.n196 Tryz.prog Tryz.laysValid_ren := {
 mixed := by kernel_rfl
 f196 := Tryz.func156.trans (congrArg some (by kernel_rfl))
 f259 := Tryz.func221.trans (congrArg some (by kernel_rfl))
 t0 := Tryz.underlying0
 a0 := Tryz.isAgg0
 z0 := Tryz.sizeOf0
 v0 := Tryz.zeroValue0
 t3 := Tryz.underlying3
 a3 := Tryz.isAgg3
 z3 := Tryz.sizeOf3
 v3 := Tryz.zeroValue3
 t4 := Tryz.underlying4
 a4 := Tryz.isAgg4
 z4 := Tryz.sizeOf4
 v4 := Tryz.zeroValue4
 t5 := Tryz.underlying5
 a5 := Tryz.isAgg5
 z5 := Tryz.sizeOf5
 v5 := Tryz.zeroValue5
 t9 := Tryz.underlying9
 a9 := Tryz.isAgg9
 z9 := Tryz.sizeOf9
 v9 := Tryz.zeroValue9
 t12 := Tryz.underlying12
 a12 := Tryz.isAgg12
 z12 := Tryz.sizeOf12
 v12 := Tryz.zeroValue12
 t46 := Tryz.underlying284
 a46 := Tryz.isAgg284
 z46 := Tryz.sizeOf284
 v46 := Tryz.zeroValue284
 t53 := Tryz.underlying311
 a53 := Tryz.isAgg311
 z53 := Tryz.sizeOf311
 v53 := Tryz.zeroValue311
 t119 := Tryz.underlying280
 a119 := Tryz.isAgg280
 z119 := Tryz.sizeOf280
 t138 := Tryz.underlying282
 a138 := Tryz.isAgg282
 z138 := Tryz.sizeOf282
 v138 := Tryz.zeroValue282
 t139 := Tryz.underlying283
 a139 := Tryz.isAgg283
 z139 := Tryz.sizeOf283
 v139 := Tryz.zeroValue283
 g3 := by kernel_rfl
 g4 := by kernel_rfl }
open Go.RowKit Go.Lib in
theorem Tryz.utf8_ValidString (s : ByteArray) (w : World) (hs : s.size ≤ 9223372036854775807) (hT : Lib.Utf8Tabs 0 1 w) :
 Calls Tryz.prog 156 #[.string s] w fun e w' => e = .returned (.bool (Lib.validD s.data.toList)) ∧ Below w.heap.size w w' := Any.utf8_ValidString Tryz.laysValid s w hs hT
end Go.Proofs
