/- The contracts of library functions that the proof uses, at this program, in plain words (written by the kit's tool lay-plain.mjs; the unused left out). No conditions of its own. -/
import Derived.Shelf.Strings.Trim
import Derived.Shelf.Small.Wraps
import Derived.Shelf.Strings.Search1
import Derived.Shelf.Strings.Search2
import Derived.Shelf.Strings.Cut
import Derived.Shelf.Sort.Plain
import Derived.Shelf.Strings.Prefix
import Derived.Shelf.Strings.AsciiSet
import Derived.Shelf.Unicode.DecodeSlow
import Derived.Shelf.Slices.CompactS
import Derived.Shelf.Unicode.ValidAny
import Derived.Shelf.Strings.BuilderX
import Derived.Test.YtpjknnnomkkloaaGreatDoorProg
namespace Go.Proofs
open Go.Shelf
def Tryz.lays169_ren : Go.Shelf.Ren := ⟨fun | 169 => 68 | n => n, fun | 70 => 130 | 9 => 9 | 0 => 0 | 72 => 133 | 37 => 131 | 127 => 189 | 3 => 3 | 5 => 5 | n => n, fun | n => n⟩
theorem Tryz.lays169 : Go.Proofs.Lays.n169 Tryz.prog Tryz.lays169_ren := {
 mixed := by kernel_rfl
 f169 := Tryz.func68.trans (congrArg some (by kernel_rfl))
 t0 := Tryz.underlying0
 a0 := Tryz.isAgg0
 z0 := Tryz.sizeOf0
 v0 := Tryz.zeroValue0
 t3 := Tryz.underlying3
 a3 := Tryz.isAgg3
 z3 := Tryz.sizeOf3
 v3 := Tryz.zeroValue3
 t9 := Tryz.underlying9
 a9 := Tryz.isAgg9
 z9 := Tryz.sizeOf9
 v9 := Tryz.zeroValue9
 t37 := Tryz.underlying131
 a37 := Tryz.isAgg131
 z37 := Tryz.sizeOf131
 v37 := Tryz.zeroValue131
 t70 := Tryz.underlying130
 a70 := Tryz.isAgg130
 z70 := Tryz.sizeOf130
 v70 := Tryz.zeroValue130
 t72 := Tryz.underlying133
 a72 := Tryz.isAgg133
 z72 := Tryz.sizeOf133
 v72 := Tryz.zeroValue133
 t127 := Tryz.underlying189
 a127 := Tryz.isAgg189
 z127 := Tryz.sizeOf189
 v127 := Tryz.zeroValue189 }
theorem Tryz.Builder_Extra_169 : Builder.Extra Tryz.prog Tryz.lays169_ren := {
 sizeBuilder := by kernel_rfl
 liesBuilder := by kernel_rfl
 t5 := Tryz.underlying5
 a5 := Tryz.isAgg5
 z5 := Tryz.sizeOf5
 v5 := Tryz.zeroValue5
 infoByte := by kernel_rfl
 cellsByte := by kernel_rfl
 sizeByte := by kernel_rfl
 neB5 := by decide }
def Tryz.lays160_ren : Go.Shelf.Ren := ⟨fun | 160 => 162 | 232 => 205 | 231 => 204 | 227 => 206 | 234 => 208 | 233 => 207 | 236 => 210 | 235 => 209 | 228 => 252 | 271 => 254 | 151 => 253 | 197 => 187 | 120 => 300 | 152 => 299 | 260 => 239 | 137 => 328 | 119 => 329 | 224 => 285 | 225 => 284 | 217 => 283 | 266 => 319 | n => n, fun | 9 => 9 | 4 => 4 | 3 => 3 | 5 => 5 | 117 => 276 | 116 => 275 | 0 => 0 | 124 => 279 | 21 => 21 | 105 => 262 | 46 => 178 | 119 => 257 | 139 => 260 | 138 => 259 | n => n, fun | 3 => 0 | 4 => 1 | n => n⟩
theorem Tryz.lays160 : Go.Proofs.Lays.n160 Tryz.prog Tryz.lays160_ren := {
 mixed := by kernel_rfl
 f119 := Tryz.func329.trans (congrArg some (by kernel_rfl))
 f120 := Tryz.func300.trans (congrArg some (by kernel_rfl))
 f137 := Tryz.func328.trans (congrArg some (by kernel_rfl))
 f151 := Tryz.func253.trans (congrArg some (by kernel_rfl))
 f152 := Tryz.func299.trans (congrArg some (by kernel_rfl))
 f160 := Tryz.func162.trans (congrArg some (by kernel_rfl))
 f197 := Tryz.func187.trans (congrArg some (by kernel_rfl))
 f217 := Tryz.func283.trans (congrArg some (by kernel_rfl))
 f224 := Tryz.func285.trans (congrArg some (by kernel_rfl))
 f225 := Tryz.func284.trans (congrArg some (by kernel_rfl))
 f227 := Tryz.func206.trans (congrArg some (by kernel_rfl))
 f228 := Tryz.func252.trans (congrArg some (by kernel_rfl))
 f231 := Tryz.func204.trans (congrArg some (by kernel_rfl))
 f232 := Tryz.func205.trans (congrArg some (by kernel_rfl))
 f233 := Tryz.func207.trans (congrArg some (by kernel_rfl))
 f234 := Tryz.func208.trans (congrArg some (by kernel_rfl))
 f235 := Tryz.func209.trans (congrArg some (by kernel_rfl))
 f236 := Tryz.func210.trans (congrArg some (by kernel_rfl))
 f260 := Tryz.func239.trans (congrArg some (by kernel_rfl))
 f266 := Tryz.func319.trans (congrArg some (by kernel_rfl))
 f271 := Tryz.func254.trans (congrArg some (by kernel_rfl))
 t0 := Tryz.underlying0
 a0 := Tryz.isAgg0
 z0 := Tryz.sizeOf0
 v0 := Tryz.zeroValue0
 t3 := Tryz.underlying3
 a3 := Tryz.isAgg3
 z3 := Tryz.sizeOf3
 v3 := Tryz.zeroValue3
 t4 := Tryz.underlying4
 a4 := Tryz.isAgg4
 z4 := Tryz.sizeOf4
 v4 := Tryz.zeroValue4
 t5 := Tryz.underlying5
 a5 := Tryz.isAgg5
 z5 := Tryz.sizeOf5
 v5 := Tryz.zeroValue5
 t9 := Tryz.underlying9
 a9 := Tryz.isAgg9
 z9 := Tryz.sizeOf9
 v9 := Tryz.zeroValue9
 t21 := Tryz.underlying21
 a21 := Tryz.isAgg21
 z21 := Tryz.sizeOf21
 v21 := Tryz.zeroValue21
 t46 := Tryz.underlying178
 a46 := Tryz.isAgg178
 z46 := Tryz.sizeOf178
 v46 := Tryz.zeroValue178
 t105 := Tryz.underlying262
 a105 := Tryz.isAgg262
 z105 := Tryz.sizeOf262
 v105 := Tryz.zeroValue262
 t116 := Tryz.underlying275
 a116 := Tryz.isAgg275
 z116 := Tryz.sizeOf275
 t117 := Tryz.underlying276
 a117 := Tryz.isAgg276
 z117 := Tryz.sizeOf276
 v117 := Tryz.zeroValue276
 t119 := Tryz.underlying257
 a119 := Tryz.isAgg257
 z119 := Tryz.sizeOf257
 t124 := Tryz.underlying279
 a124 := Tryz.isAgg279
 z124 := Tryz.sizeOf279
 v124 := Tryz.zeroValue279
 t138 := Tryz.underlying259
 a138 := Tryz.isAgg259
 z138 := Tryz.sizeOf259
 v138 := Tryz.zeroValue259
 t139 := Tryz.underlying260
 a139 := Tryz.isAgg260
 z139 := Tryz.sizeOf260
 v139 := Tryz.zeroValue260
 g3 := by kernel_rfl
 g4 := by kernel_rfl }
def Tryz.lays210_ren : Go.Shelf.Ren := ⟨fun | 210 => 138 | 206 => 172 | n => n, fun | 9 => 9 | 4 => 4 | 3 => 3 | n => n, fun | n => n⟩
def Tryz.lays103_ren : Go.Shelf.Ren := ⟨fun | 103 => 94 | 210 => 138 | 206 => 172 | n => n, fun | 9 => 9 | 4 => 4 | 24 => 166 | 3 => 3 | n => n, fun | n => n⟩
theorem Tryz.lays103 : Go.Proofs.Lays.n103 Tryz.prog Tryz.lays103_ren := {
 mixed := by kernel_rfl
 f103 := Tryz.func94.trans (congrArg some (by kernel_rfl))
 f206 := Tryz.func172.trans (congrArg some (by kernel_rfl))
 f210 := Tryz.func138.trans (congrArg some (by kernel_rfl))
 t3 := Tryz.underlying3
 a3 := Tryz.isAgg3
 z3 := Tryz.sizeOf3
 v3 := Tryz.zeroValue3
 t4 := Tryz.underlying4
 a4 := Tryz.isAgg4
 z4 := Tryz.sizeOf4
 v4 := Tryz.zeroValue4
 t9 := Tryz.underlying9
 a9 := Tryz.isAgg9
 z9 := Tryz.sizeOf9
 v9 := Tryz.zeroValue9
 t24 := Tryz.underlying166
 a24 := Tryz.isAgg166
 z24 := Tryz.sizeOf166
 v24 := Tryz.zeroValue166 }
open Go.RowKit in
theorem Tryz.strings_CutPrefix (s p : ByteArray) (w : World) :
 Calls Tryz.prog 94 #[.string s, .string p] w fun e w' => e = .returned (.tuple #[.string ⟨(Lib.trimPrefix s.data.toList p.data.toList).toArray⟩, .bool (Lib.hasPrefix s.data.toList p.data.toList)]) ∧ w' = w := Any.strings_CutPrefix Tryz.lays103 s p w
def Tryz.lays219_ren : Go.Shelf.Ren := ⟨fun | 219 => 236 | 217 => 283 | 225 => 284 | 224 => 285 | 267 => 286 | 266 => 319 | 314 => 320 | n => n, fun | 9 => 9 | 3 => 3 | 4 => 4 | 5 => 5 | 46 => 178 | 146 => 336 | 51 => 289 | n => n, fun | 1 => 4 | n => n⟩
def Tryz.lays145_ren : Go.Shelf.Ren := ⟨fun | 145 => 141 | 220 => 178 | 219 => 236 | 217 => 283 | 225 => 284 | 224 => 285 | 267 => 286 | 266 => 319 | 314 => 320 | n => n, fun | 9 => 9 | 4 => 4 | 59 => 207 | 3 => 3 | 5 => 5 | 46 => 178 | 146 => 336 | 51 => 289 | n => n, fun | 1 => 4 | n => n⟩
theorem Tryz.lays145 : Go.Proofs.Lays.n145 Tryz.prog Tryz.lays145_ren := {
 mixed := by kernel_rfl
 f145 := Tryz.func141.trans (congrArg some (by kernel_rfl))
 f217 := Tryz.func283.trans (congrArg some (by kernel_rfl))
 f219 := Tryz.func236.trans (congrArg some (by kernel_rfl))
 f220 := Tryz.func178.trans (congrArg some (by kernel_rfl))
 f224 := Tryz.func285.trans (congrArg some (by kernel_rfl))
 f225 := Tryz.func284.trans (congrArg some (by kernel_rfl))
 f266 := Tryz.func319.trans (congrArg some (by kernel_rfl))
 f267 := Tryz.func286.trans (congrArg some (by kernel_rfl))
 f314 := Tryz.func320.trans (congrArg some (by kernel_rfl))
 t3 := Tryz.underlying3
 a3 := Tryz.isAgg3
 z3 := Tryz.sizeOf3
 v3 := Tryz.zeroValue3
 t4 := Tryz.underlying4
 a4 := Tryz.isAgg4
 z4 := Tryz.sizeOf4
 v4 := Tryz.zeroValue4
 t5 := Tryz.underlying5
 a5 := Tryz.isAgg5
 z5 := Tryz.sizeOf5
 v5 := Tryz.zeroValue5
 t9 := Tryz.underlying9
 a9 := Tryz.isAgg9
 z9 := Tryz.sizeOf9
 v9 := Tryz.zeroValue9
 t46 := Tryz.underlying178
 a46 := Tryz.isAgg178
 z46 := Tryz.sizeOf178
 v46 := Tryz.zeroValue178
 t51 := Tryz.underlying289
 a51 := Tryz.isAgg289
 z51 := Tryz.sizeOf289
 v51 := Tryz.zeroValue289
 t59 := Tryz.underlying207
 a59 := Tryz.isAgg207
 z59 := Tryz.sizeOf207
 v59 := Tryz.zeroValue207
 t146 := Tryz.underlying336
 a146 := Tryz.isAgg336
 z146 := Tryz.sizeOf336
 v146 := Tryz.zeroValue336
 g1 := by kernel_rfl }
open Go.RowKit Go.Lib in
theorem Tryz.strings_Cut (s sep : ByteArray) (m : Int) (w : World) (hs : s.size < 4294967281) (hm : w.cell? ⟨4, 0, none⟩ = some (.int .i64 m)) :
 Calls Tryz.prog 141 #[.string s, .string sep] w fun e w' => e = .returned (.tuple #[.string ⟨(Lib.cut s.data.toList sep.data.toList).1.toArray⟩, .string ⟨(Lib.cut s.data.toList sep.data.toList).2.1.toArray⟩, .bool (Lib.cut s.data.toList sep.data.toList).2.2]) ∧ ∃ n, w' = w.drewN n := Any.strings_Cut Tryz.lays145 s sep m w hs hm
def Tryz.lays190_ren : Go.Shelf.Ren := ⟨fun | 190 => 120 | 125 => 169 | 258 => 168 | 128 => 222 | 129 => 223 | 302 => 213 | 303 => 214 | 304 => 215 | 305 => 216 | 306 => 217 | 307 => 218 | 308 => 219 | 309 => 220 | 310 => 221 | 333 => 255 | 329 => 256 | 330 => 257 | 334 => 258 | 335 => 259 | 336 => 260 | 344 => 301 | n => n, fun | 31 => 58 | 9 => 9 | 3 => 3 | 46 => 178 | 0 => 0 | 51 => 289 | 53 => 254 | 4 => 4 | 183 => 283 | 182 => 282 | 131 => 68 | 5 => 5 | 218 => 309 | 222 => 313 | 228 => 331 | 229 => 332 | n => n, fun | n => n⟩
theorem Tryz.lays190 : Go.Proofs.Lays.n190 Tryz.prog Tryz.lays190_ren := {
 mixed := by kernel_rfl
 f125 := Tryz.func169.trans (congrArg some (by kernel_rfl))
 f128 := Tryz.func222.trans (congrArg some (by kernel_rfl))
 f129 := Tryz.func223.trans (congrArg some (by kernel_rfl))
 f190 := Tryz.func120.trans (congrArg some (by kernel_rfl))
 f258 := Tryz.func168.trans (congrArg some (by kernel_rfl))
 f302 := Tryz.func213.trans (congrArg some (by kernel_rfl))
 f303 := Tryz.func214.trans (congrArg some (by kernel_rfl))
 f304 := Tryz.func215.trans (congrArg some (by kernel_rfl))
 f305 := Tryz.func216.trans (congrArg some (by kernel_rfl))
 f306 := Tryz.func217.trans (congrArg some (by kernel_rfl))
 f307 := Tryz.func218.trans (congrArg some (by kernel_rfl))
 f308 := Tryz.func219.trans (congrArg some (by kernel_rfl))
 f309 := Tryz.func220.trans (congrArg some (by kernel_rfl))
 f310 := Tryz.func221.trans (congrArg some (by kernel_rfl))
 f329 := Tryz.func256.trans (congrArg some (by kernel_rfl))
 f330 := Tryz.func257.trans (congrArg some (by kernel_rfl))
 f333 := Tryz.func255.trans (congrArg some (by kernel_rfl))
 f334 := Tryz.func258.trans (congrArg some (by kernel_rfl))
 f335 := Tryz.func259.trans (congrArg some (by kernel_rfl))
 f336 := Tryz.func260.trans (congrArg some (by kernel_rfl))
 f344 := Tryz.func301.trans (congrArg some (by kernel_rfl))
 t0 := Tryz.underlying0
 a0 := Tryz.isAgg0
 z0 := Tryz.sizeOf0
 v0 := Tryz.zeroValue0
 t3 := Tryz.underlying3
 a3 := Tryz.isAgg3
 z3 := Tryz.sizeOf3
 v3 := Tryz.zeroValue3
 t4 := Tryz.underlying4
 a4 := Tryz.isAgg4
 z4 := Tryz.sizeOf4
 v4 := Tryz.zeroValue4
 t5 := Tryz.underlying5
 a5 := Tryz.isAgg5
 z5 := Tryz.sizeOf5
 v5 := Tryz.zeroValue5
 t9 := Tryz.underlying9
 a9 := Tryz.isAgg9
 z9 := Tryz.sizeOf9
 v9 := Tryz.zeroValue9
 t31 := Tryz.underlying58
 a31 := Tryz.isAgg58
 z31 := Tryz.sizeOf58
 v31 := Tryz.zeroValue58
 t46 := Tryz.underlying178
 a46 := Tryz.isAgg178
 z46 := Tryz.sizeOf178
 v46 := Tryz.zeroValue178
 t51 := Tryz.underlying289
 a51 := Tryz.isAgg289
 z51 := Tryz.sizeOf289
 v51 := Tryz.zeroValue289
 t53 := Tryz.underlying254
 a53 := Tryz.isAgg254
 z53 := Tryz.sizeOf254
 v53 := Tryz.zeroValue254
 t131 := Tryz.underlying68
 a131 := Tryz.isAgg68
 z131 := Tryz.sizeOf68
 v131 := Tryz.zeroValue68
 t182 := Tryz.underlying282
 a182 := Tryz.isAgg282
 z182 := Tryz.sizeOf282
 v182 := Tryz.zeroValue282
 t183 := Tryz.underlying283
 a183 := Tryz.isAgg283
 z183 := Tryz.sizeOf283
 v183 := Tryz.zeroValue283
 t218 := Tryz.underlying309
 a218 := Tryz.isAgg309
 z218 := Tryz.sizeOf309
 v218 := Tryz.zeroValue309
 t222 := Tryz.underlying313
 a222 := Tryz.isAgg313
 z222 := Tryz.sizeOf313
 v222 := Tryz.zeroValue313
 t228 := Tryz.underlying331
 a228 := Tryz.isAgg331
 z228 := Tryz.sizeOf331
 v228 := Tryz.zeroValue331
 t229 := Tryz.underlying332
 a229 := Tryz.isAgg332
 z229 := Tryz.sizeOf332
 v229 := Tryz.zeroValue332 }
open Go.Sort Go.RowKit in
theorem Tryz.slices_Sort_string (blk off cap : Nat) (ss : List (List UInt8)) (w : World) (hH : Holds encStr w blk off ss.toArray) (hblk : blk < w.heap.size) (hsz : ss.length < 4611686018427387904) :
 Calls Tryz.prog 120 #[.slice (some ⟨blk, off, none⟩) ss.length cap] w fun e w' =>
  e = .returned (.tuple #[]) ∧ ∃ n os, w' = grow (putRow encStr (Sort.ahead w n) blk off (ss.mergeSort fun x y => decide (x ≤ y)).toArray) os := Any.slices_Sort_string Tryz.lays190 blk off cap ss w hH hblk hsz
def Tryz.lays101_ren : Go.Shelf.Ren := ⟨fun | 101 => 103 | 208 => 145 | 206 => 172 | n => n, fun | 9 => 9 | 4 => 4 | 3 => 3 | n => n, fun | n => n⟩
theorem Tryz.lays101 : Go.Proofs.Lays.n101 Tryz.prog Tryz.lays101_ren := {
 mixed := by kernel_rfl
 f101 := Tryz.func103.trans (congrArg some (by kernel_rfl))
 f206 := Tryz.func172.trans (congrArg some (by kernel_rfl))
 f208 := Tryz.func145.trans (congrArg some (by kernel_rfl))
 t3 := Tryz.underlying3
 a3 := Tryz.isAgg3
 z3 := Tryz.sizeOf3
 v3 := Tryz.zeroValue3
 t4 := Tryz.underlying4
 a4 := Tryz.isAgg4
 z4 := Tryz.sizeOf4
 v4 := Tryz.zeroValue4
 t9 := Tryz.underlying9
 a9 := Tryz.isAgg9
 z9 := Tryz.sizeOf9
 v9 := Tryz.zeroValue9 }
open Go.RowKit Go.Lib in
theorem Tryz.strings_TrimPrefix (s p : ByteArray) (w : World) :
 Calls Tryz.prog 103 #[.string s, .string p] w fun e w' => e = .returned (.string ⟨(Lib.trimPrefix s.data.toList p.data.toList).toArray⟩) ∧ w' = w := Any.strings_TrimPrefix Tryz.lays101 s p w
def Tryz.lays194_ren : Go.Shelf.Ren := ⟨fun | 194 => 121 | n => n, fun | 31 => 58 | 9 => 9 | 3 => 3 | 4 => 4 | 0 => 0 | n => n, fun | n => n⟩
theorem Tryz.lays194 : Go.Proofs.Lays.n194 Tryz.prog Tryz.lays194_ren := {
 mixed := by kernel_rfl
 f194 := Tryz.func121.trans (congrArg some (by kernel_rfl))
 t0 := Tryz.underlying0
 a0 := Tryz.isAgg0
 z0 := Tryz.sizeOf0
 v0 := Tryz.zeroValue0
 t3 := Tryz.underlying3
 a3 := Tryz.isAgg3
 z3 := Tryz.sizeOf3
 v3 := Tryz.zeroValue3
 t4 := Tryz.underlying4
 a4 := Tryz.isAgg4
 z4 := Tryz.sizeOf4
 v4 := Tryz.zeroValue4
 t9 := Tryz.underlying9
 a9 := Tryz.isAgg9
 z9 := Tryz.sizeOf9
 v9 := Tryz.zeroValue9
 t31 := Tryz.underlying58
 a31 := Tryz.isAgg58
 z31 := Tryz.sizeOf58
 v31 := Tryz.zeroValue58 }
open Go.RowKit Go.Lib Go.Sort in
theorem Tryz.slices_Compact_string_arr (blk off cap : Nat) (d : Array (List UInt8)) (w : World) (hH : Holds encStr w blk off d) (hsz : d.size ≤ 9223372036854775807) (hcap : d.size ≤ cap) :
 Calls Tryz.prog 121 #[.slice (some ⟨blk, off, none⟩) d.size cap] w fun e w' => e = .returned (.slice (some ⟨blk, off, none⟩) (compactUpTo d d.size).length cap) ∧ ∃ q, w' = putRow encStr (Sort.ahead w q) blk off (compactUpTo d d.size ++ List.replicate (d.size - (compactUpTo d d.size).length) []).toArray := Any.slices_Compact_string_arr Tryz.lays194 blk off cap d w hH hsz hcap
def Tryz.laysValid_ren : Go.Shelf.Ren := ⟨fun | 196 => 147 | 259 => 185 | n => n, fun | 9 => 9 | 4 => 4 | 3 => 3 | 5 => 5 | 12 => 12 | 119 => 257 | 0 => 0 | 46 => 178 | 139 => 260 | 138 => 259 | 53 => 254 | n => n, fun | 3 => 0 | 4 => 1 | n => n⟩
theorem Tryz.laysValid : Go.Proofs.Lays.n196 Tryz.prog Tryz.laysValid_ren := {
 mixed := by kernel_rfl
 f196 := Tryz.func147.trans (congrArg some (by kernel_rfl))
 f259 := Tryz.func185.trans (congrArg some (by kernel_rfl))
 t0 := Tryz.underlying0
 a0 := Tryz.isAgg0
 z0 := Tryz.sizeOf0
 v0 := Tryz.zeroValue0
 t3 := Tryz.underlying3
 a3 := Tryz.isAgg3
 z3 := Tryz.sizeOf3
 v3 := Tryz.zeroValue3
 t4 := Tryz.underlying4
 a4 := Tryz.isAgg4
 z4 := Tryz.sizeOf4
 v4 := Tryz.zeroValue4
 t5 := Tryz.underlying5
 a5 := Tryz.isAgg5
 z5 := Tryz.sizeOf5
 v5 := Tryz.zeroValue5
 t9 := Tryz.underlying9
 a9 := Tryz.isAgg9
 z9 := Tryz.sizeOf9
 v9 := Tryz.zeroValue9
 t12 := Tryz.underlying12
 a12 := Tryz.isAgg12
 z12 := Tryz.sizeOf12
 v12 := Tryz.zeroValue12
 t46 := Tryz.underlying178
 a46 := Tryz.isAgg178
 z46 := Tryz.sizeOf178
 v46 := Tryz.zeroValue178
 t53 := Tryz.underlying254
 a53 := Tryz.isAgg254
 z53 := Tryz.sizeOf254
 v53 := Tryz.zeroValue254
 t119 := Tryz.underlying257
 a119 := Tryz.isAgg257
 z119 := Tryz.sizeOf257
 t138 := Tryz.underlying259
 a138 := Tryz.isAgg259
 z138 := Tryz.sizeOf259
 v138 := Tryz.zeroValue259
 t139 := Tryz.underlying260
 a139 := Tryz.isAgg260
 z139 := Tryz.sizeOf260
 v139 := Tryz.zeroValue260
 g3 := by kernel_rfl
 g4 := by kernel_rfl }
open Go.Sort Go.RowKit in
theorem Tryz.utf8_ValidString (s : ByteArray) (w : World) (hs : s.size ≤ 9223372036854775807) (hT : Lib.Utf8Tabs 0 1 w) :
 Calls Tryz.prog 147 #[.string s] w fun e w' => e = .returned (.bool (Lib.validD s.data.toList)) ∧ Below w.heap.size w w' := Any.utf8_ValidString Tryz.laysValid s w hs hT
end Go.Proofs
