import Derived.Shelf.SlSortCmp.WholeK
import Derived.Ground.SlsfProg
import Derived.Shelf.Strings.Builder1
import Derived.Shelf.Small.Bits
import Derived.Shelf.Small.Wraps
import Derived.Shelf.Strings.BuilderF
import Derived.Shelf.Strings.BuilderK
import Derived.Shelf.Strconv.Itoa0
import Derived.Shelf.Sort.Plain
import Derived.Shelf.Strings.Prefix
import Derived.Shelf.Strings.BuilderCap
import Derived.Shelf.Slices.Turned
import Derived.Shelf.Slices.Equal
import Derived.Ground.Names2Prog
import Derived.Shelf.Slices.ReverseS
import Derived.Shelf.Slices.Clone
import Derived.Shelf.Slices.CompactS
import Derived.Shelf.Slices.SearchI
import Derived.Shelf.Slices.Cells
import Derived.Shelf.Slices.In.SortNone
import Derived.Shelf.Slices.Empties2
import Derived.Ground.SlgnProg
import Derived.Shelf.SlicesE.Clone
import Derived.Test.YtfkckeaadnoeiaaGreatProg
namespace Go.Proofs
open Go.Shelf
def Tryz.lays170_ren : Go.Shelf.Ren := ⟨fun | 170 => 155 | n => n, fun | 70 => 277 | 3 => 3 | 0 => 0 | 72 => 279 | 37 => 131 | 5 => 5 | n => n, fun | n => n⟩
theorem Tryz.lays170 : Go.Proofs.Lays.n170 Tryz.prog Tryz.lays170_ren := {
  mixed := by kernel_rfl
  f170 := Tryz.func155.trans (congrArg some (by kernel_rfl))
  t0 := Tryz.underlying0
  a0 := Tryz.isAgg0
  z0 := Tryz.sizeOf0
  v0 := Tryz.zeroValue0
  t3 := Tryz.underlying3
  a3 := Tryz.isAgg3
  z3 := Tryz.sizeOf3
  v3 := Tryz.zeroValue3
  t37 := Tryz.underlying131
  a37 := Tryz.isAgg131
  z37 := Tryz.sizeOf131
  v37 := Tryz.zeroValue131
  t70 := Tryz.underlying277
  a70 := Tryz.isAgg277
  z70 := Tryz.sizeOf277
  v70 := Tryz.zeroValue277
  t72 := Tryz.underlying279
  a72 := Tryz.isAgg279
  z72 := Tryz.sizeOf279
  v72 := Tryz.zeroValue279 }
open Go.RowKit in
theorem Tryz.Builder_Len (B b : Nat) (bs : List Value) (w : World) (h : Lib.IsBuilder 279 5 B b bs w) :
    Calls Tryz.prog 155 #[.pointer (some ⟨b, 0, none⟩)] w fun e w' => e = .returned (.int .i64 bs.length) ∧ w' = w := Any.Builder_Len Tryz.lays170 B b bs w h
def Tryz.lays103_ren : Go.Shelf.Ren := ⟨fun | 103 => 263 | 210 => 277 | 206 => 281 | n => n, fun | 9 => 9 | 4 => 4 | 24 => 115 | 3 => 3 | n => n, fun | n => n⟩
theorem Tryz.lays103 : Go.Proofs.Lays.n103 Tryz.prog Tryz.lays103_ren := {
  mixed := by kernel_rfl
  f103 := Tryz.func263.trans (congrArg some (by kernel_rfl))
  f206 := Tryz.func281.trans (congrArg some (by kernel_rfl))
  f210 := Tryz.func277.trans (congrArg some (by kernel_rfl))
  t3 := Tryz.underlying3
  a3 := Tryz.isAgg3
  z3 := Tryz.sizeOf3
  v3 := Tryz.zeroValue3
  t4 := Tryz.underlying4
  a4 := Tryz.isAgg4
  z4 := Tryz.sizeOf4
  v4 := Tryz.zeroValue4
  t9 := Tryz.underlying9
  a9 := Tryz.isAgg9
  z9 := Tryz.sizeOf9
  v9 := Tryz.zeroValue9
  t24 := Tryz.underlying115
  a24 := Tryz.isAgg115
  z24 := Tryz.sizeOf115
  v24 := Tryz.zeroValue115 }
open Go.RowKit in
theorem Tryz.strings_CutPrefix (s p : ByteArray) (w : World) :
    Calls Tryz.prog 263 #[.string s, .string p] w fun e w' => e = .returned (.tuple #[.string ⟨(Lib.trimPrefix s.data.toList p.data.toList).toArray⟩, .bool (Lib.hasPrefix s.data.toList p.data.toList)]) ∧ w' = w := Any.strings_CutPrefix Tryz.lays103 s p w
def Tryz.lays104_ren : Go.Shelf.Ren := ⟨fun | 104 => 164 | 211 => 206 | 207 => 247 | n => n, fun | 9 => 9 | 4 => 4 | 24 => 115 | 3 => 3 | n => n, fun | n => n⟩
theorem Tryz.lays104 : Go.Proofs.Lays.n104 Tryz.prog Tryz.lays104_ren := {
  mixed := by kernel_rfl
  f104 := Tryz.func164.trans (congrArg some (by kernel_rfl))
  f207 := Tryz.func247.trans (congrArg some (by kernel_rfl))
  f211 := Tryz.func206.trans (congrArg some (by kernel_rfl))
  t3 := Tryz.underlying3
  a3 := Tryz.isAgg3
  z3 := Tryz.sizeOf3
  v3 := Tryz.zeroValue3
  t4 := Tryz.underlying4
  a4 := Tryz.isAgg4
  z4 := Tryz.sizeOf4
  v4 := Tryz.zeroValue4
  t9 := Tryz.underlying9
  a9 := Tryz.isAgg9
  z9 := Tryz.sizeOf9
  v9 := Tryz.zeroValue9
  t24 := Tryz.underlying115
  a24 := Tryz.isAgg115
  z24 := Tryz.sizeOf115
  v24 := Tryz.zeroValue115 }
open Go.RowKit in
theorem Tryz.strings_CutSuffix (s p : ByteArray) (w : World) (hs : s.size ≤ 9223372036854775807) :
    Calls Tryz.prog 164 #[.string s, .string p] w fun e w' => e = .returned (.tuple #[.string ⟨(Lib.trimSuffix s.data.toList p.data.toList).toArray⟩, .bool (Lib.hasSuffix s.data.toList p.data.toList)]) ∧ w' = w := Any.strings_CutSuffix Tryz.lays104 s p w hs
def Tryz.lays122_ren : Go.Shelf.Ren := ⟨fun | 122 => 171 | 215 => 229 | n => n, fun | 3 => 3 | 4 => 4 | n => n, fun | n => n⟩
theorem Tryz.lays122 : Go.Proofs.Lays.n122 Tryz.prog Tryz.lays122_ren := {
  mixed := by kernel_rfl
  f122 := Tryz.func171.trans (congrArg some (by kernel_rfl))
  f215 := Tryz.func229.trans (congrArg some (by kernel_rfl))
  t3 := Tryz.underlying3
  a3 := Tryz.isAgg3
  z3 := Tryz.sizeOf3
  v3 := Tryz.zeroValue3
  t4 := Tryz.underlying4
  a4 := Tryz.isAgg4
  z4 := Tryz.sizeOf4
  v4 := Tryz.zeroValue4 }
open Go.RowKit in
theorem Tryz.cmp_Compare_int (x y : Int) (w : World) :
    Calls Tryz.prog 171 #[.int .i64 x, .int .i64 y] w fun e w' => e = .returned (.int .i64 (Lib.compareInt x y)) ∧ w' = w := Any.cmp_Compare_int Tryz.lays122 x y w
def Tryz.lays189_ren : Go.Shelf.Ren := ⟨fun | 189 => 196 | 125 => 167 | 257 => 244 | 128 => 217 | 129 => 218 | 294 => 266 | 295 => 267 | 296 => 268 | 297 => 269 | 298 => 270 | 299 => 271 | 216 => 272 | 300 => 273 | 301 => 274 | 328 => 278 | 329 => 249 | 330 => 250 | 331 => 279 | 332 => 280 | 215 => 229 | 343 => 282 | n => n, fun | 28 => 44 | 3 => 3 | 46 => 168 | 0 => 0 | 51 => 351 | 53 => 353 | 4 => 4 | 183 => 344 | 182 => 343 | 131 => 237 | 5 => 5 | 9 => 9 | 218 => 381 | 222 => 385 | 228 => 401 | 229 => 402 | n => n, fun | n => n⟩
theorem Tryz.lays189 : Go.Proofs.Lays.n189 Tryz.prog Tryz.lays189_ren := {
  mixed := by kernel_rfl
  f125 := Tryz.func167.trans (congrArg some (by kernel_rfl))
  f128 := Tryz.func217.trans (congrArg some (by kernel_rfl))
  f129 := Tryz.func218.trans (congrArg some (by kernel_rfl))
  f189 := Tryz.func196.trans (congrArg some (by kernel_rfl))
  f215 := Tryz.func229.trans (congrArg some (by kernel_rfl))
  f216 := Tryz.func272.trans (congrArg some (by kernel_rfl))
  f257 := Tryz.func244.trans (congrArg some (by kernel_rfl))
  f294 := Tryz.func266.trans (congrArg some (by kernel_rfl))
  f295 := Tryz.func267.trans (congrArg some (by kernel_rfl))
  f296 := Tryz.func268.trans (congrArg some (by kernel_rfl))
  f297 := Tryz.func269.trans (congrArg some (by kernel_rfl))
  f298 := Tryz.func270.trans (congrArg some (by kernel_rfl))
  f299 := Tryz.func271.trans (congrArg some (by kernel_rfl))
  f300 := Tryz.func273.trans (congrArg some (by kernel_rfl))
  f301 := Tryz.func274.trans (congrArg some (by kernel_rfl))
  f328 := Tryz.func278.trans (congrArg some (by kernel_rfl))
  f329 := Tryz.func249.trans (congrArg some (by kernel_rfl))
  f330 := Tryz.func250.trans (congrArg some (by kernel_rfl))
  f331 := Tryz.func279.trans (congrArg some (by kernel_rfl))
  f332 := Tryz.func280.trans (congrArg some (by kernel_rfl))
  f343 := Tryz.func282.trans (congrArg some (by kernel_rfl))
  t0 := Tryz.underlying0
  a0 := Tryz.isAgg0
  z0 := Tryz.sizeOf0
  v0 := Tryz.zeroValue0
  t3 := Tryz.underlying3
  a3 := Tryz.isAgg3
  z3 := Tryz.sizeOf3
  v3 := Tryz.zeroValue3
  t4 := Tryz.underlying4
  a4 := Tryz.isAgg4
  z4 := Tryz.sizeOf4
  v4 := Tryz.zeroValue4
  t5 := Tryz.underlying5
  a5 := Tryz.isAgg5
  z5 := Tryz.sizeOf5
  v5 := Tryz.zeroValue5
  t9 := Tryz.underlying9
  a9 := Tryz.isAgg9
  z9 := Tryz.sizeOf9
  v9 := Tryz.zeroValue9
  t28 := Tryz.underlying44
  a28 := Tryz.isAgg44
  z28 := Tryz.sizeOf44
  v28 := Tryz.zeroValue44
  t46 := Tryz.underlying168
  a46 := Tryz.isAgg168
  z46 := Tryz.sizeOf168
  v46 := Tryz.zeroValue168
  t51 := Tryz.underlying351
  a51 := Tryz.isAgg351
  z51 := Tryz.sizeOf351
  v51 := Tryz.zeroValue351
  t53 := Tryz.underlying353
  a53 := Tryz.isAgg353
  z53 := Tryz.sizeOf353
  v53 := Tryz.zeroValue353
  t131 := Tryz.underlying237
  a131 := Tryz.isAgg237
  z131 := Tryz.sizeOf237
  v131 := Tryz.zeroValue237
  t182 := Tryz.underlying343
  a182 := Tryz.isAgg343
  z182 := Tryz.sizeOf343
  v182 := Tryz.zeroValue343
  t183 := Tryz.underlying344
  a183 := Tryz.isAgg344
  z183 := Tryz.sizeOf344
  v183 := Tryz.zeroValue344
  t218 := Tryz.underlying381
  a218 := Tryz.isAgg381
  z218 := Tryz.sizeOf381
  v218 := Tryz.zeroValue381
  t222 := Tryz.underlying385
  a222 := Tryz.isAgg385
  z222 := Tryz.sizeOf385
  v222 := Tryz.zeroValue385
  t228 := Tryz.underlying401
  a228 := Tryz.isAgg401
  z228 := Tryz.sizeOf401
  v228 := Tryz.zeroValue401
  t229 := Tryz.underlying402
  a229 := Tryz.isAgg402
  z229 := Tryz.sizeOf402
  v229 := Tryz.zeroValue402 }
open Go.Sort Go.RowKit in
theorem Tryz.slices_Sort_int (blk off cap : Nat) (zs : List Int) (w : World) (hH : Holds (Value.int .i64) w blk off zs.toArray) (hblk : blk < w.heap.size) (hsz : zs.length < 4611686018427387904) :
    Calls Tryz.prog 196 #[.slice (some ⟨blk, off, none⟩) zs.length cap] w fun e w' =>
      e = .returned (.tuple #[]) ∧ ∃ n os, w' = grow (putRow (Value.int .i64) (Sort.ahead w n) blk off (zs.mergeSort fun x y => decide (x ≤ y)).toArray) os := Any.slices_Sort_int Tryz.lays189 blk off cap zs w hH hblk hsz
def Tryz.lays190_ren : Go.Shelf.Ren := ⟨fun | 190 => 113 | 125 => 167 | 258 => 166 | 128 => 217 | 129 => 218 | 302 => 208 | 303 => 209 | 304 => 210 | 305 => 211 | 306 => 212 | 307 => 213 | 308 => 214 | 309 => 215 | 310 => 216 | 333 => 248 | 329 => 249 | 330 => 250 | 334 => 251 | 335 => 252 | 336 => 253 | 344 => 275 | n => n, fun | 31 => 80 | 9 => 9 | 3 => 3 | 46 => 168 | 0 => 0 | 51 => 351 | 53 => 353 | 4 => 4 | 183 => 344 | 182 => 343 | 131 => 237 | 5 => 5 | 218 => 381 | 222 => 385 | 228 => 401 | 229 => 402 | n => n, fun | n => n⟩
theorem Tryz.lays190 : Go.Proofs.Lays.n190 Tryz.prog Tryz.lays190_ren := {
  mixed := by kernel_rfl
  f125 := Tryz.func167.trans (congrArg some (by kernel_rfl))
  f128 := Tryz.func217.trans (congrArg some (by kernel_rfl))
  f129 := Tryz.func218.trans (congrArg some (by kernel_rfl))
  f190 := Tryz.func113.trans (congrArg some (by kernel_rfl))
  f258 := Tryz.func166.trans (congrArg some (by kernel_rfl))
  f302 := Tryz.func208.trans (congrArg some (by kernel_rfl))
  f303 := Tryz.func209.trans (congrArg some (by kernel_rfl))
  f304 := Tryz.func210.trans (congrArg some (by kernel_rfl))
  f305 := Tryz.func211.trans (congrArg some (by kernel_rfl))
  f306 := Tryz.func212.trans (congrArg some (by kernel_rfl))
  f307 := Tryz.func213.trans (congrArg some (by kernel_rfl))
  f308 := Tryz.func214.trans (congrArg some (by kernel_rfl))
  f309 := Tryz.func215.trans (congrArg some (by kernel_rfl))
  f310 := Tryz.func216.trans (congrArg some (by kernel_rfl))
  f329 := Tryz.func249.trans (congrArg some (by kernel_rfl))
  f330 := Tryz.func250.trans (congrArg some (by kernel_rfl))
  f333 := Tryz.func248.trans (congrArg some (by kernel_rfl))
  f334 := Tryz.func251.trans (congrArg some (by kernel_rfl))
  f335 := Tryz.func252.trans (congrArg some (by kernel_rfl))
  f336 := Tryz.func253.trans (congrArg some (by kernel_rfl))
  f344 := Tryz.func275.trans (congrArg some (by kernel_rfl))
  t0 := Tryz.underlying0
  a0 := Tryz.isAgg0
  z0 := Tryz.sizeOf0
  v0 := Tryz.zeroValue0
  t3 := Tryz.underlying3
  a3 := Tryz.isAgg3
  z3 := Tryz.sizeOf3
  v3 := Tryz.zeroValue3
  t4 := Tryz.underlying4
  a4 := Tryz.isAgg4
  z4 := Tryz.sizeOf4
  v4 := Tryz.zeroValue4
  t5 := Tryz.underlying5
  a5 := Tryz.isAgg5
  z5 := Tryz.sizeOf5
  v5 := Tryz.zeroValue5
  t9 := Tryz.underlying9
  a9 := Tryz.isAgg9
  z9 := Tryz.sizeOf9
  v9 := Tryz.zeroValue9
  t31 := Tryz.underlying80
  a31 := Tryz.isAgg80
  z31 := Tryz.sizeOf80
  v31 := Tryz.zeroValue80
  t46 := Tryz.underlying168
  a46 := Tryz.isAgg168
  z46 := Tryz.sizeOf168
  v46 := Tryz.zeroValue168
  t51 := Tryz.underlying351
  a51 := Tryz.isAgg351
  z51 := Tryz.sizeOf351
  v51 := Tryz.zeroValue351
  t53 := Tryz.underlying353
  a53 := Tryz.isAgg353
  z53 := Tryz.sizeOf353
  v53 := Tryz.zeroValue353
  t131 := Tryz.underlying237
  a131 := Tryz.isAgg237
  z131 := Tryz.sizeOf237
  v131 := Tryz.zeroValue237
  t182 := Tryz.underlying343
  a182 := Tryz.isAgg343
  z182 := Tryz.sizeOf343
  v182 := Tryz.zeroValue343
  t183 := Tryz.underlying344
  a183 := Tryz.isAgg344
  z183 := Tryz.sizeOf344
  v183 := Tryz.zeroValue344
  t218 := Tryz.underlying381
  a218 := Tryz.isAgg381
  z218 := Tryz.sizeOf381
  v218 := Tryz.zeroValue381
  t222 := Tryz.underlying385
  a222 := Tryz.isAgg385
  z222 := Tryz.sizeOf385
  v222 := Tryz.zeroValue385
  t228 := Tryz.underlying401
  a228 := Tryz.isAgg401
  z228 := Tryz.sizeOf401
  v228 := Tryz.zeroValue401
  t229 := Tryz.underlying402
  a229 := Tryz.isAgg402
  z229 := Tryz.sizeOf402
  v229 := Tryz.zeroValue402 }
open Go.Sort Go.RowKit in
theorem Tryz.slices_Sort_string (blk off cap : Nat) (ss : List (List UInt8)) (w : World) (hH : Holds encStr w blk off ss.toArray) (hblk : blk < w.heap.size) (hsz : ss.length < 4611686018427387904) :
    Calls Tryz.prog 113 #[.slice (some ⟨blk, off, none⟩) ss.length cap] w fun e w' =>
      e = .returned (.tuple #[]) ∧ ∃ n os, w' = grow (putRow encStr (Sort.ahead w n) blk off (ss.mergeSort fun x y => decide (x ≤ y)).toArray) os := Any.slices_Sort_string Tryz.lays190 blk off cap ss w hH hblk hsz
def Tryz.lays107_ren : Go.Shelf.Ren := ⟨fun | 107 => 239 | 108 => 264 | n => n, fun | 28 => 44 | 3 => 3 | 4 => 4 | 0 => 0 | n => n, fun | n => n⟩
theorem Tryz.lays107 : Go.Proofs.Lays.n107 Tryz.prog Tryz.lays107_ren := {
  mixed := by kernel_rfl
  f107 := Tryz.func239.trans (congrArg some (by kernel_rfl))
  f108 := Tryz.func264.trans (congrArg some (by kernel_rfl))
  t0 := Tryz.underlying0
  a0 := Tryz.isAgg0
  z0 := Tryz.sizeOf0
  v0 := Tryz.zeroValue0
  t3 := Tryz.underlying3
  a3 := Tryz.isAgg3
  z3 := Tryz.sizeOf3
  v3 := Tryz.zeroValue3
  t4 := Tryz.underlying4
  a4 := Tryz.isAgg4
  z4 := Tryz.sizeOf4
  v4 := Tryz.zeroValue4
  t28 := Tryz.underlying44
  a28 := Tryz.isAgg44
  z28 := Tryz.sizeOf44
  v28 := Tryz.zeroValue44 }
open Go.Lib in
theorem Tryz.slices_Contains_int (b off n c : Nat) (zs : List Int) (x : Int) (w : World) (hz : n ≤ zs.length) (hbig : n ≤ 9223372036854775807) (hc : ∀ j, j < zs.length → w.cell? ⟨b, off + j, none⟩ = some (.int .i64 (zs.getD j 0))) :
    Calls Tryz.prog 239 #[.slice (some ⟨b, off, none⟩) n c, .int .i64 x] w fun e w' => e = .returned (.bool ((zs.take n).contains x)) ∧ w' = w := Any.slices_Contains_int Tryz.lays107 b off n c zs x w hz hbig hc
open Go.Lib in
theorem Tryz.slices_Contains_int_empty (a : Option Addr) (c : Nat) (x : Int) (w : World) :
    Calls Tryz.prog 239 #[.slice a 0 c, .int .i64 x] w fun e w' => e = .returned (.bool false) ∧ w' = w := Any.slices_Contains_int_empty Tryz.lays107 a c x w
def Tryz.laysNm217_ren : Go.Shelf.Ren := ⟨fun | 17 => 154 | n => n, fun | 24 => 80 | 9 => 9 | 3 => 3 | 4 => 4 | 0 => 0 | n => n, fun | n => n⟩
theorem Tryz.laysNm217 : Go.Proofs.Lays2.n17 Tryz.prog Tryz.laysNm217_ren := {
  mixed := by kernel_rfl
  f17 := Tryz.func154.trans (congrArg some (by kernel_rfl))
  t0 := Tryz.underlying0
  a0 := Tryz.isAgg0
  z0 := Tryz.sizeOf0
  v0 := Tryz.zeroValue0
  t3 := Tryz.underlying3
  a3 := Tryz.isAgg3
  z3 := Tryz.sizeOf3
  v3 := Tryz.zeroValue3
  t4 := Tryz.underlying4
  a4 := Tryz.isAgg4
  z4 := Tryz.sizeOf4
  v4 := Tryz.zeroValue4
  t9 := Tryz.underlying9
  a9 := Tryz.isAgg9
  z9 := Tryz.sizeOf9
  v9 := Tryz.zeroValue9
  t24 := Tryz.underlying80
  a24 := Tryz.isAgg80
  z24 := Tryz.sizeOf80
  v24 := Tryz.zeroValue80 }
open Go.RowKit Go.Lib Go.Sort in
theorem Tryz.slices_Reverse_string (blk off cap : Nat) (zs : List (List UInt8)) (w : World) (hH : Holds encStr w blk off zs.toArray) (hsz : zs.length ≤ 9223372036854775807) :
    Calls Tryz.prog 154 #[.slice (some ⟨blk, off, none⟩) zs.length cap] w fun e w' => e = .returned (.tuple #[]) ∧ ∃ n, w' = putRow encStr (Sort.ahead w n) blk off zs.reverse.toArray := Any.slices_Reverse_string Tryz.laysNm217 blk off cap zs w hH hsz
open Go.RowKit Go.Lib Go.Sort in
theorem Tryz.slices_Reverse_string_empty (a : Option Addr) (cap : Nat) (w : World) :
    Calls Tryz.prog 154 #[.slice a 0 cap] w fun e w' => e = .returned (.tuple #[]) ∧ w' = w := Any.slices_Reverse_string_empty Tryz.laysNm217 a cap w
def Tryz.lays194_ren : Go.Shelf.Ren := ⟨fun | 194 => 114 | n => n, fun | 31 => 80 | 9 => 9 | 3 => 3 | 4 => 4 | 0 => 0 | n => n, fun | n => n⟩
theorem Tryz.lays194 : Go.Proofs.Lays.n194 Tryz.prog Tryz.lays194_ren := {
  mixed := by kernel_rfl
  f194 := Tryz.func114.trans (congrArg some (by kernel_rfl))
  t0 := Tryz.underlying0
  a0 := Tryz.isAgg0
  z0 := Tryz.sizeOf0
  v0 := Tryz.zeroValue0
  t3 := Tryz.underlying3
  a3 := Tryz.isAgg3
  z3 := Tryz.sizeOf3
  v3 := Tryz.zeroValue3
  t4 := Tryz.underlying4
  a4 := Tryz.isAgg4
  z4 := Tryz.sizeOf4
  v4 := Tryz.zeroValue4
  t9 := Tryz.underlying9
  a9 := Tryz.isAgg9
  z9 := Tryz.sizeOf9
  v9 := Tryz.zeroValue9
  t31 := Tryz.underlying80
  a31 := Tryz.isAgg80
  z31 := Tryz.sizeOf80
  v31 := Tryz.zeroValue80 }
open Go.RowKit Go.Lib Go.Sort in
theorem Tryz.slices_Compact_string (blk off cap : Nat) (zs : List (List UInt8)) (w : World) (hH : Holds encStr w blk off zs.toArray) (hsz : zs.length ≤ 9223372036854775807) (hcap : zs.length ≤ cap) :
    Calls Tryz.prog 114 #[.slice (some ⟨blk, off, none⟩) zs.length cap] w fun e w' => e = .returned (.slice (some ⟨blk, off, none⟩) (Lib.compact zs).length cap) ∧ ∃ q, w' = putRow encStr (Sort.ahead w q) blk off (Lib.compact zs ++ List.replicate (zs.length - (Lib.compact zs).length) []).toArray := Any.slices_Compact_string Tryz.lays194 blk off cap zs w hH hsz hcap
open Go.RowKit Go.Lib Go.Sort in
theorem Tryz.slices_Compact_string_empty (a : Option Addr) (cap : Nat) (w : World) :
    Calls Tryz.prog 114 #[.slice a 0 cap] w fun e w' => e = .returned (.slice a 0 cap) ∧ w' = w := Any.slices_Compact_string_empty Tryz.lays194 a cap w
open Go.RowKit Go.Sort in
theorem Tryz.slices_Sort_string_none (p : Option Addr) (cap : Nat) (w : World) :
    Calls Tryz.prog 113 #[.slice p 0 cap] w fun e w' => e = .returned (.tuple #[]) ∧ w' = w := Any.slices_Sort_string_none Tryz.lays190 p cap w
open Go.RowKit Go.Sort in
theorem Tryz.slices_Sort_int_none (p : Option Addr) (cap : Nat) (w : World) :
    Calls Tryz.prog 196 #[.slice p 0 cap] w fun e w' => e = .returned (.tuple #[]) ∧ w' = w := Any.slices_Sort_int_none Tryz.lays189 p cap w
def Tryz.sortSet_ren : Go.Shelf.Ren := ⟨fun | 6 => 115 | 15 => 167 | 14 => 168 | 28 => 217 | 29 => 218 | 20 => 219 | 21 => 220 | 22 => 221 | 23 => 222 | 24 => 223 | 25 => 224 | 26 => 225 | 27 => 226 | 46 => 254 | 47 => 249 | 48 => 250 | 49 => 255 | 50 => 256 | 57 => 276 | n => n, fun | 22 => 68 | 24 => 136 | 25 => 221 | 3 => 3 | 39 => 168 | 0 => 0 | 53 => 351 | 55 => 353 | 4 => 4 | 46 => 344 | 45 => 343 | 50 => 237 | 5 => 5 | 9 => 9 | 66 => 381 | 70 => 385 | 76 => 401 | 77 => 402 | n => n, fun | n => n⟩
theorem Tryz.sortSet : Go.Proofs.SlLaysF0.n6 Tryz.prog Tryz.sortSet_ren := {
  mixed := by kernel_rfl
  f6 := ⟨Tryz.f115.name, by decide, Tryz.func115.trans (congrArg some (by kernel_rfl))⟩
  f14 := ⟨Tryz.f168.name, by decide, Tryz.func168.trans (congrArg some (by kernel_rfl))⟩
  f15 := Tryz.func167.trans (congrArg some (by kernel_rfl))
  f20 := ⟨Tryz.f219.name, by decide, Tryz.func219.trans (congrArg some (by kernel_rfl))⟩
  f21 := ⟨Tryz.f220.name, by decide, Tryz.func220.trans (congrArg some (by kernel_rfl))⟩
  f22 := ⟨Tryz.f221.name, by decide, Tryz.func221.trans (congrArg some (by kernel_rfl))⟩
  f23 := ⟨Tryz.f222.name, by decide, Tryz.func222.trans (congrArg some (by kernel_rfl))⟩
  f24 := ⟨Tryz.f223.name, by decide, Tryz.func223.trans (congrArg some (by kernel_rfl))⟩
  f25 := ⟨Tryz.f224.name, by decide, Tryz.func224.trans (congrArg some (by kernel_rfl))⟩
  f26 := ⟨Tryz.f225.name, by decide, Tryz.func225.trans (congrArg some (by kernel_rfl))⟩
  f27 := ⟨Tryz.f226.name, by decide, Tryz.func226.trans (congrArg some (by kernel_rfl))⟩
  f28 := Tryz.func217.trans (congrArg some (by kernel_rfl))
  f29 := Tryz.func218.trans (congrArg some (by kernel_rfl))
  f46 := ⟨Tryz.f254.name, by decide, Tryz.func254.trans (congrArg some (by kernel_rfl))⟩
  f47 := Tryz.func249.trans (congrArg some (by kernel_rfl))
  f48 := Tryz.func250.trans (congrArg some (by kernel_rfl))
  f49 := ⟨Tryz.f255.name, by decide, Tryz.func255.trans (congrArg some (by kernel_rfl))⟩
  f50 := ⟨Tryz.f256.name, by decide, Tryz.func256.trans (congrArg some (by kernel_rfl))⟩
  f57 := ⟨Tryz.f276.name, by decide, Tryz.func276.trans (congrArg some (by kernel_rfl))⟩
  t0 := Tryz.underlying0
  a0 := Tryz.isAgg0
  z0 := Tryz.sizeOf0
  v0 := Tryz.zeroValue0
  t3 := Tryz.underlying3
  a3 := Tryz.isAgg3
  z3 := Tryz.sizeOf3
  v3 := Tryz.zeroValue3
  t4 := Tryz.underlying4
  a4 := Tryz.isAgg4
  z4 := Tryz.sizeOf4
  v4 := Tryz.zeroValue4
  t5 := Tryz.underlying5
  a5 := Tryz.isAgg5
  z5 := Tryz.sizeOf5
  v5 := Tryz.zeroValue5
  t9 := Tryz.underlying9
  a9 := Tryz.isAgg9
  z9 := Tryz.sizeOf9
  v9 := Tryz.zeroValue9
  t22 := Tryz.underlying68
  a22 := Tryz.isAgg68
  z22 := Tryz.sizeOf68
  v22 := Tryz.zeroValue68
  t25 := Tryz.underlying221
  a25 := Tryz.isAgg221
  z25 := Tryz.sizeOf221
  v25 := Tryz.zeroValue221
  t39 := Tryz.underlying168
  a39 := Tryz.isAgg168
  z39 := Tryz.sizeOf168
  v39 := Tryz.zeroValue168
  t45 := Tryz.underlying343
  a45 := Tryz.isAgg343
  z45 := Tryz.sizeOf343
  v45 := Tryz.zeroValue343
  t46 := Tryz.underlying344
  a46 := Tryz.isAgg344
  z46 := Tryz.sizeOf344
  v46 := Tryz.zeroValue344
  t50 := Tryz.underlying237
  a50 := Tryz.isAgg237
  z50 := Tryz.sizeOf237
  v50 := Tryz.zeroValue237
  t53 := Tryz.underlying351
  a53 := Tryz.isAgg351
  z53 := Tryz.sizeOf351
  v53 := Tryz.zeroValue351
  t55 := Tryz.underlying353
  a55 := Tryz.isAgg353
  z55 := Tryz.sizeOf353
  v55 := Tryz.zeroValue353
  t66 := Tryz.underlying381
  a66 := Tryz.isAgg381
  z66 := Tryz.sizeOf381
  v66 := Tryz.zeroValue381
  t70 := Tryz.underlying385
  a70 := Tryz.isAgg385
  z70 := Tryz.sizeOf385
  v70 := Tryz.zeroValue385
  t76 := Tryz.underlying401
  a76 := Tryz.isAgg401
  z76 := Tryz.sizeOf401
  v76 := Tryz.zeroValue401
  t77 := Tryz.underlying402
  a77 := Tryz.isAgg402
  z77 := Tryz.sizeOf402
  v77 := Tryz.zeroValue402 }
end Go.Proofs
