/- What the library functions that are called do. -/
import Derived.Shelf.Small.Bits
import Derived.Shelf.Small.Strs
import Derived.Shelf.Strconv.Itoa0
import Derived.Shelf.Strings.Search1
import Derived.Shelf.Sort.Plain
import Derived.Shelf.Bits.Mul64
import Derived.Shelf.Slices.Reverse
import Derived.Ground.Names2Prog
import Derived.Shelf.Slices.Clone
import Derived.Shelf.Slices.CompactI
import Derived.Shelf.Slices.SearchI
import Derived.Shelf.Slices.Cells
import Derived.Shelf.Slices.In.SortNone
import Derived.Ground.SlgnProg
import Derived.Shelf.SlicesE.Clone
import Derived.Shelf.Spec.BitsCarry
import Derived.Ground.Names7Prog
import Derived.Shelf.SlIterI.Sorted
import Derived.Ground.GgzProg
import Derived.Test.YtmaobfbhdkafkaaGreatProg
namespace Go.Proofs
open Go.Shelf
def Tryz.lays137_ren : Go.Shelf.Ren := ⟨fun | 137 => 295 | 217 => 308 | 266 => 310 | n => n, fun | 9 => 9 | 5 => 5 | 3 => 3 | n => n, fun | n => n⟩
theorem Tryz.lays137 : Go.Proofs.Lays.n137 Tryz.prog Tryz.lays137_ren := {
  mixed := by kernel_rfl
  f137 := Tryz.func295.trans (congrArg some (by kernel_rfl))
  f217 := Tryz.func308.trans (congrArg some (by kernel_rfl))
  f266 := Tryz.func310.trans (congrArg some (by kernel_rfl))
  t3 := Tryz.underlying3
  a3 := Tryz.isAgg3
  z3 := Tryz.sizeOf3
  v3 := Tryz.zeroValue3
  t5 := Tryz.underlying5
  a5 := Tryz.isAgg5
  z5 := Tryz.sizeOf5
  v5 := Tryz.zeroValue5
  t9 := Tryz.underlying9
  a9 := Tryz.isAgg9
  z9 := Tryz.sizeOf9
  v9 := Tryz.zeroValue9 }
open Go.RowKit in
theorem Tryz.strings_IndexByte (s : ByteArray) (c : Int) (w : World) :
    Calls Tryz.prog 295 #[.string s, .int .u8 c] w fun e w' => e = .returned (.int .i64 (Lib.indexByte s.data.toList c.toNat.toUInt8)) ∧ w' = w := Any.strings_IndexByte Tryz.lays137 s c w
open Go.RowKit Go.Lib in
def Tryz.lays189_ren : Go.Shelf.Ren := ⟨fun | 189 => 221 | 125 => 252 | 257 => 251 | 128 => 278 | 129 => 279 | 294 => 269 | 295 => 270 | 296 => 271 | 297 => 272 | 298 => 273 | 299 => 274 | 216 => 275 | 300 => 276 | 301 => 277 | 328 => 297 | 329 => 298 | 330 => 299 | 331 => 300 | 332 => 301 | 215 => 285 | 343 => 309 | n => n, fun | 28 => 26 | 3 => 3 | 46 => 280 | 0 => 0 | 51 => 304 | 53 => 283 | 4 => 4 | 183 => 298 | 182 => 297 | 131 => 264 | 5 => 5 | 9 => 9 | 218 => 321 | 222 => 325 | 228 => 330 | 229 => 160 | n => n, fun | n => n⟩
theorem Tryz.lays189 : Go.Proofs.Lays.n189 Tryz.prog Tryz.lays189_ren := {
  mixed := by kernel_rfl
  f125 := Tryz.func252.trans (congrArg some (by kernel_rfl))
  f128 := Tryz.func278.trans (congrArg some (by kernel_rfl))
  f129 := Tryz.func279.trans (congrArg some (by kernel_rfl))
  f189 := Tryz.func221.trans (congrArg some (by kernel_rfl))
  f215 := Tryz.func285.trans (congrArg some (by kernel_rfl))
  f216 := Tryz.func275.trans (congrArg some (by kernel_rfl))
  f257 := Tryz.func251.trans (congrArg some (by kernel_rfl))
  f294 := Tryz.func269.trans (congrArg some (by kernel_rfl))
  f295 := Tryz.func270.trans (congrArg some (by kernel_rfl))
  f296 := Tryz.func271.trans (congrArg some (by kernel_rfl))
  f297 := Tryz.func272.trans (congrArg some (by kernel_rfl))
  f298 := Tryz.func273.trans (congrArg some (by kernel_rfl))
  f299 := Tryz.func274.trans (congrArg some (by kernel_rfl))
  f300 := Tryz.func276.trans (congrArg some (by kernel_rfl))
  f301 := Tryz.func277.trans (congrArg some (by kernel_rfl))
  f328 := Tryz.func297.trans (congrArg some (by kernel_rfl))
  f329 := Tryz.func298.trans (congrArg some (by kernel_rfl))
  f330 := Tryz.func299.trans (congrArg some (by kernel_rfl))
  f331 := Tryz.func300.trans (congrArg some (by kernel_rfl))
  f332 := Tryz.func301.trans (congrArg some (by kernel_rfl))
  f343 := Tryz.func309.trans (congrArg some (by kernel_rfl))
  t0 := Tryz.underlying0
  a0 := Tryz.isAgg0
  z0 := Tryz.sizeOf0
  v0 := Tryz.zeroValue0
  t3 := Tryz.underlying3
  a3 := Tryz.isAgg3
  z3 := Tryz.sizeOf3
  v3 := Tryz.zeroValue3
  t4 := Tryz.underlying4
  a4 := Tryz.isAgg4
  z4 := Tryz.sizeOf4
  v4 := Tryz.zeroValue4
  t5 := Tryz.underlying5
  a5 := Tryz.isAgg5
  z5 := Tryz.sizeOf5
  v5 := Tryz.zeroValue5
  t9 := Tryz.underlying9
  a9 := Tryz.isAgg9
  z9 := Tryz.sizeOf9
  v9 := Tryz.zeroValue9
  t28 := Tryz.underlying26
  a28 := Tryz.isAgg26
  z28 := Tryz.sizeOf26
  v28 := Tryz.zeroValue26
  t46 := Tryz.underlying280
  a46 := Tryz.isAgg280
  z46 := Tryz.sizeOf280
  v46 := Tryz.zeroValue280
  t51 := Tryz.underlying304
  a51 := Tryz.isAgg304
  z51 := Tryz.sizeOf304
  v51 := Tryz.zeroValue304
  t53 := Tryz.underlying283
  a53 := Tryz.isAgg283
  z53 := Tryz.sizeOf283
  v53 := Tryz.zeroValue283
  t131 := Tryz.underlying264
  a131 := Tryz.isAgg264
  z131 := Tryz.sizeOf264
  v131 := Tryz.zeroValue264
  t182 := Tryz.underlying297
  a182 := Tryz.isAgg297
  z182 := Tryz.sizeOf297
  v182 := Tryz.zeroValue297
  t183 := Tryz.underlying298
  a183 := Tryz.isAgg298
  z183 := Tryz.sizeOf298
  v183 := Tryz.zeroValue298
  t218 := Tryz.underlying321
  a218 := Tryz.isAgg321
  z218 := Tryz.sizeOf321
  v218 := Tryz.zeroValue321
  t222 := Tryz.underlying325
  a222 := Tryz.isAgg325
  z222 := Tryz.sizeOf325
  v222 := Tryz.zeroValue325
  t228 := Tryz.underlying330
  a228 := Tryz.isAgg330
  z228 := Tryz.sizeOf330
  v228 := Tryz.zeroValue330
  t229 := Tryz.underlying160
  a229 := Tryz.isAgg160
  z229 := Tryz.sizeOf160
  v229 := Tryz.zeroValue160 }
open Go.Sort Go.RowKit in
theorem Tryz.slices_Sort_int (blk off cap : Nat) (zs : List Int) (w : World) (hH : Holds (Value.int .i64) w blk off zs.toArray) (hblk : blk < w.heap.size) (hsz : zs.length < 4611686018427387904) :
    Calls Tryz.prog 221 #[.slice (some ⟨blk, off, none⟩) zs.length cap] w fun e w' =>
      e = .returned (.tuple #[]) ∧ ∃ n os, w' = grow (putRow (Value.int .i64) (Sort.ahead w n) blk off (zs.mergeSort fun x y => decide (x ≤ y)).toArray) os := Any.slices_Sort_int Tryz.lays189 blk off cap zs w hH hblk hsz
open Go.RowKit Go.Lib in
def Tryz.lays212_ren : Go.Shelf.Ren := ⟨fun | 212 => 264 | 263 => 287 | 264 => 288 | n => n, fun | 46 => 280 | 51 => 304 | 146 => 313 | 53 => 283 | 148 => 310 | n => n, fun | n => n⟩
theorem Tryz.lays212 : Go.Proofs.Lays.n212 Tryz.prog Tryz.lays212_ren := {
  mixed := by kernel_rfl
  f212 := Tryz.func264.trans (congrArg some (by kernel_rfl))
  f263 := Tryz.func287.trans (congrArg some (by kernel_rfl))
  f264 := Tryz.func288.trans (congrArg some (by kernel_rfl))
  t46 := Tryz.underlying280
  a46 := Tryz.isAgg280
  z46 := Tryz.sizeOf280
  v46 := Tryz.zeroValue280
  t51 := Tryz.underlying304
  a51 := Tryz.isAgg304
  z51 := Tryz.sizeOf304
  v51 := Tryz.zeroValue304
  t53 := Tryz.underlying283
  a53 := Tryz.isAgg283
  z53 := Tryz.sizeOf283
  v53 := Tryz.zeroValue283
  t146 := Tryz.underlying313
  a146 := Tryz.isAgg313
  z146 := Tryz.sizeOf313
  v146 := Tryz.zeroValue313
  t148 := Tryz.underlying310
  a148 := Tryz.isAgg310
  z148 := Tryz.sizeOf310
  v148 := Tryz.zeroValue310 }
open Go.RowKit Go.Lib in
theorem Tryz.bits_Mul (x y : Nat) (hx : x < 18446744073709551616) (hy : y < 18446744073709551616) (w : World) :
    Calls Tryz.prog 264 #[.int .u64 x, .int .u64 y] w fun e w' => e = .returned (.tuple #[.int .u64 ((x * y / 18446744073709551616 : Nat) : Int), .int .u64 ((x * y % 18446744073709551616 : Nat) : Int)]) ∧ w' = w := Any.bits_Mul Tryz.lays212 x y hx hy w
def Tryz.lays112_ren : Go.Shelf.Ren := ⟨fun | 112 => 282 | n => n, fun | 28 => 26 | 3 => 3 | 4 => 4 | 0 => 0 | n => n, fun | n => n⟩
theorem Tryz.lays112 : Go.Proofs.Lays.n112 Tryz.prog Tryz.lays112_ren := {
  mixed := by kernel_rfl
  f112 := Tryz.func282.trans (congrArg some (by kernel_rfl))
  t0 := Tryz.underlying0
  a0 := Tryz.isAgg0
  z0 := Tryz.sizeOf0
  v0 := Tryz.zeroValue0
  t3 := Tryz.underlying3
  a3 := Tryz.isAgg3
  z3 := Tryz.sizeOf3
  v3 := Tryz.zeroValue3
  t4 := Tryz.underlying4
  a4 := Tryz.isAgg4
  z4 := Tryz.sizeOf4
  v4 := Tryz.zeroValue4
  t28 := Tryz.underlying26
  a28 := Tryz.isAgg26
  z28 := Tryz.sizeOf26
  v28 := Tryz.zeroValue26 }
open Go.RowKit Go.Lib Go.Sort in
open Go.RowKit Go.Lib Go.Sort in
theorem Tryz.slices_Reverse_int (blk off cap : Nat) (zs : List Int) (w : World) (hH : Holds (Value.int .i64) w blk off zs.toArray) (hsz : zs.length ≤ 9223372036854775807) :
    Calls Tryz.prog 282 #[.slice (some ⟨blk, off, none⟩) zs.length cap] w fun e w' => e = .returned (.tuple #[]) ∧ ∃ n, w' = putRow (Value.int .i64) (Sort.ahead w n) blk off zs.reverse.toArray := Any.slices_Reverse_int Tryz.lays112 blk off cap zs w hH hsz
open Go.RowKit Go.Lib Go.Sort in
theorem Tryz.slices_Reverse_int_empty (a : Option Addr) (cap : Nat) (w : World) :
    Calls Tryz.prog 282 #[.slice a 0 cap] w fun e w' => e = .returned (.tuple #[]) ∧ w' = w := Any.slices_Reverse_int_empty Tryz.lays112 a cap w
def Tryz.laysNm215_ren : Go.Shelf.Ren := ⟨fun | 15 => 138 | n => n, fun | 22 => 26 | 3 => 3 | 4 => 4 | n => n, fun | n => n⟩
theorem Tryz.laysNm215 : Go.Proofs.Lays2.n15 Tryz.prog Tryz.laysNm215_ren := {
  mixed := by kernel_rfl
  f15 := Tryz.func138.trans (congrArg some (by kernel_rfl))
  t3 := Tryz.underlying3
  a3 := Tryz.isAgg3
  z3 := Tryz.sizeOf3
  v3 := Tryz.zeroValue3
  t4 := Tryz.underlying4
  a4 := Tryz.isAgg4
  z4 := Tryz.sizeOf4
  v4 := Tryz.zeroValue4
  t22 := Tryz.underlying26
  a22 := Tryz.isAgg26
  z22 := Tryz.sizeOf26
  v22 := Tryz.zeroValue26
  i3 := by kernel_rfl }
open Go.RowKit Go.Lib in
theorem Tryz.slices_Clone_int (b off n c : Nat) (zs : List Int) (w : World) (hz : n ≤ zs.length) (hbig : n * 8 ≤ 140737488355328) (hc : ∀ j, j < zs.length → w.cell? ⟨b, off + j, none⟩ = some (.int .i64 (zs.getD j 0))) :
    Calls Tryz.prog 138 #[.slice (some ⟨b, off, none⟩) n c] w fun e w' => ∃ v', e = .returned v' ∧ w'.ownsRow w.heap.size 3 1 v' n ((zs.take n).map (Value.int .i64)) ∧ v' ≠ .slice none 0 0 ∧ Below w.heap.size w w' := Any.slices_Clone_int Tryz.laysNm215 b off n c zs w hz hbig hc
open Go.RowKit Go.Lib in
def Tryz.laysNm216_ren : Go.Shelf.Ren := ⟨fun | 16 => 217 | n => n, fun | 24 => 100 | 9 => 9 | 4 => 4 | n => n, fun | n => n⟩
theorem Tryz.laysNm216 : Go.Proofs.Lays2.n16 Tryz.prog Tryz.laysNm216_ren := {
  mixed := by kernel_rfl
  f16 := Tryz.func217.trans (congrArg some (by kernel_rfl))
  t4 := Tryz.underlying4
  a4 := Tryz.isAgg4
  z4 := Tryz.sizeOf4
  v4 := Tryz.zeroValue4
  t9 := Tryz.underlying9
  a9 := Tryz.isAgg9
  z9 := Tryz.sizeOf9
  v9 := Tryz.zeroValue9
  t24 := Tryz.underlying100
  a24 := Tryz.isAgg100
  z24 := Tryz.sizeOf100
  v24 := Tryz.zeroValue100
  i9 := by kernel_rfl }
open Go.RowKit Go.Lib in
theorem Tryz.slices_Clone_string (b off n c : Nat) (zs : List ByteArray) (w : World) (hz : n ≤ zs.length) (hbig : n * 16 ≤ 140737488355328) (hc : ∀ j, j < zs.length → w.cell? ⟨b, off + j, none⟩ = some (.string (zs.getD j ByteArray.empty))) :
    Calls Tryz.prog 217 #[.slice (some ⟨b, off, none⟩) n c] w fun e w' => ∃ v', e = .returned v' ∧ w'.ownsRow w.heap.size 9 1 v' n ((zs.take n).map (Value.string)) ∧ v' ≠ .slice none 0 0 ∧ Below w.heap.size w w' := Any.slices_Clone_string Tryz.laysNm216 b off n c zs w hz hbig hc
open Go.RowKit Go.Lib in
open Go.RowKit Go.Lib in
open Go.RowKit Go.Lib in
def Tryz.laysNm220_ren : Go.Shelf.Ren := ⟨fun | 20 => 222 | n => n, fun | 22 => 26 | 3 => 3 | 4 => 4 | 0 => 0 | n => n, fun | n => n⟩
theorem Tryz.laysNm220 : Go.Proofs.Lays2.n20 Tryz.prog Tryz.laysNm220_ren := {
  mixed := by kernel_rfl
  f20 := Tryz.func222.trans (congrArg some (by kernel_rfl))
  t0 := Tryz.underlying0
  a0 := Tryz.isAgg0
  z0 := Tryz.sizeOf0
  v0 := Tryz.zeroValue0
  t3 := Tryz.underlying3
  a3 := Tryz.isAgg3
  z3 := Tryz.sizeOf3
  v3 := Tryz.zeroValue3
  t4 := Tryz.underlying4
  a4 := Tryz.isAgg4
  z4 := Tryz.sizeOf4
  v4 := Tryz.zeroValue4
  t22 := Tryz.underlying26
  a22 := Tryz.isAgg26
  z22 := Tryz.sizeOf26
  v22 := Tryz.zeroValue26
  i3 := by kernel_rfl }
open Go.RowKit Go.Lib Go.Sort in
open Go.RowKit Go.Lib Go.Sort in
theorem Tryz.slices_Compact_int (blk off cap : Nat) (zs : List Int) (w : World) (hH : Holds (Value.int .i64) w blk off zs.toArray) (hsz : zs.length ≤ 9223372036854775807) (hcap : zs.length ≤ cap) :
    Calls Tryz.prog 222 #[.slice (some ⟨blk, off, none⟩) zs.length cap] w fun e w' => e = .returned (.slice (some ⟨blk, off, none⟩) (Lib.compact zs).length cap) ∧ ∃ q, w' = putRow (Value.int .i64) (Sort.ahead w q) blk off (Lib.compact zs ++ List.replicate (zs.length - (Lib.compact zs).length) 0).toArray := Any.slices_Compact_int Tryz.laysNm220 blk off cap zs w hH hsz hcap
open Go.RowKit Go.Lib Go.Sort in
theorem Tryz.slices_Compact_int_empty (a : Option Addr) (cap : Nat) (w : World) :
    Calls Tryz.prog 222 #[.slice a 0 cap] w fun e w' => e = .returned (.slice a 0 cap) ∧ w' = w := Any.slices_Compact_int_empty Tryz.laysNm220 a cap w
open Go.RowKit Go.Lib in
open Go.RowKit Go.Lib in
open Go.RowKit Go.Lib Go.Sort in
open Go.RowKit Go.Lib Go.Sort in
open Go.RowKit Go.Sort in
theorem Tryz.slices_Sort_int_none (p : Option Addr) (cap : Nat) (w : World) :
    Calls Tryz.prog 221 #[.slice p 0 cap] w fun e w' => e = .returned (.tuple #[]) ∧ w' = w := Any.slices_Sort_int_none Tryz.lays189 p cap w
open Go.RowKit Go.Lib in
open Go.RowKit Go.Lib in
open Go.RowKit Go.Lib in
open Go.RowKit Go.Lib in
def Tryz.lays7n25_ren : Go.Shelf.Ren := ⟨fun | 25 => 284 | n => n, fun | 22 => 283 | n => n, fun | n => n⟩
theorem Tryz.lays7n25 : Go.Proofs.Lays7.n25 Tryz.prog Tryz.lays7n25_ren := {
  mixed := by kernel_rfl
  f25 := Tryz.func284.trans (congrArg some (by kernel_rfl))
  t22 := Tryz.underlying283
  a22 := Tryz.isAgg283
  z22 := Tryz.sizeOf283
  v22 := Tryz.zeroValue283
  i22 := by kernel_rfl }
def Tryz.sortedA_ren : Go.Shelf.Ren := ⟨fun | 6 => 230 | 8 => 257 | 9 => 221 | 11 => 283 | 13 => 252 | 12 => 251 | 23 => 278 | 24 => 279 | 14 => 269 | 15 => 270 | 16 => 271 | 17 => 272 | 18 => 273 | 19 => 274 | 20 => 275 | 21 => 276 | 22 => 277 | 25 => 297 | 26 => 298 | 27 => 299 | 28 => 300 | 29 => 301 | 30 => 285 | 31 => 309 | n => n, fun | 26 => 3 | 28 => 260 | 24 => 26 | 0 => 0 | 3 => 3 | 37 => 280 | 48 => 304 | 50 => 283 | 4 => 4 | 40 => 298 | 39 => 297 | 45 => 264 | 5 => 5 | 9 => 9 | 51 => 321 | 55 => 325 | 57 => 330 | 58 => 160 | 33 => 151 | n => n, fun | n => n⟩
theorem Tryz.sortedA : Go.Proofs.SlLaysZI.n6 Tryz.prog Tryz.sortedA_ren := {
  mixed := by kernel_rfl
  f6 := ⟨Tryz.f230.name, by decide, Tryz.func230.trans (congrArg some (by kernel_rfl))⟩
  f8 := ⟨Tryz.f257.name, by decide, Tryz.func257.trans (congrArg some (by kernel_rfl))⟩
  f11 := ⟨Tryz.f283.name, by decide, Tryz.func283.trans (congrArg some (by kernel_rfl))⟩
  t0 := Tryz.underlying0
  a0 := Tryz.isAgg0
  z0 := Tryz.sizeOf0
  v0 := Tryz.zeroValue0
  t24 := Tryz.underlying26
  a24 := Tryz.isAgg26
  z24 := Tryz.sizeOf26
  v24 := Tryz.zeroValue26
  t26 := Tryz.underlying3
  a26 := Tryz.isAgg3
  z26 := Tryz.sizeOf3
  v26 := Tryz.zeroValue3
  t28 := Tryz.underlying260
  a28 := Tryz.isAgg260
  z28 := Tryz.sizeOf260
  v28 := Tryz.zeroValue260
  i26 := by kernel_rfl }
end Go.Proofs
