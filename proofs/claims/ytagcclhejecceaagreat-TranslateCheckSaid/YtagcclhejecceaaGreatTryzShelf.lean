/- What the library functions that are called do. -/
import Derived.Shelf.Spec.BitsCarry
import Derived.Ground.Names7Prog
import Derived.Shelf.SlIterI.Sorted
import Derived.Ground.GgzProg
import Derived.Shelf.Spec.SlicesGrow
import Derived.Ground.Names8Prog
import Derived.Shelf.Small.Bits
import Derived.Shelf.Small.Strs
import Derived.Shelf.Small.Wraps
import Derived.Shelf.Strconv.Itoa0
import Derived.Shelf.Strings.Search1
import Derived.Shelf.Sort.Plain
import Derived.Shelf.Bits.Mul64
import Derived.Shelf.Slices.Turned
import Derived.Shelf.Slices.Reverse
import Derived.Shelf.Slices.Equal
import Derived.Ground.Names2Prog
import Derived.Shelf.Slices.Clone
import Derived.Shelf.Slices.CompactI
import Derived.Shelf.Slices.SearchI
import Derived.Shelf.Slices.Cells
import Derived.Shelf.Slices.In.SortNone
import Derived.Shelf.Slices.Empties
import Derived.Shelf.Slices.Empties2
import Derived.Ground.SlgnProg
import Derived.Shelf.SlicesE.Reverse
import Derived.Shelf.SlicesE.Clone
import Derived.Test.YtagcclhejecceaaGreatProg
set_option linter.all false
set_option maxRecDepth 100000
namespace Go.Proofs
open Go.Shelf Tryz
theorem cS{α:Type}{a b:α}(h:a=b):some a=some b:=congrArg some h
def Tryz.lays137_ren:Go.Shelf.Ren:=⟨fun|137=>338|217=>362|266=>374|n=>n,fun|9=>9|5=>5|3=>3|n=>n,fun|n=>n⟩
theorem Tryz.lays137:Go.Proofs.Lays.n137 Tryz.prog Tryz.lays137_ren:=⟨by kernel_rfl,func338.trans (cS (by kernel_rfl)),func362.trans (cS (by kernel_rfl)),func374.trans (cS (by kernel_rfl)),underlying3,isAgg3,sizeOf3,zeroValue3,underlying5,isAgg5,sizeOf5,zeroValue5,underlying9,isAgg9,sizeOf9,zeroValue9⟩
open Go.RowKit in
theorem Tryz.strings_IndexByte(s:ByteArray)(c:Int)(w:World):
    Calls Tryz.prog 338 #[.string s,.int .u8 c] w fun e w'=>e=.returned (.int .i64 (Lib.indexByte s.data.toList c.toNat.toUInt8))/\w'=w:=Any.strings_IndexByte Tryz.lays137 s c w
open Go.RowKit in
open Go.RowKit in
open Go.RowKit Go.Lib in
def Tryz.lays189_ren:Go.Shelf.Ren:=⟨fun|189=>127|125=>205|257=>204|128=>273|129=>274|294=>265|295=>266|296=>267|297=>268|298=>269|299=>270|216=>250|300=>271|301=>272|328=>316|329=>317|330=>318|331=>319|332=>320|215=>307|343=>358|n=>n,fun|28=>26|3=>3|46=>257|0=>0|51=>314|53=>316|4=>4|183=>308|182=>307|131=>233|5=>5|9=>9|218=>345|222=>349|228=>374|229=>324|n=>n,fun|n=>n⟩
theorem Tryz.lays189:Go.Proofs.Lays.n189 Tryz.prog Tryz.lays189_ren:=⟨by kernel_rfl,func205.trans (cS (by kernel_rfl)),func273.trans (cS (by kernel_rfl)),func274.trans (cS (by kernel_rfl)),func127.trans (cS (by kernel_rfl)),func307.trans (cS (by kernel_rfl)),func250.trans (cS (by kernel_rfl)),func204.trans (cS (by kernel_rfl)),func265.trans (cS (by kernel_rfl)),func266.trans (cS (by kernel_rfl)),func267.trans (cS (by kernel_rfl)),func268.trans (cS (by kernel_rfl)),func269.trans (cS (by kernel_rfl)),func270.trans (cS (by kernel_rfl)),func271.trans (cS (by kernel_rfl)),func272.trans (cS (by kernel_rfl)),func316.trans (cS (by kernel_rfl)),func317.trans (cS (by kernel_rfl)),func318.trans (cS (by kernel_rfl)),func319.trans (cS (by kernel_rfl)),func320.trans (cS (by kernel_rfl)),func358.trans (cS (by kernel_rfl)),underlying0,isAgg0,sizeOf0,zeroValue0,underlying3,isAgg3,sizeOf3,zeroValue3,underlying4,isAgg4,sizeOf4,zeroValue4,underlying5,isAgg5,sizeOf5,zeroValue5,underlying9,isAgg9,sizeOf9,zeroValue9,underlying26,isAgg26,sizeOf26,zeroValue26,underlying257,isAgg257,sizeOf257,zeroValue257,underlying314,isAgg314,sizeOf314,zeroValue314,underlying316,isAgg316,sizeOf316,zeroValue316,underlying233,isAgg233,sizeOf233,zeroValue233,underlying307,isAgg307,sizeOf307,zeroValue307,underlying308,isAgg308,sizeOf308,zeroValue308,underlying345,isAgg345,sizeOf345,zeroValue345,underlying349,isAgg349,sizeOf349,zeroValue349,underlying374,isAgg374,sizeOf374,zeroValue374,underlying324,isAgg324,sizeOf324,zeroValue324⟩
open Go.Sort Go.RowKit in
theorem Tryz.slices_Sort_int(blk off cap:Nat)(zs:List Int)(w:World)(hH:Holds (Value.int .i64) w blk off zs.toArray)(hblk:blk<w.heap.size)(hsz:zs.length<4611686018427387904):
    Calls Tryz.prog 127 #[.slice (some ⟨blk,off,none⟩) zs.length cap] w fun e w'=>
      e=.returned (.tuple #[])/\∃n os,w'=grow (putRow (Value.int .i64) (Sort.ahead w n) blk off (zs.mergeSort fun x y=>decide (x≤y)).toArray) os:=Any.slices_Sort_int Tryz.lays189 blk off cap zs w hH hblk hsz
open Go.RowKit Go.Lib in
def Tryz.lays212_ren:Go.Shelf.Ren:=⟨fun|212=>252|263=>308|264=>309|n=>n,fun|46=>257|51=>314|146=>336|53=>316|148=>338|n=>n,fun|n=>n⟩
theorem Tryz.lays212:Go.Proofs.Lays.n212 Tryz.prog Tryz.lays212_ren:=⟨by kernel_rfl,func252.trans (cS (by kernel_rfl)),func308.trans (cS (by kernel_rfl)),func309.trans (cS (by kernel_rfl)),underlying257,isAgg257,sizeOf257,zeroValue257,underlying314,isAgg314,sizeOf314,zeroValue314,underlying316,isAgg316,sizeOf316,zeroValue316,underlying336,isAgg336,sizeOf336,zeroValue336,underlying338,isAgg338,sizeOf338,zeroValue338⟩
open Go.RowKit Go.Lib in
theorem Tryz.bits_Mul(x y:Nat)(hx:x<18446744073709551616)(hy:y<18446744073709551616)(w:World):
    Calls Tryz.prog 252 #[.int .u64 x,.int .u64 y] w fun e w'=>e=.returned (.tuple #[.int .u64 ((x*y / 18446744073709551616:Nat):Int),.int .u64 ((x*y % 18446744073709551616:Nat):Int)])/\w'=w:=Any.bits_Mul Tryz.lays212 x y hx hy w
open Go.Lib in
open Go.Lib in
open Go.Lib in
open Go.Lib in
open Go.Lib in
open Go.Lib in
open Go.Lib in
open Go.Lib in
def Tryz.lays112_ren:Go.Shelf.Ren:=⟨fun|112=>264|n=>n,fun|28=>26|3=>3|4=>4|0=>0|n=>n,fun|n=>n⟩
theorem Tryz.lays112:Go.Proofs.Lays.n112 Tryz.prog Tryz.lays112_ren:=⟨by kernel_rfl,func264.trans (cS (by kernel_rfl)),underlying0,isAgg0,sizeOf0,zeroValue0,underlying3,isAgg3,sizeOf3,zeroValue3,underlying4,isAgg4,sizeOf4,zeroValue4,underlying26,isAgg26,sizeOf26,zeroValue26⟩
open Go.RowKit Go.Lib Go.Sort in
open Go.RowKit Go.Lib Go.Sort in
theorem Tryz.slices_Reverse_int(blk off cap:Nat)(zs:List Int)(w:World)(hH:Holds (Value.int .i64) w blk off zs.toArray)(hsz:zs.length≤9223372036854775807):
    Calls Tryz.prog 264 #[.slice (some ⟨blk,off,none⟩) zs.length cap] w fun e w'=>e=.returned (.tuple #[])/\∃n,w'=putRow (Value.int .i64) (Sort.ahead w n) blk off zs.reverse.toArray:=Any.slices_Reverse_int Tryz.lays112 blk off cap zs w hH hsz
open Go.RowKit Go.Lib Go.Sort in
theorem Tryz.slices_Reverse_int_empty(a:Option Addr)(cap:Nat)(w:World):
    Calls Tryz.prog 264 #[.slice a 0 cap] w fun e w'=>e=.returned (.tuple #[])/\w'=w:=Any.slices_Reverse_int_empty Tryz.lays112 a cap w
open Go.RowKit Go.Lib in
open Go.RowKit Go.Lib in
open Go.RowKit Go.Lib in
open Go.RowKit Go.Lib in
open Go.RowKit Go.Lib in
open Go.RowKit Go.Lib in
def Tryz.laysNm220_ren:Go.Shelf.Ren:=⟨fun|20=>128|n=>n,fun|22=>26|3=>3|4=>4|0=>0|n=>n,fun|n=>n⟩
theorem Tryz.laysNm220:Go.Proofs.Lays2.n20 Tryz.prog Tryz.laysNm220_ren:={
  mixed:=by kernel_rfl
  f20:=func128.trans (cS (by kernel_rfl))
  t0:=underlying0
  a0:=isAgg0
  z0:=sizeOf0
  v0:=zeroValue0
  t3:=underlying3
  a3:=isAgg3
  z3:=sizeOf3
  v3:=zeroValue3
  t4:=underlying4
  a4:=isAgg4
  z4:=sizeOf4
  v4:=zeroValue4
  t22:=underlying26
  a22:=isAgg26
  z22:=sizeOf26
  v22:=zeroValue26
  i3:=by kernel_rfl}
open Go.RowKit Go.Lib Go.Sort in
open Go.RowKit Go.Lib Go.Sort in
theorem Tryz.slices_Compact_int(blk off cap:Nat)(zs:List Int)(w:World)(hH:Holds (Value.int .i64) w blk off zs.toArray)(hsz:zs.length≤9223372036854775807)(hcap:zs.length≤cap):
    Calls Tryz.prog 128 #[.slice (some ⟨blk,off,none⟩) zs.length cap] w fun e w'=>e=.returned (.slice (some ⟨blk,off,none⟩) (Lib.compact zs).length cap)/\∃q,w'=putRow (Value.int .i64) (Sort.ahead w q) blk off (Lib.compact zs ++ List.replicate (zs.length-(Lib.compact zs).length) 0).toArray:=Any.slices_Compact_int Tryz.laysNm220 blk off cap zs w hH hsz hcap
open Go.RowKit Go.Lib Go.Sort in
theorem Tryz.slices_Compact_int_empty(a:Option Addr)(cap:Nat)(w:World):
    Calls Tryz.prog 128 #[.slice a 0 cap] w fun e w'=>e=.returned (.slice a 0 cap)/\w'=w:=Any.slices_Compact_int_empty Tryz.laysNm220 a cap w
open Go.RowKit Go.Lib in
open Go.RowKit Go.Lib in
open Go.RowKit Go.Lib in
def Tryz.laysNm225_ren:Go.Shelf.Ren:=⟨fun|25=>176|31=>250|32=>251|37=>307|n=>n,fun|22=>26|3=>3|4=>4|40=>257|0=>0|n=>n,fun|n=>n⟩
theorem Tryz.laysNm225:Go.Proofs.Lays2.n25 Tryz.prog Tryz.laysNm225_ren:={
  mixed:=by kernel_rfl
  f25:=func176.trans (cS (by kernel_rfl))
  f31:=func250.trans (cS (by kernel_rfl))
  f32:=func251.trans (cS (by kernel_rfl))
  f37:=func307.trans (cS (by kernel_rfl))
  t0:=underlying0
  a0:=isAgg0
  z0:=sizeOf0
  v0:=zeroValue0
  t3:=underlying3
  a3:=isAgg3
  z3:=sizeOf3
  v3:=zeroValue3
  t4:=underlying4
  a4:=isAgg4
  z4:=sizeOf4
  v4:=zeroValue4
  t22:=underlying26
  a22:=isAgg26
  z22:=sizeOf26
  v22:=zeroValue26
  t40:=underlying257
  a40:=isAgg257
  z40:=sizeOf257
  v40:=zeroValue257}
open Go.RowKit Go.Lib in
theorem Tryz.slices_BinarySearch_int(b off n c:Nat)(zs:List Int)(x:Int)(w:World)(hz:n≤zs.length)(hbig:n<4611686018427387904)(hc:∀j,j<zs.length->w.cell? ⟨b,off+j,none⟩=some (.int .i64 (zs.getD j 0)))(hs:(zs.take n).Pairwise (· ≤ ·)):
    Calls Tryz.prog 176 #[.slice (some ⟨b,off,none⟩) n c,.int .i64 x] w fun e w'=>e=.returned (.tuple #[.int .i64 ((zs.take n).countP (· <x):Nat),.bool ((zs.take n).contains x)])/\∃q,w'=w.drewN q:=Any.slices_BinarySearch_int Tryz.laysNm225 b off n c zs x w hz hbig hc hs
open Go.RowKit Go.Lib Go.Sort in
open Go.RowKit Go.Lib Go.Sort in
open Go.RowKit Go.Sort in
theorem Tryz.slices_Sort_int_none(p:Option Addr)(cap:Nat)(w:World):
    Calls Tryz.prog 127 #[.slice p 0 cap] w fun e w'=>e=.returned (.tuple #[])/\w'=w:=Any.slices_Sort_int_none Tryz.lays189 p cap w
open Go.RowKit Go.Lib in
theorem Tryz.slices_BinarySearch_int_empty(a:Option Addr)(c:Nat)(x:Int)(w:World):
    Calls Tryz.prog 176 #[.slice a 0 c,.int .i64 x] w fun e w'=>e=.returned (.tuple #[.int .i64 0,.bool false])/\w'=w:=Any.slices_BinarySearch_int_empty Tryz.laysNm225 a c x w
open Go.RowKit Go.Lib in
open Go.RowKit Go.Lib Go.Sort in
open Go.RowKit Go.Lib Go.Sort in
open Go.RowKit Go.Lib Go.Sort in
open Go.RowKit Go.Lib in
open Go.RowKit Go.Lib in
open Go.RowKit Go.Lib in
open Go.RowKit Go.Lib in
open Go.RowKit Go.Lib in
open Go.RowKit Go.Lib in
def Tryz.lays7n25_ren:Go.Shelf.Ren:=⟨fun|25=>365|n=>n,fun|22=>316|n=>n,fun|n=>n⟩
theorem Tryz.lays7n25:Go.Proofs.Lays7.n25 Tryz.prog Tryz.lays7n25_ren:=⟨by kernel_rfl,func365.trans (cS (by kernel_rfl)),underlying316,isAgg316,sizeOf316,zeroValue316,by kernel_rfl⟩
def Tryz.sortedA_ren:Go.Shelf.Ren:=⟨fun|6=>298|8=>345|9=>127|11=>364|13=>205|12=>204|23=>273|24=>274|14=>265|15=>266|16=>267|17=>268|18=>269|19=>270|20=>250|21=>271|22=>272|25=>316|26=>317|27=>318|28=>319|29=>320|30=>307|31=>358|n=>n,fun|26=>3|28=>333|24=>26|0=>0|3=>3|37=>257|48=>314|50=>316|4=>4|40=>308|39=>307|45=>233|5=>5|9=>9|51=>345|55=>349|57=>374|58=>324|33=>140|n=>n,fun|n=>n⟩
theorem Tryz.sortedA:Go.Proofs.SlLaysZI.n6 Tryz.prog Tryz.sortedA_ren:={
  mixed:=by kernel_rfl
  f6:=⟨Tryz.f298.name,by decide,func298.trans (cS (by kernel_rfl))⟩
  f8:=⟨Tryz.f345.name,by decide,func345.trans (cS (by kernel_rfl))⟩
  f11:=⟨Tryz.f364.name,by decide,func364.trans (cS (by kernel_rfl))⟩
  t0:=underlying0
  a0:=isAgg0
  z0:=sizeOf0
  v0:=zeroValue0
  t24:=underlying26
  a24:=isAgg26
  z24:=sizeOf26
  v24:=zeroValue26
  t26:=underlying3
  a26:=isAgg3
  z26:=sizeOf3
  v26:=zeroValue3
  t28:=underlying333
  a28:=isAgg333
  z28:=sizeOf333
  v28:=zeroValue333
  i26:=by kernel_rfl}
def Tryz.growI_ren:Go.Shelf.Ren:=⟨fun|4=>166|n=>n,fun|22=>26|25=>3|3=>3|4=>4|9=>9|20=>20|0=>0|n=>n,fun|n=>n⟩
theorem Tryz.growI:Go.Proofs.Lays8.n4 Tryz.prog Tryz.growI_ren:={
  mixed:=by kernel_rfl
  f4:=⟨Tryz.f166.name,by decide,func166.trans (cS (by kernel_rfl))⟩
  t0:=underlying0
  a0:=isAgg0
  z0:=sizeOf0
  v0:=zeroValue0
  t3:=underlying3
  a3:=isAgg3
  z3:=sizeOf3
  v3:=zeroValue3
  t4:=underlying4
  a4:=isAgg4
  z4:=sizeOf4
  v4:=zeroValue4
  t9:=underlying9
  a9:=isAgg9
  z9:=sizeOf9
  v9:=zeroValue9
  t20:=underlying20
  a20:=isAgg20
  z20:=sizeOf20
  v20:=zeroValue20
  t22:=underlying26
  a22:=isAgg26
  z22:=sizeOf26
  v22:=zeroValue26}
end Go.Proofs
