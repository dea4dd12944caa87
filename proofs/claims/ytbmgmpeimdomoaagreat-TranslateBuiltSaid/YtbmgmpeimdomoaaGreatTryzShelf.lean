/- What the library functions that are called do. -/
import Derived.Shelf.Spec.BitsCarry
import Derived.Ground.Names7Prog
import Derived.Shelf.SlIterI.Sorted
import Derived.Ground.GgzProg
import Derived.Shelf.Spec.SlicesGrow
import Derived.Ground.Names8Prog
import Derived.Shelf.Small.Bits
import Derived.Shelf.Small.Strs
import Derived.Shelf.Small.Wraps
import Derived.Shelf.Strconv.Itoa0
import Derived.Shelf.Strings.Search1
import Derived.Shelf.Sort.Plain
import Derived.Shelf.Bits.Mul64
import Derived.Shelf.Slices.Turned
import Derived.Shelf.Slices.Reverse
import Derived.Shelf.Slices.Equal
import Derived.Ground.Names2Prog
import Derived.Shelf.Slices.Clone
import Derived.Shelf.Slices.CompactI
import Derived.Shelf.Slices.SearchI
import Derived.Shelf.Slices.Cells
import Derived.Shelf.Slices.In.SortNone
import Derived.Shelf.Slices.Empties
import Derived.Shelf.Slices.Empties2
import Derived.Ground.SlgnProg
import Derived.Shelf.SlicesE.Reverse
import Derived.Shelf.SlicesE.Clone
import Derived.Test.YtbmgmpeimdomoaaGreatProg
set_option linter.all false
set_option maxRecDepth 100000
open Option renaming some->Y
namespace Go.Proofs
open Go.Shelf Tryz
theorem cS{α:Type}{a b:α}(h:a=b):Y a=Y b:=congrArg Y h
def Tryz.lays137_ren:Go.Shelf.Ren:=⟨λ|137=>350|217=>374|266=>385|n=>n,λ|9=>9|5=>5|3=>3|n=>n,λ|n=>n⟩
theorem Tryz.lays137:Go.Proofs.Lays.n137 Tryz.prog Tryz.lays137_ren:=⟨by kernel_rfl,func350.trans (cS (by kernel_rfl)),func374.trans (cS (by kernel_rfl)),func385.trans (cS (by kernel_rfl)),underlying3,isAgg3,sizeOf3,zeroValue3,underlying5,isAgg5,sizeOf5,zeroValue5,underlying9,isAgg9,sizeOf9,zeroValue9⟩
open Go.RowKit in
theorem Tryz.strings_IndexByte(s:ByteArray)(c:Int)(w:World):
    Calls Tryz.prog 350 #[.string s,.int .u8 c] w λe w'=>e=.returned (.int .i64 (Lib.indexByte s.data.toList c.toNat.toUInt8))/\w'=w:=Any.strings_IndexByte Tryz.lays137 s c w
open Go.RowKit in
open Go.RowKit in
open Go.RowKit Go.Lib in
def Tryz.lays189_ren:Go.Shelf.Ren:=⟨λ|189=>130|125=>201|257=>200|128=>278|129=>279|294=>270|295=>271|296=>272|297=>273|298=>274|299=>275|216=>203|300=>276|301=>277|328=>324|329=>325|330=>326|331=>327|332=>328|215=>282|343=>367|n=>n,λ|28=>31|3=>3|46=>272|0=>0|51=>320|53=>322|4=>4|183=>314|182=>313|131=>210|5=>5|9=>9|218=>353|222=>357|228=>388|229=>330|n=>n,λ|n=>n⟩
theorem Tryz.lays189:Go.Proofs.Lays.n189 Tryz.prog Tryz.lays189_ren:=⟨by kernel_rfl,func201.trans (cS (by kernel_rfl)),func278.trans (cS (by kernel_rfl)),func279.trans (cS (by kernel_rfl)),func130.trans (cS (by kernel_rfl)),func282.trans (cS (by kernel_rfl)),func203.trans (cS (by kernel_rfl)),func200.trans (cS (by kernel_rfl)),func270.trans (cS (by kernel_rfl)),func271.trans (cS (by kernel_rfl)),func272.trans (cS (by kernel_rfl)),func273.trans (cS (by kernel_rfl)),func274.trans (cS (by kernel_rfl)),func275.trans (cS (by kernel_rfl)),func276.trans (cS (by kernel_rfl)),func277.trans (cS (by kernel_rfl)),func324.trans (cS (by kernel_rfl)),func325.trans (cS (by kernel_rfl)),func326.trans (cS (by kernel_rfl)),func327.trans (cS (by kernel_rfl)),func328.trans (cS (by kernel_rfl)),func367.trans (cS (by kernel_rfl)),underlying0,isAgg0,sizeOf0,zeroValue0,underlying3,isAgg3,sizeOf3,zeroValue3,underlying4,isAgg4,sizeOf4,zeroValue4,underlying5,isAgg5,sizeOf5,zeroValue5,underlying9,isAgg9,sizeOf9,zeroValue9,underlying31,isAgg31,sizeOf31,zeroValue31,underlying272,isAgg272,sizeOf272,zeroValue272,underlying320,isAgg320,sizeOf320,zeroValue320,underlying322,isAgg322,sizeOf322,zeroValue322,underlying210,isAgg210,sizeOf210,zeroValue210,underlying313,isAgg313,sizeOf313,zeroValue313,underlying314,isAgg314,sizeOf314,zeroValue314,underlying353,isAgg353,sizeOf353,zeroValue353,underlying357,isAgg357,sizeOf357,zeroValue357,underlying388,isAgg388,sizeOf388,zeroValue388,underlying330,isAgg330,sizeOf330,zeroValue330⟩
open Go.Sort Go.RowKit in
theorem Tryz.slices_Sort_int(blk off cap:Nat)(zs:List Int)(w:World)(hH:Holds (Value.int .i64) w blk off zs.toArray)(hblk:blk<w.heap.size)(hsz:zs.length<4611686018427387904):
    Calls Tryz.prog 130 #[.slice (Y ⟨blk,off,none⟩) zs.length cap] w λe w'=>
      e=.returned (.tuple #[])/\∃n os,w'=grow (putRow (Value.int .i64) (Sort.ahead w n) blk off (zs.mergeSort λx y=>decide (x≤y)).toArray) os:=Any.slices_Sort_int Tryz.lays189 blk off cap zs w hH hblk hsz
open Go.RowKit Go.Lib in
def Tryz.lays212_ren:Go.Shelf.Ren:=⟨λ|212=>257|263=>319|264=>320|n=>n,λ|46=>272|51=>320|146=>347|53=>322|148=>349|n=>n,λ|n=>n⟩
theorem Tryz.lays212:Go.Proofs.Lays.n212 Tryz.prog Tryz.lays212_ren:=⟨by kernel_rfl,func257.trans (cS (by kernel_rfl)),func319.trans (cS (by kernel_rfl)),func320.trans (cS (by kernel_rfl)),underlying272,isAgg272,sizeOf272,zeroValue272,underlying320,isAgg320,sizeOf320,zeroValue320,underlying322,isAgg322,sizeOf322,zeroValue322,underlying347,isAgg347,sizeOf347,zeroValue347,underlying349,isAgg349,sizeOf349,zeroValue349⟩
open Go.RowKit Go.Lib in
theorem Tryz.bits_Mul(x y:Nat)(hx:x<18446744073709551616)(hy:y<18446744073709551616)(w:World):
    Calls Tryz.prog 257 #[.int .u64 x,.int .u64 y] w λe w'=>e=.returned (.tuple #[.int .u64 ((x*y / 18446744073709551616:Nat):Int),.int .u64 ((x*y % 18446744073709551616:Nat):Int)])/\w'=w:=Any.bits_Mul Tryz.lays212 x y hx hy w
open Go.Lib in
open Go.Lib in
open Go.Lib in
open Go.Lib in
open Go.Lib in
open Go.Lib in
open Go.Lib in
open Go.Lib in
def Tryz.lays112_ren:Go.Shelf.Ren:=⟨λ|112=>269|n=>n,λ|28=>31|3=>3|4=>4|0=>0|n=>n,λ|n=>n⟩
theorem Tryz.lays112:Go.Proofs.Lays.n112 Tryz.prog Tryz.lays112_ren:=⟨by kernel_rfl,func269.trans (cS (by kernel_rfl)),underlying0,isAgg0,sizeOf0,zeroValue0,underlying3,isAgg3,sizeOf3,zeroValue3,underlying4,isAgg4,sizeOf4,zeroValue4,underlying31,isAgg31,sizeOf31,zeroValue31⟩
open Go.RowKit Go.Lib Go.Sort in
open Go.RowKit Go.Lib Go.Sort in
theorem Tryz.slices_Reverse_int(blk off cap:Nat)(zs:List Int)(w:World)(hH:Holds (Value.int .i64) w blk off zs.toArray)(hsz:zs.length≤9223372036854775807):
    Calls Tryz.prog 269 #[.slice (Y ⟨blk,off,none⟩) zs.length cap] w λe w'=>e=.returned (.tuple #[])/\∃n,w'=putRow (Value.int .i64) (Sort.ahead w n) blk off zs.reverse.toArray:=Any.slices_Reverse_int Tryz.lays112 blk off cap zs w hH hsz
open Go.RowKit Go.Lib Go.Sort in
theorem Tryz.slices_Reverse_int_empty(a:Option Addr)(cap:Nat)(w:World):
    Calls Tryz.prog 269 #[.slice a 0 cap] w λe w'=>e=.returned (.tuple #[])/\w'=w:=Any.slices_Reverse_int_empty Tryz.lays112 a cap w
open Go.RowKit Go.Lib in
open Go.RowKit Go.Lib in
open Go.RowKit Go.Lib in
open Go.RowKit Go.Lib in
open Go.RowKit Go.Lib in
open Go.RowKit Go.Lib in
def Tryz.laysNm220_ren:Go.Shelf.Ren:=⟨λ|20=>131|n=>n,λ|22=>31|3=>3|4=>4|0=>0|n=>n,λ|n=>n⟩
theorem Tryz.laysNm220:Go.Proofs.Lays2.n20 Tryz.prog Tryz.laysNm220_ren:={
  mixed:=by kernel_rfl
  f20:=func131.trans (cS (by kernel_rfl))
  t0:=underlying0
  a0:=isAgg0
  z0:=sizeOf0
  v0:=zeroValue0
  t3:=underlying3
  a3:=isAgg3
  z3:=sizeOf3
  v3:=zeroValue3
  t4:=underlying4
  a4:=isAgg4
  z4:=sizeOf4
  v4:=zeroValue4
  t22:=underlying31
  a22:=isAgg31
  z22:=sizeOf31
  v22:=zeroValue31
  i3:=by kernel_rfl}
open Go.RowKit Go.Lib Go.Sort in
open Go.RowKit Go.Lib Go.Sort in
theorem Tryz.slices_Compact_int(blk off cap:Nat)(zs:List Int)(w:World)(hH:Holds (Value.int .i64) w blk off zs.toArray)(hsz:zs.length≤9223372036854775807)(hcap:zs.length≤cap):
    Calls Tryz.prog 131 #[.slice (Y ⟨blk,off,none⟩) zs.length cap] w λe w'=>e=.returned (.slice (Y ⟨blk,off,none⟩) (Lib.compact zs).length cap)/\∃q,w'=putRow (Value.int .i64) (Sort.ahead w q) blk off (Lib.compact zs ++ List.replicate (zs.length-(Lib.compact zs).length) 0).toArray:=Any.slices_Compact_int Tryz.laysNm220 blk off cap zs w hH hsz hcap
open Go.RowKit Go.Lib Go.Sort in
theorem Tryz.slices_Compact_int_empty(a:Option Addr)(cap:Nat)(w:World):
    Calls Tryz.prog 131 #[.slice a 0 cap] w λe w'=>e=.returned (.slice a 0 cap)/\w'=w:=Any.slices_Compact_int_empty Tryz.laysNm220 a cap w
open Go.RowKit Go.Lib in
open Go.RowKit Go.Lib in
open Go.RowKit Go.Lib in
def Tryz.laysNm225_ren:Go.Shelf.Ren:=⟨λ|25=>135|31=>203|32=>204|37=>282|n=>n,λ|22=>31|3=>3|4=>4|40=>272|0=>0|n=>n,λ|n=>n⟩
theorem Tryz.laysNm225:Go.Proofs.Lays2.n25 Tryz.prog Tryz.laysNm225_ren:={
  mixed:=by kernel_rfl
  f25:=func135.trans (cS (by kernel_rfl))
  f31:=func203.trans (cS (by kernel_rfl))
  f32:=func204.trans (cS (by kernel_rfl))
  f37:=func282.trans (cS (by kernel_rfl))
  t0:=underlying0
  a0:=isAgg0
  z0:=sizeOf0
  v0:=zeroValue0
  t3:=underlying3
  a3:=isAgg3
  z3:=sizeOf3
  v3:=zeroValue3
  t4:=underlying4
  a4:=isAgg4
  z4:=sizeOf4
  v4:=zeroValue4
  t22:=underlying31
  a22:=isAgg31
  z22:=sizeOf31
  v22:=zeroValue31
  t40:=underlying272
  a40:=isAgg272
  z40:=sizeOf272
  v40:=zeroValue272}
open Go.RowKit Go.Lib in
theorem Tryz.slices_BinarySearch_int(b off n c:Nat)(zs:List Int)(x:Int)(w:World)(hz:n≤zs.length)(hbig:n<4611686018427387904)(hc:∀j,j<zs.length->w.cell? ⟨b,off+j,none⟩=Y (.int .i64 (zs.getD j 0)))(hs:(zs.take n).Pairwise (· ≤ ·)):
    Calls Tryz.prog 135 #[.slice (Y ⟨b,off,none⟩) n c,.int .i64 x] w λe w'=>e=.returned (.tuple #[.int .i64 ((zs.take n).countP (· <x):Nat),.bool ((zs.take n).contains x)])/\∃q,w'=w.drewN q:=Any.slices_BinarySearch_int Tryz.laysNm225 b off n c zs x w hz hbig hc hs
open Go.RowKit Go.Lib Go.Sort in
open Go.RowKit Go.Lib Go.Sort in
open Go.RowKit Go.Sort in
theorem Tryz.slices_Sort_int_none(p:Option Addr)(cap:Nat)(w:World):
    Calls Tryz.prog 130 #[.slice p 0 cap] w λe w'=>e=.returned (.tuple #[])/\w'=w:=Any.slices_Sort_int_none Tryz.lays189 p cap w
open Go.RowKit Go.Lib in
theorem Tryz.slices_BinarySearch_int_empty(a:Option Addr)(c:Nat)(x:Int)(w:World):
    Calls Tryz.prog 135 #[.slice a 0 c,.int .i64 x] w λe w'=>e=.returned (.tuple #[.int .i64 0,.bool false])/\w'=w:=Any.slices_BinarySearch_int_empty Tryz.laysNm225 a c x w
open Go.RowKit Go.Lib in
open Go.RowKit Go.Lib Go.Sort in
open Go.RowKit Go.Lib Go.Sort in
open Go.RowKit Go.Lib Go.Sort in
open Go.RowKit Go.Lib in
open Go.RowKit Go.Lib in
open Go.RowKit Go.Lib in
open Go.RowKit Go.Lib in
open Go.RowKit Go.Lib in
open Go.RowKit Go.Lib in
def Tryz.lays7n25_ren:Go.Shelf.Ren:=⟨λ|25=>377|n=>n,λ|22=>322|n=>n,λ|n=>n⟩
theorem Tryz.lays7n25:Go.Proofs.Lays7.n25 Tryz.prog Tryz.lays7n25_ren:=⟨by kernel_rfl,func377.trans (cS (by kernel_rfl)),underlying322,isAgg322,sizeOf322,zeroValue322,by kernel_rfl⟩
def Tryz.sortedA_ren:Go.Shelf.Ren:=⟨λ|6=>311|8=>357|9=>130|11=>376|13=>201|12=>200|23=>278|24=>279|14=>270|15=>271|16=>272|17=>273|18=>274|19=>275|20=>203|21=>276|22=>277|25=>324|26=>325|27=>326|28=>327|29=>328|30=>282|31=>367|n=>n,λ|26=>3|28=>344|24=>31|0=>0|3=>3|37=>272|48=>320|50=>322|4=>4|40=>314|39=>313|45=>210|5=>5|9=>9|51=>353|55=>357|57=>388|58=>330|33=>136|n=>n,λ|n=>n⟩
theorem Tryz.sortedA:Go.Proofs.SlLaysZI.n6 Tryz.prog Tryz.sortedA_ren:={
  mixed:=by kernel_rfl
  f6:=⟨Tryz.f311.name,by decide,func311.trans (cS (by kernel_rfl))⟩
  f8:=⟨Tryz.f357.name,by decide,func357.trans (cS (by kernel_rfl))⟩
  f11:=⟨Tryz.f376.name,by decide,func376.trans (cS (by kernel_rfl))⟩
  t0:=underlying0
  a0:=isAgg0
  z0:=sizeOf0
  v0:=zeroValue0
  t24:=underlying31
  a24:=isAgg31
  z24:=sizeOf31
  v24:=zeroValue31
  t26:=underlying3
  a26:=isAgg3
  z26:=sizeOf3
  v26:=zeroValue3
  t28:=underlying344
  a28:=isAgg344
  z28:=sizeOf344
  v28:=zeroValue344
  i26:=by kernel_rfl}
def Tryz.growI_ren:Go.Shelf.Ren:=⟨λ|4=>172|n=>n,λ|22=>31|25=>3|3=>3|4=>4|9=>9|20=>20|0=>0|n=>n,λ|n=>n⟩
theorem Tryz.growI:Go.Proofs.Lays8.n4 Tryz.prog Tryz.growI_ren:={
  mixed:=by kernel_rfl
  f4:=⟨Tryz.f172.name,by decide,func172.trans (cS (by kernel_rfl))⟩
  t0:=underlying0
  a0:=isAgg0
  z0:=sizeOf0
  v0:=zeroValue0
  t3:=underlying3
  a3:=isAgg3
  z3:=sizeOf3
  v3:=zeroValue3
  t4:=underlying4
  a4:=isAgg4
  z4:=sizeOf4
  v4:=zeroValue4
  t9:=underlying9
  a9:=isAgg9
  z9:=sizeOf9
  v9:=zeroValue9
  t20:=underlying20
  a20:=isAgg20
  z20:=sizeOf20
  v20:=zeroValue20
  t22:=underlying31
  a22:=isAgg31
  z22:=sizeOf31
  v22:=zeroValue31}
end Go.Proofs
