/- What the library functions that are called do. -/
import Derived.Shelf.Spec.BitsCarry
import Derived.Ground.Names7Prog
import Derived.Shelf.SlIterI.Sorted
import Derived.Ground.GgzProg
import Derived.Shelf.Spec.SlicesGrow
import Derived.Ground.Names8Prog
import Derived.Shelf.Small.Bits
import Derived.Shelf.Small.Strs
import Derived.Shelf.Small.Wraps
import Derived.Shelf.Strconv.Itoa0
import Derived.Shelf.Strings.Search1
import Derived.Shelf.Sort.Plain
import Derived.Shelf.Bits.Mul64
import Derived.Shelf.Slices.Turned
import Derived.Shelf.Slices.Reverse
import Derived.Shelf.Slices.Equal
import Derived.Ground.Names2Prog
import Derived.Shelf.Slices.Clone
import Derived.Shelf.Slices.CompactI
import Derived.Shelf.Slices.SearchI
import Derived.Shelf.Slices.Cells
import Derived.Shelf.Slices.In.SortNone
import Derived.Shelf.Slices.Empties
import Derived.Shelf.Slices.Empties2
import Derived.Ground.SlgnProg
import Derived.Shelf.SlicesE.Reverse
import Derived.Shelf.SlicesE.Clone
import Derived.Test.YtiefejhapgafkaaGreatProg
set_option linter.all false
set_option maxRecDepth 100000
open Option renaming some->Y
namespace Go.Proofs
open Go.Shelf Tryz
theorem cS{α:Type}{a b:α}(h:a=b):Y a=Y b:=congrArg Y h
def Tryz.lays137_ren:Go.Shelf.Ren:=⟨λ|137=>369|217=>388|266=>396|n=>n,λ|9=>9|5=>5|3=>3|n=>n,λ|n=>n⟩
theorem Tryz.lays137:Go.Proofs.Lays.n137 Tryz.prog Tryz.lays137_ren:=⟨by kernel_rfl,func369.trans (cS (by kernel_rfl)),func388.trans (cS (by kernel_rfl)),func396.trans (cS (by kernel_rfl)),underlying3,isAgg3,sizeOf3,zeroValue3,underlying5,isAgg5,sizeOf5,zeroValue5,underlying9,isAgg9,sizeOf9,zeroValue9⟩
open Go.RowKit in
theorem Tryz.strings_IndexByte(s:ByteArray)(c:Int)(w:World):
    Calls Tryz.prog 369 #[.string s,.int .u8 c] w λe w'=>e=.returned (.int .i64 (Lib.indexByte s.data.toList c.toNat.toUInt8))/\w'=w:=Any.strings_IndexByte Tryz.lays137 s c w
open Go.RowKit in
open Go.RowKit in
open Go.RowKit Go.Lib in
def Tryz.lays189_ren:Go.Shelf.Ren:=⟨λ|189=>372|125=>390|257=>389|128=>405|129=>406|294=>397|295=>398|296=>399|297=>400|298=>401|299=>402|216=>326|300=>403|301=>404|328=>408|329=>409|330=>410|331=>411|332=>412|215=>353|343=>414|n=>n,λ|28=>43|3=>3|46=>303|0=>0|51=>340|53=>30|4=>4|183=>418|182=>417|131=>291|5=>5|9=>9|218=>425|222=>429|228=>431|229=>313|n=>n,λ|n=>n⟩
theorem Tryz.lays189:Go.Proofs.Lays.n189 Tryz.prog Tryz.lays189_ren:=⟨by kernel_rfl,func390.trans (cS (by kernel_rfl)),func405.trans (cS (by kernel_rfl)),func406.trans (cS (by kernel_rfl)),func372.trans (cS (by kernel_rfl)),func353.trans (cS (by kernel_rfl)),func326.trans (cS (by kernel_rfl)),func389.trans (cS (by kernel_rfl)),func397.trans (cS (by kernel_rfl)),func398.trans (cS (by kernel_rfl)),func399.trans (cS (by kernel_rfl)),func400.trans (cS (by kernel_rfl)),func401.trans (cS (by kernel_rfl)),func402.trans (cS (by kernel_rfl)),func403.trans (cS (by kernel_rfl)),func404.trans (cS (by kernel_rfl)),func408.trans (cS (by kernel_rfl)),func409.trans (cS (by kernel_rfl)),func410.trans (cS (by kernel_rfl)),func411.trans (cS (by kernel_rfl)),func412.trans (cS (by kernel_rfl)),func414.trans (cS (by kernel_rfl)),underlying0,isAgg0,sizeOf0,zeroValue0,underlying3,isAgg3,sizeOf3,zeroValue3,underlying4,isAgg4,sizeOf4,zeroValue4,underlying5,isAgg5,sizeOf5,zeroValue5,underlying9,isAgg9,sizeOf9,zeroValue9,underlying43,isAgg43,sizeOf43,zeroValue43,underlying303,isAgg303,sizeOf303,zeroValue303,underlying340,isAgg340,sizeOf340,zeroValue340,underlying30,isAgg30,sizeOf30,zeroValue30,underlying291,isAgg291,sizeOf291,zeroValue291,underlying417,isAgg417,sizeOf417,zeroValue417,underlying418,isAgg418,sizeOf418,zeroValue418,underlying425,isAgg425,sizeOf425,zeroValue425,underlying429,isAgg429,sizeOf429,zeroValue429,underlying431,isAgg431,sizeOf431,zeroValue431,underlying313,isAgg313,sizeOf313,zeroValue313⟩
open Go.Sort Go.RowKit in
theorem Tryz.slices_Sort_int(blk off cap:Nat)(zs:List Int)(w:World)(hH:Holds (Value.int .i64) w blk off zs.toArray)(hblk:blk<w.heap.size)(hsz:zs.length<4611686018427387904):
    Calls Tryz.prog 372 #[.slice (Y ⟨blk,off,none⟩) zs.length cap] w λe w'=>
      e=.returned (.tuple #[])/\∃n os,w'=grow (putRow (Value.int .i64) (Sort.ahead w n) blk off (zs.mergeSort λx y=>decide (x≤y)).toArray) os:=Any.slices_Sort_int Tryz.lays189 blk off cap zs w hH hblk hsz
open Go.RowKit Go.Lib in
def Tryz.lays212_ren:Go.Shelf.Ren:=⟨λ|212=>216|263=>268|264=>269|n=>n,λ|46=>303|51=>340|146=>341|53=>30|148=>343|n=>n,λ|n=>n⟩
theorem Tryz.lays212:Go.Proofs.Lays.n212 Tryz.prog Tryz.lays212_ren:=⟨by kernel_rfl,func216.trans (cS (by kernel_rfl)),func268.trans (cS (by kernel_rfl)),func269.trans (cS (by kernel_rfl)),underlying303,isAgg303,sizeOf303,zeroValue303,underlying340,isAgg340,sizeOf340,zeroValue340,underlying30,isAgg30,sizeOf30,zeroValue30,underlying341,isAgg341,sizeOf341,zeroValue341,underlying343,isAgg343,sizeOf343,zeroValue343⟩
open Go.RowKit Go.Lib in
theorem Tryz.bits_Mul(x y:Nat)(hx:x<18446744073709551616)(hy:y<18446744073709551616)(w:World):
    Calls Tryz.prog 216 #[.int .u64 x,.int .u64 y] w λe w'=>e=.returned (.tuple #[.int .u64 ((x*y / 18446744073709551616:Nat):Int),.int .u64 ((x*y % 18446744073709551616:Nat):Int)])/\w'=w:=Any.bits_Mul Tryz.lays212 x y hx hy w
open Go.Lib in
open Go.Lib in
open Go.Lib in
open Go.Lib in
open Go.Lib in
open Go.Lib in
open Go.Lib in
open Go.Lib in
open Go.Lib in
def Tryz.lays112_ren:Go.Shelf.Ren:=⟨λ|112=>377|n=>n,λ|28=>43|3=>3|4=>4|0=>0|n=>n,λ|n=>n⟩
theorem Tryz.lays112:Go.Proofs.Lays.n112 Tryz.prog Tryz.lays112_ren:=⟨by kernel_rfl,func377.trans (cS (by kernel_rfl)),underlying0,isAgg0,sizeOf0,zeroValue0,underlying3,isAgg3,sizeOf3,zeroValue3,underlying4,isAgg4,sizeOf4,zeroValue4,underlying43,isAgg43,sizeOf43,zeroValue43⟩
open Go.RowKit Go.Lib Go.Sort in
open Go.RowKit Go.Lib Go.Sort in
theorem Tryz.slices_Reverse_int(blk off cap:Nat)(zs:List Int)(w:World)(hH:Holds (Value.int .i64) w blk off zs.toArray)(hsz:zs.length≤9223372036854775807):
    Calls Tryz.prog 377 #[.slice (Y ⟨blk,off,none⟩) zs.length cap] w λe w'=>e=.returned (.tuple #[])/\∃n,w'=putRow (Value.int .i64) (Sort.ahead w n) blk off zs.reverse.toArray:=Any.slices_Reverse_int Tryz.lays112 blk off cap zs w hH hsz
open Go.RowKit Go.Lib Go.Sort in
theorem Tryz.slices_Reverse_int_empty(a:Option Addr)(cap:Nat)(w:World):
    Calls Tryz.prog 377 #[.slice a 0 cap] w λe w'=>e=.returned (.tuple #[])/\w'=w:=Any.slices_Reverse_int_empty Tryz.lays112 a cap w
open Go.RowKit Go.Lib in
open Go.RowKit Go.Lib in
open Go.RowKit Go.Lib in
open Go.RowKit Go.Lib in
open Go.RowKit Go.Lib in
open Go.RowKit Go.Lib in
def Tryz.laysNm220_ren:Go.Shelf.Ren:=⟨λ|20=>355|n=>n,λ|22=>43|3=>3|4=>4|0=>0|n=>n,λ|n=>n⟩
theorem Tryz.laysNm220:Go.Proofs.Lays2.n20 Tryz.prog Tryz.laysNm220_ren:={
  mixed:=by kernel_rfl
  f20:=func355.trans (cS (by kernel_rfl))
  t0:=underlying0
  a0:=isAgg0
  z0:=sizeOf0
  v0:=zeroValue0
  t3:=underlying3
  a3:=isAgg3
  z3:=sizeOf3
  v3:=zeroValue3
  t4:=underlying4
  a4:=isAgg4
  z4:=sizeOf4
  v4:=zeroValue4
  t22:=underlying43
  a22:=isAgg43
  z22:=sizeOf43
  v22:=zeroValue43
  i3:=by kernel_rfl}
open Go.RowKit Go.Lib Go.Sort in
open Go.RowKit Go.Lib Go.Sort in
theorem Tryz.slices_Compact_int(blk off cap:Nat)(zs:List Int)(w:World)(hH:Holds (Value.int .i64) w blk off zs.toArray)(hsz:zs.length≤9223372036854775807)(hcap:zs.length≤cap):
    Calls Tryz.prog 355 #[.slice (Y ⟨blk,off,none⟩) zs.length cap] w λe w'=>e=.returned (.slice (Y ⟨blk,off,none⟩) (Lib.compact zs).length cap)/\∃q,w'=putRow (Value.int .i64) (Sort.ahead w q) blk off (Lib.compact zs ++ List.replicate (zs.length-(Lib.compact zs).length) 0).toArray:=Any.slices_Compact_int Tryz.laysNm220 blk off cap zs w hH hsz hcap
open Go.RowKit Go.Lib Go.Sort in
theorem Tryz.slices_Compact_int_empty(a:Option Addr)(cap:Nat)(w:World):
    Calls Tryz.prog 355 #[.slice a 0 cap] w λe w'=>e=.returned (.slice a 0 cap)/\w'=w:=Any.slices_Compact_int_empty Tryz.laysNm220 a cap w
open Go.RowKit Go.Lib in
open Go.RowKit Go.Lib in
open Go.RowKit Go.Lib in
def Tryz.laysNm225_ren:Go.Shelf.Ren:=⟨λ|25=>264|31=>326|32=>327|37=>353|n=>n,λ|22=>43|3=>3|4=>4|40=>303|0=>0|n=>n,λ|n=>n⟩
theorem Tryz.laysNm225:Go.Proofs.Lays2.n25 Tryz.prog Tryz.laysNm225_ren:={
  mixed:=by kernel_rfl
  f25:=func264.trans (cS (by kernel_rfl))
  f31:=func326.trans (cS (by kernel_rfl))
  f32:=func327.trans (cS (by kernel_rfl))
  f37:=func353.trans (cS (by kernel_rfl))
  t0:=underlying0
  a0:=isAgg0
  z0:=sizeOf0
  v0:=zeroValue0
  t3:=underlying3
  a3:=isAgg3
  z3:=sizeOf3
  v3:=zeroValue3
  t4:=underlying4
  a4:=isAgg4
  z4:=sizeOf4
  v4:=zeroValue4
  t22:=underlying43
  a22:=isAgg43
  z22:=sizeOf43
  v22:=zeroValue43
  t40:=underlying303
  a40:=isAgg303
  z40:=sizeOf303
  v40:=zeroValue303}
open Go.RowKit Go.Lib in
theorem Tryz.slices_BinarySearch_int(b off n c:Nat)(zs:List Int)(x:Int)(w:World)(hz:n≤zs.length)(hbig:n<4611686018427387904)(hc:∀j,j<zs.length->w.cell? ⟨b,off+j,none⟩=Y (.int .i64 (zs.getD j 0)))(hs:(zs.take n).Pairwise (· ≤ ·)):
    Calls Tryz.prog 264 #[.slice (Y ⟨b,off,none⟩) n c,.int .i64 x] w λe w'=>e=.returned (.tuple #[.int .i64 ((zs.take n).countP (· <x):Nat),.bool ((zs.take n).contains x)])/\∃q,w'=w.drewN q:=Any.slices_BinarySearch_int Tryz.laysNm225 b off n c zs x w hz hbig hc hs
open Go.RowKit Go.Lib Go.Sort in
open Go.RowKit Go.Lib Go.Sort in
open Go.RowKit Go.Sort in
theorem Tryz.slices_Sort_int_none(p:Option Addr)(cap:Nat)(w:World):
    Calls Tryz.prog 372 #[.slice p 0 cap] w λe w'=>e=.returned (.tuple #[])/\w'=w:=Any.slices_Sort_int_none Tryz.lays189 p cap w
open Go.RowKit Go.Lib in
theorem Tryz.slices_BinarySearch_int_empty(a:Option Addr)(c:Nat)(x:Int)(w:World):
    Calls Tryz.prog 264 #[.slice a 0 c,.int .i64 x] w λe w'=>e=.returned (.tuple #[.int .i64 0,.bool false])/\w'=w:=Any.slices_BinarySearch_int_empty Tryz.laysNm225 a c x w
open Go.RowKit Go.Lib in
open Go.RowKit Go.Lib Go.Sort in
open Go.RowKit Go.Lib Go.Sort in
open Go.RowKit Go.Lib Go.Sort in
open Go.RowKit Go.Lib in
open Go.RowKit Go.Lib in
open Go.RowKit Go.Lib in
open Go.RowKit Go.Lib in
def Tryz.lays7n25_ren:Go.Shelf.Ren:=⟨λ|25=>352|n=>n,λ|22=>30|n=>n,λ|n=>n⟩
theorem Tryz.lays7n25:Go.Proofs.Lays7.n25 Tryz.prog Tryz.lays7n25_ren:=⟨by kernel_rfl,func352.trans (cS (by kernel_rfl)),underlying30,isAgg30,sizeOf30,zeroValue30,by kernel_rfl⟩
def Tryz.sortedA_ren:Go.Shelf.Ren:=⟨λ|6=>356|8=>381|9=>372|11=>392|13=>390|12=>389|23=>405|24=>406|14=>397|15=>398|16=>399|17=>400|18=>401|19=>402|20=>326|21=>403|22=>404|25=>408|26=>409|27=>410|28=>411|29=>412|30=>353|31=>414|n=>n,λ|26=>3|28=>398|24=>43|0=>0|3=>3|37=>303|48=>340|50=>30|4=>4|40=>418|39=>417|45=>291|5=>5|9=>9|51=>425|55=>429|57=>431|58=>313|33=>173|n=>n,λ|n=>n⟩
theorem Tryz.sortedA:Go.Proofs.SlLaysZI.n6 Tryz.prog Tryz.sortedA_ren:={
  mixed:=by kernel_rfl
  f6:=⟨Tryz.f356.name,by decide,func356.trans (cS (by kernel_rfl))⟩
  f8:=⟨Tryz.f381.name,by decide,func381.trans (cS (by kernel_rfl))⟩
  f11:=⟨Tryz.f392.name,by decide,func392.trans (cS (by kernel_rfl))⟩
  t0:=underlying0
  a0:=isAgg0
  z0:=sizeOf0
  v0:=zeroValue0
  t24:=underlying43
  a24:=isAgg43
  z24:=sizeOf43
  v24:=zeroValue43
  t26:=underlying3
  a26:=isAgg3
  z26:=sizeOf3
  v26:=zeroValue3
  t28:=underlying398
  a28:=isAgg398
  z28:=sizeOf398
  v28:=zeroValue398
  i26:=by kernel_rfl}
def Tryz.growI_ren:Go.Shelf.Ren:=⟨λ|4=>79|n=>n,λ|22=>43|25=>3|3=>3|4=>4|9=>9|20=>20|0=>0|n=>n,λ|n=>n⟩
theorem Tryz.growI:Go.Proofs.Lays8.n4 Tryz.prog Tryz.growI_ren:={
  mixed:=by kernel_rfl
  f4:=⟨Tryz.f79.name,by decide,func79.trans (cS (by kernel_rfl))⟩
  t0:=underlying0
  a0:=isAgg0
  z0:=sizeOf0
  v0:=zeroValue0
  t3:=underlying3
  a3:=isAgg3
  z3:=sizeOf3
  v3:=zeroValue3
  t4:=underlying4
  a4:=isAgg4
  z4:=sizeOf4
  v4:=zeroValue4
  t9:=underlying9
  a9:=isAgg9
  z9:=sizeOf9
  v9:=zeroValue9
  t20:=underlying20
  a20:=isAgg20
  z20:=sizeOf20
  v20:=zeroValue20
  t22:=underlying43
  a22:=isAgg43
  z22:=sizeOf43
  v22:=zeroValue43}
end Go.Proofs
