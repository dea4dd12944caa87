/- What the library functions that are called do. -/
import Derived.Shelf.Spec.BitsCarry
import Derived.Ground.Names7Prog
import Derived.Shelf.SlIterI.Sorted
import Derived.Ground.GgzProg
import Derived.Shelf.Spec.SlicesGrow
import Derived.Ground.Names8Prog
import Derived.Shelf.Small.Bits
import Derived.Shelf.Small.Strs
import Derived.Shelf.Small.Wraps
import Derived.Shelf.Strconv.Itoa0
import Derived.Shelf.Strings.Search1
import Derived.Shelf.Sort.Plain
import Derived.Shelf.Bits.Mul64
import Derived.Shelf.Slices.Turned
import Derived.Shelf.Slices.Reverse
import Derived.Shelf.Slices.Equal
import Derived.Ground.Names2Prog
import Derived.Shelf.Slices.Clone
import Derived.Shelf.Slices.CompactI
import Derived.Shelf.Slices.SearchI
import Derived.Shelf.Slices.Cells
import Derived.Shelf.Slices.In.SortNone
import Derived.Shelf.Slices.Empties
import Derived.Shelf.Slices.Empties2
import Derived.Ground.SlgnProg
import Derived.Shelf.SlicesE.Reverse
import Derived.Shelf.SlicesE.Clone
import Derived.Test.YtiaddfklojalbaaGreatProg
set_option linter.all false
set_option maxRecDepth 100000
open Option renaming some->Y
namespace Go.Proofs
open Go.Shelf Tryz
theorem cS{α:Type}{a b:α}(h:a=b):Y a=Y b:=congrArg Y h
def Tryz.lays137_ren:Go.Shelf.Ren:=⟨λ|137=>325|217=>347|266=>355|n=>n,λ|9=>9|5=>5|3=>3|n=>n,λ|n=>n⟩
theorem Tryz.lays137:Go.Proofs.Lays.n137 Tryz.prog Tryz.lays137_ren:=⟨by kernel_rfl,func325.trans (cS (by kernel_rfl)),func347.trans (cS (by kernel_rfl)),func355.trans (cS (by kernel_rfl)),underlying3,isAgg3,sizeOf3,zeroValue3,underlying5,isAgg5,sizeOf5,zeroValue5,underlying9,isAgg9,sizeOf9,zeroValue9⟩
open Go.RowKit in
theorem Tryz.strings_IndexByte(s:ByteArray)(c:Int)(w:World):
    Calls Tryz.prog 325 #[.string s,.int .u8 c] w λe w'=>e=.returned (.int .i64 (Lib.indexByte s.data.toList c.toNat.toUInt8))/\w'=w:=Any.strings_IndexByte Tryz.lays137 s c w
open Go.RowKit in
open Go.RowKit in
open Go.RowKit Go.Lib in
def Tryz.lays189_ren:Go.Shelf.Ren:=⟨λ|189=>113|125=>176|257=>175|128=>239|129=>240|294=>231|295=>232|296=>233|297=>234|298=>235|299=>236|216=>178|300=>237|301=>238|328=>285|329=>286|330=>287|331=>288|332=>289|215=>243|343=>327|n=>n,λ|28=>26|3=>3|46=>241|0=>0|51=>302|53=>304|4=>4|183=>296|182=>295|131=>191|5=>5|9=>9|218=>335|222=>339|228=>368|229=>312|n=>n,λ|n=>n⟩
theorem Tryz.lays189:Go.Proofs.Lays.n189 Tryz.prog Tryz.lays189_ren:=⟨by kernel_rfl,func176.trans (cS (by kernel_rfl)),func239.trans (cS (by kernel_rfl)),func240.trans (cS (by kernel_rfl)),func113.trans (cS (by kernel_rfl)),func243.trans (cS (by kernel_rfl)),func178.trans (cS (by kernel_rfl)),func175.trans (cS (by kernel_rfl)),func231.trans (cS (by kernel_rfl)),func232.trans (cS (by kernel_rfl)),func233.trans (cS (by kernel_rfl)),func234.trans (cS (by kernel_rfl)),func235.trans (cS (by kernel_rfl)),func236.trans (cS (by kernel_rfl)),func237.trans (cS (by kernel_rfl)),func238.trans (cS (by kernel_rfl)),func285.trans (cS (by kernel_rfl)),func286.trans (cS (by kernel_rfl)),func287.trans (cS (by kernel_rfl)),func288.trans (cS (by kernel_rfl)),func289.trans (cS (by kernel_rfl)),func327.trans (cS (by kernel_rfl)),underlying0,isAgg0,sizeOf0,zeroValue0,underlying3,isAgg3,sizeOf3,zeroValue3,underlying4,isAgg4,sizeOf4,zeroValue4,underlying5,isAgg5,sizeOf5,zeroValue5,underlying9,isAgg9,sizeOf9,zeroValue9,underlying26,isAgg26,sizeOf26,zeroValue26,underlying241,isAgg241,sizeOf241,zeroValue241,underlying302,isAgg302,sizeOf302,zeroValue302,underlying304,isAgg304,sizeOf304,zeroValue304,underlying191,isAgg191,sizeOf191,zeroValue191,underlying295,isAgg295,sizeOf295,zeroValue295,underlying296,isAgg296,sizeOf296,zeroValue296,underlying335,isAgg335,sizeOf335,zeroValue335,underlying339,isAgg339,sizeOf339,zeroValue339,underlying368,isAgg368,sizeOf368,zeroValue368,underlying312,isAgg312,sizeOf312,zeroValue312⟩
open Go.Sort Go.RowKit in
theorem Tryz.slices_Sort_int(blk off cap:Nat)(zs:List Int)(w:World)(hH:Holds (Value.int .i64) w blk off zs.toArray)(hblk:blk<w.heap.size)(hsz:zs.length<4611686018427387904):
    Calls Tryz.prog 113 #[.slice (Y ⟨blk,off,none⟩) zs.length cap] w λe w'=>
      e=.returned (.tuple #[])/\∃n os,w'=grow (putRow (Value.int .i64) (Sort.ahead w n) blk off (zs.mergeSort λx y=>decide (x≤y)).toArray) os:=Any.slices_Sort_int Tryz.lays189 blk off cap zs w hH hblk hsz
open Go.RowKit Go.Lib in
def Tryz.lays212_ren:Go.Shelf.Ren:=⟨λ|212=>280|263=>317|264=>318|n=>n,λ|46=>241|51=>302|146=>360|53=>304|148=>362|n=>n,λ|n=>n⟩
theorem Tryz.lays212:Go.Proofs.Lays.n212 Tryz.prog Tryz.lays212_ren:=⟨by kernel_rfl,func280.trans (cS (by kernel_rfl)),func317.trans (cS (by kernel_rfl)),func318.trans (cS (by kernel_rfl)),underlying241,isAgg241,sizeOf241,zeroValue241,underlying302,isAgg302,sizeOf302,zeroValue302,underlying304,isAgg304,sizeOf304,zeroValue304,underlying360,isAgg360,sizeOf360,zeroValue360,underlying362,isAgg362,sizeOf362,zeroValue362⟩
open Go.RowKit Go.Lib in
theorem Tryz.bits_Mul(x y:Nat)(hx:x<18446744073709551616)(hy:y<18446744073709551616)(w:World):
    Calls Tryz.prog 280 #[.int .u64 x,.int .u64 y] w λe w'=>e=.returned (.tuple #[.int .u64 ((x*y / 18446744073709551616:Nat):Int),.int .u64 ((x*y % 18446744073709551616:Nat):Int)])/\w'=w:=Any.bits_Mul Tryz.lays212 x y hx hy w
open Go.Lib in
open Go.Lib in
open Go.Lib in
open Go.Lib in
open Go.Lib in
open Go.Lib in
open Go.Lib in
open Go.Lib in
def Tryz.lays112_ren:Go.Shelf.Ren:=⟨λ|112=>230|n=>n,λ|28=>26|3=>3|4=>4|0=>0|n=>n,λ|n=>n⟩
theorem Tryz.lays112:Go.Proofs.Lays.n112 Tryz.prog Tryz.lays112_ren:=⟨by kernel_rfl,func230.trans (cS (by kernel_rfl)),underlying0,isAgg0,sizeOf0,zeroValue0,underlying3,isAgg3,sizeOf3,zeroValue3,underlying4,isAgg4,sizeOf4,zeroValue4,underlying26,isAgg26,sizeOf26,zeroValue26⟩
open Go.RowKit Go.Lib Go.Sort in
open Go.RowKit Go.Lib Go.Sort in
theorem Tryz.slices_Reverse_int(blk off cap:Nat)(zs:List Int)(w:World)(hH:Holds (Value.int .i64) w blk off zs.toArray)(hsz:zs.length≤9223372036854775807):
    Calls Tryz.prog 230 #[.slice (Y ⟨blk,off,none⟩) zs.length cap] w λe w'=>e=.returned (.tuple #[])/\∃n,w'=putRow (Value.int .i64) (Sort.ahead w n) blk off zs.reverse.toArray:=Any.slices_Reverse_int Tryz.lays112 blk off cap zs w hH hsz
open Go.RowKit Go.Lib Go.Sort in
theorem Tryz.slices_Reverse_int_empty(a:Option Addr)(cap:Nat)(w:World):
    Calls Tryz.prog 230 #[.slice a 0 cap] w λe w'=>e=.returned (.tuple #[])/\w'=w:=Any.slices_Reverse_int_empty Tryz.lays112 a cap w
open Go.RowKit Go.Lib in
open Go.RowKit Go.Lib in
open Go.RowKit Go.Lib in
open Go.RowKit Go.Lib in
open Go.RowKit Go.Lib in
open Go.RowKit Go.Lib in
def Tryz.laysNm220_ren:Go.Shelf.Ren:=⟨λ|20=>114|n=>n,λ|22=>26|3=>3|4=>4|0=>0|n=>n,λ|n=>n⟩
theorem Tryz.laysNm220:Go.Proofs.Lays2.n20 Tryz.prog Tryz.laysNm220_ren:={
  mixed:=by kernel_rfl
  f20:=func114.trans (cS (by kernel_rfl))
  t0:=underlying0
  a0:=isAgg0
  z0:=sizeOf0
  v0:=zeroValue0
  t3:=underlying3
  a3:=isAgg3
  z3:=sizeOf3
  v3:=zeroValue3
  t4:=underlying4
  a4:=isAgg4
  z4:=sizeOf4
  v4:=zeroValue4
  t22:=underlying26
  a22:=isAgg26
  z22:=sizeOf26
  v22:=zeroValue26
  i3:=by kernel_rfl}
open Go.RowKit Go.Lib Go.Sort in
open Go.RowKit Go.Lib Go.Sort in
theorem Tryz.slices_Compact_int(blk off cap:Nat)(zs:List Int)(w:World)(hH:Holds (Value.int .i64) w blk off zs.toArray)(hsz:zs.length≤9223372036854775807)(hcap:zs.length≤cap):
    Calls Tryz.prog 114 #[.slice (Y ⟨blk,off,none⟩) zs.length cap] w λe w'=>e=.returned (.slice (Y ⟨blk,off,none⟩) (Lib.compact zs).length cap)/\∃q,w'=putRow (Value.int .i64) (Sort.ahead w q) blk off (Lib.compact zs ++ List.replicate (zs.length-(Lib.compact zs).length) 0).toArray:=Any.slices_Compact_int Tryz.laysNm220 blk off cap zs w hH hsz hcap
open Go.RowKit Go.Lib Go.Sort in
theorem Tryz.slices_Compact_int_empty(a:Option Addr)(cap:Nat)(w:World):
    Calls Tryz.prog 114 #[.slice a 0 cap] w λe w'=>e=.returned (.slice a 0 cap)/\w'=w:=Any.slices_Compact_int_empty Tryz.laysNm220 a cap w
open Go.RowKit Go.Lib in
open Go.RowKit Go.Lib in
open Go.RowKit Go.Lib in
def Tryz.laysNm225_ren:Go.Shelf.Ren:=⟨λ|25=>116|31=>178|32=>179|37=>243|n=>n,λ|22=>26|3=>3|4=>4|40=>241|0=>0|n=>n,λ|n=>n⟩
theorem Tryz.laysNm225:Go.Proofs.Lays2.n25 Tryz.prog Tryz.laysNm225_ren:={
  mixed:=by kernel_rfl
  f25:=func116.trans (cS (by kernel_rfl))
  f31:=func178.trans (cS (by kernel_rfl))
  f32:=func179.trans (cS (by kernel_rfl))
  f37:=func243.trans (cS (by kernel_rfl))
  t0:=underlying0
  a0:=isAgg0
  z0:=sizeOf0
  v0:=zeroValue0
  t3:=underlying3
  a3:=isAgg3
  z3:=sizeOf3
  v3:=zeroValue3
  t4:=underlying4
  a4:=isAgg4
  z4:=sizeOf4
  v4:=zeroValue4
  t22:=underlying26
  a22:=isAgg26
  z22:=sizeOf26
  v22:=zeroValue26
  t40:=underlying241
  a40:=isAgg241
  z40:=sizeOf241
  v40:=zeroValue241}
open Go.RowKit Go.Lib in
theorem Tryz.slices_BinarySearch_int(b off n c:Nat)(zs:List Int)(x:Int)(w:World)(hz:n≤zs.length)(hbig:n<4611686018427387904)(hc:∀j,j<zs.length->w.cell? ⟨b,off+j,none⟩=Y (.int .i64 (zs.getD j 0)))(hs:(zs.take n).Pairwise (· ≤ ·)):
    Calls Tryz.prog 116 #[.slice (Y ⟨b,off,none⟩) n c,.int .i64 x] w λe w'=>e=.returned (.tuple #[.int .i64 ((zs.take n).countP (· <x):Nat),.bool ((zs.take n).contains x)])/\∃q,w'=w.drewN q:=Any.slices_BinarySearch_int Tryz.laysNm225 b off n c zs x w hz hbig hc hs
open Go.RowKit Go.Lib Go.Sort in
open Go.RowKit Go.Lib Go.Sort in
open Go.RowKit Go.Sort in
theorem Tryz.slices_Sort_int_none(p:Option Addr)(cap:Nat)(w:World):
    Calls Tryz.prog 113 #[.slice p 0 cap] w λe w'=>e=.returned (.tuple #[])/\w'=w:=Any.slices_Sort_int_none Tryz.lays189 p cap w
open Go.RowKit Go.Lib in
theorem Tryz.slices_BinarySearch_int_empty(a:Option Addr)(c:Nat)(x:Int)(w:World):
    Calls Tryz.prog 116 #[.slice a 0 c,.int .i64 x] w λe w'=>e=.returned (.tuple #[.int .i64 0,.bool false])/\w'=w:=Any.slices_BinarySearch_int_empty Tryz.laysNm225 a c x w
open Go.RowKit Go.Lib in
open Go.RowKit Go.Lib Go.Sort in
open Go.RowKit Go.Lib Go.Sort in
open Go.RowKit Go.Lib Go.Sort in
open Go.RowKit Go.Lib in
open Go.RowKit Go.Lib in
open Go.RowKit Go.Lib in
open Go.RowKit Go.Lib in
open Go.RowKit Go.Lib in
open Go.RowKit Go.Lib in
def Tryz.lays7n25_ren:Go.Shelf.Ren:=⟨λ|25=>350|n=>n,λ|22=>304|n=>n,λ|n=>n⟩
theorem Tryz.lays7n25:Go.Proofs.Lays7.n25 Tryz.prog Tryz.lays7n25_ren:=⟨by kernel_rfl,func350.trans (cS (by kernel_rfl)),underlying304,isAgg304,sizeOf304,zeroValue304,by kernel_rfl⟩
def Tryz.sortedA_ren:Go.Shelf.Ren:=⟨λ|6=>311|8=>338|9=>113|11=>349|13=>176|12=>175|23=>239|24=>240|14=>231|15=>232|16=>233|17=>234|18=>235|19=>236|20=>178|21=>237|22=>238|25=>285|26=>286|27=>287|28=>288|29=>289|30=>243|31=>327|n=>n,λ|26=>3|28=>353|24=>26|0=>0|3=>3|37=>241|48=>302|50=>304|4=>4|40=>296|39=>295|45=>191|5=>5|9=>9|51=>335|55=>339|57=>368|58=>312|33=>118|n=>n,λ|n=>n⟩
theorem Tryz.sortedA:Go.Proofs.SlLaysZI.n6 Tryz.prog Tryz.sortedA_ren:={
  mixed:=by kernel_rfl
  f6:=⟨Tryz.f311.name,by decide,func311.trans (cS (by kernel_rfl))⟩
  f8:=⟨Tryz.f338.name,by decide,func338.trans (cS (by kernel_rfl))⟩
  f11:=⟨Tryz.f349.name,by decide,func349.trans (cS (by kernel_rfl))⟩
  t0:=underlying0
  a0:=isAgg0
  z0:=sizeOf0
  v0:=zeroValue0
  t24:=underlying26
  a24:=isAgg26
  z24:=sizeOf26
  v24:=zeroValue26
  t26:=underlying3
  a26:=isAgg3
  z26:=sizeOf3
  v26:=zeroValue3
  t28:=underlying353
  a28:=isAgg353
  z28:=sizeOf353
  v28:=zeroValue353
  i26:=by kernel_rfl}
def Tryz.growI_ren:Go.Shelf.Ren:=⟨λ|4=>204|n=>n,λ|22=>26|25=>3|3=>3|4=>4|9=>9|20=>20|0=>0|n=>n,λ|n=>n⟩
theorem Tryz.growI:Go.Proofs.Lays8.n4 Tryz.prog Tryz.growI_ren:={
  mixed:=by kernel_rfl
  f4:=⟨Tryz.f204.name,by decide,func204.trans (cS (by kernel_rfl))⟩
  t0:=underlying0
  a0:=isAgg0
  z0:=sizeOf0
  v0:=zeroValue0
  t3:=underlying3
  a3:=isAgg3
  z3:=sizeOf3
  v3:=zeroValue3
  t4:=underlying4
  a4:=isAgg4
  z4:=sizeOf4
  v4:=zeroValue4
  t9:=underlying9
  a9:=isAgg9
  z9:=sizeOf9
  v9:=zeroValue9
  t20:=underlying20
  a20:=isAgg20
  z20:=sizeOf20
  v20:=zeroValue20
  t22:=underlying26
  a22:=isAgg26
  z22:=sizeOf26
  v22:=zeroValue26}
end Go.Proofs
