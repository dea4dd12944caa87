/- What the library functions that are called do. -/
import Derived.Shelf.Spec.BitsCarry
import Derived.Ground.Names7Prog
import Derived.Shelf.SlIterI.Sorted
import Derived.Ground.GgzProg
import Derived.Shelf.Small.Bits
import Derived.Shelf.Small.Strs
import Derived.Shelf.Small.Wraps
import Derived.Shelf.Strconv.Itoa0
import Derived.Shelf.Strings.Search1
import Derived.Shelf.Sort.Plain
import Derived.Shelf.Bits.Mul64
import Derived.Shelf.Slices.Turned
import Derived.Shelf.Slices.Reverse
import Derived.Shelf.Slices.Equal
import Derived.Ground.Names2Prog
import Derived.Shelf.Slices.Clone
import Derived.Shelf.Slices.CompactI
import Derived.Shelf.Slices.SearchI
import Derived.Shelf.Slices.Cells
import Derived.Shelf.Slices.In.SortNone
import Derived.Shelf.Slices.Empties
import Derived.Shelf.Slices.Empties2
import Derived.Ground.SlgnProg
import Derived.Shelf.SlicesE.Reverse
import Derived.Shelf.SlicesE.Clone
import Derived.Test.YtfcfkigfmofniaaGreatProg
set_option linter.all false
set_option maxRecDepth 100000
open Option renaming some->Y
namespace Go.Proofs
open Go.Shelf Tryz
theorem cS{α:Type}{a b:α}(h:a=b):Y a=Y b:=congrArg Y h
def Tryz.lays137_ren:Go.Shelf.Ren:=⟨λ|137=>310|217=>345|266=>363|n=>n,λ|9=>9|5=>5|3=>3|n=>n,λ|n=>n⟩
theorem Tryz.lays137:Go.Proofs.Lays.n137 Tryz.prog Tryz.lays137_ren:=⟨by kernel_rfl,func310.trans (cS (by kernel_rfl)),func345.trans (cS (by kernel_rfl)),func363.trans (cS (by kernel_rfl)),underlying3,isAgg3,sizeOf3,zeroValue3,underlying5,isAgg5,sizeOf5,zeroValue5,underlying9,isAgg9,sizeOf9,zeroValue9⟩
open Go.RowKit in
theorem Tryz.strings_IndexByte(s:ByteArray)(c:Int)(w:World):
    Calls Tryz.prog 310 #[.string s,.int .u8 c] w λe w'=>e=.returned (.int .i64 (Lib.indexByte s.data.toList c.toNat.toUInt8))/\w'=w:=Any.strings_IndexByte Tryz.lays137 s c w
open Go.RowKit in
open Go.RowKit in
open Go.RowKit Go.Lib in
def Tryz.lays189_ren:Go.Shelf.Ren:=⟨λ|189=>316|125=>350|257=>349|128=>372|129=>373|294=>364|295=>365|296=>366|297=>367|298=>368|299=>369|216=>314|300=>370|301=>371|328=>382|329=>383|330=>384|331=>385|332=>386|215=>348|343=>393|n=>n,λ|28=>35|3=>3|46=>354|0=>0|51=>381|53=>122|4=>4|183=>389|182=>388|131=>306|5=>5|9=>9|218=>403|222=>407|228=>413|229=>297|n=>n,λ|n=>n⟩
theorem Tryz.lays189:Go.Proofs.Lays.n189 Tryz.prog Tryz.lays189_ren:=⟨by kernel_rfl,func350.trans (cS (by kernel_rfl)),func372.trans (cS (by kernel_rfl)),func373.trans (cS (by kernel_rfl)),func316.trans (cS (by kernel_rfl)),func348.trans (cS (by kernel_rfl)),func314.trans (cS (by kernel_rfl)),func349.trans (cS (by kernel_rfl)),func364.trans (cS (by kernel_rfl)),func365.trans (cS (by kernel_rfl)),func366.trans (cS (by kernel_rfl)),func367.trans (cS (by kernel_rfl)),func368.trans (cS (by kernel_rfl)),func369.trans (cS (by kernel_rfl)),func370.trans (cS (by kernel_rfl)),func371.trans (cS (by kernel_rfl)),func382.trans (cS (by kernel_rfl)),func383.trans (cS (by kernel_rfl)),func384.trans (cS (by kernel_rfl)),func385.trans (cS (by kernel_rfl)),func386.trans (cS (by kernel_rfl)),func393.trans (cS (by kernel_rfl)),underlying0,isAgg0,sizeOf0,zeroValue0,underlying3,isAgg3,sizeOf3,zeroValue3,underlying4,isAgg4,sizeOf4,zeroValue4,underlying5,isAgg5,sizeOf5,zeroValue5,underlying9,isAgg9,sizeOf9,zeroValue9,underlying35,isAgg35,sizeOf35,zeroValue35,underlying354,isAgg354,sizeOf354,zeroValue354,underlying381,isAgg381,sizeOf381,zeroValue381,underlying122,isAgg122,sizeOf122,zeroValue122,underlying306,isAgg306,sizeOf306,zeroValue306,underlying388,isAgg388,sizeOf388,zeroValue388,underlying389,isAgg389,sizeOf389,zeroValue389,underlying403,isAgg403,sizeOf403,zeroValue403,underlying407,isAgg407,sizeOf407,zeroValue407,underlying413,isAgg413,sizeOf413,zeroValue413,underlying297,isAgg297,sizeOf297,zeroValue297⟩
open Go.Sort Go.RowKit in
theorem Tryz.slices_Sort_int(blk off cap:Nat)(zs:List Int)(w:World)(hH:Holds (Value.int .i64) w blk off zs.toArray)(hblk:blk<w.heap.size)(hsz:zs.length<4611686018427387904):
    Calls Tryz.prog 316 #[.slice (Y ⟨blk,off,none⟩) zs.length cap] w λe w'=>
      e=.returned (.tuple #[])/\∃n os,w'=grow (putRow (Value.int .i64) (Sort.ahead w n) blk off (zs.mergeSort λx y=>decide (x≤y)).toArray) os:=Any.slices_Sort_int Tryz.lays189 blk off cap zs w hH hblk hsz
open Go.RowKit Go.Lib in
def Tryz.lays212_ren:Go.Shelf.Ren:=⟨λ|212=>331|263=>360|264=>361|n=>n,λ|46=>354|51=>381|146=>382|53=>122|148=>384|n=>n,λ|n=>n⟩
theorem Tryz.lays212:Go.Proofs.Lays.n212 Tryz.prog Tryz.lays212_ren:=⟨by kernel_rfl,func331.trans (cS (by kernel_rfl)),func360.trans (cS (by kernel_rfl)),func361.trans (cS (by kernel_rfl)),underlying354,isAgg354,sizeOf354,zeroValue354,underlying381,isAgg381,sizeOf381,zeroValue381,underlying122,isAgg122,sizeOf122,zeroValue122,underlying382,isAgg382,sizeOf382,zeroValue382,underlying384,isAgg384,sizeOf384,zeroValue384⟩
open Go.RowKit Go.Lib in
theorem Tryz.bits_Mul(x y:Nat)(hx:x<18446744073709551616)(hy:y<18446744073709551616)(w:World):
    Calls Tryz.prog 331 #[.int .u64 x,.int .u64 y] w λe w'=>e=.returned (.tuple #[.int .u64 ((x*y / 18446744073709551616:Nat):Int),.int .u64 ((x*y % 18446744073709551616:Nat):Int)])/\w'=w:=Any.bits_Mul Tryz.lays212 x y hx hy w
open Go.Lib in
open Go.Lib in
open Go.Lib in
open Go.Lib in
open Go.Lib in
open Go.Lib in
open Go.Lib in
open Go.Lib in
def Tryz.lays112_ren:Go.Shelf.Ren:=⟨λ|112=>237|n=>n,λ|28=>35|3=>3|4=>4|0=>0|n=>n,λ|n=>n⟩
theorem Tryz.lays112:Go.Proofs.Lays.n112 Tryz.prog Tryz.lays112_ren:=⟨by kernel_rfl,func237.trans (cS (by kernel_rfl)),underlying0,isAgg0,sizeOf0,zeroValue0,underlying3,isAgg3,sizeOf3,zeroValue3,underlying4,isAgg4,sizeOf4,zeroValue4,underlying35,isAgg35,sizeOf35,zeroValue35⟩
open Go.RowKit Go.Lib Go.Sort in
open Go.RowKit Go.Lib Go.Sort in
theorem Tryz.slices_Reverse_int(blk off cap:Nat)(zs:List Int)(w:World)(hH:Holds (Value.int .i64) w blk off zs.toArray)(hsz:zs.length≤9223372036854775807):
    Calls Tryz.prog 237 #[.slice (Y ⟨blk,off,none⟩) zs.length cap] w λe w'=>e=.returned (.tuple #[])/\∃n,w'=putRow (Value.int .i64) (Sort.ahead w n) blk off zs.reverse.toArray:=Any.slices_Reverse_int Tryz.lays112 blk off cap zs w hH hsz
open Go.RowKit Go.Lib Go.Sort in
theorem Tryz.slices_Reverse_int_empty(a:Option Addr)(cap:Nat)(w:World):
    Calls Tryz.prog 237 #[.slice a 0 cap] w λe w'=>e=.returned (.tuple #[])/\w'=w:=Any.slices_Reverse_int_empty Tryz.lays112 a cap w
open Go.RowKit Go.Lib in
open Go.RowKit Go.Lib in
open Go.RowKit Go.Lib in
open Go.RowKit Go.Lib in
open Go.RowKit Go.Lib in
open Go.RowKit Go.Lib in
def Tryz.laysNm220_ren:Go.Shelf.Ren:=⟨λ|20=>317|n=>n,λ|22=>35|3=>3|4=>4|0=>0|n=>n,λ|n=>n⟩
theorem Tryz.laysNm220:Go.Proofs.Lays2.n20 Tryz.prog Tryz.laysNm220_ren:={
  mixed:=by kernel_rfl
  f20:=func317.trans (cS (by kernel_rfl))
  t0:=underlying0
  a0:=isAgg0
  z0:=sizeOf0
  v0:=zeroValue0
  t3:=underlying3
  a3:=isAgg3
  z3:=sizeOf3
  v3:=zeroValue3
  t4:=underlying4
  a4:=isAgg4
  z4:=sizeOf4
  v4:=zeroValue4
  t22:=underlying35
  a22:=isAgg35
  z22:=sizeOf35
  v22:=zeroValue35
  i3:=by kernel_rfl}
open Go.RowKit Go.Lib Go.Sort in
open Go.RowKit Go.Lib Go.Sort in
theorem Tryz.slices_Compact_int(blk off cap:Nat)(zs:List Int)(w:World)(hH:Holds (Value.int .i64) w blk off zs.toArray)(hsz:zs.length≤9223372036854775807)(hcap:zs.length≤cap):
    Calls Tryz.prog 317 #[.slice (Y ⟨blk,off,none⟩) zs.length cap] w λe w'=>e=.returned (.slice (Y ⟨blk,off,none⟩) (Lib.compact zs).length cap)/\∃q,w'=putRow (Value.int .i64) (Sort.ahead w q) blk off (Lib.compact zs ++ List.replicate (zs.length-(Lib.compact zs).length) 0).toArray:=Any.slices_Compact_int Tryz.laysNm220 blk off cap zs w hH hsz hcap
open Go.RowKit Go.Lib Go.Sort in
theorem Tryz.slices_Compact_int_empty(a:Option Addr)(cap:Nat)(w:World):
    Calls Tryz.prog 317 #[.slice a 0 cap] w λe w'=>e=.returned (.slice a 0 cap)/\w'=w:=Any.slices_Compact_int_empty Tryz.laysNm220 a cap w
open Go.RowKit Go.Lib in
open Go.RowKit Go.Lib in
open Go.RowKit Go.Lib in
def Tryz.laysNm225_ren:Go.Shelf.Ren:=⟨λ|25=>272|31=>314|32=>315|37=>348|n=>n,λ|22=>35|3=>3|4=>4|40=>354|0=>0|n=>n,λ|n=>n⟩
theorem Tryz.laysNm225:Go.Proofs.Lays2.n25 Tryz.prog Tryz.laysNm225_ren:={
  mixed:=by kernel_rfl
  f25:=func272.trans (cS (by kernel_rfl))
  f31:=func314.trans (cS (by kernel_rfl))
  f32:=func315.trans (cS (by kernel_rfl))
  f37:=func348.trans (cS (by kernel_rfl))
  t0:=underlying0
  a0:=isAgg0
  z0:=sizeOf0
  v0:=zeroValue0
  t3:=underlying3
  a3:=isAgg3
  z3:=sizeOf3
  v3:=zeroValue3
  t4:=underlying4
  a4:=isAgg4
  z4:=sizeOf4
  v4:=zeroValue4
  t22:=underlying35
  a22:=isAgg35
  z22:=sizeOf35
  v22:=zeroValue35
  t40:=underlying354
  a40:=isAgg354
  z40:=sizeOf354
  v40:=zeroValue354}
open Go.RowKit Go.Lib in
theorem Tryz.slices_BinarySearch_int(b off n c:Nat)(zs:List Int)(x:Int)(w:World)(hz:n≤zs.length)(hbig:n<4611686018427387904)(hc:∀j,j<zs.length->w.cell? ⟨b,off+j,none⟩=Y (.int .i64 (zs.getD j 0)))(hs:(zs.take n).Pairwise (· ≤ ·)):
    Calls Tryz.prog 272 #[.slice (Y ⟨b,off,none⟩) n c,.int .i64 x] w λe w'=>e=.returned (.tuple #[.int .i64 ((zs.take n).countP (· <x):Nat),.bool ((zs.take n).contains x)])/\∃q,w'=w.drewN q:=Any.slices_BinarySearch_int Tryz.laysNm225 b off n c zs x w hz hbig hc hs
open Go.RowKit Go.Lib Go.Sort in
open Go.RowKit Go.Lib Go.Sort in
open Go.RowKit Go.Sort in
theorem Tryz.slices_Sort_int_none(p:Option Addr)(cap:Nat)(w:World):
    Calls Tryz.prog 316 #[.slice p 0 cap] w λe w'=>e=.returned (.tuple #[])/\w'=w:=Any.slices_Sort_int_none Tryz.lays189 p cap w
open Go.RowKit Go.Lib in
theorem Tryz.slices_BinarySearch_int_empty(a:Option Addr)(c:Nat)(x:Int)(w:World):
    Calls Tryz.prog 272 #[.slice a 0 c,.int .i64 x] w λe w'=>e=.returned (.tuple #[.int .i64 0,.bool false])/\w'=w:=Any.slices_BinarySearch_int_empty Tryz.laysNm225 a c x w
open Go.RowKit Go.Lib in
open Go.RowKit Go.Lib Go.Sort in
open Go.RowKit Go.Lib Go.Sort in
open Go.RowKit Go.Lib Go.Sort in
open Go.RowKit Go.Lib in
open Go.RowKit Go.Lib in
open Go.RowKit Go.Lib in
open Go.RowKit Go.Lib in
def Tryz.lays7n25_ren:Go.Shelf.Ren:=⟨λ|25=>388|n=>n,λ|22=>122|n=>n,λ|n=>n⟩
theorem Tryz.lays7n25:Go.Proofs.Lays7.n25 Tryz.prog Tryz.lays7n25_ren:=⟨by kernel_rfl,func388.trans (cS (by kernel_rfl)),underlying122,isAgg122,sizeOf122,zeroValue122,by kernel_rfl⟩
def Tryz.sortedA_ren:Go.Shelf.Ren:=⟨λ|6=>352|8=>374|9=>316|11=>387|13=>350|12=>349|23=>372|24=>373|14=>364|15=>365|16=>366|17=>367|18=>368|19=>369|20=>314|21=>370|22=>371|25=>382|26=>383|27=>384|28=>385|29=>386|30=>348|31=>393|n=>n,λ|26=>3|28=>378|24=>35|0=>0|3=>3|37=>354|48=>381|50=>122|4=>4|40=>389|39=>388|45=>306|5=>5|9=>9|51=>403|55=>407|57=>413|58=>297|33=>183|n=>n,λ|n=>n⟩
theorem Tryz.sortedA:Go.Proofs.SlLaysZI.n6 Tryz.prog Tryz.sortedA_ren:={
  mixed:=by kernel_rfl
  f6:=⟨Tryz.f352.name,by decide,func352.trans (cS (by kernel_rfl))⟩
  f8:=⟨Tryz.f374.name,by decide,func374.trans (cS (by kernel_rfl))⟩
  f11:=⟨Tryz.f387.name,by decide,func387.trans (cS (by kernel_rfl))⟩
  t0:=underlying0
  a0:=isAgg0
  z0:=sizeOf0
  v0:=zeroValue0
  t24:=underlying35
  a24:=isAgg35
  z24:=sizeOf35
  v24:=zeroValue35
  t26:=underlying3
  a26:=isAgg3
  z26:=sizeOf3
  v26:=zeroValue3
  t28:=underlying378
  a28:=isAgg378
  z28:=sizeOf378
  v28:=zeroValue378
  i26:=by kernel_rfl}
end Go.Proofs
