/- What the library functions that are called do. -/
import Derived.Shelf.Spec.BitsCarry
import Derived.Ground.Names7Prog
import Derived.Shelf.SlIterI.Sorted
import Derived.Ground.GgzProg
import Derived.Shelf.Spec.SlicesGrow
import Derived.Ground.Names8Prog
import Derived.Shelf.Small.Bits
import Derived.Shelf.Small.Strs
import Derived.Shelf.Small.Wraps
import Derived.Shelf.Strconv.Itoa0
import Derived.Shelf.Strings.Search1
import Derived.Shelf.Sort.Plain
import Derived.Shelf.Bits.Mul64
import Derived.Shelf.Slices.Turned
import Derived.Shelf.Slices.Reverse
import Derived.Shelf.Slices.Equal
import Derived.Ground.Names2Prog
import Derived.Shelf.Slices.Clone
import Derived.Shelf.Slices.CompactI
import Derived.Shelf.Slices.SearchI
import Derived.Shelf.Slices.Cells
import Derived.Shelf.Slices.In.SortNone
import Derived.Shelf.Slices.Empties
import Derived.Shelf.Slices.Empties2
import Derived.Ground.SlgnProg
import Derived.Shelf.SlicesE.Reverse
import Derived.Shelf.SlicesE.Clone
import Derived.Test.YtdnblcjdhbadaaaGreatProg
set_option linter.all false
set_option maxRecDepth 100000
namespace Go.Proofs
open Go.Shelf Tryz
theorem cS{α:Type}{a b:α}(h:a=b):some a=some b:=congrArg some h
def Tryz.lays137_ren:Go.Shelf.Ren:=⟨fun|137=>352|217=>373|266=>383|n=>n,fun|9=>9|5=>5|3=>3|n=>n,fun|n=>n⟩
theorem Tryz.lays137:Go.Proofs.Lays.n137 Tryz.prog Tryz.lays137_ren:=⟨by kernel_rfl,func352.trans (cS (by kernel_rfl)),func373.trans (cS (by kernel_rfl)),func383.trans (cS (by kernel_rfl)),underlying3,isAgg3,sizeOf3,zeroValue3,underlying5,isAgg5,sizeOf5,zeroValue5,underlying9,isAgg9,sizeOf9,zeroValue9⟩
open Go.RowKit in
theorem Tryz.strings_IndexByte(s:ByteArray)(c:Int)(w:World):
    Calls Tryz.prog 352 #[.string s,.int .u8 c] w fun e w'=>e=.returned (.int .i64 (Lib.indexByte s.data.toList c.toNat.toUInt8))/\w'=w:=Any.strings_IndexByte Tryz.lays137 s c w
def Tryz.lays215_ren:Go.Shelf.Ren:=⟨fun|215=>323|n=>n,fun|3=>3|4=>4|n=>n,fun|n=>n⟩
theorem Tryz.lays215:Go.Proofs.Lays.n215 Tryz.prog Tryz.lays215_ren:=⟨by kernel_rfl,func323.trans (cS (by kernel_rfl)),underlying3,isAgg3,sizeOf3,zeroValue3,underlying4,isAgg4,sizeOf4,zeroValue4⟩
open Go.RowKit in
theorem Tryz.cmp_isNaN_int(x:Int)(w:World):
    Calls Tryz.prog 323 #[.int .i64 x] w fun e w'=>e=.returned (.bool false)/\w'=w:=Any.cmp_isNaN_int Tryz.lays215 x w
def Tryz.lays122_ren:Go.Shelf.Ren:=⟨fun|122=>365|215=>323|n=>n,fun|3=>3|4=>4|n=>n,fun|n=>n⟩
theorem Tryz.lays122:Go.Proofs.Lays.n122 Tryz.prog Tryz.lays122_ren:=⟨by kernel_rfl,func365.trans (cS (by kernel_rfl)),func323.trans (cS (by kernel_rfl)),underlying3,isAgg3,sizeOf3,zeroValue3,underlying4,isAgg4,sizeOf4,zeroValue4⟩
open Go.RowKit in
theorem Tryz.cmp_Compare_int(x y:Int)(w:World):
    Calls Tryz.prog 365 #[.int .i64 x,.int .i64 y] w fun e w'=>e=.returned (.int .i64 (Lib.compareInt x y))/\w'=w:=Any.cmp_Compare_int Tryz.lays122 x y w
open Go.RowKit Go.Lib in
def Tryz.lays189_ren:Go.Shelf.Ren:=⟨fun|189=>355|125=>375|257=>374|128=>392|129=>393|294=>384|295=>385|296=>386|297=>387|298=>388|299=>389|216=>273|300=>390|301=>391|328=>396|329=>397|330=>398|331=>399|332=>400|215=>323|343=>403|n=>n,fun|28=>26|3=>3|46=>301|0=>0|51=>334|53=>337|4=>4|183=>377|182=>376|131=>242|5=>5|9=>9|218=>384|222=>388|228=>390|229=>267|n=>n,fun|n=>n⟩
theorem Tryz.lays189:Go.Proofs.Lays.n189 Tryz.prog Tryz.lays189_ren:=⟨by kernel_rfl,func375.trans (cS (by kernel_rfl)),func392.trans (cS (by kernel_rfl)),func393.trans (cS (by kernel_rfl)),func355.trans (cS (by kernel_rfl)),func323.trans (cS (by kernel_rfl)),func273.trans (cS (by kernel_rfl)),func374.trans (cS (by kernel_rfl)),func384.trans (cS (by kernel_rfl)),func385.trans (cS (by kernel_rfl)),func386.trans (cS (by kernel_rfl)),func387.trans (cS (by kernel_rfl)),func388.trans (cS (by kernel_rfl)),func389.trans (cS (by kernel_rfl)),func390.trans (cS (by kernel_rfl)),func391.trans (cS (by kernel_rfl)),func396.trans (cS (by kernel_rfl)),func397.trans (cS (by kernel_rfl)),func398.trans (cS (by kernel_rfl)),func399.trans (cS (by kernel_rfl)),func400.trans (cS (by kernel_rfl)),func403.trans (cS (by kernel_rfl)),underlying0,isAgg0,sizeOf0,zeroValue0,underlying3,isAgg3,sizeOf3,zeroValue3,underlying4,isAgg4,sizeOf4,zeroValue4,underlying5,isAgg5,sizeOf5,zeroValue5,underlying9,isAgg9,sizeOf9,zeroValue9,underlying26,isAgg26,sizeOf26,zeroValue26,underlying301,isAgg301,sizeOf301,zeroValue301,underlying334,isAgg334,sizeOf334,zeroValue334,underlying337,isAgg337,sizeOf337,zeroValue337,underlying242,isAgg242,sizeOf242,zeroValue242,underlying376,isAgg376,sizeOf376,zeroValue376,underlying377,isAgg377,sizeOf377,zeroValue377,underlying384,isAgg384,sizeOf384,zeroValue384,underlying388,isAgg388,sizeOf388,zeroValue388,underlying390,isAgg390,sizeOf390,zeroValue390,underlying267,isAgg267,sizeOf267,zeroValue267⟩
open Go.Sort Go.RowKit in
theorem Tryz.slices_Sort_int(blk off cap:Nat)(zs:List Int)(w:World)(hH:Holds (Value.int .i64) w blk off zs.toArray)(hblk:blk<w.heap.size)(hsz:zs.length<4611686018427387904):
    Calls Tryz.prog 355 #[.slice (some ⟨blk,off,none⟩) zs.length cap] w fun e w'=>
      e=.returned (.tuple #[])/\∃n os,w'=grow (putRow (Value.int .i64) (Sort.ahead w n) blk off (zs.mergeSort fun x y=>decide (x≤y)).toArray) os:=Any.slices_Sort_int Tryz.lays189 blk off cap zs w hH hblk hsz
open Go.RowKit Go.Lib in
def Tryz.lays212_ren:Go.Shelf.Ren:=⟨fun|212=>275|263=>324|264=>325|n=>n,fun|46=>301|51=>334|146=>335|53=>337|148=>338|n=>n,fun|n=>n⟩
theorem Tryz.lays212:Go.Proofs.Lays.n212 Tryz.prog Tryz.lays212_ren:=⟨by kernel_rfl,func275.trans (cS (by kernel_rfl)),func324.trans (cS (by kernel_rfl)),func325.trans (cS (by kernel_rfl)),underlying301,isAgg301,sizeOf301,zeroValue301,underlying334,isAgg334,sizeOf334,zeroValue334,underlying337,isAgg337,sizeOf337,zeroValue337,underlying335,isAgg335,sizeOf335,zeroValue335,underlying338,isAgg338,sizeOf338,zeroValue338⟩
open Go.RowKit Go.Lib in
theorem Tryz.bits_Mul(x y:Nat)(hx:x<18446744073709551616)(hy:y<18446744073709551616)(w:World):
    Calls Tryz.prog 275 #[.int .u64 x,.int .u64 y] w fun e w'=>e=.returned (.tuple #[.int .u64 ((x*y / 18446744073709551616:Nat):Int),.int .u64 ((x*y % 18446744073709551616:Nat):Int)])/\w'=w:=Any.bits_Mul Tryz.lays212 x y hx hy w
def Tryz.lays108_ren:Go.Shelf.Ren:=⟨fun|108=>34|n=>n,fun|28=>26|3=>3|0=>0|4=>4|n=>n,fun|n=>n⟩
theorem Tryz.lays108:Go.Proofs.Lays.n108 Tryz.prog Tryz.lays108_ren:=⟨by kernel_rfl,func34.trans (cS (by kernel_rfl)),underlying0,isAgg0,sizeOf0,zeroValue0,underlying3,isAgg3,sizeOf3,zeroValue3,underlying4,isAgg4,sizeOf4,zeroValue4,underlying26,isAgg26,sizeOf26,zeroValue26⟩
open Go.Lib in
theorem Tryz.slices_Index_int(b off n c:Nat)(zs:List Int)(x:Int)(w:World)(hz:n≤zs.length)(hbig:n≤9223372036854775807)(hc:∀j,j<zs.length->w.cell? ⟨b,off+j,none⟩=some (.int .i64 (zs.getD j 0))):
    Calls Tryz.prog 34 #[.slice (some ⟨b,off,none⟩) n c,.int .i64 x] w fun e w'=>e=.returned (.int .i64 (Lib.idxOf (zs.take n) x))/\w'=w:=Any.slices_Index_int Tryz.lays108 b off n c zs x w hz hbig hc
open Go.Lib in
def Tryz.lays107_ren:Go.Shelf.Ren:=⟨fun|107=>112|108=>34|n=>n,fun|28=>26|3=>3|4=>4|0=>0|n=>n,fun|n=>n⟩
theorem Tryz.lays107:Go.Proofs.Lays.n107 Tryz.prog Tryz.lays107_ren:=⟨by kernel_rfl,func112.trans (cS (by kernel_rfl)),func34.trans (cS (by kernel_rfl)),underlying0,isAgg0,sizeOf0,zeroValue0,underlying3,isAgg3,sizeOf3,zeroValue3,underlying4,isAgg4,sizeOf4,zeroValue4,underlying26,isAgg26,sizeOf26,zeroValue26⟩
open Go.Lib in
theorem Tryz.slices_Contains_int(b off n c:Nat)(zs:List Int)(x:Int)(w:World)(hz:n≤zs.length)(hbig:n≤9223372036854775807)(hc:∀j,j<zs.length->w.cell? ⟨b,off+j,none⟩=some (.int .i64 (zs.getD j 0))):
    Calls Tryz.prog 112 #[.slice (some ⟨b,off,none⟩) n c,.int .i64 x] w fun e w'=>e=.returned (.bool ((zs.take n).contains x))/\w'=w:=Any.slices_Contains_int Tryz.lays107 b off n c zs x w hz hbig hc
open Go.Lib in
def Tryz.lays109_ren:Go.Shelf.Ren:=⟨fun|109=>371|n=>n,fun|31=>122|9=>9|3=>3|0=>0|4=>4|n=>n,fun|n=>n⟩
theorem Tryz.lays109:Go.Proofs.Lays.n109 Tryz.prog Tryz.lays109_ren:=⟨by kernel_rfl,func371.trans (cS (by kernel_rfl)),underlying0,isAgg0,sizeOf0,zeroValue0,underlying3,isAgg3,sizeOf3,zeroValue3,underlying4,isAgg4,sizeOf4,zeroValue4,underlying9,isAgg9,sizeOf9,zeroValue9,underlying122,isAgg122,sizeOf122,zeroValue122⟩
open Go.Lib in
theorem Tryz.slices_Index_string(b off n c:Nat)(zs:List ByteArray)(x:ByteArray)(w:World)(hz:n≤zs.length)(hbig:n≤9223372036854775807)(hc:∀j,j<zs.length->w.cell? ⟨b,off+j,none⟩=some (.string (zs.getD j ByteArray.empty))):
    Calls Tryz.prog 371 #[.slice (some ⟨b,off,none⟩) n c,.string x] w fun e w'=>e=.returned (.int .i64 (Lib.idxOfS (zs.take n) x))/\w'=w:=Any.slices_Index_string Tryz.lays109 b off n c zs x w hz hbig hc
open Go.Lib in
def Tryz.lays110_ren:Go.Shelf.Ren:=⟨fun|110=>345|109=>371|n=>n,fun|31=>122|9=>9|4=>4|3=>3|0=>0|n=>n,fun|n=>n⟩
theorem Tryz.lays110:Go.Proofs.Lays.n110 Tryz.prog Tryz.lays110_ren:=⟨by kernel_rfl,func371.trans (cS (by kernel_rfl)),func345.trans (cS (by kernel_rfl)),underlying0,isAgg0,sizeOf0,zeroValue0,underlying3,isAgg3,sizeOf3,zeroValue3,underlying4,isAgg4,sizeOf4,zeroValue4,underlying9,isAgg9,sizeOf9,zeroValue9,underlying122,isAgg122,sizeOf122,zeroValue122⟩
open Go.Lib in
theorem Tryz.slices_Contains_string(b off n c:Nat)(zs:List ByteArray)(x:ByteArray)(w:World)(hz:n≤zs.length)(hbig:n≤9223372036854775807)(hc:∀j,j<zs.length->w.cell? ⟨b,off+j,none⟩=some (.string (zs.getD j ByteArray.empty))):
    Calls Tryz.prog 345 #[.slice (some ⟨b,off,none⟩) n c,.string x] w fun e w'=>e=.returned (.bool (Lib.containsS (zs.take n) x))/\w'=w:=Any.slices_Contains_string Tryz.lays110 b off n c zs x w hz hbig hc
open Go.Lib in
def Tryz.lays112_ren:Go.Shelf.Ren:=⟨fun|112=>343|n=>n,fun|28=>26|3=>3|4=>4|0=>0|n=>n,fun|n=>n⟩
theorem Tryz.lays112:Go.Proofs.Lays.n112 Tryz.prog Tryz.lays112_ren:=⟨by kernel_rfl,func343.trans (cS (by kernel_rfl)),underlying0,isAgg0,sizeOf0,zeroValue0,underlying3,isAgg3,sizeOf3,zeroValue3,underlying4,isAgg4,sizeOf4,zeroValue4,underlying26,isAgg26,sizeOf26,zeroValue26⟩
open Go.RowKit Go.Lib Go.Sort in
open Go.RowKit Go.Lib Go.Sort in
theorem Tryz.slices_Reverse_int(blk off cap:Nat)(zs:List Int)(w:World)(hH:Holds (Value.int .i64) w blk off zs.toArray)(hsz:zs.length≤9223372036854775807):
    Calls Tryz.prog 343 #[.slice (some ⟨blk,off,none⟩) zs.length cap] w fun e w'=>e=.returned (.tuple #[])/\∃n,w'=putRow (Value.int .i64) (Sort.ahead w n) blk off zs.reverse.toArray:=Any.slices_Reverse_int Tryz.lays112 blk off cap zs w hH hsz
open Go.RowKit Go.Lib Go.Sort in
theorem Tryz.slices_Reverse_int_empty(a:Option Addr)(cap:Nat)(w:World):
    Calls Tryz.prog 343 #[.slice a 0 cap] w fun e w'=>e=.returned (.tuple #[])/\w'=w:=Any.slices_Reverse_int_empty Tryz.lays112 a cap w
def Tryz.lays111_ren:Go.Shelf.Ren:=⟨fun|111=>23|n=>n,fun|28=>26|3=>3|4=>4|0=>0|n=>n,fun|n=>n⟩
theorem Tryz.lays111:Go.Proofs.Lays.n111 Tryz.prog Tryz.lays111_ren:=⟨by kernel_rfl,func23.trans (cS (by kernel_rfl)),underlying0,isAgg0,sizeOf0,zeroValue0,underlying3,isAgg3,sizeOf3,zeroValue3,underlying4,isAgg4,sizeOf4,zeroValue4,underlying26,isAgg26,sizeOf26,zeroValue26⟩
open Go.RowKit Go.Lib in
theorem Tryz.slices_Equal_int(b1 o1 n c b2 o2 m d:Nat)(xs ys:List Int)(w:World)(hx:n≤xs.length)(hy:m≤ys.length)(hbig:n≤9223372036854775807)(hbig2:m≤9223372036854775807)(hc1:∀j,j<xs.length->w.cell? ⟨b1,o1+j,none⟩=some (.int .i64 (xs.getD j 0)))(hc2:∀j,j<ys.length->w.cell? ⟨b2,o2+j,none⟩=some (.int .i64 (ys.getD j 0))):
    Calls Tryz.prog 23 #[.slice (some ⟨b1,o1,none⟩) n c,.slice (some ⟨b2,o2,none⟩) m d] w fun e w'=>e=.returned (.bool (xs.take n==ys.take m))/\∃q,w'=w.drewN q:=Any.slices_Equal_int Tryz.lays111 b1 o1 n c b2 o2 m d xs ys w hx hy hbig hbig2 hc1 hc2
open Go.RowKit Go.Lib in
def Tryz.laysNm215_ren:Go.Shelf.Ren:=⟨fun|15=>110|n=>n,fun|22=>26|3=>3|4=>4|n=>n,fun|n=>n⟩
theorem Tryz.laysNm215:Go.Proofs.Lays2.n15 Tryz.prog Tryz.laysNm215_ren:={
  mixed:=by kernel_rfl
  f15:=func110.trans (cS (by kernel_rfl))
  t3:=underlying3
  a3:=isAgg3
  z3:=sizeOf3
  v3:=zeroValue3
  t4:=underlying4
  a4:=isAgg4
  z4:=sizeOf4
  v4:=zeroValue4
  t22:=underlying26
  a22:=isAgg26
  z22:=sizeOf26
  v22:=zeroValue26
  i3:=by kernel_rfl}
open Go.RowKit Go.Lib in
theorem Tryz.slices_Clone_int(b off n c:Nat)(zs:List Int)(w:World)(hz:n≤zs.length)(hbig:n*8≤140737488355328)(hc:∀j,j<zs.length->w.cell? ⟨b,off+j,none⟩=some (.int .i64 (zs.getD j 0))):
    Calls Tryz.prog 110 #[.slice (some ⟨b,off,none⟩) n c] w fun e w'=>∃v',e=.returned v'/\w'.ownsRow w.heap.size 3 1 v' n ((zs.take n).map (Value.int .i64))/\v'≠ .slice none 0 0/\Below w.heap.size w w':=Any.slices_Clone_int Tryz.laysNm215 b off n c zs w hz hbig hc
open Go.RowKit Go.Lib in
def Tryz.laysNm216_ren:Go.Shelf.Ren:=⟨fun|16=>277|n=>n,fun|24=>122|9=>9|4=>4|n=>n,fun|n=>n⟩
theorem Tryz.laysNm216:Go.Proofs.Lays2.n16 Tryz.prog Tryz.laysNm216_ren:={
  mixed:=by kernel_rfl
  f16:=func277.trans (cS (by kernel_rfl))
  t4:=underlying4
  a4:=isAgg4
  z4:=sizeOf4
  v4:=zeroValue4
  t9:=underlying9
  a9:=isAgg9
  z9:=sizeOf9
  v9:=zeroValue9
  t24:=underlying122
  a24:=isAgg122
  z24:=sizeOf122
  v24:=zeroValue122
  i9:=by kernel_rfl}
open Go.RowKit Go.Lib in
theorem Tryz.slices_Clone_string(b off n c:Nat)(zs:List ByteArray)(w:World)(hz:n≤zs.length)(hbig:n*16≤140737488355328)(hc:∀j,j<zs.length->w.cell? ⟨b,off+j,none⟩=some (.string (zs.getD j ByteArray.empty))):
    Calls Tryz.prog 277 #[.slice (some ⟨b,off,none⟩) n c] w fun e w'=>∃v',e=.returned v'/\w'.ownsRow w.heap.size 9 1 v' n ((zs.take n).map (Value.string))/\v'≠ .slice none 0 0/\Below w.heap.size w w':=Any.slices_Clone_string Tryz.laysNm216 b off n c zs w hz hbig hc
open Go.RowKit Go.Lib in
open Go.RowKit Go.Lib in
open Go.RowKit Go.Lib in
def Tryz.laysNm220_ren:Go.Shelf.Ren:=⟨fun|20=>313|n=>n,fun|22=>26|3=>3|4=>4|0=>0|n=>n,fun|n=>n⟩
theorem Tryz.laysNm220:Go.Proofs.Lays2.n20 Tryz.prog Tryz.laysNm220_ren:={
  mixed:=by kernel_rfl
  f20:=func313.trans (cS (by kernel_rfl))
  t0:=underlying0
  a0:=isAgg0
  z0:=sizeOf0
  v0:=zeroValue0
  t3:=underlying3
  a3:=isAgg3
  z3:=sizeOf3
  v3:=zeroValue3
  t4:=underlying4
  a4:=isAgg4
  z4:=sizeOf4
  v4:=zeroValue4
  t22:=underlying26
  a22:=isAgg26
  z22:=sizeOf26
  v22:=zeroValue26
  i3:=by kernel_rfl}
open Go.RowKit Go.Lib Go.Sort in
open Go.RowKit Go.Lib Go.Sort in
theorem Tryz.slices_Compact_int(blk off cap:Nat)(zs:List Int)(w:World)(hH:Holds (Value.int .i64) w blk off zs.toArray)(hsz:zs.length≤9223372036854775807)(hcap:zs.length≤cap):
    Calls Tryz.prog 313 #[.slice (some ⟨blk,off,none⟩) zs.length cap] w fun e w'=>e=.returned (.slice (some ⟨blk,off,none⟩) (Lib.compact zs).length cap)/\∃q,w'=putRow (Value.int .i64) (Sort.ahead w q) blk off (Lib.compact zs ++ List.replicate (zs.length-(Lib.compact zs).length) 0).toArray:=Any.slices_Compact_int Tryz.laysNm220 blk off cap zs w hH hsz hcap
open Go.RowKit Go.Lib Go.Sort in
theorem Tryz.slices_Compact_int_empty(a:Option Addr)(cap:Nat)(w:World):
    Calls Tryz.prog 313 #[.slice a 0 cap] w fun e w'=>e=.returned (.slice a 0 cap)/\w'=w:=Any.slices_Compact_int_empty Tryz.laysNm220 a cap w
open Go.RowKit Go.Lib in
open Go.RowKit Go.Lib in
open Go.RowKit Go.Lib in
def Tryz.laysNm225_ren:Go.Shelf.Ren:=⟨fun|25=>190|31=>273|32=>274|37=>323|n=>n,fun|22=>26|3=>3|4=>4|40=>301|0=>0|n=>n,fun|n=>n⟩
theorem Tryz.laysNm225:Go.Proofs.Lays2.n25 Tryz.prog Tryz.laysNm225_ren:={
  mixed:=by kernel_rfl
  f25:=func190.trans (cS (by kernel_rfl))
  f31:=func273.trans (cS (by kernel_rfl))
  f32:=func274.trans (cS (by kernel_rfl))
  f37:=func323.trans (cS (by kernel_rfl))
  t0:=underlying0
  a0:=isAgg0
  z0:=sizeOf0
  v0:=zeroValue0
  t3:=underlying3
  a3:=isAgg3
  z3:=sizeOf3
  v3:=zeroValue3
  t4:=underlying4
  a4:=isAgg4
  z4:=sizeOf4
  v4:=zeroValue4
  t22:=underlying26
  a22:=isAgg26
  z22:=sizeOf26
  v22:=zeroValue26
  t40:=underlying301
  a40:=isAgg301
  z40:=sizeOf301
  v40:=zeroValue301}
open Go.RowKit Go.Lib in
theorem Tryz.slices_BinarySearch_int(b off n c:Nat)(zs:List Int)(x:Int)(w:World)(hz:n≤zs.length)(hbig:n<4611686018427387904)(hc:∀j,j<zs.length->w.cell? ⟨b,off+j,none⟩=some (.int .i64 (zs.getD j 0)))(hs:(zs.take n).Pairwise (· ≤ ·)):
    Calls Tryz.prog 190 #[.slice (some ⟨b,off,none⟩) n c,.int .i64 x] w fun e w'=>e=.returned (.tuple #[.int .i64 ((zs.take n).countP (· <x):Nat),.bool ((zs.take n).contains x)])/\∃q,w'=w.drewN q:=Any.slices_BinarySearch_int Tryz.laysNm225 b off n c zs x w hz hbig hc hs
open Go.RowKit Go.Lib Go.Sort in
open Go.RowKit Go.Lib Go.Sort in
open Go.RowKit Go.Sort in
theorem Tryz.slices_Sort_int_none(p:Option Addr)(cap:Nat)(w:World):
    Calls Tryz.prog 355 #[.slice p 0 cap] w fun e w'=>e=.returned (.tuple #[])/\w'=w:=Any.slices_Sort_int_none Tryz.lays189 p cap w
open Go.RowKit Go.Lib in
theorem Tryz.slices_BinarySearch_int_empty(a:Option Addr)(c:Nat)(x:Int)(w:World):
    Calls Tryz.prog 190 #[.slice a 0 c,.int .i64 x] w fun e w'=>e=.returned (.tuple #[.int .i64 0,.bool false])/\w'=w:=Any.slices_BinarySearch_int_empty Tryz.laysNm225 a c x w
open Go.RowKit Go.Lib in
open Go.RowKit Go.Lib Go.Sort in
open Go.RowKit Go.Lib Go.Sort in
open Go.RowKit Go.Lib Go.Sort in
open Go.RowKit Go.Lib in
open Go.RowKit Go.Lib in
open Go.RowKit Go.Lib in
open Go.RowKit Go.Lib in
def Tryz.lays7n25_ren:Go.Shelf.Ren:=⟨fun|25=>378|n=>n,fun|22=>337|n=>n,fun|n=>n⟩
theorem Tryz.lays7n25:Go.Proofs.Lays7.n25 Tryz.prog Tryz.lays7n25_ren:=⟨by kernel_rfl,func378.trans (cS (by kernel_rfl)),underlying337,isAgg337,sizeOf337,zeroValue337,by kernel_rfl⟩
def Tryz.sortedA_ren:Go.Shelf.Ren:=⟨fun|6=>314|8=>360|9=>355|11=>377|13=>375|12=>374|23=>392|24=>393|14=>384|15=>385|16=>386|17=>387|18=>388|19=>389|20=>273|21=>390|22=>391|25=>396|26=>397|27=>398|28=>399|29=>400|30=>323|31=>403|n=>n,fun|26=>3|28=>331|24=>26|0=>0|3=>3|37=>301|48=>334|50=>337|4=>4|40=>377|39=>376|45=>242|5=>5|9=>9|51=>384|55=>388|57=>390|58=>267|33=>91|n=>n,fun|n=>n⟩
theorem Tryz.sortedA:Go.Proofs.SlLaysZI.n6 Tryz.prog Tryz.sortedA_ren:={
  mixed:=by kernel_rfl
  f6:=⟨Tryz.f314.name,by decide,func314.trans (cS (by kernel_rfl))⟩
  f8:=⟨Tryz.f360.name,by decide,func360.trans (cS (by kernel_rfl))⟩
  f11:=⟨Tryz.f377.name,by decide,func377.trans (cS (by kernel_rfl))⟩
  t0:=underlying0
  a0:=isAgg0
  z0:=sizeOf0
  v0:=zeroValue0
  t24:=underlying26
  a24:=isAgg26
  z24:=sizeOf26
  v24:=zeroValue26
  t26:=underlying3
  a26:=isAgg3
  z26:=sizeOf3
  v26:=zeroValue3
  t28:=underlying331
  a28:=isAgg331
  z28:=sizeOf331
  v28:=zeroValue331
  i26:=by kernel_rfl}
def Tryz.growI_ren:Go.Shelf.Ren:=⟨fun|4=>225|n=>n,fun|22=>26|25=>3|3=>3|4=>4|9=>9|20=>20|0=>0|n=>n,fun|n=>n⟩
theorem Tryz.growI:Go.Proofs.Lays8.n4 Tryz.prog Tryz.growI_ren:={
  mixed:=by kernel_rfl
  f4:=⟨Tryz.f225.name,by decide,func225.trans (cS (by kernel_rfl))⟩
  t0:=underlying0
  a0:=isAgg0
  z0:=sizeOf0
  v0:=zeroValue0
  t3:=underlying3
  a3:=isAgg3
  z3:=sizeOf3
  v3:=zeroValue3
  t4:=underlying4
  a4:=isAgg4
  z4:=sizeOf4
  v4:=zeroValue4
  t9:=underlying9
  a9:=isAgg9
  z9:=sizeOf9
  v9:=zeroValue9
  t20:=underlying20
  a20:=isAgg20
  z20:=sizeOf20
  v20:=zeroValue20
  t22:=underlying26
  a22:=isAgg26
  z22:=sizeOf26
  v22:=zeroValue26}
end Go.Proofs
