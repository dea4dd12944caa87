/- What the library functions that are called do. -/
import Derived.Shelf.Small.Bits
import Derived.Shelf.Small.Strs
import Derived.Shelf.Strconv.Itoa0
import Derived.Shelf.Strings.Search1
import Derived.Shelf.Sort.Plain
import Derived.Shelf.Bits.Mul64
import Derived.Shelf.Slices.Turned
import Derived.Shelf.Slices.Reverse
import Derived.Shelf.Slices.Equal
import Derived.Ground.Names2Prog
import Derived.Shelf.Slices.Clone
import Derived.Shelf.Slices.CompactI
import Derived.Shelf.Slices.SearchI
import Derived.Shelf.Slices.Cells
import Derived.Shelf.Slices.In.SortNone
import Derived.Shelf.Slices.Empties
import Derived.Ground.SlgnProg
import Derived.Shelf.SlicesE.Clone
import Derived.Shelf.Spec.BitsCarry
import Derived.Ground.Names7Prog
import Derived.Shelf.SlIterI.Sorted
import Derived.Ground.GgzProg
import Derived.Test.YtmbomnkcdolalaaGreatProg
set_option linter.all false
set_option maxRecDepth 100000
namespace Go.Proofs
open Go.Shelf Tryz
theorem cS{α:Type}{a b:α}(h:a=b):some a=some b:=congrArg some h
def Tryz.lays137_ren:Go.Shelf.Ren:=⟨fun|137=>325|217=>358|266=>378|n=>n,fun|9=>9|5=>5|3=>3|n=>n,fun|n=>n⟩
theorem Tryz.lays137:Go.Proofs.Lays.n137 Tryz.prog Tryz.lays137_ren:=⟨by kernel_rfl,func325.trans (cS (by kernel_rfl)),func358.trans (cS (by kernel_rfl)),func378.trans (cS (by kernel_rfl)),underlying3,isAgg3,sizeOf3,zeroValue3,underlying5,isAgg5,sizeOf5,zeroValue5,underlying9,isAgg9,sizeOf9,zeroValue9⟩
open Go.RowKit in
theorem Tryz.strings_IndexByte(s:ByteArray)(c:Int)(w:World):
    Calls Tryz.prog 325 #[.string s,.int .u8 c] w fun e w'=>e=.returned (.int .i64 (Lib.indexByte s.data.toList c.toNat.toUInt8))/\w'=w:=Any.strings_IndexByte Tryz.lays137 s c w
open Go.RowKit Go.Lib in
def Tryz.lays189_ren:Go.Shelf.Ren:=⟨fun|189=>332|125=>363|257=>362|128=>387|129=>388|294=>379|295=>380|296=>381|297=>382|298=>383|299=>384|216=>330|300=>385|301=>386|328=>398|329=>399|330=>400|331=>401|332=>402|215=>361|343=>409|n=>n,fun|28=>27|3=>3|46=>367|0=>0|51=>391|53=>160|4=>4|183=>401|182=>400|131=>330|5=>5|9=>9|218=>416|222=>420|228=>426|229=>314|n=>n,fun|n=>n⟩
theorem Tryz.lays189:Go.Proofs.Lays.n189 Tryz.prog Tryz.lays189_ren:=⟨by kernel_rfl,func363.trans (cS (by kernel_rfl)),func387.trans (cS (by kernel_rfl)),func388.trans (cS (by kernel_rfl)),func332.trans (cS (by kernel_rfl)),func361.trans (cS (by kernel_rfl)),func330.trans (cS (by kernel_rfl)),func362.trans (cS (by kernel_rfl)),func379.trans (cS (by kernel_rfl)),func380.trans (cS (by kernel_rfl)),func381.trans (cS (by kernel_rfl)),func382.trans (cS (by kernel_rfl)),func383.trans (cS (by kernel_rfl)),func384.trans (cS (by kernel_rfl)),func385.trans (cS (by kernel_rfl)),func386.trans (cS (by kernel_rfl)),func398.trans (cS (by kernel_rfl)),func399.trans (cS (by kernel_rfl)),func400.trans (cS (by kernel_rfl)),func401.trans (cS (by kernel_rfl)),func402.trans (cS (by kernel_rfl)),func409.trans (cS (by kernel_rfl)),underlying0,isAgg0,sizeOf0,zeroValue0,underlying3,isAgg3,sizeOf3,zeroValue3,underlying4,isAgg4,sizeOf4,zeroValue4,underlying5,isAgg5,sizeOf5,zeroValue5,underlying9,isAgg9,sizeOf9,zeroValue9,underlying27,isAgg27,sizeOf27,zeroValue27,underlying367,isAgg367,sizeOf367,zeroValue367,underlying391,isAgg391,sizeOf391,zeroValue391,underlying160,isAgg160,sizeOf160,zeroValue160,underlying330,isAgg330,sizeOf330,zeroValue330,underlying400,isAgg400,sizeOf400,zeroValue400,underlying401,isAgg401,sizeOf401,zeroValue401,underlying416,isAgg416,sizeOf416,zeroValue416,underlying420,isAgg420,sizeOf420,zeroValue420,underlying426,isAgg426,sizeOf426,zeroValue426,underlying314,isAgg314,sizeOf314,zeroValue314⟩
open Go.Sort Go.RowKit in
theorem Tryz.slices_Sort_int(blk off cap:Nat)(zs:List Int)(w:World)(hH:Holds (Value.int .i64) w blk off zs.toArray)(hblk:blk<w.heap.size)(hsz:zs.length<4611686018427387904):
    Calls Tryz.prog 332 #[.slice (some ⟨blk,off,none⟩) zs.length cap] w fun e w'=>
      e=.returned (.tuple #[])/\∃n os,w'=grow (putRow (Value.int .i64) (Sort.ahead w n) blk off (zs.mergeSort fun x y=>decide (x≤y)).toArray) os:=Any.slices_Sort_int Tryz.lays189 blk off cap zs w hH hblk hsz
open Go.RowKit Go.Lib in
def Tryz.lays212_ren:Go.Shelf.Ren:=⟨fun|212=>347|263=>373|264=>374|n=>n,fun|46=>367|51=>391|146=>392|53=>160|148=>394|n=>n,fun|n=>n⟩
theorem Tryz.lays212:Go.Proofs.Lays.n212 Tryz.prog Tryz.lays212_ren:=⟨by kernel_rfl,func347.trans (cS (by kernel_rfl)),func373.trans (cS (by kernel_rfl)),func374.trans (cS (by kernel_rfl)),underlying367,isAgg367,sizeOf367,zeroValue367,underlying391,isAgg391,sizeOf391,zeroValue391,underlying160,isAgg160,sizeOf160,zeroValue160,underlying392,isAgg392,sizeOf392,zeroValue392,underlying394,isAgg394,sizeOf394,zeroValue394⟩
open Go.RowKit Go.Lib in
theorem Tryz.bits_Mul(x y:Nat)(hx:x<18446744073709551616)(hy:y<18446744073709551616)(w:World):
    Calls Tryz.prog 347 #[.int .u64 x,.int .u64 y] w fun e w'=>e=.returned (.tuple #[.int .u64 ((x*y / 18446744073709551616:Nat):Int),.int .u64 ((x*y % 18446744073709551616:Nat):Int)])/\w'=w:=Any.bits_Mul Tryz.lays212 x y hx hy w
def Tryz.lays108_ren:Go.Shelf.Ren:=⟨fun|108=>211|n=>n,fun|28=>27|3=>3|0=>0|4=>4|n=>n,fun|n=>n⟩
theorem Tryz.lays108:Go.Proofs.Lays.n108 Tryz.prog Tryz.lays108_ren:=⟨by kernel_rfl,func211.trans (cS (by kernel_rfl)),underlying0,isAgg0,sizeOf0,zeroValue0,underlying3,isAgg3,sizeOf3,zeroValue3,underlying4,isAgg4,sizeOf4,zeroValue4,underlying27,isAgg27,sizeOf27,zeroValue27⟩
open Go.Lib in
theorem Tryz.slices_Index_int(b off n c:Nat)(zs:List Int)(x:Int)(w:World)(hz:n≤zs.length)(hbig:n≤9223372036854775807)(hc:∀j,j<zs.length->w.cell? ⟨b,off+j,none⟩=some (.int .i64 (zs.getD j 0))):
    Calls Tryz.prog 211 #[.slice (some ⟨b,off,none⟩) n c,.int .i64 x] w fun e w'=>e=.returned (.int .i64 (Lib.idxOf (zs.take n) x))/\w'=w:=Any.slices_Index_int Tryz.lays108 b off n c zs x w hz hbig hc
open Go.Lib in
def Tryz.lays107_ren:Go.Shelf.Ren:=⟨fun|107=>165|108=>211|n=>n,fun|28=>27|3=>3|4=>4|0=>0|n=>n,fun|n=>n⟩
theorem Tryz.lays107:Go.Proofs.Lays.n107 Tryz.prog Tryz.lays107_ren:=⟨by kernel_rfl,func165.trans (cS (by kernel_rfl)),func211.trans (cS (by kernel_rfl)),underlying0,isAgg0,sizeOf0,zeroValue0,underlying3,isAgg3,sizeOf3,zeroValue3,underlying4,isAgg4,sizeOf4,zeroValue4,underlying27,isAgg27,sizeOf27,zeroValue27⟩
open Go.Lib in
theorem Tryz.slices_Contains_int(b off n c:Nat)(zs:List Int)(x:Int)(w:World)(hz:n≤zs.length)(hbig:n≤9223372036854775807)(hc:∀j,j<zs.length->w.cell? ⟨b,off+j,none⟩=some (.int .i64 (zs.getD j 0))):
    Calls Tryz.prog 165 #[.slice (some ⟨b,off,none⟩) n c,.int .i64 x] w fun e w'=>e=.returned (.bool ((zs.take n).contains x))/\w'=w:=Any.slices_Contains_int Tryz.lays107 b off n c zs x w hz hbig hc
open Go.Lib in
def Tryz.lays109_ren:Go.Shelf.Ren:=⟨fun|109=>326|n=>n,fun|31=>127|9=>9|3=>3|0=>0|4=>4|n=>n,fun|n=>n⟩
theorem Tryz.lays109:Go.Proofs.Lays.n109 Tryz.prog Tryz.lays109_ren:=⟨by kernel_rfl,func326.trans (cS (by kernel_rfl)),underlying0,isAgg0,sizeOf0,zeroValue0,underlying3,isAgg3,sizeOf3,zeroValue3,underlying4,isAgg4,sizeOf4,zeroValue4,underlying9,isAgg9,sizeOf9,zeroValue9,underlying127,isAgg127,sizeOf127,zeroValue127⟩
open Go.Lib in
theorem Tryz.slices_Index_string(b off n c:Nat)(zs:List ByteArray)(x:ByteArray)(w:World)(hz:n≤zs.length)(hbig:n≤9223372036854775807)(hc:∀j,j<zs.length->w.cell? ⟨b,off+j,none⟩=some (.string (zs.getD j ByteArray.empty))):
    Calls Tryz.prog 326 #[.slice (some ⟨b,off,none⟩) n c,.string x] w fun e w'=>e=.returned (.int .i64 (Lib.idxOfS (zs.take n) x))/\w'=w:=Any.slices_Index_string Tryz.lays109 b off n c zs x w hz hbig hc
open Go.Lib in
def Tryz.lays110_ren:Go.Shelf.Ren:=⟨fun|110=>274|109=>326|n=>n,fun|31=>127|9=>9|4=>4|3=>3|0=>0|n=>n,fun|n=>n⟩
theorem Tryz.lays110:Go.Proofs.Lays.n110 Tryz.prog Tryz.lays110_ren:=⟨by kernel_rfl,func326.trans (cS (by kernel_rfl)),func274.trans (cS (by kernel_rfl)),underlying0,isAgg0,sizeOf0,zeroValue0,underlying3,isAgg3,sizeOf3,zeroValue3,underlying4,isAgg4,sizeOf4,zeroValue4,underlying9,isAgg9,sizeOf9,zeroValue9,underlying127,isAgg127,sizeOf127,zeroValue127⟩
open Go.Lib in
theorem Tryz.slices_Contains_string(b off n c:Nat)(zs:List ByteArray)(x:ByteArray)(w:World)(hz:n≤zs.length)(hbig:n≤9223372036854775807)(hc:∀j,j<zs.length->w.cell? ⟨b,off+j,none⟩=some (.string (zs.getD j ByteArray.empty))):
    Calls Tryz.prog 274 #[.slice (some ⟨b,off,none⟩) n c,.string x] w fun e w'=>e=.returned (.bool (Lib.containsS (zs.take n) x))/\w'=w:=Any.slices_Contains_string Tryz.lays110 b off n c zs x w hz hbig hc
open Go.Lib in
def Tryz.lays112_ren:Go.Shelf.Ren:=⟨fun|112=>212|n=>n,fun|28=>27|3=>3|4=>4|0=>0|n=>n,fun|n=>n⟩
theorem Tryz.lays112:Go.Proofs.Lays.n112 Tryz.prog Tryz.lays112_ren:=⟨by kernel_rfl,func212.trans (cS (by kernel_rfl)),underlying0,isAgg0,sizeOf0,zeroValue0,underlying3,isAgg3,sizeOf3,zeroValue3,underlying4,isAgg4,sizeOf4,zeroValue4,underlying27,isAgg27,sizeOf27,zeroValue27⟩
open Go.RowKit Go.Lib Go.Sort in
open Go.RowKit Go.Lib Go.Sort in
theorem Tryz.slices_Reverse_int(blk off cap:Nat)(zs:List Int)(w:World)(hH:Holds (Value.int .i64) w blk off zs.toArray)(hsz:zs.length≤9223372036854775807):
    Calls Tryz.prog 212 #[.slice (some ⟨blk,off,none⟩) zs.length cap] w fun e w'=>e=.returned (.tuple #[])/\∃n,w'=putRow (Value.int .i64) (Sort.ahead w n) blk off zs.reverse.toArray:=Any.slices_Reverse_int Tryz.lays112 blk off cap zs w hH hsz
open Go.RowKit Go.Lib Go.Sort in
theorem Tryz.slices_Reverse_int_empty(a:Option Addr)(cap:Nat)(w:World):
    Calls Tryz.prog 212 #[.slice a 0 cap] w fun e w'=>e=.returned (.tuple #[])/\w'=w:=Any.slices_Reverse_int_empty Tryz.lays112 a cap w
def Tryz.lays111_ren:Go.Shelf.Ren:=⟨fun|111=>36|n=>n,fun|28=>27|3=>3|4=>4|0=>0|n=>n,fun|n=>n⟩
theorem Tryz.lays111:Go.Proofs.Lays.n111 Tryz.prog Tryz.lays111_ren:=⟨by kernel_rfl,func36.trans (cS (by kernel_rfl)),underlying0,isAgg0,sizeOf0,zeroValue0,underlying3,isAgg3,sizeOf3,zeroValue3,underlying4,isAgg4,sizeOf4,zeroValue4,underlying27,isAgg27,sizeOf27,zeroValue27⟩
open Go.RowKit Go.Lib in
theorem Tryz.slices_Equal_int(b1 o1 n c b2 o2 m d:Nat)(xs ys:List Int)(w:World)(hx:n≤xs.length)(hy:m≤ys.length)(hbig:n≤9223372036854775807)(hbig2:m≤9223372036854775807)(hc1:∀j,j<xs.length->w.cell? ⟨b1,o1+j,none⟩=some (.int .i64 (xs.getD j 0)))(hc2:∀j,j<ys.length->w.cell? ⟨b2,o2+j,none⟩=some (.int .i64 (ys.getD j 0))):
    Calls Tryz.prog 36 #[.slice (some ⟨b1,o1,none⟩) n c,.slice (some ⟨b2,o2,none⟩) m d] w fun e w'=>e=.returned (.bool (xs.take n==ys.take m))/\∃q,w'=w.drewN q:=Any.slices_Equal_int Tryz.lays111 b1 o1 n c b2 o2 m d xs ys w hx hy hbig hbig2 hc1 hc2
open Go.RowKit Go.Lib in
def Tryz.laysNm215_ren:Go.Shelf.Ren:=⟨fun|15=>76|n=>n,fun|22=>27|3=>3|4=>4|n=>n,fun|n=>n⟩
theorem Tryz.laysNm215:Go.Proofs.Lays2.n15 Tryz.prog Tryz.laysNm215_ren:={
  mixed:=by kernel_rfl
  f15:=func76.trans (cS (by kernel_rfl))
  t3:=underlying3
  a3:=isAgg3
  z3:=sizeOf3
  v3:=zeroValue3
  t4:=underlying4
  a4:=isAgg4
  z4:=sizeOf4
  v4:=zeroValue4
  t22:=underlying27
  a22:=isAgg27
  z22:=sizeOf27
  v22:=zeroValue27
  i3:=by kernel_rfl}
open Go.RowKit Go.Lib in
theorem Tryz.slices_Clone_int(b off n c:Nat)(zs:List Int)(w:World)(hz:n≤zs.length)(hbig:n*8≤140737488355328)(hc:∀j,j<zs.length->w.cell? ⟨b,off+j,none⟩=some (.int .i64 (zs.getD j 0))):
    Calls Tryz.prog 76 #[.slice (some ⟨b,off,none⟩) n c] w fun e w'=>∃v',e=.returned v'/\w'.ownsRow w.heap.size 3 1 v' n ((zs.take n).map (Value.int .i64))/\v'≠ .slice none 0 0/\Below w.heap.size w w':=Any.slices_Clone_int Tryz.laysNm215 b off n c zs w hz hbig hc
open Go.RowKit Go.Lib in
def Tryz.laysNm216_ren:Go.Shelf.Ren:=⟨fun|16=>163|n=>n,fun|24=>127|9=>9|4=>4|n=>n,fun|n=>n⟩
theorem Tryz.laysNm216:Go.Proofs.Lays2.n16 Tryz.prog Tryz.laysNm216_ren:={
  mixed:=by kernel_rfl
  f16:=func163.trans (cS (by kernel_rfl))
  t4:=underlying4
  a4:=isAgg4
  z4:=sizeOf4
  v4:=zeroValue4
  t9:=underlying9
  a9:=isAgg9
  z9:=sizeOf9
  v9:=zeroValue9
  t24:=underlying127
  a24:=isAgg127
  z24:=sizeOf127
  v24:=zeroValue127
  i9:=by kernel_rfl}
open Go.RowKit Go.Lib in
theorem Tryz.slices_Clone_string(b off n c:Nat)(zs:List ByteArray)(w:World)(hz:n≤zs.length)(hbig:n*16≤140737488355328)(hc:∀j,j<zs.length->w.cell? ⟨b,off+j,none⟩=some (.string (zs.getD j ByteArray.empty))):
    Calls Tryz.prog 163 #[.slice (some ⟨b,off,none⟩) n c] w fun e w'=>∃v',e=.returned v'/\w'.ownsRow w.heap.size 9 1 v' n ((zs.take n).map (Value.string))/\v'≠ .slice none 0 0/\Below w.heap.size w w':=Any.slices_Clone_string Tryz.laysNm216 b off n c zs w hz hbig hc
open Go.RowKit Go.Lib in
open Go.RowKit Go.Lib in
open Go.RowKit Go.Lib in
def Tryz.laysNm220_ren:Go.Shelf.Ren:=⟨fun|20=>333|n=>n,fun|22=>27|3=>3|4=>4|0=>0|n=>n,fun|n=>n⟩
theorem Tryz.laysNm220:Go.Proofs.Lays2.n20 Tryz.prog Tryz.laysNm220_ren:={
  mixed:=by kernel_rfl
  f20:=func333.trans (cS (by kernel_rfl))
  t0:=underlying0
  a0:=isAgg0
  z0:=sizeOf0
  v0:=zeroValue0
  t3:=underlying3
  a3:=isAgg3
  z3:=sizeOf3
  v3:=zeroValue3
  t4:=underlying4
  a4:=isAgg4
  z4:=sizeOf4
  v4:=zeroValue4
  t22:=underlying27
  a22:=isAgg27
  z22:=sizeOf27
  v22:=zeroValue27
  i3:=by kernel_rfl}
open Go.RowKit Go.Lib Go.Sort in
open Go.RowKit Go.Lib Go.Sort in
theorem Tryz.slices_Compact_int(blk off cap:Nat)(zs:List Int)(w:World)(hH:Holds (Value.int .i64) w blk off zs.toArray)(hsz:zs.length≤9223372036854775807)(hcap:zs.length≤cap):
    Calls Tryz.prog 333 #[.slice (some ⟨blk,off,none⟩) zs.length cap] w fun e w'=>e=.returned (.slice (some ⟨blk,off,none⟩) (Lib.compact zs).length cap)/\∃q,w'=putRow (Value.int .i64) (Sort.ahead w q) blk off (Lib.compact zs ++ List.replicate (zs.length-(Lib.compact zs).length) 0).toArray:=Any.slices_Compact_int Tryz.laysNm220 blk off cap zs w hH hsz hcap
open Go.RowKit Go.Lib Go.Sort in
theorem Tryz.slices_Compact_int_empty(a:Option Addr)(cap:Nat)(w:World):
    Calls Tryz.prog 333 #[.slice a 0 cap] w fun e w'=>e=.returned (.slice a 0 cap)/\w'=w:=Any.slices_Compact_int_empty Tryz.laysNm220 a cap w
open Go.RowKit Go.Lib in
open Go.RowKit Go.Lib in
open Go.RowKit Go.Lib in
def Tryz.laysNm225_ren:Go.Shelf.Ren:=⟨fun|25=>287|31=>330|32=>331|37=>361|n=>n,fun|22=>27|3=>3|4=>4|40=>367|0=>0|n=>n,fun|n=>n⟩
theorem Tryz.laysNm225:Go.Proofs.Lays2.n25 Tryz.prog Tryz.laysNm225_ren:={
  mixed:=by kernel_rfl
  f25:=func287.trans (cS (by kernel_rfl))
  f31:=func330.trans (cS (by kernel_rfl))
  f32:=func331.trans (cS (by kernel_rfl))
  f37:=func361.trans (cS (by kernel_rfl))
  t0:=underlying0
  a0:=isAgg0
  z0:=sizeOf0
  v0:=zeroValue0
  t3:=underlying3
  a3:=isAgg3
  z3:=sizeOf3
  v3:=zeroValue3
  t4:=underlying4
  a4:=isAgg4
  z4:=sizeOf4
  v4:=zeroValue4
  t22:=underlying27
  a22:=isAgg27
  z22:=sizeOf27
  v22:=zeroValue27
  t40:=underlying367
  a40:=isAgg367
  z40:=sizeOf367
  v40:=zeroValue367}
open Go.RowKit Go.Lib in
theorem Tryz.slices_BinarySearch_int(b off n c:Nat)(zs:List Int)(x:Int)(w:World)(hz:n≤zs.length)(hbig:n<4611686018427387904)(hc:∀j,j<zs.length->w.cell? ⟨b,off+j,none⟩=some (.int .i64 (zs.getD j 0)))(hs:(zs.take n).Pairwise (· ≤ ·)):
    Calls Tryz.prog 287 #[.slice (some ⟨b,off,none⟩) n c,.int .i64 x] w fun e w'=>e=.returned (.tuple #[.int .i64 ((zs.take n).countP (· <x):Nat),.bool ((zs.take n).contains x)])/\∃q,w'=w.drewN q:=Any.slices_BinarySearch_int Tryz.laysNm225 b off n c zs x w hz hbig hc hs
open Go.RowKit Go.Lib Go.Sort in
open Go.RowKit Go.Lib Go.Sort in
open Go.RowKit Go.Sort in
theorem Tryz.slices_Sort_int_none(p:Option Addr)(cap:Nat)(w:World):
    Calls Tryz.prog 332 #[.slice p 0 cap] w fun e w'=>e=.returned (.tuple #[])/\w'=w:=Any.slices_Sort_int_none Tryz.lays189 p cap w
open Go.RowKit Go.Lib in
theorem Tryz.slices_BinarySearch_int_empty(a:Option Addr)(c:Nat)(x:Int)(w:World):
    Calls Tryz.prog 287 #[.slice a 0 c,.int .i64 x] w fun e w'=>e=.returned (.tuple #[.int .i64 0,.bool false])/\w'=w:=Any.slices_BinarySearch_int_empty Tryz.laysNm225 a c x w
open Go.RowKit Go.Lib in
open Go.RowKit Go.Lib in
open Go.RowKit Go.Lib in
open Go.RowKit Go.Lib in
def Tryz.lays7n25_ren:Go.Shelf.Ren:=⟨fun|25=>404|n=>n,fun|22=>160|n=>n,fun|n=>n⟩
theorem Tryz.lays7n25:Go.Proofs.Lays7.n25 Tryz.prog Tryz.lays7n25_ren:=⟨by kernel_rfl,func404.trans (cS (by kernel_rfl)),underlying160,isAgg160,sizeOf160,zeroValue160,by kernel_rfl⟩
def Tryz.sortedA_ren:Go.Shelf.Ren:=⟨fun|6=>365|8=>389|9=>332|11=>403|13=>363|12=>362|23=>387|24=>388|14=>379|15=>380|16=>381|17=>382|18=>383|19=>384|20=>330|21=>385|22=>386|25=>398|26=>399|27=>400|28=>401|29=>402|30=>361|31=>409|n=>n,fun|26=>3|28=>388|24=>27|0=>0|3=>3|37=>367|48=>391|50=>160|4=>4|40=>401|39=>400|45=>330|5=>5|9=>9|51=>416|55=>420|57=>426|58=>314|33=>178|n=>n,fun|n=>n⟩
theorem Tryz.sortedA:Go.Proofs.SlLaysZI.n6 Tryz.prog Tryz.sortedA_ren:={
  mixed:=by kernel_rfl
  f6:=⟨Tryz.f365.name,by decide,func365.trans (cS (by kernel_rfl))⟩
  f8:=⟨Tryz.f389.name,by decide,func389.trans (cS (by kernel_rfl))⟩
  f11:=⟨Tryz.f403.name,by decide,func403.trans (cS (by kernel_rfl))⟩
  t0:=underlying0
  a0:=isAgg0
  z0:=sizeOf0
  v0:=zeroValue0
  t24:=underlying27
  a24:=isAgg27
  z24:=sizeOf27
  v24:=zeroValue27
  t26:=underlying3
  a26:=isAgg3
  z26:=sizeOf3
  v26:=zeroValue3
  t28:=underlying388
  a28:=isAgg388
  z28:=sizeOf388
  v28:=zeroValue388
  i26:=by kernel_rfl}
end Go.Proofs
