/- What the library functions that are called do. -/
import Derived.Shelf.Spec.BitsCarry
import Derived.Ground.Names7Prog
import Derived.Shelf.SlIterI.Sorted
import Derived.Ground.GgzProg
import Derived.Shelf.Spec.SlicesGrow
import Derived.Ground.Names8Prog
import Derived.Shelf.Small.Bits
import Derived.Shelf.Small.Strs
import Derived.Shelf.Small.Wraps
import Derived.Shelf.Strconv.Itoa0
import Derived.Shelf.Strings.Search1
import Derived.Shelf.Sort.Plain
import Derived.Shelf.Bits.Mul64
import Derived.Shelf.Slices.Turned
import Derived.Shelf.Slices.Reverse
import Derived.Shelf.Slices.Equal
import Derived.Ground.Names2Prog
import Derived.Shelf.Slices.Clone
import Derived.Shelf.Slices.CompactI
import Derived.Shelf.Slices.SearchI
import Derived.Shelf.Slices.Cells
import Derived.Shelf.Slices.In.SortNone
import Derived.Shelf.Slices.Empties
import Derived.Shelf.Slices.Empties2
import Derived.Ground.SlgnProg
import Derived.Shelf.SlicesE.Reverse
import Derived.Shelf.SlicesE.Clone
import Derived.Test.YthcncnllajfkfaaGreatProg
set_option linter.all false
set_option maxRecDepth 100000
open Option renaming some->Y
namespace Go.Proofs
open Go.Shelf Tryz
theorem cS{α:Type}{a b:α}(h:a=b):Y a=Y b:=congrArg Y h
def Tryz.lays137_ren:Go.Shelf.Ren:=⟨λ|137=>404|217=>423|266=>431|n=>n,λ|9=>9|5=>5|3=>3|n=>n,λ|n=>n⟩
theorem Tryz.lays137:Go.Proofs.Lays.n137 Tryz.prog Tryz.lays137_ren:=⟨by kernel_rfl,func404.trans (cS (by kernel_rfl)),func423.trans (cS (by kernel_rfl)),func431.trans (cS (by kernel_rfl)),underlying3,isAgg3,sizeOf3,zeroValue3,underlying5,isAgg5,sizeOf5,zeroValue5,underlying9,isAgg9,sizeOf9,zeroValue9⟩
open Go.RowKit in
theorem Tryz.strings_IndexByte(s:ByteArray)(c:Int)(w:World):
    Calls Tryz.prog 404 #[.string s,.int .u8 c] w λe w'=>e=.returned (.int .i64 (Lib.indexByte s.data.toList c.toNat.toUInt8))/\w'=w:=Any.strings_IndexByte Tryz.lays137 s c w
open Go.RowKit in
open Go.RowKit in
open Go.RowKit Go.Lib in
def Tryz.lays189_ren:Go.Shelf.Ren:=⟨λ|189=>407|125=>425|257=>424|128=>440|129=>441|294=>432|295=>433|296=>434|297=>435|298=>436|299=>437|216=>354|300=>438|301=>439|328=>443|329=>444|330=>445|331=>446|332=>447|215=>388|343=>449|n=>n,λ|28=>27|3=>3|46=>308|0=>0|51=>359|53=>74|4=>4|183=>442|182=>441|131=>332|5=>5|9=>9|218=>449|222=>453|228=>455|229=>337|n=>n,λ|n=>n⟩
theorem Tryz.lays189:Go.Proofs.Lays.n189 Tryz.prog Tryz.lays189_ren:=⟨by kernel_rfl,func425.trans (cS (by kernel_rfl)),func440.trans (cS (by kernel_rfl)),func441.trans (cS (by kernel_rfl)),func407.trans (cS (by kernel_rfl)),func388.trans (cS (by kernel_rfl)),func354.trans (cS (by kernel_rfl)),func424.trans (cS (by kernel_rfl)),func432.trans (cS (by kernel_rfl)),func433.trans (cS (by kernel_rfl)),func434.trans (cS (by kernel_rfl)),func435.trans (cS (by kernel_rfl)),func436.trans (cS (by kernel_rfl)),func437.trans (cS (by kernel_rfl)),func438.trans (cS (by kernel_rfl)),func439.trans (cS (by kernel_rfl)),func443.trans (cS (by kernel_rfl)),func444.trans (cS (by kernel_rfl)),func445.trans (cS (by kernel_rfl)),func446.trans (cS (by kernel_rfl)),func447.trans (cS (by kernel_rfl)),func449.trans (cS (by kernel_rfl)),underlying0,isAgg0,sizeOf0,zeroValue0,underlying3,isAgg3,sizeOf3,zeroValue3,underlying4,isAgg4,sizeOf4,zeroValue4,underlying5,isAgg5,sizeOf5,zeroValue5,underlying9,isAgg9,sizeOf9,zeroValue9,underlying27,isAgg27,sizeOf27,zeroValue27,underlying308,isAgg308,sizeOf308,zeroValue308,underlying359,isAgg359,sizeOf359,zeroValue359,underlying74,isAgg74,sizeOf74,zeroValue74,underlying332,isAgg332,sizeOf332,zeroValue332,underlying441,isAgg441,sizeOf441,zeroValue441,underlying442,isAgg442,sizeOf442,zeroValue442,underlying449,isAgg449,sizeOf449,zeroValue449,underlying453,isAgg453,sizeOf453,zeroValue453,underlying455,isAgg455,sizeOf455,zeroValue455,underlying337,isAgg337,sizeOf337,zeroValue337⟩
open Go.Sort Go.RowKit in
theorem Tryz.slices_Sort_int(blk off cap:Nat)(zs:List Int)(w:World)(hH:Holds (Value.int .i64) w blk off zs.toArray)(hblk:blk<w.heap.size)(hsz:zs.length<4611686018427387904):
    Calls Tryz.prog 407 #[.slice (Y ⟨blk,off,none⟩) zs.length cap] w λe w'=>
      e=.returned (.tuple #[])/\∃n os,w'=grow (putRow (Value.int .i64) (Sort.ahead w n) blk off (zs.mergeSort λx y=>decide (x≤y)).toArray) os:=Any.slices_Sort_int Tryz.lays189 blk off cap zs w hH hblk hsz
open Go.RowKit Go.Lib in
def Tryz.lays212_ren:Go.Shelf.Ren:=⟨λ|212=>230|263=>290|264=>291|n=>n,λ|46=>308|51=>359|146=>360|53=>74|148=>362|n=>n,λ|n=>n⟩
theorem Tryz.lays212:Go.Proofs.Lays.n212 Tryz.prog Tryz.lays212_ren:=⟨by kernel_rfl,func230.trans (cS (by kernel_rfl)),func290.trans (cS (by kernel_rfl)),func291.trans (cS (by kernel_rfl)),underlying308,isAgg308,sizeOf308,zeroValue308,underlying359,isAgg359,sizeOf359,zeroValue359,underlying74,isAgg74,sizeOf74,zeroValue74,underlying360,isAgg360,sizeOf360,zeroValue360,underlying362,isAgg362,sizeOf362,zeroValue362⟩
open Go.RowKit Go.Lib in
theorem Tryz.bits_Mul(x y:Nat)(hx:x<18446744073709551616)(hy:y<18446744073709551616)(w:World):
    Calls Tryz.prog 230 #[.int .u64 x,.int .u64 y] w λe w'=>e=.returned (.tuple #[.int .u64 ((x*y / 18446744073709551616:Nat):Int),.int .u64 ((x*y % 18446744073709551616:Nat):Int)])/\w'=w:=Any.bits_Mul Tryz.lays212 x y hx hy w
open Go.Lib in
open Go.Lib in
open Go.Lib in
open Go.Lib in
open Go.Lib in
open Go.Lib in
open Go.Lib in
open Go.Lib in
open Go.Lib in
def Tryz.lays112_ren:Go.Shelf.Ren:=⟨λ|112=>412|n=>n,λ|28=>27|3=>3|4=>4|0=>0|n=>n,λ|n=>n⟩
theorem Tryz.lays112:Go.Proofs.Lays.n112 Tryz.prog Tryz.lays112_ren:=⟨by kernel_rfl,func412.trans (cS (by kernel_rfl)),underlying0,isAgg0,sizeOf0,zeroValue0,underlying3,isAgg3,sizeOf3,zeroValue3,underlying4,isAgg4,sizeOf4,zeroValue4,underlying27,isAgg27,sizeOf27,zeroValue27⟩
open Go.RowKit Go.Lib Go.Sort in
open Go.RowKit Go.Lib Go.Sort in
theorem Tryz.slices_Reverse_int(blk off cap:Nat)(zs:List Int)(w:World)(hH:Holds (Value.int .i64) w blk off zs.toArray)(hsz:zs.length≤9223372036854775807):
    Calls Tryz.prog 412 #[.slice (Y ⟨blk,off,none⟩) zs.length cap] w λe w'=>e=.returned (.tuple #[])/\∃n,w'=putRow (Value.int .i64) (Sort.ahead w n) blk off zs.reverse.toArray:=Any.slices_Reverse_int Tryz.lays112 blk off cap zs w hH hsz
open Go.RowKit Go.Lib Go.Sort in
theorem Tryz.slices_Reverse_int_empty(a:Option Addr)(cap:Nat)(w:World):
    Calls Tryz.prog 412 #[.slice a 0 cap] w λe w'=>e=.returned (.tuple #[])/\w'=w:=Any.slices_Reverse_int_empty Tryz.lays112 a cap w
open Go.RowKit Go.Lib in
open Go.RowKit Go.Lib in
open Go.RowKit Go.Lib in
open Go.RowKit Go.Lib in
open Go.RowKit Go.Lib in
open Go.RowKit Go.Lib in
def Tryz.laysNm220_ren:Go.Shelf.Ren:=⟨λ|20=>390|n=>n,λ|22=>27|3=>3|4=>4|0=>0|n=>n,λ|n=>n⟩
theorem Tryz.laysNm220:Go.Proofs.Lays2.n20 Tryz.prog Tryz.laysNm220_ren:={
  mixed:=by kernel_rfl
  f20:=func390.trans (cS (by kernel_rfl))
  t0:=underlying0
  a0:=isAgg0
  z0:=sizeOf0
  v0:=zeroValue0
  t3:=underlying3
  a3:=isAgg3
  z3:=sizeOf3
  v3:=zeroValue3
  t4:=underlying4
  a4:=isAgg4
  z4:=sizeOf4
  v4:=zeroValue4
  t22:=underlying27
  a22:=isAgg27
  z22:=sizeOf27
  v22:=zeroValue27
  i3:=by kernel_rfl}
open Go.RowKit Go.Lib Go.Sort in
open Go.RowKit Go.Lib Go.Sort in
theorem Tryz.slices_Compact_int(blk off cap:Nat)(zs:List Int)(w:World)(hH:Holds (Value.int .i64) w blk off zs.toArray)(hsz:zs.length≤9223372036854775807)(hcap:zs.length≤cap):
    Calls Tryz.prog 390 #[.slice (Y ⟨blk,off,none⟩) zs.length cap] w λe w'=>e=.returned (.slice (Y ⟨blk,off,none⟩) (Lib.compact zs).length cap)/\∃q,w'=putRow (Value.int .i64) (Sort.ahead w q) blk off (Lib.compact zs ++ List.replicate (zs.length-(Lib.compact zs).length) 0).toArray:=Any.slices_Compact_int Tryz.laysNm220 blk off cap zs w hH hsz hcap
open Go.RowKit Go.Lib Go.Sort in
theorem Tryz.slices_Compact_int_empty(a:Option Addr)(cap:Nat)(w:World):
    Calls Tryz.prog 390 #[.slice a 0 cap] w λe w'=>e=.returned (.slice a 0 cap)/\w'=w:=Any.slices_Compact_int_empty Tryz.laysNm220 a cap w
open Go.RowKit Go.Lib in
open Go.RowKit Go.Lib in
open Go.RowKit Go.Lib in
def Tryz.laysNm225_ren:Go.Shelf.Ren:=⟨λ|25=>286|31=>354|32=>355|37=>388|n=>n,λ|22=>27|3=>3|4=>4|40=>308|0=>0|n=>n,λ|n=>n⟩
theorem Tryz.laysNm225:Go.Proofs.Lays2.n25 Tryz.prog Tryz.laysNm225_ren:={
  mixed:=by kernel_rfl
  f25:=func286.trans (cS (by kernel_rfl))
  f31:=func354.trans (cS (by kernel_rfl))
  f32:=func355.trans (cS (by kernel_rfl))
  f37:=func388.trans (cS (by kernel_rfl))
  t0:=underlying0
  a0:=isAgg0
  z0:=sizeOf0
  v0:=zeroValue0
  t3:=underlying3
  a3:=isAgg3
  z3:=sizeOf3
  v3:=zeroValue3
  t4:=underlying4
  a4:=isAgg4
  z4:=sizeOf4
  v4:=zeroValue4
  t22:=underlying27
  a22:=isAgg27
  z22:=sizeOf27
  v22:=zeroValue27
  t40:=underlying308
  a40:=isAgg308
  z40:=sizeOf308
  v40:=zeroValue308}
open Go.RowKit Go.Lib in
theorem Tryz.slices_BinarySearch_int(b off n c:Nat)(zs:List Int)(x:Int)(w:World)(hz:n≤zs.length)(hbig:n<4611686018427387904)(hc:∀j,j<zs.length->w.cell? ⟨b,off+j,none⟩=Y (.int .i64 (zs.getD j 0)))(hs:(zs.take n).Pairwise (· ≤ ·)):
    Calls Tryz.prog 286 #[.slice (Y ⟨b,off,none⟩) n c,.int .i64 x] w λe w'=>e=.returned (.tuple #[.int .i64 ((zs.take n).countP (· <x):Nat),.bool ((zs.take n).contains x)])/\∃q,w'=w.drewN q:=Any.slices_BinarySearch_int Tryz.laysNm225 b off n c zs x w hz hbig hc hs
open Go.RowKit Go.Lib Go.Sort in
open Go.RowKit Go.Lib Go.Sort in
open Go.RowKit Go.Sort in
theorem Tryz.slices_Sort_int_none(p:Option Addr)(cap:Nat)(w:World):
    Calls Tryz.prog 407 #[.slice p 0 cap] w λe w'=>e=.returned (.tuple #[])/\w'=w:=Any.slices_Sort_int_none Tryz.lays189 p cap w
open Go.RowKit Go.Lib in
theorem Tryz.slices_BinarySearch_int_empty(a:Option Addr)(c:Nat)(x:Int)(w:World):
    Calls Tryz.prog 286 #[.slice a 0 c,.int .i64 x] w λe w'=>e=.returned (.tuple #[.int .i64 0,.bool false])/\w'=w:=Any.slices_BinarySearch_int_empty Tryz.laysNm225 a c x w
open Go.RowKit Go.Lib in
open Go.RowKit Go.Lib Go.Sort in
open Go.RowKit Go.Lib Go.Sort in
open Go.RowKit Go.Lib Go.Sort in
open Go.RowKit Go.Lib in
open Go.RowKit Go.Lib in
open Go.RowKit Go.Lib in
open Go.RowKit Go.Lib in
def Tryz.lays7n25_ren:Go.Shelf.Ren:=⟨λ|25=>387|n=>n,λ|22=>74|n=>n,λ|n=>n⟩
theorem Tryz.lays7n25:Go.Proofs.Lays7.n25 Tryz.prog Tryz.lays7n25_ren:=⟨by kernel_rfl,func387.trans (cS (by kernel_rfl)),underlying74,isAgg74,sizeOf74,zeroValue74,by kernel_rfl⟩
def Tryz.sortedA_ren:Go.Shelf.Ren:=⟨λ|6=>391|8=>416|9=>407|11=>427|13=>425|12=>424|23=>440|24=>441|14=>432|15=>433|16=>434|17=>435|18=>436|19=>437|20=>354|21=>438|22=>439|25=>443|26=>444|27=>445|28=>446|29=>447|30=>388|31=>449|n=>n,λ|26=>3|28=>422|24=>27|0=>0|3=>3|37=>308|48=>359|50=>74|4=>4|40=>442|39=>441|45=>332|5=>5|9=>9|51=>449|55=>453|57=>455|58=>337|33=>165|n=>n,λ|n=>n⟩
theorem Tryz.sortedA:Go.Proofs.SlLaysZI.n6 Tryz.prog Tryz.sortedA_ren:={
  mixed:=by kernel_rfl
  f6:=⟨Tryz.f391.name,by decide,func391.trans (cS (by kernel_rfl))⟩
  f8:=⟨Tryz.f416.name,by decide,func416.trans (cS (by kernel_rfl))⟩
  f11:=⟨Tryz.f427.name,by decide,func427.trans (cS (by kernel_rfl))⟩
  t0:=underlying0
  a0:=isAgg0
  z0:=sizeOf0
  v0:=zeroValue0
  t24:=underlying27
  a24:=isAgg27
  z24:=sizeOf27
  v24:=zeroValue27
  t26:=underlying3
  a26:=isAgg3
  z26:=sizeOf3
  v26:=zeroValue3
  t28:=underlying422
  a28:=isAgg422
  z28:=sizeOf422
  v28:=zeroValue422
  i26:=by kernel_rfl}
def Tryz.growI_ren:Go.Shelf.Ren:=⟨λ|4=>77|n=>n,λ|22=>27|25=>3|3=>3|4=>4|9=>9|20=>20|0=>0|n=>n,λ|n=>n⟩
theorem Tryz.growI:Go.Proofs.Lays8.n4 Tryz.prog Tryz.growI_ren:={
  mixed:=by kernel_rfl
  f4:=⟨Tryz.f77.name,by decide,func77.trans (cS (by kernel_rfl))⟩
  t0:=underlying0
  a0:=isAgg0
  z0:=sizeOf0
  v0:=zeroValue0
  t3:=underlying3
  a3:=isAgg3
  z3:=sizeOf3
  v3:=zeroValue3
  t4:=underlying4
  a4:=isAgg4
  z4:=sizeOf4
  v4:=zeroValue4
  t9:=underlying9
  a9:=isAgg9
  z9:=sizeOf9
  v9:=zeroValue9
  t20:=underlying20
  a20:=isAgg20
  z20:=sizeOf20
  v20:=zeroValue20
  t22:=underlying27
  a22:=isAgg27
  z22:=sizeOf27
  v22:=zeroValue27}
end Go.Proofs
