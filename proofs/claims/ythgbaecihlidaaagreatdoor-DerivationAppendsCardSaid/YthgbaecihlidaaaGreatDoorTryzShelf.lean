/- What the library functions that are called do. -/
import Derived.Shelf.Spec.BitsCarry
import Derived.Ground.Names7Prog
import Derived.Shelf.SlIterI.Sorted
import Derived.Ground.GgzProg
import Derived.Shelf.Strings.Builder1
import Derived.Shelf.Small.Bits
import Derived.Shelf.Small.Strs
import Derived.Shelf.Small.Wraps
import Derived.Shelf.Strings.BuilderF
import Derived.Shelf.Strings.BuilderK
import Derived.Shelf.Strconv.Itoa0
import Derived.Shelf.Strconv.Itoa1
import Derived.Shelf.LaysM
import Derived.Shelf.Strconv.Itoa2
import Derived.Shelf.Strconv.Itoa3
import Derived.Shelf.Strings.Search1
import Derived.Shelf.Sort.Plain
import Derived.Shelf.Bits.Mul64
import Derived.Shelf.Slices.Turned
import Derived.Shelf.Slices.Reverse
import Derived.Shelf.Slices.Equal
import Derived.Ground.Names2Prog
import Derived.Shelf.Slices.Clone
import Derived.Shelf.Slices.CompactI
import Derived.Shelf.Slices.SearchI
import Derived.Shelf.Slices.Cells
import Derived.Shelf.Slices.In.SortNone
import Derived.Shelf.Slices.Empties
import Derived.Shelf.Slices.Empties2
import Derived.Ground.SlgnProg
import Derived.Shelf.SlicesE.Reverse
import Derived.Shelf.SlicesE.Clone
import Derived.Test.YthgbaecihlidaaaGreatDoorProg
set_option linter.all false
set_option maxRecDepth 100000
namespace Go.Proofs
open Go.Shelf Tryz
theorem cS{α:Type}{a b:α}(h:a=b):some a=some b:=congrArg some h
def Tryz.lays169_ren:Go.Shelf.Ren:=⟨fun|169=>43|n=>n,fun|70=>123|9=>9|0=>0|72=>125|37=>86|127=>173|3=>3|5=>5|n=>n,fun|n=>n⟩
theorem Tryz.lays169:Go.Proofs.Lays.n169 Tryz.prog Tryz.lays169_ren:=⟨by kernel_rfl,func43.trans (cS (by kernel_rfl)),underlying0,isAgg0,sizeOf0,zeroValue0,underlying3,isAgg3,sizeOf3,zeroValue3,underlying9,isAgg9,sizeOf9,zeroValue9,underlying86,isAgg86,sizeOf86,zeroValue86,underlying123,isAgg123,sizeOf123,zeroValue123,underlying125,isAgg125,sizeOf125,zeroValue125,underlying173,isAgg173,sizeOf173,zeroValue173⟩
theorem Tryz.Builder_Extra_169:Builder.Extra Tryz.prog Tryz.lays169_ren:={
  sizeBuilder:=by kernel_rfl
  liesBuilder:=by kernel_rfl
  t5:=underlying5
  a5:=isAgg5
  z5:=sizeOf5
  v5:=zeroValue5
  infoByte:=by kernel_rfl
  cellsByte:=by kernel_rfl
  sizeByte:=by kernel_rfl
  neB5:=by decide}
open Go.RowKit in
theorem Tryz.Builder_String(B b:Nat)(l:List UInt8)(w:World)(h:Lib.IsBuilder 125 5 B b (Lib.byteCells l) w)(h0:l≠[]):
    Calls Tryz.prog 43 #[.pointer (some ⟨b,0,none⟩)] w fun e w'=>e=.returned (.string ⟨l.toArray⟩)/\Below B w w':=Any.Builder_String Tryz.lays169 Tryz.Builder_Extra_169 B b l w h h0
open Go.RowKit in
def Tryz.lays137_ren:Go.Shelf.Ren:=⟨fun|137=>265|217=>305|266=>323|n=>n,fun|9=>9|5=>5|3=>3|n=>n,fun|n=>n⟩
theorem Tryz.lays137:Go.Proofs.Lays.n137 Tryz.prog Tryz.lays137_ren:=⟨by kernel_rfl,func265.trans (cS (by kernel_rfl)),func305.trans (cS (by kernel_rfl)),func323.trans (cS (by kernel_rfl)),underlying3,isAgg3,sizeOf3,zeroValue3,underlying5,isAgg5,sizeOf5,zeroValue5,underlying9,isAgg9,sizeOf9,zeroValue9⟩
open Go.RowKit in
theorem Tryz.strings_IndexByte(s:ByteArray)(c:Int)(w:World):
    Calls Tryz.prog 265 #[.string s,.int .u8 c] w fun e w'=>e=.returned (.int .i64 (Lib.indexByte s.data.toList c.toNat.toUInt8))/\w'=w:=Any.strings_IndexByte Tryz.lays137 s c w
open Go.RowKit in
open Go.RowKit in
open Go.RowKit Go.Sort Go.Lib in
def Tryz.laysM171_ren:Go.Shelf.Ren:=⟨fun|171=>41|243=>75|246=>119|283=>185|284=>186|285=>187|286=>188|129=>246|317=>245|318=>247|319=>248|320=>249|337=>294|338=>295|n=>n,fun|3=>3|9=>9|2=>2|4=>4|171=>265|0=>0|53=>92|37=>86|5=>5|173=>268|212=>323|51=>324|20=>20|213=>325|46=>326|232=>383|233=>384|n=>n,fun|17=>0|18=>1|19=>2|n=>n⟩
theorem Tryz.laysM171:Go.Proofs.LaysM.n171 Tryz.prog Tryz.laysM171_ren:={
  mixed:=by kernel_rfl
  f129:=func246.trans (cS (by kernel_rfl))
  f171:=func41.trans (cS (by kernel_rfl))
  f243:=func75.trans (cS (by kernel_rfl))
  f246:=func119.trans (cS (by kernel_rfl))
  f283:=func185.trans (cS (by kernel_rfl))
  f284:=func186.trans (cS (by kernel_rfl))
  f285:=func187.trans (cS (by kernel_rfl))
  f286:=func188.trans (cS (by kernel_rfl))
  f317:=func245.trans (cS (by kernel_rfl))
  f318:=func247.trans (cS (by kernel_rfl))
  f319:=func248.trans (cS (by kernel_rfl))
  f320:=func249.trans (cS (by kernel_rfl))
  f337:=func294.trans (cS (by kernel_rfl))
  f338:=func295.trans (cS (by kernel_rfl))
  t0:=underlying0
  a0:=isAgg0
  z0:=sizeOf0
  v0:=zeroValue0
  t2:=underlying2
  a2:=isAgg2
  z2:=sizeOf2
  v2:=zeroValue2
  t3:=underlying3
  a3:=isAgg3
  z3:=sizeOf3
  v3:=zeroValue3
  t4:=underlying4
  a4:=isAgg4
  z4:=sizeOf4
  v4:=zeroValue4
  t5:=underlying5
  a5:=isAgg5
  z5:=sizeOf5
  v5:=zeroValue5
  t9:=underlying9
  a9:=isAgg9
  z9:=sizeOf9
  v9:=zeroValue9
  t20:=underlying20
  a20:=isAgg20
  z20:=sizeOf20
  v20:=zeroValue20
  t37:=underlying86
  a37:=isAgg86
  z37:=sizeOf86
  v37:=zeroValue86
  t46:=underlying326
  a46:=isAgg326
  z46:=sizeOf326
  v46:=zeroValue326
  t51:=underlying324
  a51:=isAgg324
  z51:=sizeOf324
  v51:=zeroValue324
  t53:=underlying92
  a53:=isAgg92
  z53:=sizeOf92
  v53:=zeroValue92
  t171:=underlying265
  a171:=isAgg265
  z171:=sizeOf265
  v171:=zeroValue265
  t173:=underlying268
  a173:=isAgg268
  z173:=sizeOf268
  v173:=zeroValue268
  t212:=underlying323
  a212:=isAgg323
  z212:=sizeOf323
  v212:=zeroValue323
  t213:=underlying325
  a213:=isAgg325
  z213:=sizeOf325
  t232:=underlying383
  a232:=isAgg383
  z232:=sizeOf383
  v232:=zeroValue383
  t233:=underlying384
  a233:=isAgg384
  z233:=sizeOf384
  v233:=zeroValue384
  g17:=by kernel_rfl
  g18:=by kernel_rfl
  g19:=by kernel_rfl
  i0:=by kernel_rfl
  i2:=by kernel_rfl
  i3:=by kernel_rfl
  i4:=by kernel_rfl
  i5:=by kernel_rfl
  i9:=by kernel_rfl
  i20:=by kernel_rfl
  i37:=by kernel_rfl
  i46:=by kernel_rfl
  i51:=by kernel_rfl
  i53:=by kernel_rfl
  i171:=by kernel_rfl
  i173:=by kernel_rfl
  i212:=by kernel_rfl
  i232:=by kernel_rfl
  i233:=by kernel_rfl
  m17:=by kernel_rfl
  m18:=by kernel_rfl
  m19:=by kernel_rfl}
open Go.RowKit Go.Sort Go.Lib in
theorem Tryz.strconv_Itoa(n:Int)(h0:-9223372036854775808≤n)(h1:n≤9223372036854775807)(w:World)(htab:Lib.TabIs Tryz.prog w "internal/strconv.uint64pow10" .u64 Lib.pow10Tab):
    Calls Tryz.prog 41 #[.int .i64 n] w fun e w'=>e=.returned (.string ⟨(Lib.itoa n).toArray⟩)/\∃k os,w'=grow (w.drewN k) os:=Any.strconv_Itoa Tryz.laysM171 n h0 h1 w htab
def Tryz.lays171_ren:Go.Shelf.Ren:=⟨fun|171=>41|243=>75|246=>119|283=>185|284=>186|285=>187|286=>188|129=>246|317=>245|318=>247|319=>248|320=>249|337=>294|338=>295|n=>n,fun|3=>3|9=>9|2=>2|4=>4|171=>265|0=>0|53=>92|37=>86|5=>5|173=>268|212=>323|51=>324|20=>20|213=>325|46=>326|232=>383|233=>384|n=>n,fun|17=>0|18=>1|19=>2|n=>n⟩
theorem Tryz.lays171:Go.Proofs.Lays.n171 Tryz.prog Tryz.lays171_ren:=⟨by kernel_rfl,func246.trans (cS (by kernel_rfl)),func41.trans (cS (by kernel_rfl)),func75.trans (cS (by kernel_rfl)),func119.trans (cS (by kernel_rfl)),func185.trans (cS (by kernel_rfl)),func186.trans (cS (by kernel_rfl)),func187.trans (cS (by kernel_rfl)),func188.trans (cS (by kernel_rfl)),func245.trans (cS (by kernel_rfl)),func247.trans (cS (by kernel_rfl)),func248.trans (cS (by kernel_rfl)),func249.trans (cS (by kernel_rfl)),func294.trans (cS (by kernel_rfl)),func295.trans (cS (by kernel_rfl)),underlying0,isAgg0,sizeOf0,zeroValue0,underlying2,isAgg2,sizeOf2,zeroValue2,underlying3,isAgg3,sizeOf3,zeroValue3,underlying4,isAgg4,sizeOf4,zeroValue4,underlying5,isAgg5,sizeOf5,zeroValue5,underlying9,isAgg9,sizeOf9,zeroValue9,underlying20,isAgg20,sizeOf20,zeroValue20,underlying86,isAgg86,sizeOf86,zeroValue86,underlying326,isAgg326,sizeOf326,zeroValue326,underlying324,isAgg324,sizeOf324,zeroValue324,underlying92,isAgg92,sizeOf92,zeroValue92,underlying265,isAgg265,sizeOf265,zeroValue265,underlying268,isAgg268,sizeOf268,zeroValue268,underlying323,isAgg323,sizeOf323,zeroValue323,underlying325,isAgg325,sizeOf325,underlying383,isAgg383,sizeOf383,zeroValue383,underlying384,isAgg384,sizeOf384,zeroValue384,by kernel_rfl,by kernel_rfl,by kernel_rfl⟩
open Go.RowKit Go.Sort Go.Lib in
theorem Tryz.strconv_Itoa_small(i:Nat)(hi:i<100)(w:World):
    Calls Tryz.prog 41 #[.int .i64 i] w fun e w'=>e=.returned (.string ⟨(Lib.decDigits i).toArray⟩)/\w'=w:=Any.strconv_Itoa_small Tryz.lays171 i hi w
open Go.RowKit Go.Lib in
def Tryz.lays189_ren:Go.Shelf.Ren:=⟨fun|189=>271|125=>310|257=>309|128=>332|129=>246|294=>324|295=>325|296=>326|297=>327|298=>328|299=>329|216=>269|300=>330|301=>331|328=>339|329=>340|330=>341|331=>342|332=>343|215=>308|343=>348|n=>n,fun|28=>36|3=>3|46=>326|0=>0|51=>324|53=>92|4=>4|183=>387|182=>386|131=>292|5=>5|9=>9|218=>393|222=>397|228=>402|229=>273|n=>n,fun|n=>n⟩
theorem Tryz.lays189:Go.Proofs.Lays.n189 Tryz.prog Tryz.lays189_ren:=⟨by kernel_rfl,func310.trans (cS (by kernel_rfl)),func332.trans (cS (by kernel_rfl)),func246.trans (cS (by kernel_rfl)),func271.trans (cS (by kernel_rfl)),func308.trans (cS (by kernel_rfl)),func269.trans (cS (by kernel_rfl)),func309.trans (cS (by kernel_rfl)),func324.trans (cS (by kernel_rfl)),func325.trans (cS (by kernel_rfl)),func326.trans (cS (by kernel_rfl)),func327.trans (cS (by kernel_rfl)),func328.trans (cS (by kernel_rfl)),func329.trans (cS (by kernel_rfl)),func330.trans (cS (by kernel_rfl)),func331.trans (cS (by kernel_rfl)),func339.trans (cS (by kernel_rfl)),func340.trans (cS (by kernel_rfl)),func341.trans (cS (by kernel_rfl)),func342.trans (cS (by kernel_rfl)),func343.trans (cS (by kernel_rfl)),func348.trans (cS (by kernel_rfl)),underlying0,isAgg0,sizeOf0,zeroValue0,underlying3,isAgg3,sizeOf3,zeroValue3,underlying4,isAgg4,sizeOf4,zeroValue4,underlying5,isAgg5,sizeOf5,zeroValue5,underlying9,isAgg9,sizeOf9,zeroValue9,underlying36,isAgg36,sizeOf36,zeroValue36,underlying326,isAgg326,sizeOf326,zeroValue326,underlying324,isAgg324,sizeOf324,zeroValue324,underlying92,isAgg92,sizeOf92,zeroValue92,underlying292,isAgg292,sizeOf292,zeroValue292,underlying386,isAgg386,sizeOf386,zeroValue386,underlying387,isAgg387,sizeOf387,zeroValue387,underlying393,isAgg393,sizeOf393,zeroValue393,underlying397,isAgg397,sizeOf397,zeroValue397,underlying402,isAgg402,sizeOf402,zeroValue402,underlying273,isAgg273,sizeOf273,zeroValue273⟩
open Go.Sort Go.RowKit in
theorem Tryz.slices_Sort_int(blk off cap:Nat)(zs:List Int)(w:World)(hH:Holds (Value.int .i64) w blk off zs.toArray)(hblk:blk<w.heap.size)(hsz:zs.length<4611686018427387904):
    Calls Tryz.prog 271 #[.slice (some ⟨blk,off,none⟩) zs.length cap] w fun e w'=>
      e=.returned (.tuple #[])/\∃n os,w'=grow (putRow (Value.int .i64) (Sort.ahead w n) blk off (zs.mergeSort fun x y=>decide (x≤y)).toArray) os:=Any.slices_Sort_int Tryz.lays189 blk off cap zs w hH hblk hsz
open Go.RowKit Go.Lib in
def Tryz.lays212_ren:Go.Shelf.Ren:=⟨fun|212=>292|263=>321|264=>322|n=>n,fun|46=>326|51=>324|146=>380|53=>92|148=>370|n=>n,fun|n=>n⟩
theorem Tryz.lays212:Go.Proofs.Lays.n212 Tryz.prog Tryz.lays212_ren:=⟨by kernel_rfl,func292.trans (cS (by kernel_rfl)),func321.trans (cS (by kernel_rfl)),func322.trans (cS (by kernel_rfl)),underlying326,isAgg326,sizeOf326,zeroValue326,underlying324,isAgg324,sizeOf324,zeroValue324,underlying92,isAgg92,sizeOf92,zeroValue92,underlying380,isAgg380,sizeOf380,zeroValue380,underlying370,isAgg370,sizeOf370,zeroValue370⟩
open Go.RowKit Go.Lib in
theorem Tryz.bits_Mul(x y:Nat)(hx:x<18446744073709551616)(hy:y<18446744073709551616)(w:World):
    Calls Tryz.prog 292 #[.int .u64 x,.int .u64 y] w fun e w'=>e=.returned (.tuple #[.int .u64 ((x*y / 18446744073709551616:Nat):Int),.int .u64 ((x*y % 18446744073709551616:Nat):Int)])/\w'=w:=Any.bits_Mul Tryz.lays212 x y hx hy w
open Go.Lib in
open Go.Lib in
open Go.Lib in
open Go.Lib in
open Go.Lib in
open Go.Lib in
open Go.Lib in
open Go.Lib in
def Tryz.lays112_ren:Go.Shelf.Ren:=⟨fun|112=>278|n=>n,fun|28=>36|3=>3|4=>4|0=>0|n=>n,fun|n=>n⟩
theorem Tryz.lays112:Go.Proofs.Lays.n112 Tryz.prog Tryz.lays112_ren:=⟨by kernel_rfl,func278.trans (cS (by kernel_rfl)),underlying0,isAgg0,sizeOf0,zeroValue0,underlying3,isAgg3,sizeOf3,zeroValue3,underlying4,isAgg4,sizeOf4,zeroValue4,underlying36,isAgg36,sizeOf36,zeroValue36⟩
open Go.RowKit Go.Lib Go.Sort in
open Go.RowKit Go.Lib Go.Sort in
theorem Tryz.slices_Reverse_int(blk off cap:Nat)(zs:List Int)(w:World)(hH:Holds (Value.int .i64) w blk off zs.toArray)(hsz:zs.length≤9223372036854775807):
    Calls Tryz.prog 278 #[.slice (some ⟨blk,off,none⟩) zs.length cap] w fun e w'=>e=.returned (.tuple #[])/\∃n,w'=putRow (Value.int .i64) (Sort.ahead w n) blk off zs.reverse.toArray:=Any.slices_Reverse_int Tryz.lays112 blk off cap zs w hH hsz
open Go.RowKit Go.Lib Go.Sort in
theorem Tryz.slices_Reverse_int_empty(a:Option Addr)(cap:Nat)(w:World):
    Calls Tryz.prog 278 #[.slice a 0 cap] w fun e w'=>e=.returned (.tuple #[])/\w'=w:=Any.slices_Reverse_int_empty Tryz.lays112 a cap w
open Go.RowKit Go.Lib in
open Go.RowKit Go.Lib in
open Go.RowKit Go.Lib in
open Go.RowKit Go.Lib in
open Go.RowKit Go.Lib in
open Go.RowKit Go.Lib in
def Tryz.laysNm220_ren:Go.Shelf.Ren:=⟨fun|20=>272|n=>n,fun|22=>36|3=>3|4=>4|0=>0|n=>n,fun|n=>n⟩
theorem Tryz.laysNm220:Go.Proofs.Lays2.n20 Tryz.prog Tryz.laysNm220_ren:={
  mixed:=by kernel_rfl
  f20:=func272.trans (cS (by kernel_rfl))
  t0:=underlying0
  a0:=isAgg0
  z0:=sizeOf0
  v0:=zeroValue0
  t3:=underlying3
  a3:=isAgg3
  z3:=sizeOf3
  v3:=zeroValue3
  t4:=underlying4
  a4:=isAgg4
  z4:=sizeOf4
  v4:=zeroValue4
  t22:=underlying36
  a22:=isAgg36
  z22:=sizeOf36
  v22:=zeroValue36
  i3:=by kernel_rfl}
open Go.RowKit Go.Lib Go.Sort in
open Go.RowKit Go.Lib Go.Sort in
theorem Tryz.slices_Compact_int(blk off cap:Nat)(zs:List Int)(w:World)(hH:Holds (Value.int .i64) w blk off zs.toArray)(hsz:zs.length≤9223372036854775807)(hcap:zs.length≤cap):
    Calls Tryz.prog 272 #[.slice (some ⟨blk,off,none⟩) zs.length cap] w fun e w'=>e=.returned (.slice (some ⟨blk,off,none⟩) (Lib.compact zs).length cap)/\∃q,w'=putRow (Value.int .i64) (Sort.ahead w q) blk off (Lib.compact zs ++ List.replicate (zs.length-(Lib.compact zs).length) 0).toArray:=Any.slices_Compact_int Tryz.laysNm220 blk off cap zs w hH hsz hcap
open Go.RowKit Go.Lib Go.Sort in
theorem Tryz.slices_Compact_int_empty(a:Option Addr)(cap:Nat)(w:World):
    Calls Tryz.prog 272 #[.slice a 0 cap] w fun e w'=>e=.returned (.slice a 0 cap)/\w'=w:=Any.slices_Compact_int_empty Tryz.laysNm220 a cap w
open Go.RowKit Go.Lib in
open Go.RowKit Go.Lib in
open Go.RowKit Go.Lib in
def Tryz.laysNm225_ren:Go.Shelf.Ren:=⟨fun|25=>221|31=>269|32=>270|37=>308|n=>n,fun|22=>36|3=>3|4=>4|40=>326|0=>0|n=>n,fun|n=>n⟩
theorem Tryz.laysNm225:Go.Proofs.Lays2.n25 Tryz.prog Tryz.laysNm225_ren:={
  mixed:=by kernel_rfl
  f25:=func221.trans (cS (by kernel_rfl))
  f31:=func269.trans (cS (by kernel_rfl))
  f32:=func270.trans (cS (by kernel_rfl))
  f37:=func308.trans (cS (by kernel_rfl))
  t0:=underlying0
  a0:=isAgg0
  z0:=sizeOf0
  v0:=zeroValue0
  t3:=underlying3
  a3:=isAgg3
  z3:=sizeOf3
  v3:=zeroValue3
  t4:=underlying4
  a4:=isAgg4
  z4:=sizeOf4
  v4:=zeroValue4
  t22:=underlying36
  a22:=isAgg36
  z22:=sizeOf36
  v22:=zeroValue36
  t40:=underlying326
  a40:=isAgg326
  z40:=sizeOf326
  v40:=zeroValue326}
open Go.RowKit Go.Lib in
theorem Tryz.slices_BinarySearch_int(b off n c:Nat)(zs:List Int)(x:Int)(w:World)(hz:n≤zs.length)(hbig:n<4611686018427387904)(hc:∀j,j<zs.length->w.cell? ⟨b,off+j,none⟩=some (.int .i64 (zs.getD j 0)))(hs:(zs.take n).Pairwise (· ≤ ·)):
    Calls Tryz.prog 221 #[.slice (some ⟨b,off,none⟩) n c,.int .i64 x] w fun e w'=>e=.returned (.tuple #[.int .i64 ((zs.take n).countP (· <x):Nat),.bool ((zs.take n).contains x)])/\∃q,w'=w.drewN q:=Any.slices_BinarySearch_int Tryz.laysNm225 b off n c zs x w hz hbig hc hs
open Go.RowKit Go.Lib Go.Sort in
open Go.RowKit Go.Lib Go.Sort in
open Go.RowKit Go.Sort in
theorem Tryz.slices_Sort_int_none(p:Option Addr)(cap:Nat)(w:World):
    Calls Tryz.prog 271 #[.slice p 0 cap] w fun e w'=>e=.returned (.tuple #[])/\w'=w:=Any.slices_Sort_int_none Tryz.lays189 p cap w
open Go.RowKit Go.Lib in
theorem Tryz.slices_BinarySearch_int_empty(a:Option Addr)(c:Nat)(x:Int)(w:World):
    Calls Tryz.prog 221 #[.slice a 0 c,.int .i64 x] w fun e w'=>e=.returned (.tuple #[.int .i64 0,.bool false])/\w'=w:=Any.slices_BinarySearch_int_empty Tryz.laysNm225 a c x w
open Go.RowKit Go.Lib in
open Go.RowKit Go.Lib Go.Sort in
open Go.RowKit Go.Lib Go.Sort in
open Go.RowKit Go.Lib Go.Sort in
open Go.RowKit Go.Lib in
open Go.RowKit Go.Lib in
open Go.RowKit Go.Lib in
open Go.RowKit Go.Lib in
def Tryz.lays7n25_ren:Go.Shelf.Ren:=⟨fun|25=>315|n=>n,fun|22=>92|n=>n,fun|n=>n⟩
theorem Tryz.lays7n25:Go.Proofs.Lays7.n25 Tryz.prog Tryz.lays7n25_ren:=⟨by kernel_rfl,func315.trans (cS (by kernel_rfl)),underlying92,isAgg92,sizeOf92,zeroValue92,by kernel_rfl⟩
def Tryz.sortedA_ren:Go.Shelf.Ren:=⟨fun|6=>317|8=>336|9=>271|11=>344|13=>310|12=>309|23=>332|24=>246|14=>324|15=>325|16=>326|17=>327|18=>328|19=>329|20=>269|21=>330|22=>331|25=>339|26=>340|27=>341|28=>342|29=>343|30=>308|31=>348|n=>n,fun|26=>3|28=>375|24=>36|0=>0|3=>3|37=>326|48=>324|50=>92|4=>4|40=>387|39=>386|45=>292|5=>5|9=>9|51=>393|55=>397|57=>402|58=>273|33=>172|n=>n,fun|n=>n⟩
theorem Tryz.sortedA:Go.Proofs.SlLaysZI.n6 Tryz.prog Tryz.sortedA_ren:={
  mixed:=by kernel_rfl
  f6:=⟨Tryz.f317.name,by decide,func317.trans (cS (by kernel_rfl))⟩
  f8:=⟨Tryz.f336.name,by decide,func336.trans (cS (by kernel_rfl))⟩
  f11:=⟨Tryz.f344.name,by decide,func344.trans (cS (by kernel_rfl))⟩
  t0:=underlying0
  a0:=isAgg0
  z0:=sizeOf0
  v0:=zeroValue0
  t24:=underlying36
  a24:=isAgg36
  z24:=sizeOf36
  v24:=zeroValue36
  t26:=underlying3
  a26:=isAgg3
  z26:=sizeOf3
  v26:=zeroValue3
  t28:=underlying375
  a28:=isAgg375
  z28:=sizeOf375
  v28:=zeroValue375
  i26:=by kernel_rfl}
end Go.Proofs
