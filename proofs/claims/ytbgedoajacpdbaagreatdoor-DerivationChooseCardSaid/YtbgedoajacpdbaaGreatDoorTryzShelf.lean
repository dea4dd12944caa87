/- What the library functions that are called do. -/
import Derived.Shelf.Spec.BitsCarry
import Derived.Ground.Names7Prog
import Derived.Shelf.SlIterI.Sorted
import Derived.Ground.GgzProg
import Derived.Shelf.Strings.Builder1
import Derived.Shelf.Small.Bits
import Derived.Shelf.Small.Strs
import Derived.Shelf.Small.Wraps
import Derived.Shelf.Strconv.Itoa0
import Derived.Shelf.Strconv.Itoa1
import Derived.Shelf.LaysM
import Derived.Shelf.Strconv.Itoa2
import Derived.Shelf.Strconv.Itoa3
import Derived.Shelf.Strings.Search1
import Derived.Shelf.Sort.Plain
import Derived.Shelf.Bits.Mul64
import Derived.Shelf.Slices.Turned
import Derived.Shelf.Slices.Reverse
import Derived.Shelf.Slices.Equal
import Derived.Ground.Names2Prog
import Derived.Shelf.Slices.Clone
import Derived.Shelf.Slices.CompactI
import Derived.Shelf.Slices.SearchI
import Derived.Shelf.Slices.Cells
import Derived.Shelf.Slices.In.SortNone
import Derived.Shelf.Slices.Empties
import Derived.Shelf.Slices.Empties2
import Derived.Ground.SlgnProg
import Derived.Shelf.SlicesE.Reverse
import Derived.Shelf.SlicesE.Clone
import Derived.Test.YtbgedoajacpdbaaGreatDoorProg
set_option linter.all false
set_option maxRecDepth 100000
namespace Go.Proofs
open Go.Shelf Tryz
theorem cS{α:Type}{a b:α}(h:a=b):some a=some b:=congrArg some h
def Tryz.lays169_ren:Go.Shelf.Ren:=⟨fun|169=>85|n=>n,fun|70=>163|9=>9|0=>0|72=>165|37=>99|127=>213|3=>3|5=>5|n=>n,fun|n=>n⟩
theorem Tryz.lays169:Go.Proofs.Lays.n169 Tryz.prog Tryz.lays169_ren:=⟨by kernel_rfl,func85.trans (cS (by kernel_rfl)),underlying0,isAgg0,sizeOf0,zeroValue0,underlying3,isAgg3,sizeOf3,zeroValue3,underlying9,isAgg9,sizeOf9,zeroValue9,underlying99,isAgg99,sizeOf99,zeroValue99,underlying163,isAgg163,sizeOf163,zeroValue163,underlying165,isAgg165,sizeOf165,zeroValue165,underlying213,isAgg213,sizeOf213,zeroValue213⟩
theorem Tryz.Builder_Extra_169:Builder.Extra Tryz.prog Tryz.lays169_ren:={
  sizeBuilder:=by kernel_rfl
  liesBuilder:=by kernel_rfl
  t5:=underlying5
  a5:=isAgg5
  z5:=sizeOf5
  v5:=zeroValue5
  infoByte:=by kernel_rfl
  cellsByte:=by kernel_rfl
  sizeByte:=by kernel_rfl
  neB5:=by decide}
open Go.RowKit in
theorem Tryz.Builder_String(B b:Nat)(l:List UInt8)(w:World)(h:Lib.IsBuilder 165 5 B b (Lib.byteCells l) w)(h0:l≠[]):
    Calls Tryz.prog 85 #[.pointer (some ⟨b,0,none⟩)] w fun e w'=>e=.returned (.string ⟨l.toArray⟩)/\Below B w w':=Any.Builder_String Tryz.lays169 Tryz.Builder_Extra_169 B b l w h h0
open Go.RowKit in
def Tryz.lays137_ren:Go.Shelf.Ren:=⟨fun|137=>338|217=>387|266=>419|n=>n,fun|9=>9|5=>5|3=>3|n=>n,fun|n=>n⟩
theorem Tryz.lays137:Go.Proofs.Lays.n137 Tryz.prog Tryz.lays137_ren:=⟨by kernel_rfl,func338.trans (cS (by kernel_rfl)),func387.trans (cS (by kernel_rfl)),func419.trans (cS (by kernel_rfl)),underlying3,isAgg3,sizeOf3,zeroValue3,underlying5,isAgg5,sizeOf5,zeroValue5,underlying9,isAgg9,sizeOf9,zeroValue9⟩
open Go.RowKit in
theorem Tryz.strings_IndexByte(s:ByteArray)(c:Int)(w:World):
    Calls Tryz.prog 338 #[.string s,.int .u8 c] w fun e w'=>e=.returned (.int .i64 (Lib.indexByte s.data.toList c.toNat.toUInt8))/\w'=w:=Any.strings_IndexByte Tryz.lays137 s c w
def Tryz.lays215_ren:Go.Shelf.Ren:=⟨fun|215=>390|n=>n,fun|3=>3|4=>4|n=>n,fun|n=>n⟩
theorem Tryz.lays215:Go.Proofs.Lays.n215 Tryz.prog Tryz.lays215_ren:=⟨by kernel_rfl,func390.trans (cS (by kernel_rfl)),underlying3,isAgg3,sizeOf3,zeroValue3,underlying4,isAgg4,sizeOf4,zeroValue4⟩
open Go.RowKit in
theorem Tryz.cmp_isNaN_int(x:Int)(w:World):
    Calls Tryz.prog 390 #[.int .i64 x] w fun e w'=>e=.returned (.bool false)/\w'=w:=Any.cmp_isNaN_int Tryz.lays215 x w
def Tryz.lays122_ren:Go.Shelf.Ren:=⟨fun|122=>353|215=>390|n=>n,fun|3=>3|4=>4|n=>n,fun|n=>n⟩
theorem Tryz.lays122:Go.Proofs.Lays.n122 Tryz.prog Tryz.lays122_ren:=⟨by kernel_rfl,func353.trans (cS (by kernel_rfl)),func390.trans (cS (by kernel_rfl)),underlying3,isAgg3,sizeOf3,zeroValue3,underlying4,isAgg4,sizeOf4,zeroValue4⟩
open Go.RowKit in
theorem Tryz.cmp_Compare_int(x y:Int)(w:World):
    Calls Tryz.prog 353 #[.int .i64 x,.int .i64 y] w fun e w'=>e=.returned (.int .i64 (Lib.compareInt x y))/\w'=w:=Any.cmp_Compare_int Tryz.lays122 x y w
open Go.Lib in
open Go.Lib in
open Go.Lib in
open Go.Lib in
open Go.RowKit Go.Sort Go.Lib in
open Go.RowKit Go.Sort Go.Lib in
open Go.RowKit Go.Sort Go.Lib in
open Go.RowKit Go.Sort Go.Lib in
open Go.RowKit Go.Sort Go.Lib in
def Tryz.laysM171_ren:Go.Shelf.Ren:=⟨fun|171=>83|243=>132|246=>195|283=>266|284=>267|285=>268|286=>269|129=>326|317=>325|318=>327|319=>328|320=>329|337=>383|338=>384|n=>n,fun|3=>3|9=>9|2=>2|4=>4|171=>318|0=>0|53=>126|37=>99|5=>5|173=>321|212=>369|51=>370|20=>20|213=>371|46=>363|232=>441|233=>442|n=>n,fun|17=>0|18=>1|19=>2|n=>n⟩
theorem Tryz.laysM171:Go.Proofs.LaysM.n171 Tryz.prog Tryz.laysM171_ren:={
  mixed:=by kernel_rfl
  f129:=func326.trans (cS (by kernel_rfl))
  f171:=func83.trans (cS (by kernel_rfl))
  f243:=func132.trans (cS (by kernel_rfl))
  f246:=func195.trans (cS (by kernel_rfl))
  f283:=func266.trans (cS (by kernel_rfl))
  f284:=func267.trans (cS (by kernel_rfl))
  f285:=func268.trans (cS (by kernel_rfl))
  f286:=func269.trans (cS (by kernel_rfl))
  f317:=func325.trans (cS (by kernel_rfl))
  f318:=func327.trans (cS (by kernel_rfl))
  f319:=func328.trans (cS (by kernel_rfl))
  f320:=func329.trans (cS (by kernel_rfl))
  f337:=func383.trans (cS (by kernel_rfl))
  f338:=func384.trans (cS (by kernel_rfl))
  t0:=underlying0
  a0:=isAgg0
  z0:=sizeOf0
  v0:=zeroValue0
  t2:=underlying2
  a2:=isAgg2
  z2:=sizeOf2
  v2:=zeroValue2
  t3:=underlying3
  a3:=isAgg3
  z3:=sizeOf3
  v3:=zeroValue3
  t4:=underlying4
  a4:=isAgg4
  z4:=sizeOf4
  v4:=zeroValue4
  t5:=underlying5
  a5:=isAgg5
  z5:=sizeOf5
  v5:=zeroValue5
  t9:=underlying9
  a9:=isAgg9
  z9:=sizeOf9
  v9:=zeroValue9
  t20:=underlying20
  a20:=isAgg20
  z20:=sizeOf20
  v20:=zeroValue20
  t37:=underlying99
  a37:=isAgg99
  z37:=sizeOf99
  v37:=zeroValue99
  t46:=underlying363
  a46:=isAgg363
  z46:=sizeOf363
  v46:=zeroValue363
  t51:=underlying370
  a51:=isAgg370
  z51:=sizeOf370
  v51:=zeroValue370
  t53:=underlying126
  a53:=isAgg126
  z53:=sizeOf126
  v53:=zeroValue126
  t171:=underlying318
  a171:=isAgg318
  z171:=sizeOf318
  v171:=zeroValue318
  t173:=underlying321
  a173:=isAgg321
  z173:=sizeOf321
  v173:=zeroValue321
  t212:=underlying369
  a212:=isAgg369
  z212:=sizeOf369
  v212:=zeroValue369
  t213:=underlying371
  a213:=isAgg371
  z213:=sizeOf371
  t232:=underlying441
  a232:=isAgg441
  z232:=sizeOf441
  v232:=zeroValue441
  t233:=underlying442
  a233:=isAgg442
  z233:=sizeOf442
  v233:=zeroValue442
  g17:=by kernel_rfl
  g18:=by kernel_rfl
  g19:=by kernel_rfl
  i0:=by kernel_rfl
  i2:=by kernel_rfl
  i3:=by kernel_rfl
  i4:=by kernel_rfl
  i5:=by kernel_rfl
  i9:=by kernel_rfl
  i20:=by kernel_rfl
  i37:=by kernel_rfl
  i46:=by kernel_rfl
  i51:=by kernel_rfl
  i53:=by kernel_rfl
  i171:=by kernel_rfl
  i173:=by kernel_rfl
  i212:=by kernel_rfl
  i232:=by kernel_rfl
  i233:=by kernel_rfl
  m17:=by kernel_rfl
  m18:=by kernel_rfl
  m19:=by kernel_rfl}
open Go.RowKit Go.Sort Go.Lib in
theorem Tryz.strconv_Itoa(n:Int)(h0:-9223372036854775808≤n)(h1:n≤9223372036854775807)(w:World)(htab:Lib.TabIs Tryz.prog w "internal/strconv.uint64pow10" .u64 Lib.pow10Tab):
    Calls Tryz.prog 83 #[.int .i64 n] w fun e w'=>e=.returned (.string ⟨(Lib.itoa n).toArray⟩)/\∃k os,w'=grow (w.drewN k) os:=Any.strconv_Itoa Tryz.laysM171 n h0 h1 w htab
def Tryz.lays171_ren:Go.Shelf.Ren:=⟨fun|171=>83|243=>132|246=>195|283=>266|284=>267|285=>268|286=>269|129=>326|317=>325|318=>327|319=>328|320=>329|337=>383|338=>384|n=>n,fun|3=>3|9=>9|2=>2|4=>4|171=>318|0=>0|53=>126|37=>99|5=>5|173=>321|212=>369|51=>370|20=>20|213=>371|46=>363|232=>441|233=>442|n=>n,fun|17=>0|18=>1|19=>2|n=>n⟩
theorem Tryz.lays171:Go.Proofs.Lays.n171 Tryz.prog Tryz.lays171_ren:=⟨by kernel_rfl,func326.trans (cS (by kernel_rfl)),func83.trans (cS (by kernel_rfl)),func132.trans (cS (by kernel_rfl)),func195.trans (cS (by kernel_rfl)),func266.trans (cS (by kernel_rfl)),func267.trans (cS (by kernel_rfl)),func268.trans (cS (by kernel_rfl)),func269.trans (cS (by kernel_rfl)),func325.trans (cS (by kernel_rfl)),func327.trans (cS (by kernel_rfl)),func328.trans (cS (by kernel_rfl)),func329.trans (cS (by kernel_rfl)),func383.trans (cS (by kernel_rfl)),func384.trans (cS (by kernel_rfl)),underlying0,isAgg0,sizeOf0,zeroValue0,underlying2,isAgg2,sizeOf2,zeroValue2,underlying3,isAgg3,sizeOf3,zeroValue3,underlying4,isAgg4,sizeOf4,zeroValue4,underlying5,isAgg5,sizeOf5,zeroValue5,underlying9,isAgg9,sizeOf9,zeroValue9,underlying20,isAgg20,sizeOf20,zeroValue20,underlying99,isAgg99,sizeOf99,zeroValue99,underlying363,isAgg363,sizeOf363,zeroValue363,underlying370,isAgg370,sizeOf370,zeroValue370,underlying126,isAgg126,sizeOf126,zeroValue126,underlying318,isAgg318,sizeOf318,zeroValue318,underlying321,isAgg321,sizeOf321,zeroValue321,underlying369,isAgg369,sizeOf369,zeroValue369,underlying371,isAgg371,sizeOf371,underlying441,isAgg441,sizeOf441,zeroValue441,underlying442,isAgg442,sizeOf442,zeroValue442,by kernel_rfl,by kernel_rfl,by kernel_rfl⟩
open Go.RowKit Go.Sort Go.Lib in
theorem Tryz.strconv_Itoa_small(i:Nat)(hi:i<100)(w:World):
    Calls Tryz.prog 83 #[.int .i64 i] w fun e w'=>e=.returned (.string ⟨(Lib.decDigits i).toArray⟩)/\w'=w:=Any.strconv_Itoa_small Tryz.lays171 i hi w
open Go.RowKit Go.Lib in
def Tryz.lays189_ren:Go.Shelf.Ren:=⟨fun|189=>253|125=>320|257=>319|128=>379|129=>326|294=>371|295=>372|296=>373|297=>374|298=>375|299=>376|216=>342|300=>377|301=>378|328=>413|329=>414|330=>415|331=>416|332=>417|215=>390|343=>426|n=>n,fun|28=>27|3=>3|46=>363|0=>0|51=>370|53=>126|4=>4|183=>405|182=>404|131=>334|5=>5|9=>9|218=>434|222=>438|228=>444|229=>336|n=>n,fun|n=>n⟩
theorem Tryz.lays189:Go.Proofs.Lays.n189 Tryz.prog Tryz.lays189_ren:=⟨by kernel_rfl,func320.trans (cS (by kernel_rfl)),func379.trans (cS (by kernel_rfl)),func326.trans (cS (by kernel_rfl)),func253.trans (cS (by kernel_rfl)),func390.trans (cS (by kernel_rfl)),func342.trans (cS (by kernel_rfl)),func319.trans (cS (by kernel_rfl)),func371.trans (cS (by kernel_rfl)),func372.trans (cS (by kernel_rfl)),func373.trans (cS (by kernel_rfl)),func374.trans (cS (by kernel_rfl)),func375.trans (cS (by kernel_rfl)),func376.trans (cS (by kernel_rfl)),func377.trans (cS (by kernel_rfl)),func378.trans (cS (by kernel_rfl)),func413.trans (cS (by kernel_rfl)),func414.trans (cS (by kernel_rfl)),func415.trans (cS (by kernel_rfl)),func416.trans (cS (by kernel_rfl)),func417.trans (cS (by kernel_rfl)),func426.trans (cS (by kernel_rfl)),underlying0,isAgg0,sizeOf0,zeroValue0,underlying3,isAgg3,sizeOf3,zeroValue3,underlying4,isAgg4,sizeOf4,zeroValue4,underlying5,isAgg5,sizeOf5,zeroValue5,underlying9,isAgg9,sizeOf9,zeroValue9,underlying27,isAgg27,sizeOf27,zeroValue27,underlying363,isAgg363,sizeOf363,zeroValue363,underlying370,isAgg370,sizeOf370,zeroValue370,underlying126,isAgg126,sizeOf126,zeroValue126,underlying334,isAgg334,sizeOf334,zeroValue334,underlying404,isAgg404,sizeOf404,zeroValue404,underlying405,isAgg405,sizeOf405,zeroValue405,underlying434,isAgg434,sizeOf434,zeroValue434,underlying438,isAgg438,sizeOf438,zeroValue438,underlying444,isAgg444,sizeOf444,zeroValue444,underlying336,isAgg336,sizeOf336,zeroValue336⟩
open Go.Sort Go.RowKit in
theorem Tryz.slices_Sort_int(blk off cap:Nat)(zs:List Int)(w:World)(hH:Holds (Value.int .i64) w blk off zs.toArray)(hblk:blk<w.heap.size)(hsz:zs.length<4611686018427387904):
    Calls Tryz.prog 253 #[.slice (some ⟨blk,off,none⟩) zs.length cap] w fun e w'=>
      e=.returned (.tuple #[])/\∃n os,w'=grow (putRow (Value.int .i64) (Sort.ahead w n) blk off (zs.mergeSort fun x y=>decide (x≤y)).toArray) os:=Any.slices_Sort_int Tryz.lays189 blk off cap zs w hH hblk hsz
open Go.RowKit Go.Lib in
def Tryz.lays212_ren:Go.Shelf.Ren:=⟨fun|212=>361|263=>401|264=>402|n=>n,fun|46=>363|51=>370|146=>426|53=>126|148=>418|n=>n,fun|n=>n⟩
theorem Tryz.lays212:Go.Proofs.Lays.n212 Tryz.prog Tryz.lays212_ren:=⟨by kernel_rfl,func361.trans (cS (by kernel_rfl)),func401.trans (cS (by kernel_rfl)),func402.trans (cS (by kernel_rfl)),underlying363,isAgg363,sizeOf363,zeroValue363,underlying370,isAgg370,sizeOf370,zeroValue370,underlying126,isAgg126,sizeOf126,zeroValue126,underlying426,isAgg426,sizeOf426,zeroValue426,underlying418,isAgg418,sizeOf418,zeroValue418⟩
open Go.RowKit Go.Lib in
theorem Tryz.bits_Mul(x y:Nat)(hx:x<18446744073709551616)(hy:y<18446744073709551616)(w:World):
    Calls Tryz.prog 361 #[.int .u64 x,.int .u64 y] w fun e w'=>e=.returned (.tuple #[.int .u64 ((x*y / 18446744073709551616:Nat):Int),.int .u64 ((x*y % 18446744073709551616:Nat):Int)])/\w'=w:=Any.bits_Mul Tryz.lays212 x y hx hy w
def Tryz.lays108_ren:Go.Shelf.Ren:=⟨fun|108=>128|n=>n,fun|28=>27|3=>3|0=>0|4=>4|n=>n,fun|n=>n⟩
theorem Tryz.lays108:Go.Proofs.Lays.n108 Tryz.prog Tryz.lays108_ren:=⟨by kernel_rfl,func128.trans (cS (by kernel_rfl)),underlying0,isAgg0,sizeOf0,zeroValue0,underlying3,isAgg3,sizeOf3,zeroValue3,underlying4,isAgg4,sizeOf4,zeroValue4,underlying27,isAgg27,sizeOf27,zeroValue27⟩
open Go.Lib in
theorem Tryz.slices_Index_int(b off n c:Nat)(zs:List Int)(x:Int)(w:World)(hz:n≤zs.length)(hbig:n≤9223372036854775807)(hc:∀j,j<zs.length->w.cell? ⟨b,off+j,none⟩=some (.int .i64 (zs.getD j 0))):
    Calls Tryz.prog 128 #[.slice (some ⟨b,off,none⟩) n c,.int .i64 x] w fun e w'=>e=.returned (.int .i64 (Lib.idxOf (zs.take n) x))/\w'=w:=Any.slices_Index_int Tryz.lays108 b off n c zs x w hz hbig hc
open Go.Lib in
def Tryz.lays107_ren:Go.Shelf.Ren:=⟨fun|107=>80|108=>128|n=>n,fun|28=>27|3=>3|4=>4|0=>0|n=>n,fun|n=>n⟩
theorem Tryz.lays107:Go.Proofs.Lays.n107 Tryz.prog Tryz.lays107_ren:=⟨by kernel_rfl,func80.trans (cS (by kernel_rfl)),func128.trans (cS (by kernel_rfl)),underlying0,isAgg0,sizeOf0,zeroValue0,underlying3,isAgg3,sizeOf3,zeroValue3,underlying4,isAgg4,sizeOf4,zeroValue4,underlying27,isAgg27,sizeOf27,zeroValue27⟩
open Go.Lib in
theorem Tryz.slices_Contains_int(b off n c:Nat)(zs:List Int)(x:Int)(w:World)(hz:n≤zs.length)(hbig:n≤9223372036854775807)(hc:∀j,j<zs.length->w.cell? ⟨b,off+j,none⟩=some (.int .i64 (zs.getD j 0))):
    Calls Tryz.prog 80 #[.slice (some ⟨b,off,none⟩) n c,.int .i64 x] w fun e w'=>e=.returned (.bool ((zs.take n).contains x))/\w'=w:=Any.slices_Contains_int Tryz.lays107 b off n c zs x w hz hbig hc
open Go.Lib in
def Tryz.lays109_ren:Go.Shelf.Ren:=⟨fun|109=>385|n=>n,fun|31=>155|9=>9|3=>3|0=>0|4=>4|n=>n,fun|n=>n⟩
theorem Tryz.lays109:Go.Proofs.Lays.n109 Tryz.prog Tryz.lays109_ren:=⟨by kernel_rfl,func385.trans (cS (by kernel_rfl)),underlying0,isAgg0,sizeOf0,zeroValue0,underlying3,isAgg3,sizeOf3,zeroValue3,underlying4,isAgg4,sizeOf4,zeroValue4,underlying9,isAgg9,sizeOf9,zeroValue9,underlying155,isAgg155,sizeOf155,zeroValue155⟩
open Go.Lib in
theorem Tryz.slices_Index_string(b off n c:Nat)(zs:List ByteArray)(x:ByteArray)(w:World)(hz:n≤zs.length)(hbig:n≤9223372036854775807)(hc:∀j,j<zs.length->w.cell? ⟨b,off+j,none⟩=some (.string (zs.getD j ByteArray.empty))):
    Calls Tryz.prog 385 #[.slice (some ⟨b,off,none⟩) n c,.string x] w fun e w'=>e=.returned (.int .i64 (Lib.idxOfS (zs.take n) x))/\w'=w:=Any.slices_Index_string Tryz.lays109 b off n c zs x w hz hbig hc
open Go.Lib in
def Tryz.lays110_ren:Go.Shelf.Ren:=⟨fun|110=>331|109=>385|n=>n,fun|31=>155|9=>9|4=>4|3=>3|0=>0|n=>n,fun|n=>n⟩
theorem Tryz.lays110:Go.Proofs.Lays.n110 Tryz.prog Tryz.lays110_ren:=⟨by kernel_rfl,func385.trans (cS (by kernel_rfl)),func331.trans (cS (by kernel_rfl)),underlying0,isAgg0,sizeOf0,zeroValue0,underlying3,isAgg3,sizeOf3,zeroValue3,underlying4,isAgg4,sizeOf4,zeroValue4,underlying9,isAgg9,sizeOf9,zeroValue9,underlying155,isAgg155,sizeOf155,zeroValue155⟩
open Go.Lib in
theorem Tryz.slices_Contains_string(b off n c:Nat)(zs:List ByteArray)(x:ByteArray)(w:World)(hz:n≤zs.length)(hbig:n≤9223372036854775807)(hc:∀j,j<zs.length->w.cell? ⟨b,off+j,none⟩=some (.string (zs.getD j ByteArray.empty))):
    Calls Tryz.prog 331 #[.slice (some ⟨b,off,none⟩) n c,.string x] w fun e w'=>e=.returned (.bool (Lib.containsS (zs.take n) x))/\w'=w:=Any.slices_Contains_string Tryz.lays110 b off n c zs x w hz hbig hc
open Go.Lib in
def Tryz.lays112_ren:Go.Shelf.Ren:=⟨fun|112=>318|n=>n,fun|28=>27|3=>3|4=>4|0=>0|n=>n,fun|n=>n⟩
theorem Tryz.lays112:Go.Proofs.Lays.n112 Tryz.prog Tryz.lays112_ren:=⟨by kernel_rfl,func318.trans (cS (by kernel_rfl)),underlying0,isAgg0,sizeOf0,zeroValue0,underlying3,isAgg3,sizeOf3,zeroValue3,underlying4,isAgg4,sizeOf4,zeroValue4,underlying27,isAgg27,sizeOf27,zeroValue27⟩
open Go.RowKit Go.Lib Go.Sort in
open Go.RowKit Go.Lib Go.Sort in
theorem Tryz.slices_Reverse_int(blk off cap:Nat)(zs:List Int)(w:World)(hH:Holds (Value.int .i64) w blk off zs.toArray)(hsz:zs.length≤9223372036854775807):
    Calls Tryz.prog 318 #[.slice (some ⟨blk,off,none⟩) zs.length cap] w fun e w'=>e=.returned (.tuple #[])/\∃n,w'=putRow (Value.int .i64) (Sort.ahead w n) blk off zs.reverse.toArray:=Any.slices_Reverse_int Tryz.lays112 blk off cap zs w hH hsz
open Go.RowKit Go.Lib Go.Sort in
theorem Tryz.slices_Reverse_int_empty(a:Option Addr)(cap:Nat)(w:World):
    Calls Tryz.prog 318 #[.slice a 0 cap] w fun e w'=>e=.returned (.tuple #[])/\w'=w:=Any.slices_Reverse_int_empty Tryz.lays112 a cap w
def Tryz.lays111_ren:Go.Shelf.Ren:=⟨fun|111=>38|n=>n,fun|28=>27|3=>3|4=>4|0=>0|n=>n,fun|n=>n⟩
theorem Tryz.lays111:Go.Proofs.Lays.n111 Tryz.prog Tryz.lays111_ren:=⟨by kernel_rfl,func38.trans (cS (by kernel_rfl)),underlying0,isAgg0,sizeOf0,zeroValue0,underlying3,isAgg3,sizeOf3,zeroValue3,underlying4,isAgg4,sizeOf4,zeroValue4,underlying27,isAgg27,sizeOf27,zeroValue27⟩
open Go.RowKit Go.Lib in
theorem Tryz.slices_Equal_int(b1 o1 n c b2 o2 m d:Nat)(xs ys:List Int)(w:World)(hx:n≤xs.length)(hy:m≤ys.length)(hbig:n≤9223372036854775807)(hbig2:m≤9223372036854775807)(hc1:∀j,j<xs.length->w.cell? ⟨b1,o1+j,none⟩=some (.int .i64 (xs.getD j 0)))(hc2:∀j,j<ys.length->w.cell? ⟨b2,o2+j,none⟩=some (.int .i64 (ys.getD j 0))):
    Calls Tryz.prog 38 #[.slice (some ⟨b1,o1,none⟩) n c,.slice (some ⟨b2,o2,none⟩) m d] w fun e w'=>e=.returned (.bool (xs.take n==ys.take m))/\∃q,w'=w.drewN q:=Any.slices_Equal_int Tryz.lays111 b1 o1 n c b2 o2 m d xs ys w hx hy hbig hbig2 hc1 hc2
open Go.RowKit Go.Lib in
def Tryz.laysNm215_ren:Go.Shelf.Ren:=⟨fun|15=>19|n=>n,fun|22=>27|3=>3|4=>4|n=>n,fun|n=>n⟩
theorem Tryz.laysNm215:Go.Proofs.Lays2.n15 Tryz.prog Tryz.laysNm215_ren:={
  mixed:=by kernel_rfl
  f15:=func19.trans (cS (by kernel_rfl))
  t3:=underlying3
  a3:=isAgg3
  z3:=sizeOf3
  v3:=zeroValue3
  t4:=underlying4
  a4:=isAgg4
  z4:=sizeOf4
  v4:=zeroValue4
  t22:=underlying27
  a22:=isAgg27
  z22:=sizeOf27
  v22:=zeroValue27
  i3:=by kernel_rfl}
open Go.RowKit Go.Lib in
theorem Tryz.slices_Clone_int(b off n c:Nat)(zs:List Int)(w:World)(hz:n≤zs.length)(hbig:n*8≤140737488355328)(hc:∀j,j<zs.length->w.cell? ⟨b,off+j,none⟩=some (.int .i64 (zs.getD j 0))):
    Calls Tryz.prog 19 #[.slice (some ⟨b,off,none⟩) n c] w fun e w'=>∃v',e=.returned v'/\w'.ownsRow w.heap.size 3 1 v' n ((zs.take n).map (Value.int .i64))/\v'≠ .slice none 0 0/\Below w.heap.size w w':=Any.slices_Clone_int Tryz.laysNm215 b off n c zs w hz hbig hc
open Go.RowKit Go.Lib in
def Tryz.laysNm216_ren:Go.Shelf.Ren:=⟨fun|16=>250|n=>n,fun|24=>155|9=>9|4=>4|n=>n,fun|n=>n⟩
theorem Tryz.laysNm216:Go.Proofs.Lays2.n16 Tryz.prog Tryz.laysNm216_ren:={
  mixed:=by kernel_rfl
  f16:=func250.trans (cS (by kernel_rfl))
  t4:=underlying4
  a4:=isAgg4
  z4:=sizeOf4
  v4:=zeroValue4
  t9:=underlying9
  a9:=isAgg9
  z9:=sizeOf9
  v9:=zeroValue9
  t24:=underlying155
  a24:=isAgg155
  z24:=sizeOf155
  v24:=zeroValue155
  i9:=by kernel_rfl}
open Go.RowKit Go.Lib in
theorem Tryz.slices_Clone_string(b off n c:Nat)(zs:List ByteArray)(w:World)(hz:n≤zs.length)(hbig:n*16≤140737488355328)(hc:∀j,j<zs.length->w.cell? ⟨b,off+j,none⟩=some (.string (zs.getD j ByteArray.empty))):
    Calls Tryz.prog 250 #[.slice (some ⟨b,off,none⟩) n c] w fun e w'=>∃v',e=.returned v'/\w'.ownsRow w.heap.size 9 1 v' n ((zs.take n).map (Value.string))/\v'≠ .slice none 0 0/\Below w.heap.size w w':=Any.slices_Clone_string Tryz.laysNm216 b off n c zs w hz hbig hc
open Go.RowKit Go.Lib in
open Go.RowKit Go.Lib in
open Go.RowKit Go.Lib in
def Tryz.laysNm220_ren:Go.Shelf.Ren:=⟨fun|20=>254|n=>n,fun|22=>27|3=>3|4=>4|0=>0|n=>n,fun|n=>n⟩
theorem Tryz.laysNm220:Go.Proofs.Lays2.n20 Tryz.prog Tryz.laysNm220_ren:={
  mixed:=by kernel_rfl
  f20:=func254.trans (cS (by kernel_rfl))
  t0:=underlying0
  a0:=isAgg0
  z0:=sizeOf0
  v0:=zeroValue0
  t3:=underlying3
  a3:=isAgg3
  z3:=sizeOf3
  v3:=zeroValue3
  t4:=underlying4
  a4:=isAgg4
  z4:=sizeOf4
  v4:=zeroValue4
  t22:=underlying27
  a22:=isAgg27
  z22:=sizeOf27
  v22:=zeroValue27
  i3:=by kernel_rfl}
open Go.RowKit Go.Lib Go.Sort in
open Go.RowKit Go.Lib Go.Sort in
theorem Tryz.slices_Compact_int(blk off cap:Nat)(zs:List Int)(w:World)(hH:Holds (Value.int .i64) w blk off zs.toArray)(hsz:zs.length≤9223372036854775807)(hcap:zs.length≤cap):
    Calls Tryz.prog 254 #[.slice (some ⟨blk,off,none⟩) zs.length cap] w fun e w'=>e=.returned (.slice (some ⟨blk,off,none⟩) (Lib.compact zs).length cap)/\∃q,w'=putRow (Value.int .i64) (Sort.ahead w q) blk off (Lib.compact zs ++ List.replicate (zs.length-(Lib.compact zs).length) 0).toArray:=Any.slices_Compact_int Tryz.laysNm220 blk off cap zs w hH hsz hcap
open Go.RowKit Go.Lib Go.Sort in
theorem Tryz.slices_Compact_int_empty(a:Option Addr)(cap:Nat)(w:World):
    Calls Tryz.prog 254 #[.slice a 0 cap] w fun e w'=>e=.returned (.slice a 0 cap)/\w'=w:=Any.slices_Compact_int_empty Tryz.laysNm220 a cap w
open Go.RowKit Go.Lib in
open Go.RowKit Go.Lib in
open Go.RowKit Go.Lib in
def Tryz.laysNm225_ren:Go.Shelf.Ren:=⟨fun|25=>283|31=>342|32=>343|37=>390|n=>n,fun|22=>27|3=>3|4=>4|40=>363|0=>0|n=>n,fun|n=>n⟩
theorem Tryz.laysNm225:Go.Proofs.Lays2.n25 Tryz.prog Tryz.laysNm225_ren:={
  mixed:=by kernel_rfl
  f25:=func283.trans (cS (by kernel_rfl))
  f31:=func342.trans (cS (by kernel_rfl))
  f32:=func343.trans (cS (by kernel_rfl))
  f37:=func390.trans (cS (by kernel_rfl))
  t0:=underlying0
  a0:=isAgg0
  z0:=sizeOf0
  v0:=zeroValue0
  t3:=underlying3
  a3:=isAgg3
  z3:=sizeOf3
  v3:=zeroValue3
  t4:=underlying4
  a4:=isAgg4
  z4:=sizeOf4
  v4:=zeroValue4
  t22:=underlying27
  a22:=isAgg27
  z22:=sizeOf27
  v22:=zeroValue27
  t40:=underlying363
  a40:=isAgg363
  z40:=sizeOf363
  v40:=zeroValue363}
open Go.RowKit Go.Lib in
theorem Tryz.slices_BinarySearch_int(b off n c:Nat)(zs:List Int)(x:Int)(w:World)(hz:n≤zs.length)(hbig:n<4611686018427387904)(hc:∀j,j<zs.length->w.cell? ⟨b,off+j,none⟩=some (.int .i64 (zs.getD j 0)))(hs:(zs.take n).Pairwise (· ≤ ·)):
    Calls Tryz.prog 283 #[.slice (some ⟨b,off,none⟩) n c,.int .i64 x] w fun e w'=>e=.returned (.tuple #[.int .i64 ((zs.take n).countP (· <x):Nat),.bool ((zs.take n).contains x)])/\∃q,w'=w.drewN q:=Any.slices_BinarySearch_int Tryz.laysNm225 b off n c zs x w hz hbig hc hs
open Go.RowKit Go.Lib Go.Sort in
open Go.RowKit Go.Lib Go.Sort in
open Go.RowKit Go.Sort in
theorem Tryz.slices_Sort_int_none(p:Option Addr)(cap:Nat)(w:World):
    Calls Tryz.prog 253 #[.slice p 0 cap] w fun e w'=>e=.returned (.tuple #[])/\w'=w:=Any.slices_Sort_int_none Tryz.lays189 p cap w
open Go.RowKit Go.Lib in
theorem Tryz.slices_BinarySearch_int_empty(a:Option Addr)(c:Nat)(x:Int)(w:World):
    Calls Tryz.prog 283 #[.slice a 0 c,.int .i64 x] w fun e w'=>e=.returned (.tuple #[.int .i64 0,.bool false])/\w'=w:=Any.slices_BinarySearch_int_empty Tryz.laysNm225 a c x w
open Go.RowKit Go.Lib in
open Go.RowKit Go.Lib Go.Sort in
open Go.RowKit Go.Lib Go.Sort in
open Go.RowKit Go.Lib Go.Sort in
open Go.RowKit Go.Lib in
open Go.RowKit Go.Lib in
open Go.RowKit Go.Lib in
open Go.RowKit Go.Lib in
def Tryz.lays7n25_ren:Go.Shelf.Ren:=⟨fun|25=>395|n=>n,fun|22=>126|n=>n,fun|n=>n⟩
theorem Tryz.lays7n25:Go.Proofs.Lays7.n25 Tryz.prog Tryz.lays7n25_ren:=⟨by kernel_rfl,func395.trans (cS (by kernel_rfl)),underlying126,isAgg126,sizeOf126,zeroValue126,by kernel_rfl⟩
def Tryz.sortedA_ren:Go.Shelf.Ren:=⟨fun|6=>397|8=>423|9=>253|11=>427|13=>320|12=>319|23=>379|24=>326|14=>371|15=>372|16=>373|17=>374|18=>375|19=>376|20=>342|21=>377|22=>378|25=>413|26=>414|27=>415|28=>416|29=>417|30=>390|31=>426|n=>n,fun|26=>3|28=>423|24=>27|0=>0|3=>3|37=>363|48=>370|50=>126|4=>4|40=>405|39=>404|45=>334|5=>5|9=>9|51=>434|55=>438|57=>444|58=>336|33=>210|n=>n,fun|n=>n⟩
theorem Tryz.sortedA:Go.Proofs.SlLaysZI.n6 Tryz.prog Tryz.sortedA_ren:={
  mixed:=by kernel_rfl
  f6:=⟨Tryz.f397.name,by decide,func397.trans (cS (by kernel_rfl))⟩
  f8:=⟨Tryz.f423.name,by decide,func423.trans (cS (by kernel_rfl))⟩
  f11:=⟨Tryz.f427.name,by decide,func427.trans (cS (by kernel_rfl))⟩
  t0:=underlying0
  a0:=isAgg0
  z0:=sizeOf0
  v0:=zeroValue0
  t24:=underlying27
  a24:=isAgg27
  z24:=sizeOf27
  v24:=zeroValue27
  t26:=underlying3
  a26:=isAgg3
  z26:=sizeOf3
  v26:=zeroValue3
  t28:=underlying423
  a28:=isAgg423
  z28:=sizeOf423
  v28:=zeroValue423
  i26:=by kernel_rfl}
end Go.Proofs
