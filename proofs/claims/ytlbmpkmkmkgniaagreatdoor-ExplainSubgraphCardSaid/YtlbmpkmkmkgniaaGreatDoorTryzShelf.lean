/- What the library functions that are called do. -/
import Derived.Shelf.Strings.Builder1
import Derived.Shelf.Strings.Builder2
import Derived.Shelf.Strings.OnBuilder
import Derived.Shelf.Small.Bits
import Derived.Shelf.Small.Strs
import Derived.Shelf.Small.Wraps
import Derived.Shelf.Strings.BuilderF
import Derived.Shelf.Strings.BuilderK
import Derived.Shelf.Strings.Builder2Cap
import Derived.Shelf.Strconv.Itoa0
import Derived.Shelf.Strconv.Itoa1
import Derived.Shelf.LaysM
import Derived.Shelf.Strconv.Itoa2
import Derived.Shelf.Strconv.Itoa3
import Derived.Shelf.Strings.Search1
import Derived.Shelf.Sort.Plain
import Derived.Shelf.Bits.Mul64
import Derived.Shelf.Strings.BuilderCap
import Derived.Shelf.Slices.Turned
import Derived.Shelf.Slices.Reverse
import Derived.Shelf.Slices.Equal
import Derived.Ground.Names2Prog
import Derived.Shelf.Slices.Clone
import Derived.Shelf.Slices.CompactI
import Derived.Shelf.Slices.SearchI
import Derived.Shelf.Slices.Cells
import Derived.Shelf.Slices.In.SortNone
import Derived.Shelf.Slices.Empties2
import Derived.Ground.SlgnProg
import Derived.Shelf.SlicesE.Reverse
import Derived.Shelf.SlicesE.Clone
import Derived.Shelf.Spec.BitsCarry
import Derived.Shelf.Spec.SlicesGrow
import Derived.Ground.Names7Prog
import Derived.Ground.Names8Prog
import Derived.Shelf.SlIterI.Sorted
import Derived.Ground.GgzProg
import Derived.Test.YtlbmpkmkmkgniaaGreatDoorProg
set_option linter.all false
set_option maxRecDepth 100000
namespace Go.Proofs
open Go.Shelf Tryz
theorem cS {α:Type} {a b:α} (h:a=b):some a=some b:=congrArg some h
open Go.RowKit in
def Tryz.lays156_ren:Go.Shelf.Ren:=⟨fun|156=>53|165=>100|166=>101|169=>102|240=>150|241=>151|276=>207|277=>208|n=>n,fun|31=>82|9=>9|3=>3|4=>4|0=>0|20=>20|72=>169|76=>173|70=>166|37=>167|75=>172|127=>207|164=>251|5=>5|80=>175|n=>n,fun|n=>n⟩
theorem Tryz.lays156:Go.Proofs.Lays.n156 Tryz.prog Tryz.lays156_ren:=⟨by kernel_rfl,func53.trans (cS (by kernel_rfl)),func100.trans (cS (by kernel_rfl)),func101.trans (cS (by kernel_rfl)),func102.trans (cS (by kernel_rfl)),func150.trans (cS (by kernel_rfl)),func151.trans (cS (by kernel_rfl)),func207.trans (cS (by kernel_rfl)),func208.trans (cS (by kernel_rfl)),underlying0,isAgg0,sizeOf0,zeroValue0,underlying3,isAgg3,sizeOf3,zeroValue3,underlying4,isAgg4,sizeOf4,zeroValue4,underlying9,isAgg9,sizeOf9,zeroValue9,underlying20,isAgg20,sizeOf20,zeroValue20,underlying82,isAgg82,sizeOf82,zeroValue82,underlying167,isAgg167,sizeOf167,zeroValue167,underlying166,isAgg166,sizeOf166,zeroValue166,underlying169,isAgg169,sizeOf169,zeroValue169,underlying172,isAgg172,sizeOf172,zeroValue172,underlying173,isAgg173,sizeOf173,zeroValue173,underlying207,isAgg207,sizeOf207,zeroValue207,underlying251,isAgg251,sizeOf251,zeroValue251⟩
theorem Tryz.Builder_Extra_156:Builder.Extra Tryz.prog Tryz.lays156_ren:={
  sizeBuilder:=by kernel_rfl
  liesBuilder:=by kernel_rfl
  t5:=underlying5
  a5:=isAgg5
  z5:=sizeOf5
  v5:=zeroValue5
  infoByte:=by kernel_rfl
  cellsByte:=by kernel_rfl
  sizeByte:=by kernel_rfl
  neB5:=by decide }
open Go.RowKit in
theorem Tryz.strings_Join_none (a:Option Addr) (c:Nat) (sep:ByteArray) (w:World) :
    Calls Tryz.prog 53 #[.slice a 0 c,.string sep] w fun e w'=>e = .returned (.string ⟨#[]⟩) ∧ w' = w:=Any.strings_Join_none Tryz.lays156 Tryz.Builder_Extra_156 a c sep w
open Go.RowKit in
theorem Tryz.strings_Join (bk o c:Nat) (xs:List ByteArray) (sep:ByteArray) (w:World) (hcells:∀ (j:Nat) x,xs[j]? = some x->w.cell? ⟨bk,o + j,none⟩ = some (.string x)) (hbk:bk < w.heap.size) (hN:xs.length ≤ 140737488355328) (hcap:xs.length ≤ c) (hlen:(Lib.join (xs.map (·.data.toList)) sep.data.toList).length ≤ 140737488355328) :
    Calls Tryz.prog 53 #[.slice (some ⟨bk,o,none⟩) xs.length c,.string sep] w fun e w'=>e = .returned (.string ⟨(Lib.join (xs.map (·.data.toList)) sep.data.toList).toArray⟩) ∧ Below w.heap.size w w':=Any.strings_Join Tryz.lays156 Tryz.Builder_Extra_156 bk o c xs sep w hcells hbk hN hcap hlen
def Tryz.lays137_ren:Go.Shelf.Ren:=⟨fun|137=>321|217=>327|266=>328|n=>n,fun|9=>9|5=>5|3=>3|n=>n,fun|n=>n⟩
theorem Tryz.lays137:Go.Proofs.Lays.n137 Tryz.prog Tryz.lays137_ren:=⟨by kernel_rfl,func321.trans (cS (by kernel_rfl)),func327.trans (cS (by kernel_rfl)),func328.trans (cS (by kernel_rfl)),underlying3,isAgg3,sizeOf3,zeroValue3,underlying5,isAgg5,sizeOf5,zeroValue5,underlying9,isAgg9,sizeOf9,zeroValue9⟩
open Go.RowKit in
theorem Tryz.strings_IndexByte (s:ByteArray) (c:Int) (w:World) :
    Calls Tryz.prog 321 #[.string s,.int .u8 c] w fun e w'=>e = .returned (.int .i64 (Lib.indexByte s.data.toList c.toNat.toUInt8)) ∧ w' = w:=Any.strings_IndexByte Tryz.lays137 s c w
def Tryz.lays215_ren:Go.Shelf.Ren:=⟨fun|215=>281|n=>n,fun|3=>3|4=>4|n=>n,fun|n=>n⟩
theorem Tryz.lays215:Go.Proofs.Lays.n215 Tryz.prog Tryz.lays215_ren:=⟨by kernel_rfl,func281.trans (cS (by kernel_rfl)),underlying3,isAgg3,sizeOf3,zeroValue3,underlying4,isAgg4,sizeOf4,zeroValue4⟩
open Go.RowKit in
theorem Tryz.cmp_isNaN_int (x:Int) (w:World) :
    Calls Tryz.prog 281 #[.int .i64 x] w fun e w'=>e = .returned (.bool false) ∧ w' = w:=Any.cmp_isNaN_int Tryz.lays215 x w
def Tryz.lays122_ren:Go.Shelf.Ren:=⟨fun|122=>271|215=>281|n=>n,fun|3=>3|4=>4|n=>n,fun|n=>n⟩
theorem Tryz.lays122:Go.Proofs.Lays.n122 Tryz.prog Tryz.lays122_ren:=⟨by kernel_rfl,func271.trans (cS (by kernel_rfl)),func281.trans (cS (by kernel_rfl)),underlying3,isAgg3,sizeOf3,zeroValue3,underlying4,isAgg4,sizeOf4,zeroValue4⟩
open Go.RowKit in
theorem Tryz.cmp_Compare_int (x y:Int) (w:World) :
    Calls Tryz.prog 271 #[.int .i64 x,.int .i64 y] w fun e w'=>e = .returned (.int .i64 (Lib.compareInt x y)) ∧ w' = w:=Any.cmp_Compare_int Tryz.lays122 x y w
open Go.Lib in
open Go.Lib in
open Go.Lib in
open Go.Lib in
open Go.RowKit Go.Sort Go.Lib in
open Go.RowKit Go.Sort Go.Lib in
open Go.RowKit Go.Sort Go.Lib in
open Go.RowKit Go.Sort Go.Lib in
open Go.RowKit Go.Sort Go.Lib in
def Tryz.laysM171_ren:Go.Shelf.Ren:=⟨fun|171=>52|243=>99|246=>149|283=>203|284=>204|285=>205|286=>206|129=>232|317=>260|318=>261|319=>262|320=>263|337=>300|338=>301|n=>n,fun|3=>3|9=>9|2=>2|4=>4|171=>246|0=>0|53=>154|37=>167|5=>5|173=>249|212=>293|51=>151|20=>20|213=>294|46=>109|232=>340|233=>341|n=>n,fun|17=>0|18=>2|19=>3|n=>n⟩
theorem Tryz.laysM171:Go.Proofs.LaysM.n171 Tryz.prog Tryz.laysM171_ren:={
  mixed:=by kernel_rfl
  f129:=func232.trans (cS (by kernel_rfl))
  f171:=func52.trans (cS (by kernel_rfl))
  f243:=func99.trans (cS (by kernel_rfl))
  f246:=func149.trans (cS (by kernel_rfl))
  f283:=func203.trans (cS (by kernel_rfl))
  f284:=func204.trans (cS (by kernel_rfl))
  f285:=func205.trans (cS (by kernel_rfl))
  f286:=func206.trans (cS (by kernel_rfl))
  f317:=func260.trans (cS (by kernel_rfl))
  f318:=func261.trans (cS (by kernel_rfl))
  f319:=func262.trans (cS (by kernel_rfl))
  f320:=func263.trans (cS (by kernel_rfl))
  f337:=func300.trans (cS (by kernel_rfl))
  f338:=func301.trans (cS (by kernel_rfl))
  t0:=underlying0
  a0:=isAgg0
  z0:=sizeOf0
  v0:=zeroValue0
  t2:=underlying2
  a2:=isAgg2
  z2:=sizeOf2
  v2:=zeroValue2
  t3:=underlying3
  a3:=isAgg3
  z3:=sizeOf3
  v3:=zeroValue3
  t4:=underlying4
  a4:=isAgg4
  z4:=sizeOf4
  v4:=zeroValue4
  t5:=underlying5
  a5:=isAgg5
  z5:=sizeOf5
  v5:=zeroValue5
  t9:=underlying9
  a9:=isAgg9
  z9:=sizeOf9
  v9:=zeroValue9
  t20:=underlying20
  a20:=isAgg20
  z20:=sizeOf20
  v20:=zeroValue20
  t37:=underlying167
  a37:=isAgg167
  z37:=sizeOf167
  v37:=zeroValue167
  t46:=underlying109
  a46:=isAgg109
  z46:=sizeOf109
  v46:=zeroValue109
  t51:=underlying151
  a51:=isAgg151
  z51:=sizeOf151
  v51:=zeroValue151
  t53:=underlying154
  a53:=isAgg154
  z53:=sizeOf154
  v53:=zeroValue154
  t171:=underlying246
  a171:=isAgg246
  z171:=sizeOf246
  v171:=zeroValue246
  t173:=underlying249
  a173:=isAgg249
  z173:=sizeOf249
  v173:=zeroValue249
  t212:=underlying293
  a212:=isAgg293
  z212:=sizeOf293
  v212:=zeroValue293
  t213:=underlying294
  a213:=isAgg294
  z213:=sizeOf294
  t232:=underlying340
  a232:=isAgg340
  z232:=sizeOf340
  v232:=zeroValue340
  t233:=underlying341
  a233:=isAgg341
  z233:=sizeOf341
  v233:=zeroValue341
  g17:=by kernel_rfl
  g18:=by kernel_rfl
  g19:=by kernel_rfl
  i0:=by kernel_rfl
  i2:=by kernel_rfl
  i3:=by kernel_rfl
  i4:=by kernel_rfl
  i5:=by kernel_rfl
  i9:=by kernel_rfl
  i20:=by kernel_rfl
  i37:=by kernel_rfl
  i46:=by kernel_rfl
  i51:=by kernel_rfl
  i53:=by kernel_rfl
  i171:=by kernel_rfl
  i173:=by kernel_rfl
  i212:=by kernel_rfl
  i232:=by kernel_rfl
  i233:=by kernel_rfl
  m17:=by kernel_rfl
  m18:=by kernel_rfl
  m19:=by kernel_rfl }
open Go.RowKit Go.Sort Go.Lib in
theorem Tryz.strconv_Itoa (n:Int) (h0:-9223372036854775808 ≤ n) (h1:n ≤ 9223372036854775807) (w:World) (htab:Lib.TabIs Tryz.prog w "internal/strconv.uint64pow10" .u64 Lib.pow10Tab) :
    Calls Tryz.prog 52 #[.int .i64 n] w fun e w'=>e = .returned (.string ⟨(Lib.itoa n).toArray⟩) ∧ ∃ k os,w' = grow (w.drewN k) os:=Any.strconv_Itoa Tryz.laysM171 n h0 h1 w htab
def Tryz.lays171_ren:Go.Shelf.Ren:=⟨fun|171=>52|243=>99|246=>149|283=>203|284=>204|285=>205|286=>206|129=>232|317=>260|318=>261|319=>262|320=>263|337=>300|338=>301|n=>n,fun|3=>3|9=>9|2=>2|4=>4|171=>246|0=>0|53=>154|37=>167|5=>5|173=>249|212=>293|51=>151|20=>20|213=>294|46=>109|232=>340|233=>341|n=>n,fun|17=>0|18=>2|19=>3|n=>n⟩
theorem Tryz.lays171:Go.Proofs.Lays.n171 Tryz.prog Tryz.lays171_ren:=⟨by kernel_rfl,func232.trans (cS (by kernel_rfl)),func52.trans (cS (by kernel_rfl)),func99.trans (cS (by kernel_rfl)),func149.trans (cS (by kernel_rfl)),func203.trans (cS (by kernel_rfl)),func204.trans (cS (by kernel_rfl)),func205.trans (cS (by kernel_rfl)),func206.trans (cS (by kernel_rfl)),func260.trans (cS (by kernel_rfl)),func261.trans (cS (by kernel_rfl)),func262.trans (cS (by kernel_rfl)),func263.trans (cS (by kernel_rfl)),func300.trans (cS (by kernel_rfl)),func301.trans (cS (by kernel_rfl)),underlying0,isAgg0,sizeOf0,zeroValue0,underlying2,isAgg2,sizeOf2,zeroValue2,underlying3,isAgg3,sizeOf3,zeroValue3,underlying4,isAgg4,sizeOf4,zeroValue4,underlying5,isAgg5,sizeOf5,zeroValue5,underlying9,isAgg9,sizeOf9,zeroValue9,underlying20,isAgg20,sizeOf20,zeroValue20,underlying167,isAgg167,sizeOf167,zeroValue167,underlying109,isAgg109,sizeOf109,zeroValue109,underlying151,isAgg151,sizeOf151,zeroValue151,underlying154,isAgg154,sizeOf154,zeroValue154,underlying246,isAgg246,sizeOf246,zeroValue246,underlying249,isAgg249,sizeOf249,zeroValue249,underlying293,isAgg293,sizeOf293,zeroValue293,underlying294,isAgg294,sizeOf294,underlying340,isAgg340,sizeOf340,zeroValue340,underlying341,isAgg341,sizeOf341,zeroValue341,by kernel_rfl,by kernel_rfl,by kernel_rfl⟩
open Go.RowKit Go.Sort Go.Lib in
theorem Tryz.strconv_Itoa_small (i:Nat) (hi:i < 100) (w:World) :
    Calls Tryz.prog 52 #[.int .i64 i] w fun e w'=>e = .returned (.string ⟨(Lib.decDigits i).toArray⟩) ∧ w' = w:=Any.strconv_Itoa_small Tryz.lays171 i hi w
open Go.RowKit Go.Lib in
def Tryz.lays189_ren:Go.Shelf.Ren:=⟨fun|189=>125|125=>175|257=>174|128=>231|129=>232|294=>222|295=>223|296=>224|297=>225|298=>226|299=>227|216=>228|300=>229|301=>230|328=>276|329=>277|330=>278|331=>279|332=>280|215=>281|343=>306|n=>n,fun|28=>26|3=>3|46=>109|0=>0|51=>151|53=>154|4=>4|183=>263|182=>262|131=>267|5=>5|9=>9|218=>303|222=>307|228=>327|229=>217|n=>n,fun|n=>n⟩
theorem Tryz.lays189:Go.Proofs.Lays.n189 Tryz.prog Tryz.lays189_ren:=⟨by kernel_rfl,func175.trans (cS (by kernel_rfl)),func231.trans (cS (by kernel_rfl)),func232.trans (cS (by kernel_rfl)),func125.trans (cS (by kernel_rfl)),func281.trans (cS (by kernel_rfl)),func228.trans (cS (by kernel_rfl)),func174.trans (cS (by kernel_rfl)),func222.trans (cS (by kernel_rfl)),func223.trans (cS (by kernel_rfl)),func224.trans (cS (by kernel_rfl)),func225.trans (cS (by kernel_rfl)),func226.trans (cS (by kernel_rfl)),func227.trans (cS (by kernel_rfl)),func229.trans (cS (by kernel_rfl)),func230.trans (cS (by kernel_rfl)),func276.trans (cS (by kernel_rfl)),func277.trans (cS (by kernel_rfl)),func278.trans (cS (by kernel_rfl)),func279.trans (cS (by kernel_rfl)),func280.trans (cS (by kernel_rfl)),func306.trans (cS (by kernel_rfl)),underlying0,isAgg0,sizeOf0,zeroValue0,underlying3,isAgg3,sizeOf3,zeroValue3,underlying4,isAgg4,sizeOf4,zeroValue4,underlying5,isAgg5,sizeOf5,zeroValue5,underlying9,isAgg9,sizeOf9,zeroValue9,underlying26,isAgg26,sizeOf26,zeroValue26,underlying109,isAgg109,sizeOf109,zeroValue109,underlying151,isAgg151,sizeOf151,zeroValue151,underlying154,isAgg154,sizeOf154,zeroValue154,underlying267,isAgg267,sizeOf267,zeroValue267,underlying262,isAgg262,sizeOf262,zeroValue262,underlying263,isAgg263,sizeOf263,zeroValue263,underlying303,isAgg303,sizeOf303,zeroValue303,underlying307,isAgg307,sizeOf307,zeroValue307,underlying327,isAgg327,sizeOf327,zeroValue327,underlying217,isAgg217,sizeOf217,zeroValue217⟩
open Go.Sort Go.RowKit in
theorem Tryz.slices_Sort_int (blk off cap:Nat) (zs:List Int) (w:World) (hH:Holds (Value.int .i64) w blk off zs.toArray) (hblk:blk < w.heap.size) (hsz:zs.length < 4611686018427387904) :
    Calls Tryz.prog 125 #[.slice (some ⟨blk,off,none⟩) zs.length cap] w fun e w' =>
      e = .returned (.tuple #[]) ∧ ∃ n os,w' = grow (putRow (Value.int .i64) (Sort.ahead w n) blk off (zs.mergeSort fun x y=>decide (x ≤ y)).toArray) os:=Any.slices_Sort_int Tryz.lays189 blk off cap zs w hH hblk hsz
open Go.RowKit Go.Lib in
def Tryz.lays212_ren:Go.Shelf.Ren:=⟨fun|212=>47|263=>90|264=>91|n=>n,fun|46=>109|51=>151|146=>152|53=>154|148=>155|n=>n,fun|n=>n⟩
theorem Tryz.lays212:Go.Proofs.Lays.n212 Tryz.prog Tryz.lays212_ren:=⟨by kernel_rfl,func47.trans (cS (by kernel_rfl)),func90.trans (cS (by kernel_rfl)),func91.trans (cS (by kernel_rfl)),underlying109,isAgg109,sizeOf109,zeroValue109,underlying151,isAgg151,sizeOf151,zeroValue151,underlying154,isAgg154,sizeOf154,zeroValue154,underlying152,isAgg152,sizeOf152,zeroValue152,underlying155,isAgg155,sizeOf155,zeroValue155⟩
open Go.RowKit Go.Lib in
theorem Tryz.bits_Mul (x y:Nat) (hx:x < 18446744073709551616) (hy:y < 18446744073709551616) (w:World) :
    Calls Tryz.prog 47 #[.int .u64 x,.int .u64 y] w fun e w'=>e = .returned (.tuple #[.int .u64 ((x * y / 18446744073709551616:Nat):Int),.int .u64 ((x * y % 18446744073709551616:Nat):Int)]) ∧ w' = w:=Any.bits_Mul Tryz.lays212 x y hx hy w
def Tryz.lays108_ren:Go.Shelf.Ren:=⟨fun|108=>73|n=>n,fun|28=>26|3=>3|0=>0|4=>4|n=>n,fun|n=>n⟩
theorem Tryz.lays108:Go.Proofs.Lays.n108 Tryz.prog Tryz.lays108_ren:=⟨by kernel_rfl,func73.trans (cS (by kernel_rfl)),underlying0,isAgg0,sizeOf0,zeroValue0,underlying3,isAgg3,sizeOf3,zeroValue3,underlying4,isAgg4,sizeOf4,zeroValue4,underlying26,isAgg26,sizeOf26,zeroValue26⟩
open Go.Lib in
theorem Tryz.slices_Index_int (b off n c:Nat) (zs:List Int) (x:Int) (w:World) (hz:n ≤ zs.length) (hbig:n ≤ 9223372036854775807) (hc:∀ j,j < zs.length->w.cell? ⟨b,off + j,none⟩ = some (.int .i64 (zs.getD j 0))) :
    Calls Tryz.prog 73 #[.slice (some ⟨b,off,none⟩) n c,.int .i64 x] w fun e w'=>e = .returned (.int .i64 (Lib.idxOf (zs.take n) x)) ∧ w' = w:=Any.slices_Index_int Tryz.lays108 b off n c zs x w hz hbig hc
open Go.Lib in
def Tryz.lays107_ren:Go.Shelf.Ren:=⟨fun|107=>38|108=>73|n=>n,fun|28=>26|3=>3|4=>4|0=>0|n=>n,fun|n=>n⟩
theorem Tryz.lays107:Go.Proofs.Lays.n107 Tryz.prog Tryz.lays107_ren:=⟨by kernel_rfl,func38.trans (cS (by kernel_rfl)),func73.trans (cS (by kernel_rfl)),underlying0,isAgg0,sizeOf0,zeroValue0,underlying3,isAgg3,sizeOf3,zeroValue3,underlying4,isAgg4,sizeOf4,zeroValue4,underlying26,isAgg26,sizeOf26,zeroValue26⟩
open Go.Lib in
theorem Tryz.slices_Contains_int (b off n c:Nat) (zs:List Int) (x:Int) (w:World) (hz:n ≤ zs.length) (hbig:n ≤ 9223372036854775807) (hc:∀ j,j < zs.length->w.cell? ⟨b,off + j,none⟩ = some (.int .i64 (zs.getD j 0))) :
    Calls Tryz.prog 38 #[.slice (some ⟨b,off,none⟩) n c,.int .i64 x] w fun e w'=>e = .returned (.bool ((zs.take n).contains x)) ∧ w' = w:=Any.slices_Contains_int Tryz.lays107 b off n c zs x w hz hbig hc
open Go.Lib in
def Tryz.lays109_ren:Go.Shelf.Ren:=⟨fun|109=>322|n=>n,fun|31=>82|9=>9|3=>3|0=>0|4=>4|n=>n,fun|n=>n⟩
theorem Tryz.lays109:Go.Proofs.Lays.n109 Tryz.prog Tryz.lays109_ren:=⟨by kernel_rfl,func322.trans (cS (by kernel_rfl)),underlying0,isAgg0,sizeOf0,zeroValue0,underlying3,isAgg3,sizeOf3,zeroValue3,underlying4,isAgg4,sizeOf4,zeroValue4,underlying9,isAgg9,sizeOf9,zeroValue9,underlying82,isAgg82,sizeOf82,zeroValue82⟩
open Go.Lib in
theorem Tryz.slices_Index_string (b off n c:Nat) (zs:List ByteArray) (x:ByteArray) (w:World) (hz:n ≤ zs.length) (hbig:n ≤ 9223372036854775807) (hc:∀ j,j < zs.length->w.cell? ⟨b,off + j,none⟩ = some (.string (zs.getD j ByteArray.empty))) :
    Calls Tryz.prog 322 #[.slice (some ⟨b,off,none⟩) n c,.string x] w fun e w'=>e = .returned (.int .i64 (Lib.idxOfS (zs.take n) x)) ∧ w' = w:=Any.slices_Index_string Tryz.lays109 b off n c zs x w hz hbig hc
open Go.Lib in
def Tryz.lays110_ren:Go.Shelf.Ren:=⟨fun|110=>299|109=>322|n=>n,fun|31=>82|9=>9|4=>4|3=>3|0=>0|n=>n,fun|n=>n⟩
theorem Tryz.lays110:Go.Proofs.Lays.n110 Tryz.prog Tryz.lays110_ren:=⟨by kernel_rfl,func322.trans (cS (by kernel_rfl)),func299.trans (cS (by kernel_rfl)),underlying0,isAgg0,sizeOf0,zeroValue0,underlying3,isAgg3,sizeOf3,zeroValue3,underlying4,isAgg4,sizeOf4,zeroValue4,underlying9,isAgg9,sizeOf9,zeroValue9,underlying82,isAgg82,sizeOf82,zeroValue82⟩
open Go.Lib in
theorem Tryz.slices_Contains_string (b off n c:Nat) (zs:List ByteArray) (x:ByteArray) (w:World) (hz:n ≤ zs.length) (hbig:n ≤ 9223372036854775807) (hc:∀ j,j < zs.length->w.cell? ⟨b,off + j,none⟩ = some (.string (zs.getD j ByteArray.empty))) :
    Calls Tryz.prog 299 #[.slice (some ⟨b,off,none⟩) n c,.string x] w fun e w'=>e = .returned (.bool (Lib.containsS (zs.take n) x)) ∧ w' = w:=Any.slices_Contains_string Tryz.lays110 b off n c zs x w hz hbig hc
open Go.Lib in
def Tryz.lays112_ren:Go.Shelf.Ren:=⟨fun|112=>259|n=>n,fun|28=>26|3=>3|4=>4|0=>0|n=>n,fun|n=>n⟩
theorem Tryz.lays112:Go.Proofs.Lays.n112 Tryz.prog Tryz.lays112_ren:=⟨by kernel_rfl,func259.trans (cS (by kernel_rfl)),underlying0,isAgg0,sizeOf0,zeroValue0,underlying3,isAgg3,sizeOf3,zeroValue3,underlying4,isAgg4,sizeOf4,zeroValue4,underlying26,isAgg26,sizeOf26,zeroValue26⟩
open Go.RowKit Go.Lib Go.Sort in
open Go.RowKit Go.Lib Go.Sort in
theorem Tryz.slices_Reverse_int (blk off cap:Nat) (zs:List Int) (w:World) (hH:Holds (Value.int .i64) w blk off zs.toArray) (hsz:zs.length ≤ 9223372036854775807) :
    Calls Tryz.prog 259 #[.slice (some ⟨blk,off,none⟩) zs.length cap] w fun e w'=>e = .returned (.tuple #[]) ∧ ∃ n,w' = putRow (Value.int .i64) (Sort.ahead w n) blk off zs.reverse.toArray:=Any.slices_Reverse_int Tryz.lays112 blk off cap zs w hH hsz
open Go.RowKit Go.Lib Go.Sort in
theorem Tryz.slices_Reverse_int_empty (a:Option Addr) (cap:Nat) (w:World) :
    Calls Tryz.prog 259 #[.slice a 0 cap] w fun e w'=>e = .returned (.tuple #[]) ∧ w' = w:=Any.slices_Reverse_int_empty Tryz.lays112 a cap w
def Tryz.lays111_ren:Go.Shelf.Ren:=⟨fun|111=>20|n=>n,fun|28=>26|3=>3|4=>4|0=>0|n=>n,fun|n=>n⟩
theorem Tryz.lays111:Go.Proofs.Lays.n111 Tryz.prog Tryz.lays111_ren:=⟨by kernel_rfl,func20.trans (cS (by kernel_rfl)),underlying0,isAgg0,sizeOf0,zeroValue0,underlying3,isAgg3,sizeOf3,zeroValue3,underlying4,isAgg4,sizeOf4,zeroValue4,underlying26,isAgg26,sizeOf26,zeroValue26⟩
open Go.RowKit Go.Lib in
theorem Tryz.slices_Equal_int (b1 o1 n c b2 o2 m d:Nat) (xs ys:List Int) (w:World) (hx:n ≤ xs.length) (hy:m ≤ ys.length) (hbig:n ≤ 9223372036854775807) (hbig2:m ≤ 9223372036854775807) (hc1:∀ j,j < xs.length->w.cell? ⟨b1,o1 + j,none⟩ = some (.int .i64 (xs.getD j 0))) (hc2:∀ j,j < ys.length->w.cell? ⟨b2,o2 + j,none⟩ = some (.int .i64 (ys.getD j 0))) :
    Calls Tryz.prog 20 #[.slice (some ⟨b1,o1,none⟩) n c,.slice (some ⟨b2,o2,none⟩) m d] w fun e w'=>e = .returned (.bool (xs.take n == ys.take m)) ∧ ∃ q,w' = w.drewN q:=Any.slices_Equal_int Tryz.lays111 b1 o1 n c b2 o2 m d xs ys w hx hy hbig hbig2 hc1 hc2
open Go.RowKit Go.Lib in
def Tryz.lays193_ren:Go.Shelf.Ren:=⟨fun|193=>31|n=>n,fun|31=>82|9=>9|4=>4|3=>3|0=>0|n=>n,fun|n=>n⟩
theorem Tryz.lays193:Go.Proofs.Lays.n193 Tryz.prog Tryz.lays193_ren:=⟨by kernel_rfl,func31.trans (cS (by kernel_rfl)),underlying0,isAgg0,sizeOf0,zeroValue0,underlying3,isAgg3,sizeOf3,zeroValue3,underlying4,isAgg4,sizeOf4,zeroValue4,underlying9,isAgg9,sizeOf9,zeroValue9,underlying82,isAgg82,sizeOf82,zeroValue82⟩
open Go.RowKit Go.Lib in
theorem Tryz.slices_Equal_string (b1 o1 n c b2 o2 m d:Nat) (xs ys:List ByteArray) (w:World) (hx:n ≤ xs.length) (hy:m ≤ ys.length) (hbig:n ≤ 9223372036854775807) (hbig2:m ≤ 9223372036854775807) (hc1:∀ j,j < xs.length->w.cell? ⟨b1,o1 + j,none⟩ = some (.string (xs.getD j ByteArray.empty))) (hc2:∀ j,j < ys.length->w.cell? ⟨b2,o2 + j,none⟩ = some (.string (ys.getD j ByteArray.empty))) :
    Calls Tryz.prog 31 #[.slice (some ⟨b1,o1,none⟩) n c,.slice (some ⟨b2,o2,none⟩) m d] w fun e w'=>e = .returned (.bool (decide (xs.take n = ys.take m))) ∧ ∃ q,w' = w.drewN q:=Any.slices_Equal_string Tryz.lays193 b1 o1 n c b2 o2 m d xs ys w hx hy hbig hbig2 hc1 hc2
open Go.RowKit Go.Lib in
def Tryz.laysNm215_ren:Go.Shelf.Ren:=⟨fun|15=>109|n=>n,fun|22=>26|3=>3|4=>4|n=>n,fun|n=>n⟩
theorem Tryz.laysNm215:Go.Proofs.Lays2.n15 Tryz.prog Tryz.laysNm215_ren:={
  mixed:=by kernel_rfl
  f15:=func109.trans (cS (by kernel_rfl))
  t3:=underlying3
  a3:=isAgg3
  z3:=sizeOf3
  v3:=zeroValue3
  t4:=underlying4
  a4:=isAgg4
  z4:=sizeOf4
  v4:=zeroValue4
  t22:=underlying26
  a22:=isAgg26
  z22:=sizeOf26
  v22:=zeroValue26
  i3:=by kernel_rfl }
open Go.RowKit Go.Lib in
theorem Tryz.slices_Clone_int (b off n c:Nat) (zs:List Int) (w:World) (hz:n ≤ zs.length) (hbig:n * 8 ≤ 140737488355328) (hc:∀ j,j < zs.length->w.cell? ⟨b,off + j,none⟩ = some (.int .i64 (zs.getD j 0))) :
    Calls Tryz.prog 109 #[.slice (some ⟨b,off,none⟩) n c] w fun e w'=>∃ v',e = .returned v' ∧ w'.ownsRow w.heap.size 3 1 v' n ((zs.take n).map (Value.int .i64)) ∧ v' ≠ .slice none 0 0 ∧ Below w.heap.size w w':=Any.slices_Clone_int Tryz.laysNm215 b off n c zs w hz hbig hc
open Go.RowKit Go.Lib in
def Tryz.laysNm216_ren:Go.Shelf.Ren:=⟨fun|16=>200|n=>n,fun|24=>82|9=>9|4=>4|n=>n,fun|n=>n⟩
theorem Tryz.laysNm216:Go.Proofs.Lays2.n16 Tryz.prog Tryz.laysNm216_ren:={
  mixed:=by kernel_rfl
  f16:=func200.trans (cS (by kernel_rfl))
  t4:=underlying4
  a4:=isAgg4
  z4:=sizeOf4
  v4:=zeroValue4
  t9:=underlying9
  a9:=isAgg9
  z9:=sizeOf9
  v9:=zeroValue9
  t24:=underlying82
  a24:=isAgg82
  z24:=sizeOf82
  v24:=zeroValue82
  i9:=by kernel_rfl }
open Go.RowKit Go.Lib in
theorem Tryz.slices_Clone_string (b off n c:Nat) (zs:List ByteArray) (w:World) (hz:n ≤ zs.length) (hbig:n * 16 ≤ 140737488355328) (hc:∀ j,j < zs.length->w.cell? ⟨b,off + j,none⟩ = some (.string (zs.getD j ByteArray.empty))) :
    Calls Tryz.prog 200 #[.slice (some ⟨b,off,none⟩) n c] w fun e w'=>∃ v',e = .returned v' ∧ w'.ownsRow w.heap.size 9 1 v' n ((zs.take n).map (Value.string)) ∧ v' ≠ .slice none 0 0 ∧ Below w.heap.size w w':=Any.slices_Clone_string Tryz.laysNm216 b off n c zs w hz hbig hc
open Go.RowKit Go.Lib in
open Go.RowKit Go.Lib in
open Go.RowKit Go.Lib in
def Tryz.laysNm220_ren:Go.Shelf.Ren:=⟨fun|20=>126|n=>n,fun|22=>26|3=>3|4=>4|0=>0|n=>n,fun|n=>n⟩
theorem Tryz.laysNm220:Go.Proofs.Lays2.n20 Tryz.prog Tryz.laysNm220_ren:={
  mixed:=by kernel_rfl
  f20:=func126.trans (cS (by kernel_rfl))
  t0:=underlying0
  a0:=isAgg0
  z0:=sizeOf0
  v0:=zeroValue0
  t3:=underlying3
  a3:=isAgg3
  z3:=sizeOf3
  v3:=zeroValue3
  t4:=underlying4
  a4:=isAgg4
  z4:=sizeOf4
  v4:=zeroValue4
  t22:=underlying26
  a22:=isAgg26
  z22:=sizeOf26
  v22:=zeroValue26
  i3:=by kernel_rfl }
open Go.RowKit Go.Lib Go.Sort in
open Go.RowKit Go.Lib Go.Sort in
theorem Tryz.slices_Compact_int (blk off cap:Nat) (zs:List Int) (w:World) (hH:Holds (Value.int .i64) w blk off zs.toArray) (hsz:zs.length ≤ 9223372036854775807) (hcap:zs.length ≤ cap) :
    Calls Tryz.prog 126 #[.slice (some ⟨blk,off,none⟩) zs.length cap] w fun e w'=>e = .returned (.slice (some ⟨blk,off,none⟩) (Lib.compact zs).length cap) ∧ ∃ q,w' = putRow (Value.int .i64) (Sort.ahead w q) blk off (Lib.compact zs ++ List.replicate (zs.length - (Lib.compact zs).length) 0).toArray:=Any.slices_Compact_int Tryz.laysNm220 blk off cap zs w hH hsz hcap
open Go.RowKit Go.Lib Go.Sort in
theorem Tryz.slices_Compact_int_empty (a:Option Addr) (cap:Nat) (w:World) :
    Calls Tryz.prog 126 #[.slice a 0 cap] w fun e w'=>e = .returned (.slice a 0 cap) ∧ w' = w:=Any.slices_Compact_int_empty Tryz.laysNm220 a cap w
open Go.RowKit Go.Lib in
open Go.RowKit Go.Lib in
open Go.RowKit Go.Lib Go.Sort in
open Go.RowKit Go.Lib Go.Sort in
open Go.RowKit Go.Sort in
theorem Tryz.slices_Sort_int_none (p:Option Addr) (cap:Nat) (w:World) :
    Calls Tryz.prog 125 #[.slice p 0 cap] w fun e w'=>e = .returned (.tuple #[]) ∧ w' = w:=Any.slices_Sort_int_none Tryz.lays189 p cap w
open Go.RowKit Go.Lib in
open Go.RowKit Go.Lib in
open Go.RowKit Go.Lib Go.Sort in
open Go.RowKit Go.Lib Go.Sort in
open Go.RowKit Go.Lib Go.Sort in
open Go.RowKit Go.Lib in
open Go.RowKit Go.Lib in
open Go.RowKit Go.Lib in
open Go.RowKit Go.Lib in
def Tryz.lays7n25_ren:Go.Shelf.Ren:=⟨fun|25=>303|n=>n,fun|22=>154|n=>n,fun|n=>n⟩
theorem Tryz.lays7n25:Go.Proofs.Lays7.n25 Tryz.prog Tryz.lays7n25_ren:=⟨by kernel_rfl,func303.trans (cS (by kernel_rfl)),underlying154,isAgg154,sizeOf154,zeroValue154,by kernel_rfl⟩
def Tryz.sortedA_ren:Go.Shelf.Ren:=⟨fun|6=>246|8=>292|9=>125|11=>309|13=>175|12=>174|23=>231|24=>232|14=>222|15=>223|16=>224|17=>225|18=>226|19=>227|20=>228|21=>229|22=>230|25=>276|26=>277|27=>278|28=>279|29=>280|30=>281|31=>306|n=>n,fun|26=>3|28=>278|24=>26|0=>0|3=>3|37=>109|48=>151|50=>154|4=>4|40=>263|39=>262|45=>267|5=>5|9=>9|51=>303|55=>307|57=>327|58=>217|33=>74|n=>n,fun|n=>n⟩
theorem Tryz.sortedA:Go.Proofs.SlLaysZI.n6 Tryz.prog Tryz.sortedA_ren:={
  mixed:=by kernel_rfl
  f6:=⟨Tryz.f246.name,by decide,func246.trans (cS (by kernel_rfl))⟩
  f8:=⟨Tryz.f292.name,by decide,func292.trans (cS (by kernel_rfl))⟩
  f11:=⟨Tryz.f309.name,by decide,func309.trans (cS (by kernel_rfl))⟩
  t0:=underlying0
  a0:=isAgg0
  z0:=sizeOf0
  v0:=zeroValue0
  t24:=underlying26
  a24:=isAgg26
  z24:=sizeOf26
  v24:=zeroValue26
  t26:=underlying3
  a26:=isAgg3
  z26:=sizeOf3
  v26:=zeroValue3
  t28:=underlying278
  a28:=isAgg278
  z28:=sizeOf278
  v28:=zeroValue278
  i26:=by kernel_rfl }
def Tryz.growI_ren:Go.Shelf.Ren:=⟨fun|4=>173|n=>n,fun|22=>26|25=>3|3=>3|4=>4|9=>9|20=>20|0=>0|n=>n,fun|n=>n⟩
theorem Tryz.growI:Go.Proofs.Lays8.n4 Tryz.prog Tryz.growI_ren:={
  mixed:=by kernel_rfl
  f4:=⟨Tryz.f173.name,by decide,func173.trans (cS (by kernel_rfl))⟩
  t0:=underlying0
  a0:=isAgg0
  z0:=sizeOf0
  v0:=zeroValue0
  t3:=underlying3
  a3:=isAgg3
  z3:=sizeOf3
  v3:=zeroValue3
  t4:=underlying4
  a4:=isAgg4
  z4:=sizeOf4
  v4:=zeroValue4
  t9:=underlying9
  a9:=isAgg9
  z9:=sizeOf9
  v9:=zeroValue9
  t20:=underlying20
  a20:=isAgg20
  z20:=sizeOf20
  v20:=zeroValue20
  t22:=underlying26
  a22:=isAgg26
  z22:=sizeOf26
  v22:=zeroValue26 }
end Go.Proofs
