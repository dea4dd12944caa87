/- Lemmas. -/
import Derived.Test.YthhobbgaejimgaaGreatDoorRead3
import Derived.Test.YthhobbgaejimgaaGreatDoorP127
import Derived.Test.YthhobbgaejimgaaGreatDoorCon4
import Derived.Test.YthhobbgaejimgaaGreatDoorFns
import Derived.Test.YthhobbgaejimgaaGreatDoorRows
import Derived.Test.YthhobbgaejimgaaGreatDoorCards
import Derived.Test.YthhobbgaejimgaaGreatDoorTie
import Derived.SevenTiedAt
import Derived.LaidLaws
import Derived.Lib.LaidTab
import Derived.Stop.LaidErr
import Derived.Lay
import Derived.JoinedOf
import Derived.JoinedAt
import Derived.Handed
import Derived.SizedLaws
import Derived.Test.YthhobbgaejimgaaGreatDoorU2r3
import Derived.Test.YthhobbgaejimgaaGreatDoorU3r3
import Derived.Test.YthhobbgaejimgaaGreatDoorU4r3
set_option linter.all false
set_option maxRecDepth 100000
namespace Go.Proofs.YthhobbgaejimgaaGreatDoor
open Go Go.Sf Go.Sf.Sc Go.Proofs.Tryz
theorem kg:ownKnob prog.godebug=none:=by kernel_rfl
theorem g6:laidOutB prog=true:=by kernel_rfl
theorem MC:KO prog f3.params.toList (fun a=>∃x bs,a=BF x::bs/\bs=[]):=by
 rw [params3];exact Sl (by decide) ku (fun _=>⟨_,rfl⟩) Sn
theorem Lf(a:Fq)(h:∃x bs,a=BF x::bs/\bs=[])(_:TV.rI a)(b:TV.t1 a):AH prog 3 a (.sh (.bool true)):=by
 obtain ⟨x,bs,rfl,rfl⟩:=h;exact(c3 x).snd true (Lu x b.1)
theorem jT(W:World)(h:laidMetH prog Rows.derivationFormatRow.laid W):IU W:=by
 rw [MakeChecks.laidMetH_plain _ _ _ (by kernel_rfl)]at h;have e:Rows.derivationFormatRow.laid=("math/bits.deBruijn32tab",Rows.laid_math_bits_deBruijn32tab)::("math/bits.deBruijn64tab",Rows.laid_math_bits_deBruijn64tab)::[("internal/strconv.uint64pow10",Lib.tabData .u64 Lib.pow10Tab)]:=by kernel_rfl
 rw [e]at h;have k:=Lib.tabIs_of_head (P:=prog) (g:=0) (t:=251) (e:=200) (n:=20) (by kernel_rfl) (by kernel_rfl) (by kernel_rfl) (by kernel_rfl) (by kernel_rfl) (by kernel_rfl) h.tail.tail;unfold Lib.TabIs World.var? at k;rw[show prog.globalNamed "internal/strconv.uint64pow10" =some 0 by kernel_rfl]at k;exact k
theorem LE(os:Os)(a:os.Started)(H:Type)(enc:TypeId×Value->H):
  ReturnsInHanded {} checked os 3 .any (fun w args=>(Rows.derivationFormatSpec.pre enc prog f3 Rows.derivationFormatRow.domain false w args/\laidMetH prog Rows.derivationFormatRow.laid w)/\sizedMet enc prog f3 (OpenSpec.ofChange Rows.derivationFormatSpec) false w args) (Rows.derivationFormatSpec.post enc prog f3 false true false false):=by
 refine returnsInHanded_of_change_and (C:=checked) (X:=fun w _=>laidMetH prog Rows.derivationFormatRow.laid w) (fun _ _ _ hh h=>h.of_heap hh) kg a (by kernel_rfl) func3
  (ChangeSpec.witness_shaped (enc:=enc) (C:=checked) (os:=os) (X:=fun w _=>laidMetH prog Rows.derivationFormatRow.laid w) false (World.laidAll prog os Rows.derivationFormatRow.laid) #[Value.agg #[.slice none 0 0,.slice none 0 0,.slice none 0 0,.slice none 0 0]] 8 (World.laidAll_os _ _ _)
   (World.shaped_of_ZipB (by kernel_rfl) (by kernel_rfl)) (by kernel_rfl) (by kernel_rfl) (by kernel_rfl)
   (by rw[MakeChecks.laidMetH_plain _ _ _ (by kernel_rfl)];exact laidMet_laidAll _ (by kernel_rfl) (by kernel_rfl))) ?_
 intro W base args ds d b _ e _ c f _;refine SQ g6 (by kernel_rfl) (tb:=4) (by kernel_rfl) underlying4 rfl (fun H ds hd=>?_) MC Lf H enc W args ds d b e c (jT W f)
 match ds,hd with
 |[_],_=>rfl
theorem derivationFormat_holds:Rows.DerivationFormatSaid:=
 OpenClaim.holds_of_wide 3 f3 rfl rfl rfl rfl rfl rfl rfl ⟨rfl,rfl,rfl,rfl,rfl⟩ rfl rfl rfl rfl rfl IC func3 Ld
  (of_decide_eq_true (by kernel_rfl)) (by unfold Func.isWrapper;first|(rw[az (by decide +kernel)];kernel_rfl)|(rw[bk (by decide +kernel)];exact⟨rfl,rfl⟩))
  (fun os a H enc _=>LE os a H enc)
theorem derivationFormat_card_holds:Rows.DerivationFormatCardSaid:=
 Claim7.holds_tied_plain_at .later [] [.data,.data,.data] true (true, "65088807df80f26d7211f10cecb30c75596b09202ff9963b1d56c34e7fa53c13") false
  derivationFormat_holds (fun _ h=>by cases h) Mb (fun _ h=>by cases h) derivationFormat_row_tie rfl ⟨rfl,rfl⟩ Li rfl
  (fun f fn hf hfn=>by
   obtain rfl:f=3:=Option.some.inj (IC.symm.trans hf)|>.symm;obtain rfl:fn=f3:=(Option.some.inj (func3.symm.trans hfn)).symm;exact⟨LF,fun j t ht=>by
    rw [params3]at ht;have hm:t∈[31]:=by simpa using Array.mem_of_getElem? ht
    simpa using List.all_eq_true.1 LI t hm⟩)
  Lg
end Go.Proofs.YthhobbgaejimgaaGreatDoor
