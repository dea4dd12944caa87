/- Lemmas. -/
import Derived.Test.YthhobbgaejimgaaGreatDoorRead4
import Derived.Test.YthhobbgaejimgaaGreatDoorP122
import Derived.Test.YthhobbgaejimgaaGreatDoorCon3
import Derived.Test.YthhobbgaejimgaaGreatDoorFns
import Derived.Test.YthhobbgaejimgaaGreatDoorRows
import Derived.Test.YthhobbgaejimgaaGreatDoorCards
import Derived.Test.YthhobbgaejimgaaGreatDoorTie
import Derived.SevenTiedAt
import Derived.LaidLaws
import Derived.Lay
import Derived.JoinedOf
import Derived.JoinedAt
import Derived.Handed
import Derived.SizedLaws
import Derived.Test.YthhobbgaejimgaaGreatDoorU2r4
import Derived.Test.YthhobbgaejimgaaGreatDoorU3r4
import Derived.Test.YthhobbgaejimgaaGreatDoorU4r4
set_option linter.all false
set_option maxRecDepth 100000
namespace Go.Proofs.YthhobbgaejimgaaGreatDoor
open Go Go.Sf Go.Sf.Sc Go.Proofs.Tryz
theorem kZ:ownKnob prog.godebug=none:=by kernel_rfl
theorem gl:laidOutB prog=true:=by kernel_rfl
theorem Mw:IP prog f4.params.toList (fun a=>∃cs bs,a=cs++bs/\(∃x,cs=[AS x])/\∃ds es,bs=ds++es/\(∃y,ds=[CL y])/\∃s:ByteArray,es=[.str s]):=by
 rw [params4];exact Lt (Mt (by decide) km fun _=>⟨_,rfl⟩) (Lt (Mt (by decide) ki fun _=>⟨_,rfl⟩) (RR underlying9 WJ))
theorem MC(a:D2)(h:∃cs bs,a=cs++bs/\(∃x,cs=[AS x])/\∃ds es,bs=ds++es/\(∃y,ds=[CL y])/\∃s:ByteArray,es=[.str s])(_:TV.rk a)(b:TV.td a):AI prog 4 a (.sh (.bool true)):=by
 obtain ⟨cs,bs,rfl,⟨x,rfl⟩,ds,es,rfl,⟨y,rfl⟩,s,rfl⟩:=h;exact(c4 x y s).snd true (Mb x y s b.1)
theorem Lf(os:Os)(a:os.Started)(H:Type)(enc:TypeId×Value->H):
  ReturnsInHanded {} checked os 4 .any (fun w args=>(Rows.derivationParseSpec.pre enc prog f4 Rows.derivationParseRow.domain false w args/\laidMetH prog Rows.derivationParseRow.laid w)/\sizedMet enc prog f4 (OpenSpec.ofChange Rows.derivationParseSpec) false w args) (Rows.derivationParseSpec.post enc prog f4 false true false false):=by
 refine returnsInHanded_of_change_and (C:=checked) (X:=fun w _=>laidMetH prog Rows.derivationParseRow.laid w) (fun _ _ _ hh h=>h.of_heap hh) kZ a (by kernel_rfl) func4
  (ChangeSpec.witness_shaped (enc:=enc) (C:=checked) (os:=os) (X:=fun w _=>laidMetH prog Rows.derivationParseRow.laid w) false (World.laidAll prog os Rows.derivationParseRow.laid) #[Value.agg #[.slice none 0 0,.slice none 0 0],Value.agg #[.slice none 0 0,.slice none 0 0,.slice none 0 0],.string ⟨#[]⟩] 8 (World.laidAll_os _ _ _)
   (World.shaped_of_ZipB (by kernel_rfl) (by kernel_rfl)) (by kernel_rfl) (by kernel_rfl) (by kernel_rfl)
   (by rw[MakeChecks.laidMetH_plain _ _ _ (by kernel_rfl)];exact laidMet_laidAll _ (by kernel_rfl) (by kernel_rfl))) ?_
 intro W base args ds g b c i _ d _ _;refine P1 gl (by kernel_rfl) (tb:=4) (by kernel_rfl) underlying4 rfl (fun H ds hd=>?_) MC H enc W args ds g b i d (fun k h=>Mw H enc W base _ _ _ (fun j t v e f=>c j t v (by rw[<-Array.getElem?_toList];exact e) (by rw[<-Array.getElem?_toList];exact f)) h)
 match ds,hd with
 |[_,_,_],_=>rfl
theorem derivationParse_holds:Rows.DerivationParseSaid:=
 OpenClaim.holds_of_wide 4 f4 rfl rfl rfl rfl rfl rfl rfl ⟨rfl,rfl,rfl,rfl,rfl⟩ rfl rfl rfl rfl rfl Ij func4 MB
  (of_decide_eq_true (by kernel_rfl)) (by unfold Func.isWrapper;first|(rw[QQ (by decide +kernel)];kernel_rfl)|(rw[a6 (by decide +kernel)];exact⟨rfl,rfl⟩))
  (fun os a H enc _=>Lf os a H enc)
theorem derivationParse_card_holds:Rows.DerivationParseCardSaid:=
 Claim7.holds_tied_plain_at .later [] [.data,.data,.data] true (true, "65088807df80f26d7211f10cecb30c75596b09202ff9963b1d56c34e7fa53c13") false
  derivationParse_holds (fun _ h=>by cases h) NN (fun _ h=>by cases h) derivationParse_row_tie rfl ⟨rfl,rfl⟩ MF rfl
  (fun f fn hf hfn=>by
   obtain rfl:f=4:=Option.some.inj (Ij.symm.trans hf)|>.symm;obtain rfl:fn=f4:=(Option.some.inj (func4.symm.trans hfn)).symm;exact⟨Lg,fun j t ht=>by
    rw [params4]at ht;have hm:t∈[46,28,9]:=by simpa using Array.mem_of_getElem? ht
    simpa using List.all_eq_true.1 Lj t hm⟩)
  MD
end Go.Proofs.YthhobbgaejimgaaGreatDoor
