/- Lemmas. -/
import Derived.Test.YtbgedoajacpdbaaGreatDoorRead3
import Derived.Test.YtbgedoajacpdbaaGreatDoorP110
import Derived.Test.YtbgedoajacpdbaaGreatDoorCon3
import Derived.Test.YtbgedoajacpdbaaGreatDoorFns
import Derived.Test.YtbgedoajacpdbaaGreatDoorRows
import Derived.Test.YtbgedoajacpdbaaGreatDoorCards
import Derived.Test.YtbgedoajacpdbaaGreatDoorTie
import Derived.SevenTiedAt
import Derived.LaidLaws
import Derived.Lay
import Derived.JoinedOf
import Derived.JoinedAt
import Derived.Handed
import Derived.SizedLaws
import Derived.Test.YtbgedoajacpdbaaGreatDoorU2r3
import Derived.Test.YtbgedoajacpdbaaGreatDoorU3r3
import Derived.Test.YtbgedoajacpdbaaGreatDoorU4r3
set_option linter.all false
set_option maxRecDepth 100000
namespace Go.Proofs.YtbgedoajacpdbaaGreatDoor
open Go Go.Sf Go.Sf.Sc Go.Proofs.Tryz
theorem uA:ownKnob prog.godebug=none:=by kernel_rfl
theorem rK:laidOutB prog=true:=by kernel_rfl
theorem Qz:OV prog f3.params.toList (fun a=>∃x bs,a=GQ x::bs/\bs=[]):=by
 rw [params3];exact X6 (by decide) uL (fun _=>⟨_,rfl⟩) X7
theorem QD(a:Fq)(h:∃x bs,a=GQ x::bs/\bs=[])(_:TV.x7 a)(b:TV.Sms a):AN prog 3 a (.sh (.bool true)):=by
 obtain ⟨x,bs,rfl,rfl⟩:=h;exact(c3 x).snd true (Qj x b.1)
theorem Pf(os:Os)(a:os.Started)(H:Type)(enc:TypeId×Value->H):
  ReturnsInHanded {} checked os 3 .any (fun w args=>(Rows.derivationFinalSpec.pre enc prog f3 Rows.derivationFinalRow.domain false w args/\laidMetH prog Rows.derivationFinalRow.laid w)/\sizedMet enc prog f3 (OpenSpec.ofChange Rows.derivationFinalSpec) false w args) (Rows.derivationFinalSpec.post enc prog f3 false true false false):=by
 refine returnsInHanded_of_change_and (C:=checked) (X:=fun w _=>laidMetH prog Rows.derivationFinalRow.laid w) (fun _ _ _ hh h=>h.of_heap hh) uA a (by kernel_rfl) func3
  (ChangeSpec.witness_shaped (enc:=enc) (C:=checked) (os:=os) (X:=fun w _=>laidMetH prog Rows.derivationFinalRow.laid w) false (World.laidAll prog os Rows.derivationFinalRow.laid) #[Value.agg #[.slice none 0 0,.slice none 0 0,.slice none 0 0,.slice none 0 0,.slice none 0 0,.slice none 0 0,.slice none 0 0]] 8 (World.laidAll_os _ _ _)
   (World.shaped_of_ZipB (by kernel_rfl) (by kernel_rfl)) (by kernel_rfl) (by kernel_rfl) (by kernel_rfl)
   (by rw[MakeChecks.laidMetH_plain _ _ _ (by kernel_rfl)];exact laidMet_laidAll _ (by kernel_rfl) (by kernel_rfl))) ?_
 intro W base args ds d b _ e _ c _ _;refine XX rK (by kernel_rfl) (tb:=4) (by kernel_rfl) underlying4 rfl (fun H ds hd=>?_) Qz QD H enc W args ds d b e c
 match ds,hd with
 |[_],_=>rfl
theorem derivationFinal_holds:Rows.DerivationFinalSaid:=
 OpenClaim.holds_of_wide 3 f3 rfl rfl rfl rfl rfl rfl rfl ⟨rfl,rfl,rfl,rfl,rfl⟩ rfl rfl rfl rfl rfl Lp func3 QC
  (of_decide_eq_true (by kernel_rfl)) (by unfold Func.isWrapper;first|(rw[ae (by decide +kernel)];kernel_rfl)|(rw[az (by decide +kernel)];exact⟨rfl,rfl⟩))
  (fun os a H enc _=>Pf os a H enc)
theorem derivationFinal_card_holds:Rows.DerivationFinalCardSaid:=
 Claim7.holds_tied_plain_at .later [] [.data,.data,.data] true (true, "861ff3766a97adb182fa939dbd8b4c0878652c50a4619d4f34e27c91b21eb2b9") false
  derivationFinal_holds (fun _ h=>by cases h) RN (fun _ h=>by cases h) derivationFinal_row_tie rfl ⟨rfl,rfl⟩ QG rfl
  (fun f fn hf hfn=>by
   obtain rfl:f=3:=Option.some.inj (Lp.symm.trans hf)|>.symm;obtain rfl:fn=f3:=(Option.some.inj (func3.symm.trans hfn)).symm;exact⟨Pg,fun j t ht=>by
    rw [params3]at ht;have hm:t∈[38]:=by simpa using Array.mem_of_getElem? ht
    simpa using List.all_eq_true.1 Pk t hm⟩)
  QE
end Go.Proofs.YtbgedoajacpdbaaGreatDoor
