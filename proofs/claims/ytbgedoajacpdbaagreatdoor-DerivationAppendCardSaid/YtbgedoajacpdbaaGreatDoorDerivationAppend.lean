/- Lemmas. -/
import Derived.Test.YtbgedoajacpdbaaGreatDoorRead5
import Derived.Test.YtbgedoajacpdbaaGreatDoorP110
import Derived.Test.YtbgedoajacpdbaaGreatDoorCon3
import Derived.Test.YtbgedoajacpdbaaGreatDoorFns
import Derived.Test.YtbgedoajacpdbaaGreatDoorRows
import Derived.Test.YtbgedoajacpdbaaGreatDoorCards
import Derived.Test.YtbgedoajacpdbaaGreatDoorTie
import Derived.SevenTiedAt
import Derived.LaidLaws
import Derived.Lay
import Derived.JoinedOf
import Derived.JoinedAt
import Derived.Handed
import Derived.SizedLaws
import Derived.Test.YtbgedoajacpdbaaGreatDoorU2r5
import Derived.Test.YtbgedoajacpdbaaGreatDoorU3r5
import Derived.Test.YtbgedoajacpdbaaGreatDoorU4r5
set_option linter.all false
set_option maxRecDepth 100000
namespace Go.Proofs.YtbgedoajacpdbaaGreatDoor
open Go Go.Sf Go.Sf.Sc Go.Proofs.Tryz
theorem uP:ownKnob prog.godebug=none:=by kernel_rfl
theorem rY:laidOutB prog=true:=by kernel_rfl
theorem QV:Oa prog f5.params.toList (fun a=>∃x bs,a=GW x::bs/\∃y ds,bs=DA y::ds/\ds=[]):=by
 rw [params5];exact SQ (by decide) ua (fun _=>⟨_,rfl⟩) (SQ (by decide) oQ (fun _=>⟨_,rfl⟩) YJ)
theorem Pv(a:Fq)(h:∃x bs,a=GW x::bs/\∃y ds,bs=DA y::ds/\ds=[])(_:TV.x7 a)(b:TV.Sms a):AN prog 5 a (.sh (.bool true)):=by
 obtain ⟨x,bs,rfl,y,ds,rfl,rfl⟩:=h;exact(c5 x y).snd true (P9 x y b.1 b.2.1)
theorem Pd(os:Os)(a:os.Started)(H:Type)(enc:TypeId×Value->H):
  ReturnsInHanded {} checked os 5 .any (fun w args=>(Rows.derivationAppendSpec.pre enc prog f5 Rows.derivationAppendRow.domain false w args/\laidMetH prog Rows.derivationAppendRow.laid w)/\sizedMet enc prog f5 (OpenSpec.ofChange Rows.derivationAppendSpec) false w args) (Rows.derivationAppendSpec.post enc prog f5 false true false false):=by
 refine returnsInHanded_of_change_and (C:=checked) (X:=fun w _=>laidMetH prog Rows.derivationAppendRow.laid w) (fun _ _ _ hh h=>h.of_heap hh) uP a (by kernel_rfl) func5
  (ChangeSpec.witness_shaped (enc:=enc) (C:=checked) (os:=os) (X:=fun w _=>laidMetH prog Rows.derivationAppendRow.laid w) false (World.laidAll prog os Rows.derivationAppendRow.laid) #[Value.agg #[.slice none 0 0,.slice none 0 0,.slice none 0 0,.slice none 0 0,.slice none 0 0,.slice none 0 0,.slice none 0 0],Value.agg #[.int .i64 0,.slice none 0 0,.slice none 0 0,.slice none 0 0]] 8 (World.laidAll_os _ _ _)
   (World.shaped_of_ZipB (by kernel_rfl) (by kernel_rfl)) (by kernel_rfl) (by kernel_rfl) (by kernel_rfl)
   (by rw[MakeChecks.laidMetH_plain _ _ _ (by kernel_rfl)];exact laidMet_laidAll _ (by kernel_rfl) (by kernel_rfl))) ?_
 intro W base args ds d b _ e _ c _ _;refine Xj rY (by kernel_rfl) (tb:=4) (by kernel_rfl) underlying4 rfl (fun H ds hd=>?_) QV Pv H enc W args ds d b e c
 match ds,hd with
 |[_,_],_=>rfl
theorem derivationAppend_holds:Rows.DerivationAppendSaid:=
 OpenClaim.holds_of_wide 5 f5 rfl rfl rfl rfl rfl rfl rfl ⟨rfl,rfl,rfl,rfl,rfl⟩ rfl rfl rfl rfl rfl LV func5 Pu
  (of_decide_eq_true (by kernel_rfl)) (by unfold Func.isWrapper;first|(rw[ae (by decide +kernel)];kernel_rfl)|(rw[az (by decide +kernel)];exact⟨rfl,rfl⟩))
  (fun os a H enc _=>Pd os a H enc)
theorem derivationAppend_card_holds:Rows.DerivationAppendCardSaid:=
 Claim7.holds_tied_plain_at .later [] [.data,.data,.data] true (true, "861ff3766a97adb182fa939dbd8b4c0878652c50a4619d4f34e27c91b21eb2b9") false
  derivationAppend_holds (fun _ h=>by cases h) Qt (fun _ h=>by cases h) derivationAppend_row_tie rfl ⟨rfl,rfl⟩ Py rfl
  (fun f fn hf hfn=>by
   obtain rfl:f=5:=Option.some.inj (LV.symm.trans hf)|>.symm;obtain rfl:fn=f5:=(Option.some.inj (func5.symm.trans hfn)).symm;exact⟨Pe,fun j t ht=>by
    rw [params5]at ht;have hm:t∈[38,69]:=by simpa using Array.mem_of_getElem? ht
    simpa using List.all_eq_true.1 Ph t hm⟩)
  Pw
end Go.Proofs.YtbgedoajacpdbaaGreatDoor
