/- Lemmas. -/
import Derived.Test.YtbgedoajacpdbaaGreatDoorRead4
import Derived.Test.YtbgedoajacpdbaaGreatDoorP96
import Derived.Test.YtbgedoajacpdbaaGreatDoorCon3
import Derived.Test.YtbgedoajacpdbaaGreatDoorFns
import Derived.Test.YtbgedoajacpdbaaGreatDoorRows
import Derived.Test.YtbgedoajacpdbaaGreatDoorCards
import Derived.Test.YtbgedoajacpdbaaGreatDoorTie
import Derived.SevenTiedAt
import Derived.LaidLaws
import Derived.Lay
import Derived.JoinedOf
import Derived.JoinedAt
import Derived.Handed
import Derived.SizedLaws
import Derived.Test.YtbgedoajacpdbaaGreatDoorU2r4
import Derived.Test.YtbgedoajacpdbaaGreatDoorU3r4
import Derived.Test.YtbgedoajacpdbaaGreatDoorU4r4
set_option linter.all false
set_option maxRecDepth 100000
namespace Go.Proofs.YtbgedoajacpdbaaGreatDoor
open Go Go.Sf Go.Sf.Sc Go.Proofs.Tryz
theorem uP:ownKnob prog.godebug=none:=by kernel_rfl
theorem rY:laidOutB prog=true:=by kernel_rfl
theorem QS:LS prog f4.params.toList (fun a=>∃cs bs,a=cs++bs/\(∃x,cs=[GV x])/\∃l:Fp,bs=[.list 1 (l.map eI)]):=by
 rw [params4];exact VP (WV (by decide) uZ fun _=>⟨_,rfl⟩) (YG underlying27 SM)
theorem Pt(a:Fq)(h:∃cs bs,a=cs++bs/\(∃x,cs=[GV x])/\∃l:Fp,bs=[.list 1 (l.map eI)])(_:TV.x6 a)(b:TV.Sms a):AN prog 4 a (.sh (.bool true)):=by
 obtain ⟨cs,bs,rfl,⟨x,rfl⟩,l,rfl⟩:=h;exact(c4 x l).snd true (P6 x l b.1)
theorem Pe(os:Os)(a:os.Started)(H:Type)(enc:TypeId×Value->H):
  ReturnsInHanded {} checked os 4 .any (fun w args=>(Rows.derivationChooseSpec.pre enc prog f4 Rows.derivationChooseRow.domain false w args/\laidMetH prog Rows.derivationChooseRow.laid w)/\sizedMet enc prog f4 (OpenSpec.ofChange Rows.derivationChooseSpec) false w args) (Rows.derivationChooseSpec.post enc prog f4 false true false false):=by
 refine returnsInHanded_of_change_and (C:=checked) (X:=fun w _=>laidMetH prog Rows.derivationChooseRow.laid w) (fun _ _ _ hh h=>h.of_heap hh) uP a (by kernel_rfl) func4
  (ChangeSpec.witness_shaped (enc:=enc) (C:=checked) (os:=os) (X:=fun w _=>laidMetH prog Rows.derivationChooseRow.laid w) false (World.laidAll prog os Rows.derivationChooseRow.laid) #[Value.agg #[.slice none 0 0,.slice none 0 0,.slice none 0 0,.slice none 0 0,.slice none 0 0,.slice none 0 0,.slice none 0 0],.slice none 0 0] 8 (World.laidAll_os _ _ _)
   (World.shaped_of_ZipB (by kernel_rfl) (by kernel_rfl)) (by kernel_rfl) (by kernel_rfl) (by kernel_rfl)
   (by rw[MakeChecks.laidMetH_plain _ _ _ (by kernel_rfl)];exact laidMet_laidAll _ (by kernel_rfl) (by kernel_rfl))) ?_
 intro W base args ds g b c i _ d _ _;refine UW rY (by kernel_rfl) (tb:=4) (by kernel_rfl) underlying4 rfl (fun H ds hd=>?_) Pt H enc W args ds g b i d (fun k h=>QS H enc W base _ _ _ (fun j t v e f=>c j t v (by rw[<-Array.getElem?_toList];exact e) (by rw[<-Array.getElem?_toList];exact f)) h)
 match ds,hd with
 |[_,_],_=>rfl
theorem derivationChoose_holds:Rows.DerivationChooseSaid:=
 OpenClaim.holds_of_wide 4 f4 rfl rfl rfl rfl rfl rfl rfl ⟨rfl,rfl,rfl,rfl,rfl⟩ rfl rfl rfl rfl rfl LX func4 Ps
  (of_decide_eq_true (by kernel_rfl)) (by unfold Func.isWrapper;first|(rw[ae (by decide +kernel)];kernel_rfl)|(rw[az (by decide +kernel)];exact⟨rfl,rfl⟩))
  (fun os a H enc _=>Pe os a H enc)
theorem derivationChoose_card_holds:Rows.DerivationChooseCardSaid:=
 Claim7.holds_tied_plain_at .later [] [.data,.data,.data] true (true, "861ff3766a97adb182fa939dbd8b4c0878652c50a4619d4f34e27c91b21eb2b9") false
  derivationChoose_holds (fun _ h=>by cases h) Qq (fun _ h=>by cases h) derivationChoose_row_tie rfl ⟨rfl,rfl⟩ Pw rfl
  (fun f fn hf hfn=>by
   obtain rfl:f=4:=Option.some.inj (LX.symm.trans hf)|>.symm;obtain rfl:fn=f4:=(Option.some.inj (func4.symm.trans hfn)).symm;exact⟨Pf,fun j t ht=>by
    rw [params4]at ht;have hm:t∈[38,27]:=by simpa using Array.mem_of_getElem? ht
    simpa using List.all_eq_true.1 Pj t hm⟩)
  Pu
end Go.Proofs.YtbgedoajacpdbaaGreatDoor
