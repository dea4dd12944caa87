/- Lemmas. -/
import Derived.Test.YtlbmpkmkmkgniaaGreatDoorRead
import Derived.Test.YtlbmpkmkmkgniaaGreatDoorP73
import Derived.Test.YtlbmpkmkmkgniaaGreatDoorCon3
import Derived.Test.YtlbmpkmkmkgniaaGreatDoorFns
import Derived.Test.YtlbmpkmkmkgniaaGreatDoorRows
import Derived.Test.YtlbmpkmkmkgniaaGreatDoorCards
import Derived.Test.YtlbmpkmkmkgniaaGreatDoorTie
import Derived.SevenTiedAt
import Derived.LaidLaws
import Derived.Lay
import Derived.JoinedOf
import Derived.JoinedAt
import Derived.Handed
import Derived.SizedLaws
import Derived.Test.YtlbmpkmkmkgniaaGreatDoorU2
import Derived.Test.YtlbmpkmkmkgniaaGreatDoorU3
import Derived.Test.YtlbmpkmkmkgniaaGreatDoorU4
set_option linter.all false
set_option maxRecDepth 100000
namespace Go.Proofs.YtlbmpkmkmkgniaaGreatDoor
open Go Go.Sf Go.Sf.Sc Go.Proofs.Tryz
theorem tR:ownKnob prog.godebug=none:=by kernel_rfl
theorem pw:laidOutB prog=true:=by kernel_rfl
theorem Ro:OT prog f5.params.toList (fun az=>∃ x bs,az=AU x::bs∧∃ y cs,bs=Hq y::cs∧∃ z ds,cs=K3 z::ds∧ds=[]):=by
 rw [params5];exact Oh (by decide) tU (fun _=>⟨_,rfl⟩) (Oh (by decide) tZ (fun _=>⟨_,rfl⟩) (Oh (by decide) te (fun _=>⟨_,rfl⟩) Wl))
theorem Q2 (az:List TV) (h:∃ x bs,az=AU x::bs∧∃ y cs,bs=Hq y::cs∧∃ z ds,cs=K3 z::ds∧ds=[]) (_:TV.WFs az) (hs:TV.Sms az):AT prog 5 az (.sh (.bool true)):=by
 obtain ⟨x,bs,rfl,y,cs,rfl,z,ds,rfl,rfl⟩:=h;exact (c5 x y z).snd true (RN x y z hs.1 hs.2.1 hs.2.2.1)
theorem Qg (os:Os) (started:os.Started) (H:Type) (enc:TypeId × Value->H) :
  ReturnsInHanded {} checked os 5 .any (fun w args=>(Rows.explainRepairSpec.pre enc prog f5 Rows.explainRepairRow.domain false w args∧laidMetH prog Rows.explainRepairRow.laid w)∧sizedMet enc prog f5 (OpenSpec.ofChange Rows.explainRepairSpec) false w args) (Rows.explainRepairSpec.post enc prog f5 false true false false):=by
 refine returnsInHanded_of_change_and (C:=checked) (X:=fun w _=>laidMetH prog Rows.explainRepairRow.laid w) (fun _ _ _ hh h=>h.of_heap hh) tR started (by kernel_rfl) func5
  (ChangeSpec.witness_shaped (enc:=enc) (C:=checked) (os:=os) (X:=fun w _=>laidMetH prog Rows.explainRepairRow.laid w) false (World.laidAll prog os Rows.explainRepairRow.laid) #[Value.agg #[.slice none 0 0,.slice none 0 0],
   Value.agg #[.slice none 0 0,.slice none 0 0,.slice none 0 0,.int .i64 0,.slice none 0 0,.int .i64 0,.slice none 0 0,.slice none 0 0,.slice none 0 0,
    .slice none 0 0,.slice none 0 0,.slice none 0 0,.int .i64 0,.slice none 0 0],
   Value.agg #[.slice none 0 0,.slice none 0 0,.slice none 0 0,.slice none 0 0,.slice none 0 0,.slice none 0 0,.bool false]] 8 (World.laidAll_os _ _ _)
   (World.shaped_of_ZipB (by kernel_rfl) (by kernel_rfl)) (by kernel_rfl) (by kernel_rfl) (by kernel_rfl)
   (by rw [MakeChecks.laidMetH_plain _ _ _ (by kernel_rfl)]; exact laidMet_laidAll _ (by kernel_rfl) (by kernel_rfl))) ?_
 intro W base args ds gs before _ hW _ hwt _ _;refine WG pw (by kernel_rfl) (tb:=4) (by kernel_rfl) underlying4 rfl (fun H ds hd=>?_) Ro Q2 H enc W args ds gs before hW hwt
 match ds,hd with
 | [_,_,_],_=>rfl
theorem explainRepair_holds:Rows.ExplainRepairSaid:=
 OpenClaim.holds_of_wide 5 f5 rfl rfl rfl rfl rfl rfl rfl ⟨rfl,rfl,rfl,rfl,rfl⟩ rfl rfl rfl rfl rfl Nj func5 Q1
  (of_decide_eq_true (by kernel_rfl)) (by unfold Func.isWrapper; first | (rw [if_pos (by decide +kernel)]; kernel_rfl) | (rw [if_neg (by decide +kernel)]; exact ⟨rfl,rfl⟩))
  (fun os started H enc _=>Qg os started H enc)
theorem explainRepair_card_holds:Rows.ExplainRepairCardSaid:=
 Claim7.holds_tied_plain_at .later [] [.data, .data, .data] true (true, "c921fc44d8610c9993e0e4f921ff1cbe5938a80994765491d6d95cd493d05d18") false
  explainRepair_holds (fun _ h=>by cases h) SD (fun _ h=>by cases h) explainRepair_row_tie rfl ⟨rfl,rfl⟩ Q5 rfl
  (fun f fn hf hfn=>by
   obtain rfl:f=5:=Option.some.inj (Nj.symm.trans hf) |>.symm;obtain rfl:fn=f5:=(Option.some.inj (func5.symm.trans hfn)).symm;exact ⟨Qh,fun j t ht=>by
    rw [params5] at ht;have hm:t∈[25,40,47]:=by simpa using Array.mem_of_getElem? ht
    simpa using List.all_eq_true.1 Qk t hm⟩)
  Q3
end Go.Proofs.YtlbmpkmkmkgniaaGreatDoor
