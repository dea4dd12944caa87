/- Lemmas. -/
import Derived.Test.YtlbmpkmkmkgniaaGreatDoorRead
import Derived.Test.YtlbmpkmkmkgniaaGreatDoorP73
import Derived.Test.YtlbmpkmkmkgniaaGreatDoorCon3
import Derived.Test.YtlbmpkmkmkgniaaGreatDoorFns
import Derived.Test.YtlbmpkmkmkgniaaGreatDoorRows
import Derived.Test.YtlbmpkmkmkgniaaGreatDoorCards
import Derived.Test.YtlbmpkmkmkgniaaGreatDoorTie
import Derived.SevenTiedAt
import Derived.LaidLaws
import Derived.Lay
import Derived.JoinedOf
import Derived.JoinedAt
import Derived.Handed
import Derived.SizedLaws
import Derived.Test.YtlbmpkmkmkgniaaGreatDoorU2
import Derived.Test.YtlbmpkmkmkgniaaGreatDoorU3
import Derived.Test.YtlbmpkmkmkgniaaGreatDoorU4
set_option linter.all false
set_option maxRecDepth 100000
namespace Go.Proofs.YtlbmpkmkmkgniaaGreatDoor
open Go Go.Sf Go.Sf.Sc Go.Proofs.Tryz
theorem te:ownKnob prog.godebug=none:=by kernel_rfl
theorem p5:laidOutB prog=true:=by kernel_rfl
theorem RX:Ol prog f3.params.toList (fun az=>∃ x bs,az=AV x::bs∧∃ y cs,bs=H5 y::cs∧∃ z ds,cs=LA z::ds∧ds=[]):=by
 rw [params3];exact O1 (by decide) ti (fun _=>⟨_,rfl⟩) (O1 (by decide) tu (fun _=>⟨_,rfl⟩) (O1 (by decide) t6 (fun _=>⟨_,rfl⟩) W6))
theorem Q8 (az:List TV) (h:∃ x bs,az=AV x::bs∧∃ y cs,bs=H5 y::cs∧∃ z ds,cs=LA z::ds∧ds=[]) (_:TV.WFs az) (hs:TV.Sms az):AU prog 3 az (.sh (.bool true)):=by
 obtain ⟨x,bs,rfl,y,cs,rfl,z,ds,rfl,rfl⟩:=h;exact (c3 x y z).snd true (RE x y z hs.1 hs.2.1 hs.2.2.1)
theorem QJ (os:Os) (started:os.Started) (H:Type) (enc:TypeId × Value->H) :
  ReturnsInHanded {} checked os 3 .any (fun w args=>(Rows.explainExplainSpec.pre enc prog f3 Rows.explainExplainRow.domain false w args∧laidMetH prog Rows.explainExplainRow.laid w)∧sizedMet enc prog f3 (OpenSpec.ofChange Rows.explainExplainSpec) false w args) (Rows.explainExplainSpec.post enc prog f3 false true false false):=by
 refine returnsInHanded_of_change_and (C:=checked) (X:=fun w _=>laidMetH prog Rows.explainExplainRow.laid w) (fun _ _ _ hh h=>h.of_heap hh) te started (by kernel_rfl) func3
  (ChangeSpec.witness_shaped (enc:=enc) (C:=checked) (os:=os) (X:=fun w _=>laidMetH prog Rows.explainExplainRow.laid w) false (World.laidAll prog os Rows.explainExplainRow.laid) #[Value.agg #[.slice none 0 0,.slice none 0 0],
   Value.agg #[.slice none 0 0,.slice none 0 0,.slice none 0 0,.int .i64 0,.slice none 0 0,.int .i64 0,.slice none 0 0,.slice none 0 0,.slice none 0 0,
    .slice none 0 0,.slice none 0 0,.slice none 0 0,.int .i64 0,.slice none 0 0],
   Value.agg #[.slice none 0 0,.slice none 0 0,.slice none 0 0,.slice none 0 0,.slice none 0 0,.slice none 0 0,.bool false]] 8 (World.laidAll_os _ _ _)
   (World.shaped_of_ZipB (by kernel_rfl) (by kernel_rfl)) (by kernel_rfl) (by kernel_rfl) (by kernel_rfl)
   (by rw [MakeChecks.laidMetH_plain _ _ _ (by kernel_rfl)]; exact laidMet_laidAll _ (by kernel_rfl) (by kernel_rfl))) ?_
 intro W base args ds gs before _ hW _ hwt _ _;refine WX p5 (by kernel_rfl) (tb:=4) (by kernel_rfl) underlying4 rfl (fun H ds hd=>?_) RX Q8 H enc W args ds gs before hW hwt
 match ds,hd with
 | [_,_,_],_=>rfl
theorem explainExplain_holds:Rows.ExplainExplainSaid:=
 OpenClaim.holds_of_wide 3 f3 rfl rfl rfl rfl rfl rfl rfl ⟨rfl,rfl,rfl,rfl,rfl⟩ rfl rfl rfl rfl rfl NN func3 Q7
  (of_decide_eq_true (by kernel_rfl)) (by unfold Func.isWrapper; first | (rw [if_pos (by decide +kernel)]; kernel_rfl) | (rw [if_neg (by decide +kernel)]; exact ⟨rfl,rfl⟩))
  (fun os started H enc _=>QJ os started H enc)
theorem explainExplain_card_holds:Rows.ExplainExplainCardSaid:=
 Claim7.holds_tied_plain_at .later [] [.data, .data, .data] true (true, "c921fc44d8610c9993e0e4f921ff1cbe5938a80994765491d6d95cd493d05d18") false
  explainExplain_holds (fun _ h=>by cases h) Ry (fun _ h=>by cases h) explainExplain_row_tie rfl ⟨rfl,rfl⟩ RB rfl
  (fun f fn hf hfn=>by
   obtain rfl:f=3:=Option.some.inj (NN.symm.trans hf) |>.symm;obtain rfl:fn=f3:=(Option.some.inj (func3.symm.trans hfn)).symm;exact ⟨QK,fun j t ht=>by
    rw [params3] at ht;have hm:t∈[25,40,47]:=by simpa using Array.mem_of_getElem? ht
    simpa using List.all_eq_true.1 QN t hm⟩)
  Q9
end Go.Proofs.YtlbmpkmkmkgniaaGreatDoor
