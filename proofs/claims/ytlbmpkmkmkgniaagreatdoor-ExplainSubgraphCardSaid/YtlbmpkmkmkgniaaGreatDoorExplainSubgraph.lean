/- Lemmas. -/
import Derived.Test.YtlbmpkmkmkgniaaGreatDoorRead
import Derived.Test.YtlbmpkmkmkgniaaGreatDoorP73
import Derived.Test.YtlbmpkmkmkgniaaGreatDoorCon3
import Derived.Test.YtlbmpkmkmkgniaaGreatDoorFns
import Derived.Test.YtlbmpkmkmkgniaaGreatDoorRows
import Derived.Test.YtlbmpkmkmkgniaaGreatDoorCards
import Derived.Test.YtlbmpkmkmkgniaaGreatDoorTie
import Derived.SevenTiedAt
import Derived.LaidLaws
import Derived.Lay
import Derived.JoinedOf
import Derived.JoinedAt
import Derived.Handed
import Derived.SizedLaws
import Derived.Test.YtlbmpkmkmkgniaaGreatDoorU2
import Derived.Test.YtlbmpkmkmkgniaaGreatDoorU3
import Derived.Test.YtlbmpkmkmkgniaaGreatDoorU4
set_option linter.all false
set_option maxRecDepth 100000
namespace Go.Proofs.YtlbmpkmkmkgniaaGreatDoor
open Go Go.Sf Go.Sf.Sc Go.Proofs.Tryz
theorem rQ:ownKnob prog.godebug=none:=by kernel_rfl
theorem nv:laidOutB prog=true:=by kernel_rfl
theorem P6:Np prog f8.params.toList (fun az=>∃ x bs,az=At x::bs∧∃ y cs,bs=HM y::cs∧∃ z ds,cs=KY z::ds∧ds=[]):=by
 rw [params8];exact N2 (by decide) rT (fun _=>⟨_,rfl⟩) (N2 (by decide) rY (fun _=>⟨_,rfl⟩) (N2 (by decide) rc (fun _=>⟨_,rfl⟩) Vj))
theorem PK (az:List TV) (h:∃ x bs,az=At x::bs∧∃ y cs,bs=HM y::cs∧∃ z ds,cs=KY z::ds∧ds=[]) (_:TV.WFs az) (hs:TV.Sms az):AR prog 8 az (.sh (.bool true)):=by
 obtain ⟨x,bs,rfl,y,cs,rfl,z,ds,rfl,rfl⟩:=h;exact (c8 x y z).snd true (Pm x y z hs.1 hs.2.1 hs.2.2.1)
theorem On (os:Os) (started:os.Started) (H:Type) (enc:TypeId × Value->H) :
  ReturnsInHanded {} checked os 8 .any (fun w args=>(Rows.explainSubgraphSpec.pre enc prog f8 Rows.explainSubgraphRow.domain false w args∧laidMetH prog Rows.explainSubgraphRow.laid w)∧sizedMet enc prog f8 (OpenSpec.ofChange Rows.explainSubgraphSpec) false w args) (Rows.explainSubgraphSpec.post enc prog f8 false true false false):=by
 refine returnsInHanded_of_change_and (C:=checked) (X:=fun w _=>laidMetH prog Rows.explainSubgraphRow.laid w) (fun _ _ _ hh h=>h.of_heap hh) rQ started (by kernel_rfl) func8
  (ChangeSpec.witness_shaped (enc:=enc) (C:=checked) (os:=os) (X:=fun w _=>laidMetH prog Rows.explainSubgraphRow.laid w) false (World.laidAll prog os Rows.explainSubgraphRow.laid) #[Value.agg #[.slice none 0 0,.slice none 0 0],
   Value.agg #[.slice none 0 0,.slice none 0 0,.slice none 0 0,.int .i64 0,.slice none 0 0,.int .i64 0,.slice none 0 0,.slice none 0 0,.slice none 0 0,
    .slice none 0 0,.slice none 0 0,.slice none 0 0,.int .i64 0,.slice none 0 0],
   Value.agg #[.slice none 0 0,.slice none 0 0,.slice none 0 0,.slice none 0 0,.slice none 0 0,.slice none 0 0,.bool false]] 8 (World.laidAll_os _ _ _)
   (World.shaped_of_ZipB (by kernel_rfl) (by kernel_rfl)) (by kernel_rfl) (by kernel_rfl) (by kernel_rfl)
   (by rw [MakeChecks.laidMetH_plain _ _ _ (by kernel_rfl)]; exact laidMet_laidAll _ (by kernel_rfl) (by kernel_rfl))) ?_
 intro W base args ds gs before _ hW _ hwt _ _;refine VJ nv (by kernel_rfl) (tb:=4) (by kernel_rfl) underlying4 rfl (fun H ds hd=>?_) P6 PK H enc W args ds gs before hW hwt
 match ds,hd with
 | [_,_,_],_=>rfl
theorem explainSubgraph_holds:Rows.ExplainSubgraphSaid:=
 OpenClaim.holds_of_wide 8 f8 rfl rfl rfl rfl rfl rfl rfl ⟨rfl,rfl,rfl,rfl,rfl⟩ rfl rfl rfl rfl rfl MB func8 PJ
  (of_decide_eq_true (by kernel_rfl)) (by unfold Func.isWrapper; first | (rw [if_pos (by decide +kernel)]; kernel_rfl) | (rw [if_neg (by decide +kernel)]; exact ⟨rfl,rfl⟩))
  (fun os started H enc _=>On os started H enc)
theorem explainSubgraph_card_holds:Rows.ExplainSubgraphCardSaid:=
 Claim7.holds_tied_plain_at .later [] [.data, .data, .data] true (true, "c921fc44d8610c9993e0e4f921ff1cbe5938a80994765491d6d95cd493d05d18") false
  explainSubgraph_holds (fun _ h=>by cases h) QV (fun _ h=>by cases h) explainSubgraph_row_tie rfl ⟨rfl,rfl⟩ PN rfl
  (fun f fn hf hfn=>by
   obtain rfl:f=8:=Option.some.inj (MB.symm.trans hf) |>.symm;obtain rfl:fn=f8:=(Option.some.inj (func8.symm.trans hfn)).symm;exact ⟨Oo,fun j t ht=>by
    rw [params8] at ht;have hm:t∈[25,40,47]:=by simpa using Array.mem_of_getElem? ht
    simpa using List.all_eq_true.1 Ou t hm⟩)
  PL
end Go.Proofs.YtlbmpkmkmkgniaaGreatDoor
