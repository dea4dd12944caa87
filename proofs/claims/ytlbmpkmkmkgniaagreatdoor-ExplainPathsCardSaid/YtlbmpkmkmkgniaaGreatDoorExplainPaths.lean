/- Lemmas. -/
import Derived.Test.YtlbmpkmkmkgniaaGreatDoorRead
import Derived.Test.YtlbmpkmkmkgniaaGreatDoorP73
import Derived.Test.YtlbmpkmkmkgniaaGreatDoorCon2
import Derived.Test.YtlbmpkmkmkgniaaGreatDoorFns
import Derived.Test.YtlbmpkmkmkgniaaGreatDoorRows
import Derived.Test.YtlbmpkmkmkgniaaGreatDoorCards
import Derived.Test.YtlbmpkmkmkgniaaGreatDoorTie
import Derived.SevenTiedAt
import Derived.LaidLaws
import Derived.Lay
import Derived.JoinedOf
import Derived.JoinedAt
import Derived.Handed
import Derived.SizedLaws
import Derived.Test.YtlbmpkmkmkgniaaGreatDoorU2
import Derived.Test.YtlbmpkmkmkgniaaGreatDoorU3
import Derived.Test.YtlbmpkmkmkgniaaGreatDoorU4
set_option maxRecDepth 100000
namespace Go.Proofs.YtlbmpkmkmkgniaaGreatDoor
open Go Go.Sf Go.Sf.Sc Go.Proofs.Tryz
theorem pE:ownKnob prog.godebug=none:=by kernel_rfl
theorem l3:laidOutB prog=true:=by kernel_rfl
theorem Qd:M8 prog f7.params.toList (fun az=>∃ x bs,az=At x::bs∧∃ y cs,bs=G2 y::cs∧∃ z ds,cs=I9 z::ds∧ds=[]):=by
 rw [params7]
 exact NN (by decide) pH (fun _=>⟨_,rfl⟩) (NN (by decide) pM (fun _=>⟨_,rfl⟩) (NN (by decide) pQ (fun _=>⟨_,rfl⟩) Uk))
theorem QB (az:List TV) (h:∃ x bs,az=At x::bs∧∃ y cs,bs=G2 y::cs∧∃ z ds,cs=I9 z::ds∧ds=[]) (_:TV.WFs az) (hs:TV.Sms az):AR prog 7 az (.sh (.bool true)):=by
 obtain ⟨x,bs,rfl,y,cs,rfl,z,ds,rfl,rfl⟩:=h
 exact (c7 x y z).snd true (QH x y z hs.1 hs.2.1 hs.2.2.1)
theorem PU (os:Os) (started:os.Started) (H:Type) (enc:TypeId × Value->H) :
  ReturnsInHanded {} checked os 7 .any (fun w args=>(Rows.explainPathsSpec.pre enc prog f7 Rows.explainPathsRow.domain false w args∧laidMetH prog Rows.explainPathsRow.laid w)∧sizedMet enc prog f7 (OpenSpec.ofChange Rows.explainPathsSpec) false w args) (Rows.explainPathsSpec.post enc prog f7 false true false false):=by
 refine returnsInHanded_of_change_and (C:=checked) (X:=fun w _=>laidMetH prog Rows.explainPathsRow.laid w) (fun _ _ _ hh h=>h.of_heap hh) pE started (by kernel_rfl) func7
  (ChangeSpec.witness_shaped (enc:=enc) (C:=checked) (os:=os) (X:=fun w _=>laidMetH prog Rows.explainPathsRow.laid w) false (World.laidAll prog os Rows.explainPathsRow.laid) #[Value.agg #[.slice none 0 0,.slice none 0 0],
   Value.agg #[.slice none 0 0,.slice none 0 0,.slice none 0 0,.int .i64 0,.slice none 0 0,.int .i64 0,.slice none 0 0,.slice none 0 0,.slice none 0 0,
    .slice none 0 0,.slice none 0 0,.slice none 0 0,.int .i64 0,.slice none 0 0],
   Value.agg #[.slice none 0 0,.slice none 0 0,.slice none 0 0,.slice none 0 0,.slice none 0 0,.slice none 0 0,.bool false]] 8 (World.laidAll_os _ _ _)
   (World.shaped_of_ZipB (by kernel_rfl) (by kernel_rfl)) (by kernel_rfl) (by kernel_rfl) (by kernel_rfl)
   (by rw [MakeChecks.laidMetH_plain _ _ _ (by kernel_rfl)]; exact laidMet_laidAll _ (by kernel_rfl) (by kernel_rfl))) ?_
 intro W base args ds gs before _ hW _ hwt _ _
 refine UL l3 (by kernel_rfl) (tb:=4) (by kernel_rfl) underlying4 rfl (fun H ds hd=>?_) Qd QB H enc W args ds gs before hW hwt
 match ds,hd with
 | [_,_,_],_=>rfl
theorem explainPaths_holds:Rows.ExplainPathsSaid:=
 OpenClaim.holds_of_wide 7 f7 rfl rfl rfl rfl rfl rfl rfl ⟨rfl,rfl,rfl,rfl,rfl⟩ rfl rfl rfl rfl rfl Mf func7 QA
  (of_decide_eq_true (by kernel_rfl)) (by unfold Func.isWrapper; first | (rw [if_pos (by decide +kernel)]; kernel_rfl) | (rw [if_neg (by decide +kernel)]; exact ⟨rfl,rfl⟩))
  (fun os started H enc _=>PU os started H enc)
theorem explainPaths_card_holds:Rows.ExplainPathsCardSaid:=
 Claim7.holds_tied_plain_at .later [] [.data, .data, .data] true (true, "c921fc44d8610c9993e0e4f921ff1cbe5938a80994765491d6d95cd493d05d18") false
  explainPaths_holds (fun _ h=>by cases h) Q1 (fun _ h=>by cases h) explainPaths_row_tie rfl ⟨rfl,rfl⟩ QE rfl
  (fun f fn hf hfn=>by
   obtain rfl:f=7:=Option.some.inj (Mf.symm.trans hf) |>.symm
   obtain rfl:fn=f7:=(Option.some.inj (func7.symm.trans hfn)).symm
   exact ⟨PV,fun j t ht=>by
    rw [params7] at ht
    have hm:t∈[25,40,47]:=by simpa using Array.mem_of_getElem? ht
    simpa using List.all_eq_true.1 PY t hm⟩)
  QC
end Go.Proofs.YtlbmpkmkmkgniaaGreatDoor
