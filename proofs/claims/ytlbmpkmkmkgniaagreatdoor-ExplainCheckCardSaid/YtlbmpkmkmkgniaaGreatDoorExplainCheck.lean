/- Lemmas. -/
import Derived.Test.YtlbmpkmkmkgniaaGreatDoorRead
import Derived.Test.YtlbmpkmkmkgniaaGreatDoorP73
import Derived.Test.YtlbmpkmkmkgniaaGreatDoorCon3
import Derived.Test.YtlbmpkmkmkgniaaGreatDoorFns
import Derived.Test.YtlbmpkmkmkgniaaGreatDoorRows
import Derived.Test.YtlbmpkmkmkgniaaGreatDoorCards
import Derived.Test.YtlbmpkmkmkgniaaGreatDoorTie
import Derived.SevenTiedAt
import Derived.LaidLaws
import Derived.Lay
import Derived.JoinedOf
import Derived.JoinedAt
import Derived.Handed
import Derived.SizedLaws
import Derived.Test.YtlbmpkmkmkgniaaGreatDoorU2
import Derived.Test.YtlbmpkmkmkgniaaGreatDoorU3
import Derived.Test.YtlbmpkmkmkgniaaGreatDoorU4
set_option linter.all false
set_option maxRecDepth 100000
namespace Go.Proofs.YtlbmpkmkmkgniaaGreatDoor
open Go Go.Sf Go.Sf.Sc Go.Proofs.Tryz
theorem tj:ownKnob prog.godebug=none:=by kernel_rfl
theorem qB:laidOutB prog=true:=by kernel_rfl
theorem Sj:Oo prog f4.params.toList (fun az=>∃ x bs,az=AV x::bs∧∃ y cs,bs=H3 y::cs∧∃ z ds,cs=K9 z::ds∧ds=[]):=by
 rw [params4];exact O6 (by decide) tr (fun _=>⟨_,rfl⟩) (O6 (by decide) t6 (fun _=>⟨_,rfl⟩) (O6 (by decide) uD (fun _=>⟨_,rfl⟩) XC))
theorem SG (az:List TV) (h:∃ x bs,az=AV x::bs∧∃ y cs,bs=H3 y::cs∧∃ z ds,cs=K9 z::ds∧ds=[]) (_:TV.WFs az) (hs:TV.Sms az):AT prog 4 az (.sh (.bool true)):=by
 obtain ⟨x,bs,rfl,y,cs,rfl,z,ds,rfl,rfl⟩:=h;exact (c4 x y z).snd true (SM x y z hs.1 hs.2.1 hs.2.2.1)
theorem RU (os:Os) (started:os.Started) (H:Type) (enc:TypeId × Value->H) :
  ReturnsInHanded {} checked os 4 .any (fun w args=>(Rows.explainCheckSpec.pre enc prog f4 Rows.explainCheckRow.domain false w args∧laidMetH prog Rows.explainCheckRow.laid w)∧sizedMet enc prog f4 (OpenSpec.ofChange Rows.explainCheckSpec) false w args) (Rows.explainCheckSpec.post enc prog f4 false true false false):=by
 refine returnsInHanded_of_change_and (C:=checked) (X:=fun w _=>laidMetH prog Rows.explainCheckRow.laid w) (fun _ _ _ hh h=>h.of_heap hh) tj started (by kernel_rfl) func4
  (ChangeSpec.witness_shaped (enc:=enc) (C:=checked) (os:=os) (X:=fun w _=>laidMetH prog Rows.explainCheckRow.laid w) false (World.laidAll prog os Rows.explainCheckRow.laid) #[Value.agg #[.slice none 0 0,.slice none 0 0],
   Value.agg #[.slice none 0 0,.slice none 0 0,.slice none 0 0,.int .i64 0,.slice none 0 0,.int .i64 0,.slice none 0 0,.slice none 0 0,.slice none 0 0,
    .slice none 0 0,.slice none 0 0,.slice none 0 0,.int .i64 0,.slice none 0 0],
   Value.agg #[.slice none 0 0,.slice none 0 0,.slice none 0 0,.slice none 0 0,.slice none 0 0,.slice none 0 0,.bool false,.slice none 0 0]] 8 (World.laidAll_os _ _ _)
   (World.shaped_of_ZipB (by kernel_rfl) (by kernel_rfl)) (by kernel_rfl) (by kernel_rfl) (by kernel_rfl)
   (by rw [MakeChecks.laidMetH_plain _ _ _ (by kernel_rfl)]; exact laidMet_laidAll _ (by kernel_rfl) (by kernel_rfl))) ?_
 intro W base args ds gs before _ hW _ hwt _ _;refine Wf qB (by kernel_rfl) (tb:=4) (by kernel_rfl) underlying4 rfl (fun H ds hd=>?_) Sj SG H enc W args ds gs before hW hwt
 match ds,hd with
 | [_,_,_],_=>rfl
theorem explainCheck_holds:Rows.ExplainCheckSaid:=
 OpenClaim.holds_of_wide 4 f4 rfl rfl rfl rfl rfl rfl rfl ⟨rfl,rfl,rfl,rfl,rfl⟩ rfl rfl rfl rfl rfl OP func4 SF
  (of_decide_eq_true (by kernel_rfl)) (by unfold Func.isWrapper; first | (rw [if_pos (by decide +kernel)]; kernel_rfl) | (rw [if_neg (by decide +kernel)]; exact ⟨rfl,rfl⟩))
  (fun os started H enc _=>RU os started H enc)
theorem explainCheck_card_holds:Rows.ExplainCheckCardSaid:=
 Claim7.holds_tied_plain_at .later [] [.data, .data, .data] true (true, "c921fc44d8610c9993e0e4f921ff1cbe5938a80994765491d6d95cd493d05d18") false
  explainCheck_holds (fun _ h=>by cases h) TB (fun _ h=>by cases h) explainCheck_row_tie rfl ⟨rfl,rfl⟩ SJ rfl
  (fun f fn hf hfn=>by
   obtain rfl:f=4:=Option.some.inj (OP.symm.trans hf) |>.symm;obtain rfl:fn=f4:=(Option.some.inj (func4.symm.trans hfn)).symm;exact ⟨RW,fun j t ht=>by
    rw [params4] at ht;have hm:t∈[25,40,57]:=by simpa using Array.mem_of_getElem? ht
    simpa using List.all_eq_true.1 RZ t hm⟩)
  SH
end Go.Proofs.YtlbmpkmkmkgniaaGreatDoor
