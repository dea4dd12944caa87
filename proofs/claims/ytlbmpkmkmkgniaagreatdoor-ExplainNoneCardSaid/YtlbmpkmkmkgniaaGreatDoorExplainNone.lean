/- Lemmas. -/
import Derived.Test.YtlbmpkmkmkgniaaGreatDoorRead
import Derived.Test.YtlbmpkmkmkgniaaGreatDoorP73
import Derived.Test.YtlbmpkmkmkgniaaGreatDoorCon2
import Derived.Test.YtlbmpkmkmkgniaaGreatDoorFns
import Derived.Test.YtlbmpkmkmkgniaaGreatDoorRows
import Derived.Test.YtlbmpkmkmkgniaaGreatDoorCards
import Derived.Test.YtlbmpkmkmkgniaaGreatDoorTie
import Derived.SevenTiedAt
import Derived.LaidLaws
import Derived.Lay
import Derived.JoinedOf
import Derived.JoinedAt
import Derived.Handed
import Derived.SizedLaws
import Derived.Test.YtlbmpkmkmkgniaaGreatDoorU2
import Derived.Test.YtlbmpkmkmkgniaaGreatDoorU3
import Derived.Test.YtlbmpkmkmkgniaaGreatDoorU4
set_option maxRecDepth 100000
namespace Go.Proofs.YtlbmpkmkmkgniaaGreatDoor
open Go Go.Sf Go.Sf.Sc Go.Proofs.Tryz
theorem o6:ownKnob prog.godebug=none:=by kernel_rfl
theorem lv:laidOutB prog=true:=by kernel_rfl
theorem Q3:M5 prog f6.params.toList (fun az=>∃ x bs,az=At x::bs∧∃ y cs,bs=G4 y::cs∧∃ z ds,cs=Jv z::ds∧ds=[]):=by
 rw [params6]
 exact NK (by decide) o9 (fun _=>⟨_,rfl⟩) (NK (by decide) pF (fun _=>⟨_,rfl⟩) (NK (by decide) pJ (fun _=>⟨_,rfl⟩) Um))
theorem QV (az:List TV) (h:∃ x bs,az=At x::bs∧∃ y cs,bs=G4 y::cs∧∃ z ds,cs=Jv z::ds∧ds=[]) (_:TV.WFs az) (hs:TV.Sms az):AR prog 6 az (.sh (.bool true)):=by
 obtain ⟨x,bs,rfl,y,cs,rfl,z,ds,rfl,rfl⟩:=h
 exact (c6 x y z).snd true (Qh x y z hs.1 hs.2.1 hs.2.2.1)
theorem P5 (os:Os) (started:os.Started) (H:Type) (enc:TypeId × Value->H) :
  ReturnsInHanded {} checked os 6 .any (fun w args=>(Rows.explainNoneSpec.pre enc prog f6 Rows.explainNoneRow.domain false w args∧laidMetH prog Rows.explainNoneRow.laid w)∧sizedMet enc prog f6 (OpenSpec.ofChange Rows.explainNoneSpec) false w args) (Rows.explainNoneSpec.post enc prog f6 false true false false):=by
 refine returnsInHanded_of_change_and (C:=checked) (X:=fun w _=>laidMetH prog Rows.explainNoneRow.laid w) (fun _ _ _ hh h=>h.of_heap hh) o6 started (by kernel_rfl) func6
  (ChangeSpec.witness_shaped (enc:=enc) (C:=checked) (os:=os) (X:=fun w _=>laidMetH prog Rows.explainNoneRow.laid w) false (World.laidAll prog os Rows.explainNoneRow.laid) #[Value.agg #[.slice none 0 0,.slice none 0 0],
   Value.agg #[.slice none 0 0,.slice none 0 0,.slice none 0 0,.int .i64 0,.slice none 0 0,.int .i64 0,.slice none 0 0,.slice none 0 0,.slice none 0 0,
    .slice none 0 0,.slice none 0 0,.slice none 0 0,.int .i64 0,.slice none 0 0],
   Value.agg #[.slice none 0 0,.slice none 0 0,.slice none 0 0,.slice none 0 0,.slice none 0 0,.slice none 0 0,.bool false]] 8 (World.laidAll_os _ _ _)
   (World.shaped_of_ZipB (by kernel_rfl) (by kernel_rfl)) (by kernel_rfl) (by kernel_rfl) (by kernel_rfl)
   (by rw [MakeChecks.laidMetH_plain _ _ _ (by kernel_rfl)]; exact laidMet_laidAll _ (by kernel_rfl) (by kernel_rfl))) ?_
 intro W base args ds gs before _ hW _ hwt _ _
 refine UN lv (by kernel_rfl) (tb:=4) (by kernel_rfl) underlying4 rfl (fun H ds hd=>?_) Q3 QV H enc W args ds gs before hW hwt
 match ds,hd with
 | [_,_,_],_=>rfl
theorem explainNone_holds:Rows.ExplainNoneSaid:=
 OpenClaim.holds_of_wide 6 f6 rfl rfl rfl rfl rfl rfl rfl ⟨rfl,rfl,rfl,rfl,rfl⟩ rfl rfl rfl rfl rfl NC func6 QU
  (of_decide_eq_true (by kernel_rfl)) (by unfold Func.isWrapper; first | (rw [if_pos (by decide +kernel)]; kernel_rfl) | (rw [if_neg (by decide +kernel)]; exact ⟨rfl,rfl⟩))
  (fun os started H enc _=>P5 os started H enc)
theorem explainNone_card_holds:Rows.ExplainNoneCardSaid:=
 Claim7.holds_tied_plain_at .later [] [.data, .data, .data] true (true, "c921fc44d8610c9993e0e4f921ff1cbe5938a80994765491d6d95cd493d05d18") false
  explainNone_holds (fun _ h=>by cases h) RR (fun _ h=>by cases h) explainNone_row_tie rfl ⟨rfl,rfl⟩ QY rfl
  (fun f fn hf hfn=>by
   obtain rfl:f=6:=Option.some.inj (NC.symm.trans hf) |>.symm
   obtain rfl:fn=f6:=(Option.some.inj (func6.symm.trans hfn)).symm
   exact ⟨P6,fun j t ht=>by
    rw [params6] at ht
    have hm:t∈[25,40,47]:=by simpa using Array.mem_of_getElem? ht
    simpa using List.all_eq_true.1 P9 t hm⟩)
  QW
end Go.Proofs.YtlbmpkmkmkgniaaGreatDoor
