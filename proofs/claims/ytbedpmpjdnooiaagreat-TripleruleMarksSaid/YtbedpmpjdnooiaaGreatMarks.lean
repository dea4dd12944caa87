/- Proved: for every input the law returns true, and each argument reads as it did; no condition beyond those of the row. -/
import Derived.Test.YtbedpmpjdnooiaaGreatRead
import Derived.Test.YtbedpmpjdnooiaaGreatP21
import Derived.Test.YtbedpmpjdnooiaaGreatCon3
import Derived.Test.YtbedpmpjdnooiaaGreatFns
import Derived.Test.YtbedpmpjdnooiaaGreatRows
import Derived.JoinedOf
import Derived.JoinedAt
import Derived.Handed
import Derived.SizedLaws
import Derived.Test.YtbedpmpjdnooiaaGreatT2
set_option maxRecDepth 100000
namespace Go.Proofs.YtbedpmpjdnooiaaGreat
open Go Go.Sf Go.Sf.Sc Go.Proofs.Tryz
theorem own0:ownKnob prog.godebug=none:=by kernel_rfl
theorem laid0:laidOutB prog=true:=by kernel_rfl
theorem marksArgs:ReadArgs prog f6.params.toList (fun az=>∃ x bs,az=eref53_Draft x::bs∧bs=[]):=by
 rw [params6]
 exact readArgs_agg (by decide) rd62 (fun _=>⟨_,rfl⟩) readArgs_nil
theorem marksSound (az:List TV) (h:∃ x bs,az=eref53_Draft x::bs∧bs=[]) (hw:TV.WFs az) (_:TV.Sms az):Sound prog 6 az (.sh (.bool true)):=by
 obtain ⟨x,bs,rfl,rfl⟩:=h
 exact c6 x true (plainMarks x hw.1)
theorem marksLifted (os:Os) (started:os.Started) (H:Type) (enc:TypeId × Value->H) :
  ReturnsInHanded {} checked os 6 .any (Rows.tripleruleMarksSpec.pre6 enc prog f6 Rows.tripleruleMarksRow.domain false) (Rows.tripleruleMarksSpec.post enc prog f6 false true false false):=by
 refine returnsInHanded_of_change_sized (C:=checked) own0 started (by kernel_rfl) func6
  (ChangeSpec.witness6 (enc:=enc) (C:=checked) false ⟨#[],#[Value.agg #[.slice none 0 0,.slice none 0 0,.slice none 0 0,.slice none 0 0]],[]⟩ 8 (by kernel_rfl) (by kernel_rfl) (by kernel_rfl) (by kernel_rfl)) ?_
 intro W base args ds gs before _ hW _ hwt _
 refine law_contract laid0 (by kernel_rfl) (tb:=4) (by kernel_rfl) underlying4 rfl (fun H ds hd=>?_) marksArgs marksSound H enc W args ds gs before hW hwt
 match ds,hd with
 | [_],_=>rfl
theorem marks_holds:Rows.TripleruleMarksSaid:=
 OpenClaim.holds_of_wide 6 f6 rfl rfl rfl rfl rfl rfl rfl ⟨rfl,rfl,rfl,rfl,rfl⟩ rfl rfl rfl rfl rfl marksNamed func6 marksFacts
  (of_decide_eq_true (by kernel_rfl)) (by unfold Func.isWrapper; first | (rw [if_pos (by decide +kernel)]; kernel_rfl) | (rw [if_neg (by decide +kernel)]; exact ⟨rfl,rfl⟩))
  (fun os started H enc _=>marksLifted os started H enc)
end Go.Proofs.YtbedpmpjdnooiaaGreat
