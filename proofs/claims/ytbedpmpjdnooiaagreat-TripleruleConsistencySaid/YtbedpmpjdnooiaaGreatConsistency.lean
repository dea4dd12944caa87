/- Proved: for every input the law returns true, and each argument reads as it did; no condition beyond those of the row. -/
import Derived.Test.YtbedpmpjdnooiaaGreatRead
import Derived.Test.YtbedpmpjdnooiaaGreatP16
import Derived.Test.YtbedpmpjdnooiaaGreatCon3
import Derived.Test.YtbedpmpjdnooiaaGreatFns
import Derived.Test.YtbedpmpjdnooiaaGreatRows
import Derived.JoinedOf
import Derived.JoinedAt
import Derived.Handed
import Derived.SizedLaws
import Derived.Test.YtbedpmpjdnooiaaGreatT2
set_option maxRecDepth 100000
namespace Go.Proofs.YtbedpmpjdnooiaaGreat
open Go Go.Sf Go.Sf.Sc Go.Proofs.Tryz
theorem own0:ownKnob prog.godebug=none:=by kernel_rfl
theorem laid0:laidOutB prog=true:=by kernel_rfl
theorem consistencyArgs:ReadArgs prog f5.params.toList (fun az=>∃ x bs,az=elaw53_Case x::bs∧∃ y ds,bs=eRule y::ds∧ds=[]):=by
  rw [params5]
  exact readArgs_agg (by decide) rd30 (fun _=>⟨_,rfl⟩) (readArgs_agg (by decide) rd44 (fun _=>⟨_,rfl⟩) readArgs_nil)
theorem consistencySound (az:List TV) (h:∃ x bs,az=elaw53_Case x::bs∧∃ y ds,bs=eRule y::ds∧ds=[]) (hw:TV.WFs az) (hs:TV.Sms az):Sound prog 5 az (.sh (.bool true)):=by
  obtain ⟨x,bs,rfl,y,ds,rfl,rfl⟩:=h
  exact c5 x y true (plainConsistency x y hs.1 hs.2.1)
theorem consistencyLifted (os:Os) (started:os.Started) (H:Type) (enc:TypeId × Value->H) :
    ReturnsInHanded {} checked os 5 .any (Rows.tripleruleConsistencySpec.pre6 enc prog f5 Rows.tripleruleConsistencyRow.domain false) (Rows.tripleruleConsistencySpec.post enc prog f5 false true false false):=by
  refine returnsInHanded_of_change_sized (C:=checked) own0 started (by kernel_rfl) func5
    (ChangeSpec.witness6 (enc:=enc) (C:=checked) false ⟨#[],#[Value.agg #[.slice none 0 0,.slice none 0 0,.slice none 0 0,.slice none 0 0],
      Value.agg #[.string ⟨#[]⟩,.slice none 0 0,.slice none 0 0,.slice none 0 0,.int .i64 0,.slice none 0 0,.slice none 0 0,.slice none 0 0,.slice none 0 0,.int .i64 0,.slice none 0 0,
        .slice none 0 0,.slice none 0 0,.slice none 0 0,.slice none 0 0,.bool false,
        .int .i64 0,.slice none 0 0,.slice none 0 0,.slice none 0 0,.slice none 0 0,.slice none 0 0,.slice none 0 0,.int .i64 0,.slice none 0 0]],[]⟩ 8 (by kernel_rfl) (by kernel_rfl) (by kernel_rfl) (by kernel_rfl)) ?_
  intro W base args ds gs before _ hW _ hwt _
  refine law_contract laid0 (by kernel_rfl) (tb:=4) (by kernel_rfl) underlying4 rfl (fun H ds hd=>?_) consistencyArgs consistencySound H enc W args ds gs before hW hwt
  match ds,hd with
  | [_,_],_=>rfl
theorem consistency_holds:Rows.TripleruleConsistencySaid:=
  OpenClaim.holds_of_wide 5 f5 rfl rfl rfl rfl rfl rfl rfl ⟨rfl,rfl,rfl,rfl,rfl⟩ rfl rfl rfl rfl rfl consistencyNamed func5 consistencyFacts
    (of_decide_eq_true (by kernel_rfl)) (by unfold Func.isWrapper; first | (rw [if_pos (by decide +kernel)]; kernel_rfl) | (rw [if_neg (by decide +kernel)]; exact ⟨rfl,rfl⟩))
    (fun os started H enc _=>consistencyLifted os started H enc)
end Go.Proofs.YtbedpmpjdnooiaaGreat
