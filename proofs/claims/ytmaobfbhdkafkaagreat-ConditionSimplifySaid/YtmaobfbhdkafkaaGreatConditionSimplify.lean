/- Lemmas. -/
import Derived.Test.YtmaobfbhdkafkaaGreatRead
import Derived.Test.YtmaobfbhdkafkaaGreatP25
import Derived.Test.YtmaobfbhdkafkaaGreatCon2
import Derived.Test.YtmaobfbhdkafkaaGreatFns
import Derived.Test.YtmaobfbhdkafkaaGreatRows
import Derived.JoinedOf
import Derived.JoinedAt
import Derived.Handed
import Derived.SizedLaws
import Derived.Test.YtmaobfbhdkafkaaGreatU2
set_option maxRecDepth 100000
namespace Go.Proofs.YtmaobfbhdkafkaaGreat
open Go Go.Sf Go.Sf.Sc Go.Proofs.Tryz
theorem own0:ownKnob prog.godebug=none:=by kernel_rfl
theorem laid0:laidOutB prog=true:=by kernel_rfl
theorem conditionSimplifyArgs:ReadArgs prog f9.params.toList (fun az=>∃ x bs,az=eCondition x::bs∧∃ y ds,bs=eCondition y::ds∧ds=[]):=by
  rw [params9]
  exact readArgs_agg (by decide) rd38 (fun _=>⟨_,rfl⟩) (readArgs_agg (by decide) rd38 (fun _=>⟨_,rfl⟩) readArgs_nil)
theorem conditionSimplifySound (az:List TV) (h:∃ x bs,az=eCondition x::bs∧∃ y ds,bs=eCondition y::ds∧ds=[]) (_:TV.WFs az) (hs:TV.Sms az):Sound prog 9 az (.sh (.bool true)):=by
  obtain ⟨x,bs,rfl,y,ds,rfl,rfl⟩:=h
  exact c9 x y true (plainConditionSimplify x y hs.1 hs.2.1)
theorem conditionSimplifyLifted (os:Os) (started:os.Started) (H:Type) (enc:TypeId × Value->H) :
    ReturnsInHanded {} checked os 9 .any (Rows.conditionSimplifySpec.pre6 enc prog f9 Rows.conditionSimplifyRow.domain false) (Rows.conditionSimplifySpec.post enc prog f9 false true false false):=by
  refine returnsInHanded_of_change_sized (C:=checked) own0 started (by kernel_rfl) func9
    (ChangeSpec.witness6 (enc:=enc) (C:=checked) false ⟨#[],#[Value.agg #[.int .i64 0,.slice none 0 0,.slice none 0 0,.slice none 0 0,.slice none 0 0,.slice none 0 0,.slice none 0 0,.int .i64 0,.slice none 0 0],
      Value.agg #[.int .i64 0,.slice none 0 0,.slice none 0 0,.slice none 0 0,.slice none 0 0,.slice none 0 0,.slice none 0 0,.int .i64 0,.slice none 0 0]],[]⟩ 8 (by kernel_rfl) (by kernel_rfl) (by kernel_rfl) (by kernel_rfl)) ?_
  intro W base args ds gs before _ hW _ hwt _
  refine law_contract laid0 (by kernel_rfl) (tb:=4) (by kernel_rfl) underlying4 B (fun H ds hd=>?_) conditionSimplifyArgs conditionSimplifySound H enc W args ds gs before hW hwt
  match ds,hd with
  | [_,_],_=>rfl
theorem conditionSimplify_holds:Rows.ConditionSimplifySaid:=
  OpenClaim.holds_of_wide 9 f9 rfl rfl rfl rfl rfl rfl rfl ⟨rfl,rfl,rfl,rfl,rfl⟩ rfl rfl rfl rfl rfl conditionSimplifyNamed func9 conditionSimplifyFacts
    (of_decide_eq_true (by kernel_rfl)) (by unfold Func.isWrapper; first | (rw [if_pos (by decide +kernel)]; kernel_rfl) | (rw [if_neg (by decide +kernel)]; exact ⟨rfl,rfl⟩))
    (fun os started H enc _=>conditionSimplifyLifted os started H enc)
end Go.Proofs.YtmaobfbhdkafkaaGreat
