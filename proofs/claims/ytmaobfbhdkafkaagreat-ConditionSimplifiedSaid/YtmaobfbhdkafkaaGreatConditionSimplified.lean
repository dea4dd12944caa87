/- Lemmas. -/
import Derived.Test.YtmaobfbhdkafkaaGreatRead
import Derived.Test.YtmaobfbhdkafkaaGreatP52
import Derived.Test.YtmaobfbhdkafkaaGreatCon2
import Derived.Test.YtmaobfbhdkafkaaGreatFns
import Derived.Test.YtmaobfbhdkafkaaGreatRows
import Derived.JoinedOf
import Derived.JoinedAt
import Derived.Handed
import Derived.SizedLaws
import Derived.Test.YtmaobfbhdkafkaaGreatU2
set_option maxRecDepth 100000
namespace Go.Proofs.YtmaobfbhdkafkaaGreat
open Go Go.Sf Go.Sf.Sc Go.Proofs.Tryz
theorem rz:ownKnob prog.godebug=none:=by kernel_rfl
theorem oN:laidOutB prog=true:=by kernel_rfl
theorem ON (az:List TV) (h:∃ x bs,az=JW x::bs∧∃ b:Bool,bs=[.bool b]) (hw:TV.WFs az) (_:TV.Sms az):AS prog 10 az (.sh (.bool true)):=by
  obtain ⟨x,bs,rfl,b,rfl⟩:=h
  exact (sL x b).snd true (OX x b hw.1)
theorem Nw (os:Os) (started:os.Started) (H:Type) (enc:TypeId × Value->H) :
    ReturnsInHanded {} checked os 10 .any (Rows.conditionSimplifiedSpec.pre6 enc prog f10 Rows.conditionSimplifiedRow.domain false) (Rows.conditionSimplifiedSpec.post enc prog f10 false true false false):=by
  refine returnsInHanded_of_change_sized (C:=checked) rz started (by kernel_rfl) func10
    (ChangeSpec.witness6 (enc:=enc) (C:=checked) false ⟨#[],#[Value.agg #[.slice none 0 0,.slice none 0 0,.slice none 0 0,.slice none 0 0,.slice none 0 0,.slice none 0 0,.slice none 0 0,.slice none 0 0,.slice none 0 0,.slice none 0 0],.bool false],[]⟩ 8 (by kernel_rfl) (by kernel_rfl) (by kernel_rfl) (by kernel_rfl)) ?_
  intro W base args ds gs before hok hW _ hwt _
  refine Sz oN (by kernel_rfl) (tb:=4) (by kernel_rfl) underlying4 rfl (fun H ds hd=>?_) ON H enc W args ds gs before hW hwt (fun ps h=>Wg (by decide) sF (fun _=>⟨_,rfl⟩) underlying4 (show f10.params.toList=[80,4] by rw [params10]) hok h)
  match ds,hd with
  | [_,_],_=>rfl
theorem conditionSimplified_holds:Rows.ConditionSimplifiedSaid:=
  OpenClaim.holds_of_wide 10 f10 rfl rfl rfl rfl rfl rfl rfl ⟨rfl,rfl,rfl,rfl,rfl⟩ rfl rfl rfl rfl rfl OM func10 OL
    (of_decide_eq_true (by kernel_rfl)) (by unfold Func.isWrapper; first | (rw [if_pos (by decide +kernel)]; kernel_rfl) | (rw [if_neg (by decide +kernel)]; exact ⟨rfl,rfl⟩))
    (fun os started H enc _=>Nw os started H enc)
end Go.Proofs.YtmaobfbhdkafkaaGreat
