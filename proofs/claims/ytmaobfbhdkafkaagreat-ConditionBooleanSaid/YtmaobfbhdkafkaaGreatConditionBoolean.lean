/- Lemmas. -/
import Derived.Test.YtmaobfbhdkafkaaGreatRead
import Derived.Test.YtmaobfbhdkafkaaGreatP52
import Derived.Test.YtmaobfbhdkafkaaGreatCon2
import Derived.Test.YtmaobfbhdkafkaaGreatFns
import Derived.Test.YtmaobfbhdkafkaaGreatRows
import Derived.JoinedOf
import Derived.JoinedAt
import Derived.Handed
import Derived.SizedLaws
import Derived.Test.YtmaobfbhdkafkaaGreatU2
set_option maxRecDepth 100000
namespace Go.Proofs.YtmaobfbhdkafkaaGreat
open Go Go.Sf Go.Sf.Sc Go.Proofs.Tryz
theorem pv:ownKnob prog.godebug=none:=by kernel_rfl
theorem mJ:laidOutB prog=true:=by kernel_rfl
theorem Ob (az:List TV) (h:∃ x bs,az=I4 x::bs∧∃ b:Bool,bs=[.bool b]) (hw:TV.WFs az) (_:TV.Sms az):AS prog 7 az (.sh (.bool true)):=by
  obtain ⟨x,bs,rfl,b,rfl⟩:=h
  exact (c7 x b).snd true (Ok x b hw.1)
theorem OP (os:Os) (started:os.Started) (H:Type) (enc:TypeId × Value->H) :
    ReturnsInHanded {} checked os 7 .any (Rows.conditionBooleanSpec.pre6 enc prog f7 Rows.conditionBooleanRow.domain false) (Rows.conditionBooleanSpec.post enc prog f7 false true false false):=by
  refine returnsInHanded_of_change_sized (C:=checked) pv started (by kernel_rfl) func7
    (ChangeSpec.witness6 (enc:=enc) (C:=checked) false ⟨#[],#[Value.agg #[.slice none 0 0,.slice none 0 0,.slice none 0 0,.slice none 0 0,.slice none 0 0,.slice none 0 0,.slice none 0 0,.slice none 0 0,.slice none 0 0,.slice none 0 0],.bool false],[]⟩ 8 (by kernel_rfl) (by kernel_rfl) (by kernel_rfl) (by kernel_rfl)) ?_
  intro W base args ds gs before hok hW _ hwt _
  refine SA mJ (by kernel_rfl) (tb:=4) (by kernel_rfl) underlying4 rfl (fun H ds hd=>?_) Ob H enc W args ds gs before hW hwt (fun ps h=>Vn (by decide) p0 (fun _=>⟨_,rfl⟩) underlying4 (show f7.params.toList=[80,4] by rw [params7]) hok h)
  match ds,hd with
  | [_,_],_=>rfl
theorem conditionBoolean_holds:Rows.ConditionBooleanSaid:=
  OpenClaim.holds_of_wide 7 f7 rfl rfl rfl rfl rfl rfl rfl ⟨rfl,rfl,rfl,rfl,rfl⟩ rfl rfl rfl rfl rfl Oa func7 OZ
    (of_decide_eq_true (by kernel_rfl)) (by unfold Func.isWrapper; first | (rw [if_pos (by decide +kernel)]; kernel_rfl) | (rw [if_neg (by decide +kernel)]; exact ⟨rfl,rfl⟩))
    (fun os started H enc _=>OP os started H enc)
end Go.Proofs.YtmaobfbhdkafkaaGreat
