/- Lemmas. -/
import Derived.Test.YtmaobfbhdkafkaaGreatRead
import Derived.Test.YtmaobfbhdkafkaaGreatP52
import Derived.Test.YtmaobfbhdkafkaaGreatCon2
import Derived.Test.YtmaobfbhdkafkaaGreatFns
import Derived.Test.YtmaobfbhdkafkaaGreatRows
import Derived.JoinedOf
import Derived.JoinedAt
import Derived.Handed
import Derived.SizedLaws
import Derived.Test.YtmaobfbhdkafkaaGreatU2
set_option maxRecDepth 100000
namespace Go.Proofs.YtmaobfbhdkafkaaGreat
open Go Go.Sf Go.Sf.Sc Go.Proofs.Tryz
theorem p4:ownKnob prog.godebug=none:=by kernel_rfl
theorem mP:laidOutB prog=true:=by kernel_rfl
theorem Of (az:List TV) (h:∃ x bs,az=I5 x::bs∧∃ b:Bool,bs=[.bool b]) (hw:TV.WFs az) (_:TV.Sms az):AS prog 8 az (.sh (.bool true)):=by
  obtain ⟨x,bs,rfl,b,rfl⟩:=h
  exact (c8 x b).snd true (Oo x b hw.1)
theorem OT (os:Os) (started:os.Started) (H:Type) (enc:TypeId × Value->H) :
    ReturnsInHanded {} checked os 8 .any (Rows.conditionExtendsSpec.pre6 enc prog f8 Rows.conditionExtendsRow.domain false) (Rows.conditionExtendsSpec.post enc prog f8 false true false false):=by
  refine returnsInHanded_of_change_sized (C:=checked) p4 started (by kernel_rfl) func8
    (ChangeSpec.witness6 (enc:=enc) (C:=checked) false ⟨#[],#[Value.agg #[.slice none 0 0,.slice none 0 0,.slice none 0 0,.slice none 0 0,.slice none 0 0,.slice none 0 0,.slice none 0 0,.slice none 0 0,.slice none 0 0,.slice none 0 0],.bool false],[]⟩ 8 (by kernel_rfl) (by kernel_rfl) (by kernel_rfl) (by kernel_rfl)) ?_
  intro W base args ds gs before hok hW _ hwt _
  refine SA mP (by kernel_rfl) (tb:=4) (by kernel_rfl) underlying4 rfl (fun H ds hd=>?_) Of H enc W args ds gs before hW hwt (fun ps h=>Vk (by decide) p9 (fun _=>⟨_,rfl⟩) underlying4 (show f8.params.toList=[80,4] by rw [params8]) hok h)
  match ds,hd with
  | [_,_],_=>rfl
theorem conditionExtends_holds:Rows.ConditionExtendsSaid:=
  OpenClaim.holds_of_wide 8 f8 rfl rfl rfl rfl rfl rfl rfl ⟨rfl,rfl,rfl,rfl,rfl⟩ rfl rfl rfl rfl rfl Oe func8 Od
    (of_decide_eq_true (by kernel_rfl)) (by unfold Func.isWrapper; first | (rw [if_pos (by decide +kernel)]; kernel_rfl) | (rw [if_neg (by decide +kernel)]; exact ⟨rfl,rfl⟩))
    (fun os started H enc _=>OT os started H enc)
end Go.Proofs.YtmaobfbhdkafkaaGreat
