/- Lemmas. -/
import Derived.Test.YtmaobfbhdkafkaaGreatRead
import Derived.Test.YtmaobfbhdkafkaaGreatP52
import Derived.Test.YtmaobfbhdkafkaaGreatCon2
import Derived.Test.YtmaobfbhdkafkaaGreatFns
import Derived.Test.YtmaobfbhdkafkaaGreatRows
import Derived.JoinedOf
import Derived.JoinedAt
import Derived.Handed
import Derived.SizedLaws
import Derived.Test.YtmaobfbhdkafkaaGreatU2
set_option maxRecDepth 100000
namespace Go.Proofs.YtmaobfbhdkafkaaGreat
open Go Go.Sf Go.Sf.Sc Go.Proofs.Tryz
theorem mc:ownKnob prog.godebug=none:=by kernel_rfl
theorem iu:laidOutB prog=true:=by kernel_rfl
theorem N6:Mn prog f5.params.toList (fun az=>∃ x bs,az=AS x::bs∧∃ y cs,bs=GQ y::cs∧∃ z ds,cs=Ko z::ds∧ds=[]):=by
  rw [params5]
  exact My (by decide) mf (fun _=>⟨_,rfl⟩) (My (by decide) ml (fun _=>⟨_,rfl⟩) (My (by decide) mr (fun _=>⟨_,rfl⟩) TS))
theorem Ng (az:List TV) (h:∃ x bs,az=AS x::bs∧∃ y cs,bs=GQ y::cs∧∃ z ds,cs=Ko z::ds∧ds=[]) (_:TV.WFs az) (hs:TV.Sms az):AU prog 5 az (.sh (.bool true)):=by
  obtain ⟨x,bs,rfl,y,cs,rfl,z,ds,rfl,rfl⟩:=h
  exact (c5 x y z).snd true (Nr x y z hs.1 hs.2.1 hs.2.2.1)
theorem NP (os:Os) (started:os.Started) (H:Type) (enc:TypeId × Value->H) :
    ReturnsInHanded {} checked os 5 .any (Rows.conditionWitnessSpec.pre6 enc prog f5 Rows.conditionWitnessRow.domain false) (Rows.conditionWitnessSpec.post enc prog f5 false true false false):=by
  refine returnsInHanded_of_change_sized (C:=checked) mc started (by kernel_rfl) func5
    (ChangeSpec.witness6 (enc:=enc) (C:=checked) false ⟨#[],#[Value.agg #[.slice none 0 0,.slice none 0 0],
      Value.agg #[.slice none 0 0,.slice none 0 0,.slice none 0 0,.int .i64 0,.slice none 0 0,.int .i64 0,.slice none 0 0,.slice none 0 0,.slice none 0 0,
        .slice none 0 0,.slice none 0 0,.slice none 0 0,.int .i64 0,.slice none 0 0],
      Value.agg #[.slice none 0 0,.slice none 0 0,.slice none 0 0,.slice none 0 0,.slice none 0 0,.slice none 0 0,.bool false]],[]⟩ 8 (by kernel_rfl) (by kernel_rfl) (by kernel_rfl) (by kernel_rfl)) ?_
  intro W base args ds gs before _ hW _ hwt _
  refine S2 iu (by kernel_rfl) (tb:=4) (by kernel_rfl) underlying4 rfl (fun H ds hd=>?_) N6 Ng H enc W args ds gs before hW hwt
  match ds,hd with
  | [_,_,_],_=>rfl
theorem conditionWitness_holds:Rows.ConditionWitnessSaid:=
  OpenClaim.holds_of_wide 5 f5 rfl rfl rfl rfl rfl rfl rfl ⟨rfl,rfl,rfl,rfl,rfl⟩ rfl rfl rfl rfl rfl Nf func5 Nd
    (of_decide_eq_true (by kernel_rfl)) (by unfold Func.isWrapper; first | (rw [if_pos (by decide +kernel)]; kernel_rfl) | (rw [if_neg (by decide +kernel)]; exact ⟨rfl,rfl⟩))
    (fun os started H enc _=>NP os started H enc)
end Go.Proofs.YtmaobfbhdkafkaaGreat
