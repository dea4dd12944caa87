/- Lemmas. -/
import Derived.Test.YtmaobfbhdkafkaaGreatRead
import Derived.Test.YtmaobfbhdkafkaaGreatP52
import Derived.Test.YtmaobfbhdkafkaaGreatCon2
import Derived.Test.YtmaobfbhdkafkaaGreatFns
import Derived.Test.YtmaobfbhdkafkaaGreatRows
import Derived.JoinedOf
import Derived.JoinedAt
import Derived.Handed
import Derived.SizedLaws
import Derived.Test.YtmaobfbhdkafkaaGreatU2
set_option maxRecDepth 100000
namespace Go.Proofs.YtmaobfbhdkafkaaGreat
open Go Go.Sf Go.Sf.Sc Go.Proofs.Tryz
theorem ma:ownKnob prog.godebug=none:=by kernel_rfl
theorem iu:laidOutB prog=true:=by kernel_rfl
theorem NX:Mq prog f4.params.toList (fun az=>∃ x bs,az=AP x::bs∧∃ y cs,bs=GQ y::cs∧∃ z ds,cs=Km z::ds∧ds=[]):=by
  rw [params4]
  exact M2 (by decide) md (fun _=>⟨_,rfl⟩) (M2 (by decide) mi (fun _=>⟨_,rfl⟩) (M2 (by decide) mp (fun _=>⟨_,rfl⟩) TN))
theorem M7 (az:List TV) (h:∃ x bs,az=AP x::bs∧∃ y cs,bs=GQ y::cs∧∃ z ds,cs=Km z::ds∧ds=[]) (_:TV.WFs az) (hs:TV.Sms az):AU prog 4 az (.sh (.bool true)):=by
  obtain ⟨x,bs,rfl,y,cs,rfl,z,ds,rfl,rfl⟩:=h
  exact (c4 x y z).snd true (NC x y z hs.1 hs.2.1 hs.2.2.1)
theorem Mu (os:Os) (started:os.Started) (H:Type) (enc:TypeId × Value->H) :
    ReturnsInHanded {} checked os 4 .any (Rows.conditionSatisfiesSpec.pre6 enc prog f4 Rows.conditionSatisfiesRow.domain false) (Rows.conditionSatisfiesSpec.post enc prog f4 false true false false):=by
  refine returnsInHanded_of_change_sized (C:=checked) ma started (by kernel_rfl) func4
    (ChangeSpec.witness6 (enc:=enc) (C:=checked) false ⟨#[],#[Value.agg #[.slice none 0 0,.slice none 0 0],
      Value.agg #[.slice none 0 0,.slice none 0 0,.slice none 0 0,.int .i64 0,.slice none 0 0,.int .i64 0,.slice none 0 0,.slice none 0 0,.slice none 0 0,
        .slice none 0 0,.slice none 0 0,.slice none 0 0,.int .i64 0,.slice none 0 0],
      Value.agg #[.slice none 0 0,.slice none 0 0,.slice none 0 0,.slice none 0 0,.slice none 0 0,.slice none 0 0,.bool false]],[]⟩ 8 (by kernel_rfl) (by kernel_rfl) (by kernel_rfl) (by kernel_rfl)) ?_
  intro W base args ds gs before _ hW _ hwt _
  refine Sx iu (by kernel_rfl) (tb:=4) (by kernel_rfl) underlying4 rfl (fun H ds hd=>?_) NX M7 H enc W args ds gs before hW hwt
  match ds,hd with
  | [_,_,_],_=>rfl
theorem conditionSatisfies_holds:Rows.ConditionSatisfiesSaid:=
  OpenClaim.holds_of_wide 4 f4 rfl rfl rfl rfl rfl rfl rfl ⟨rfl,rfl,rfl,rfl,rfl⟩ rfl rfl rfl rfl rfl M6 func4 M5
    (of_decide_eq_true (by kernel_rfl)) (by unfold Func.isWrapper; first | (rw [if_pos (by decide +kernel)]; kernel_rfl) | (rw [if_neg (by decide +kernel)]; exact ⟨rfl,rfl⟩))
    (fun os started H enc _=>Mu os started H enc)
end Go.Proofs.YtmaobfbhdkafkaaGreat
