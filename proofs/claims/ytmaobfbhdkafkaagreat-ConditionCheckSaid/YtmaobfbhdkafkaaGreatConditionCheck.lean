/- Lemmas. -/
import Derived.Test.YtmaobfbhdkafkaaGreatRead
import Derived.Test.YtmaobfbhdkafkaaGreatP52
import Derived.Test.YtmaobfbhdkafkaaGreatCon2
import Derived.Test.YtmaobfbhdkafkaaGreatFns
import Derived.Test.YtmaobfbhdkafkaaGreatRows
import Derived.JoinedOf
import Derived.JoinedAt
import Derived.Handed
import Derived.SizedLaws
import Derived.Test.YtmaobfbhdkafkaaGreatU2
set_option maxRecDepth 100000
namespace Go.Proofs.YtmaobfbhdkafkaaGreat
open Go Go.Sf Go.Sf.Sc Go.Proofs.Tryz
theorem mp:ownKnob prog.godebug=none:=by kernel_rfl
theorem i7:laidOutB prog=true:=by kernel_rfl
theorem Oz:Mv prog f6.params.toList (fun az=>∃ x bs,az=AP x::bs∧∃ y cs,bs=GU y::cs∧∃ z ds,cs=Im z::ds∧ds=[]):=by
  rw [params6]
  exact M6 (by decide) ms (fun _=>⟨_,rfl⟩) (M6 (by decide) mz (fun _=>⟨_,rfl⟩) (M6 (by decide) m9 (fun _=>⟨_,rfl⟩) Tc))
theorem Om (az:List TV) (h:∃ x bs,az=AP x::bs∧∃ y cs,bs=GU y::cs∧∃ z ds,cs=Im z::ds∧ds=[]) (_:TV.WFs az) (hs:TV.Sms az):AV prog 6 az (.sh (.bool true)):=by
  obtain ⟨x,bs,rfl,y,cs,rfl,z,ds,rfl,rfl⟩:=h
  exact (c6 x y z).snd true (Ot x y z hs.1 hs.2.1 hs.2.2.1)
theorem N2 (os:Os) (started:os.Started) (H:Type) (enc:TypeId × Value->H) :
    ReturnsInHanded {} checked os 6 .any (Rows.conditionCheckSpec.pre6 enc prog f6 Rows.conditionCheckRow.domain false) (Rows.conditionCheckSpec.post enc prog f6 false true false false):=by
  refine returnsInHanded_of_change_sized (C:=checked) mp started (by kernel_rfl) func6
    (ChangeSpec.witness6 (enc:=enc) (C:=checked) false ⟨#[],#[Value.agg #[.slice none 0 0,.slice none 0 0],
      Value.agg #[.slice none 0 0,.slice none 0 0,.slice none 0 0,.int .i64 0,.slice none 0 0,.int .i64 0,.slice none 0 0,.slice none 0 0,.slice none 0 0,
        .slice none 0 0,.slice none 0 0,.slice none 0 0,.int .i64 0,.slice none 0 0],
      Value.agg #[.slice none 0 0,.slice none 0 0,.slice none 0 0,.slice none 0 0,.slice none 0 0,.slice none 0 0,.bool false,
        .int .i64 0,.slice none 0 0,.slice none 0 0,.slice none 0 0,.slice none 0 0]],[]⟩ 8 (by kernel_rfl) (by kernel_rfl) (by kernel_rfl) (by kernel_rfl)) ?_
  intro W base args ds gs before _ hW _ hwt _
  refine TC i7 (by kernel_rfl) (tb:=4) (by kernel_rfl) underlying4 rfl (fun H ds hd=>?_) Oz Om H enc W args ds gs before hW hwt
  match ds,hd with
  | [_,_,_],_=>rfl
theorem conditionCheck_holds:Rows.ConditionCheckSaid:=
  OpenClaim.holds_of_wide 6 f6 rfl rfl rfl rfl rfl rfl rfl ⟨rfl,rfl,rfl,rfl,rfl⟩ rfl rfl rfl rfl rfl Ol func6 Ok
    (of_decide_eq_true (by kernel_rfl)) (by unfold Func.isWrapper; first | (rw [if_pos (by decide +kernel)]; kernel_rfl) | (rw [if_neg (by decide +kernel)]; exact ⟨rfl,rfl⟩))
    (fun os started H enc _=>N2 os started H enc)
end Go.Proofs.YtmaobfbhdkafkaaGreat
