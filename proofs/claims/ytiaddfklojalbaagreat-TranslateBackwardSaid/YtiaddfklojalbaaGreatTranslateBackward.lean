/- Lemmas. -/
import Derived.Test.YtiaddfklojalbaaGreatRead3
import Derived.Test.YtiaddfklojalbaaGreatP138
import Derived.Test.YtiaddfklojalbaaGreatCon6
import Derived.Test.YtiaddfklojalbaaGreatU2r3
set_option linter.all false
set_option maxRecDepth 100000
open Option renaming none->W
namespace Go.Proofs.YtiaddfklojalbaaGreat
open Go Go.Sf Go.Sf.Sc Go.Proofs.Tryz
theorem cX:ownKnob prog.godebug=W:=an
theorem Xv:laidOutB prog=true:=an
theorem SY:Mr prog f3.params.toList (λa=>∃x bs,a=CQ x::bs/\∃y ds,bs=CM y::ds/\ds=[]):=by
 rw [params3];exact Jb a_ dL (λ_=>⟨_,rfl⟩) (Jb a_ dO (λ_=>⟨_,rfl⟩) QT)
theorem Rb(a:Fq)(h:∃x bs,a=CQ x::bs/\∃y ds,bs=CM y::ds/\ds=[])(_:TV.pr a)(b:TV.Sms a):AW prog 3 a (.sh (.bool true)):=by
 obtain ⟨x,bs,rfl,y,ds,rfl,rfl⟩:=h;exact(c3 x y).snd true (RU x y b.1)
theorem Qf(os:Os)(a:os.Started)(H:Type)(enc:TypeId×Value->H):
  ReturnsInHanded {} checked os 3 .any (Rows.translateBackwardSpec.pre6 enc prog f3 Rows.translateBackwardRow.domain false) (Rows.translateBackwardSpec.post enc prog f3 false true false false):=by
 refine returnsInHanded_of_change_sized (C:=checked) cX a an func3
  (ChangeSpec.witness6 (enc:=enc) (C:=checked) false ⟨#[],#[Value.agg #[.slice W 0 0,.slice W 0 0,.slice W 0 0,.slice W 0 0,.slice W 0 0],Value.agg #[.slice W 0 0,.slice W 0 0,.slice W 0 0]],[]⟩ 8 an an an an) ?_
 intro η base args ds gs b _ d _ c _;refine QI Xv an (tb:=4) an underlying4 rfl (λH ds hd=>?_) SY Rb H enc η args ds gs b d c
 match ds,hd with
 |[_,_],_=>rfl
theorem translateBackward_holds:Rows.TranslateBackwardSaid:=
 OpenClaim.holds_of_wide 3 f3 rfl rfl rfl rfl rfl rfl rfl ⟨rfl,rfl,rfl,rfl,rfl⟩ rfl rfl rfl rfl rfl Ra func3 RZ
  (of_decide_eq_true an) e?
  (λos a H enc _=>Qf os a H enc)
end Go.Proofs.YtiaddfklojalbaaGreat
