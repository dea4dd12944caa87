/- Lemmas. -/
import Derived.Test.YtiaddfklojalbaaGreatRead5
import Derived.Test.YtiaddfklojalbaaGreatP138
import Derived.Test.YtiaddfklojalbaaGreatCon6
import Derived.Test.YtiaddfklojalbaaGreatU2r5
set_option linter.all false
set_option maxRecDepth 100000
open Option renaming none->W
namespace Go.Proofs.YtiaddfklojalbaaGreat
open Go Go.Sf Go.Sf.Sc Go.Proofs.Tryz
theorem cX:ownKnob prog.godebug=W:=an
theorem Xv:laidOutB prog=true:=an
theorem UA:Mr prog f5.params.toList (λa=>∃x bs,a=CQ x::bs/\∃y ds,bs=CM y::ds/\ds=[]):=by
 rw [params5];exact Jb a_ dL (λ_=>⟨_,rfl⟩) (Jb a_ dO (λ_=>⟨_,rfl⟩) QT)
theorem S5(a:Fq)(h:∃x bs,a=CQ x::bs/\∃y ds,bs=CM y::ds/\ds=[])(_:TV.pr a)(b:TV.Sms a):AW prog 5 a (.sh (.bool true)):=by
 obtain ⟨x,bs,rfl,y,ds,rfl,rfl⟩:=h;exact(c5 x y).snd true (SS x y b.1)
theorem Rg(os:Os)(a:os.Started)(H:Type)(enc:TypeId×Value->H):
  ReturnsInHanded {} checked os 5 .any (Rows.translateForwardSpec.pre6 enc prog f5 Rows.translateForwardRow.domain false) (Rows.translateForwardSpec.post enc prog f5 false true false false):=by
 refine returnsInHanded_of_change_sized (C:=checked) cX a an func5
  (ChangeSpec.witness6 (enc:=enc) (C:=checked) false ⟨#[],#[Value.agg #[.slice W 0 0,.slice W 0 0,.slice W 0 0,.slice W 0 0,.slice W 0 0],Value.agg #[.slice W 0 0,.slice W 0 0,.slice W 0 0]],[]⟩ 8 an an an an) ?_
 intro η base args ds gs b _ d _ c _;refine QI Xv an (tb:=4) an underlying4 rfl (λH ds hd=>?_) UA S5 H enc η args ds gs b d c
 match ds,hd with
 |[_,_],_=>rfl
theorem translateForward_holds:Rows.TranslateForwardSaid:=
 OpenClaim.holds_of_wide 5 f5 rfl rfl rfl rfl rfl rfl rfl ⟨rfl,rfl,rfl,rfl,rfl⟩ rfl rfl rfl rfl rfl S4 func5 S3
  (of_decide_eq_true an) e?
  (λos a H enc _=>Rg os a H enc)
end Go.Proofs.YtiaddfklojalbaaGreat
