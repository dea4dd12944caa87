/- Lemmas. -/
import Derived.Test.YtbmgmpeimdomoaaGreatRead3
import Derived.Test.YtbmgmpeimdomoaaGreatP203
import Derived.Test.YtbmgmpeimdomoaaGreatCon6
import Derived.Test.YtbmgmpeimdomoaaGreatU2r3
set_option linter.all false
set_option maxRecDepth 100000
namespace Go.Proofs.YtbmgmpeimdomoaaGreat
open Go Go.Sf Go.Sf.Sc Go.Proofs.Tryz
theorem AAi:ownKnob prog.godebug=none:=b_
theorem ya:laidOutB prog=true:=b_
theorem U5:Q8 prog f3.params.toList (λa=>∃x bs,a=IH x::bs/\bs=[]):=by
 rw [params3];exact dK a_ AAk (λ_=>⟨_,rfl⟩) dL
theorem UC(a:Fq)(h:∃x bs,a=IH x::bs/\bs=[])(b:TV.ns a)(_:TV.Sms a):AS prog 3 a (.sh (.bool true)):=by
 obtain ⟨x,bs,rfl,rfl⟩:=h;exact(c3 x).snd true (T8 x b.1)
theorem Tp(os:Os)(a:os.Started)(H:Type)(enc:TypeId×Value->H):
  ReturnsInHanded {} checked os 3 .any (Rows.translateBuiltSpec.pre6 enc prog f3 Rows.translateBuiltRow.domain false) (Rows.translateBuiltSpec.post enc prog f3 false true false false):=by
 refine returnsInHanded_of_change_sized (C:=checked) AAi a b_ func3
  (ChangeSpec.witness6 (enc:=enc) (C:=checked) false ⟨#[],#[Value.agg #[.slice none 0 0,.slice none 0 0]],[]⟩ 8 b_ b_ b_ b_) ?_
 intro η base args ds gs b _ d _ c _;refine cN ya b_ (tb:=4) b_ underlying4 rfl (λH ds hd=>?_) U5 UC H enc η args ds gs b d c
 match ds,hd with
 |[_],_=>rfl
theorem translateBuilt_holds:Rows.TranslateBuiltSaid:=
 OpenClaim.holds_of_wide 3 f3 rfl rfl rfl rfl rfl rfl rfl ⟨rfl,rfl,rfl,rfl,rfl⟩ rfl rfl rfl rfl rfl UB func3 UA
  (of_decide_eq_true b_) (by unfold Func.isWrapper;first|(rw[Ne b!];kernel_rfl)|(rw[QQ b!];exact⟨rfl,rfl⟩))
  (λos a H enc _=>Tp os a H enc)
end Go.Proofs.YtbmgmpeimdomoaaGreat
