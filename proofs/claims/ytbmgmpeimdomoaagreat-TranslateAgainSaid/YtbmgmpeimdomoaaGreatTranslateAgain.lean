/- Lemmas. -/
import Derived.Test.YtbmgmpeimdomoaaGreatRead5
import Derived.Test.YtbmgmpeimdomoaaGreatP203
import Derived.Test.YtbmgmpeimdomoaaGreatCon6
import Derived.Test.YtbmgmpeimdomoaaGreatU2r5
set_option linter.all false
set_option maxRecDepth 100000
namespace Go.Proofs.YtbmgmpeimdomoaaGreat
open Go Go.Sf Go.Sf.Sc Go.Proofs.Tryz
theorem py:ownKnob prog.godebug=none:=a!
theorem kJ:laidOutB prog=true:=a!
theorem Vg:PK prog f5.params.toList (λa=>∃x bs,a=D1 x::bs/\bs=[]):=by
 rw [params5];exact VU a_ qV (λ_=>⟨_,rfl⟩) VV
theorem Ub(a:Fq)(h:∃x bs,a=D1 x::bs/\bs=[])(b:TV.nm a)(_:TV.Sms a):AT prog 5 a (.sh (.bool true)):=by
 obtain ⟨x,bs,rfl,rfl⟩:=h;exact(c5 x).snd true (UW x b.1)
theorem UE(os:Os)(a:os.Started)(H:Type)(enc:TypeId×Value->H):
  ReturnsInHanded {} checked os 5 .any (Rows.translateAgainSpec.pre6 enc prog f5 Rows.translateAgainRow.domain false) (Rows.translateAgainSpec.post enc prog f5 false true false false):=by
 refine returnsInHanded_of_change_sized (C:=checked) py a a! func5
  (ChangeSpec.witness6 (enc:=enc) (C:=checked) false ⟨#[],#[Value.agg #[.slice none 0 0,.slice none 0 0]],[]⟩ 8 a! a! a! a!) ?_
 intro η base args ds gs b _ d _ c _;refine VA kJ a! (tb:=4) a! underlying4 rfl (λH ds hd=>?_) Vg Ub H enc η args ds gs b d c
 match ds,hd with
 |[_],_=>rfl
theorem translateAgain_holds:Rows.TranslateAgainSaid:=
 OpenClaim.holds_of_wide 5 f5 rfl rfl rfl rfl rfl rfl rfl ⟨rfl,rfl,rfl,rfl,rfl⟩ rfl rfl rfl rfl rfl Ua func5 UZ
  (of_decide_eq_true a!) (by unfold Func.isWrapper;first|(rw[Ne b!];kernel_rfl)|(rw[QQ b!];exact⟨rfl,rfl⟩))
  (λos a H enc _=>UE os a H enc)
end Go.Proofs.YtbmgmpeimdomoaaGreat
