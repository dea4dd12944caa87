/- Lemmas. -/
import Derived.Test.YtbmgmpeimdomoaaGreatRead4
import Derived.Test.YtbmgmpeimdomoaaGreatP203
import Derived.Test.YtbmgmpeimdomoaaGreatCon6
import Derived.Test.YtbmgmpeimdomoaaGreatU2r4
set_option linter.all false
set_option maxRecDepth 100000
namespace Go.Proofs.YtbmgmpeimdomoaaGreat
open Go Go.Sf Go.Sf.Sc Go.Proofs.Tryz
theorem py:ownKnob prog.godebug=none:=a!
theorem kJ:laidOutB prog=true:=a!
theorem V5:PK prog f4.params.toList (λa=>∃x bs,a=D1 x::bs/\bs=[]):=by
 rw [params4];exact VU a_ qV (λ_=>⟨_,rfl⟩) VV
theorem Uh(a:Fq)(h:∃x bs,a=D1 x::bs/\bs=[])(b:TV.nm a)(_:TV.Sms a):AT prog 4 a (.sh (.bool true)):=by
 obtain ⟨x,bs,rfl,rfl⟩:=h;exact(c4 x).snd true (UX x b.1)
theorem UH(os:Os)(a:os.Started)(H:Type)(enc:TypeId×Value->H):
  ReturnsInHanded {} checked os 4 .any (Rows.translateSidesSpec.pre6 enc prog f4 Rows.translateSidesRow.domain false) (Rows.translateSidesSpec.post enc prog f4 false true false false):=by
 refine returnsInHanded_of_change_sized (C:=checked) py a a! func4
  (ChangeSpec.witness6 (enc:=enc) (C:=checked) false ⟨#[],#[Value.agg #[.slice none 0 0,.slice none 0 0]],[]⟩ 8 a! a! a! a!) ?_
 intro η base args ds gs b _ d _ c _;refine VA kJ a! (tb:=4) a! underlying4 rfl (λH ds hd=>?_) V5 Uh H enc η args ds gs b d c
 match ds,hd with
 |[_],_=>rfl
theorem translateSides_holds:Rows.TranslateSidesSaid:=
 OpenClaim.holds_of_wide 4 f4 rfl rfl rfl rfl rfl rfl rfl ⟨rfl,rfl,rfl,rfl,rfl⟩ rfl rfl rfl rfl rfl Ug func4 Uf
  (of_decide_eq_true a!) (by unfold Func.isWrapper;first|(rw[Ne b!];kernel_rfl)|(rw[QQ b!];exact⟨rfl,rfl⟩))
  (λos a H enc _=>UH os a H enc)
end Go.Proofs.YtbmgmpeimdomoaaGreat
