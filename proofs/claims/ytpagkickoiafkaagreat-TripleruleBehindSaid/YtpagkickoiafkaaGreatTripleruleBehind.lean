/- Lemmas. -/
import Derived.Test.YtpagkickoiafkaaGreatRead3
import Derived.Test.YtpagkickoiafkaaGreatP210
import Derived.Test.YtpagkickoiafkaaGreatCon6
import Derived.Test.YtpagkickoiafkaaGreatU2r3
set_option linter.all false
set_option maxRecDepth 100000
namespace Go.Proofs.YtpagkickoiafkaaGreat
open Go Go.Sf Go.Sf.Sc Go.Proofs.Tryz
theorem AAt:ownKnob prog.godebug=none:=b_
theorem yw:laidOutB prog=true:=b_
theorem Tw:Q5 prog f3.params.toList (λa=>∃x bs,a=GU x::bs/\∃y ds,bs=Hh y::ds/\ds=[]):=by
 rw [params3];exact VF a_ AAw (λ_=>⟨_,rfl⟩) (VF a_ wU (λ_=>⟨_,rfl⟩) dN)
theorem Sz(a:Fq)(h:∃x bs,a=GU x::bs/\∃y ds,bs=Hh y::ds/\ds=[])(b:TV.k7 a)(_:TV.Sms a):AV prog 3 a (.sh (.bool true)):=by
 obtain ⟨x,bs,rfl,y,ds,rfl,rfl⟩:=h;exact(c3 x y).snd true (Sl x y b.1 b.2.1)
theorem SP(os:Os)(a:os.Started)(H:Type)(enc:TypeId×Value->H):
  ReturnsInHanded {} checked os 3 .any (Rows.tripleruleBehindSpec.pre6 enc prog f3 Rows.tripleruleBehindRow.domain false) (Rows.tripleruleBehindSpec.post enc prog f3 false true false false):=by
 refine returnsInHanded_of_change_sized (C:=checked) AAt a b_ func3
  (ChangeSpec.witness6 (enc:=enc) (C:=checked) false ⟨#[],#[Value.agg #[.slice none 0 0,.slice none 0 0,.slice none 0 0,.slice none 0 0],Value.agg #[.slice none 0 0,.slice none 0 0]],[]⟩ 8 b_ b_ b_ b_) ?_
 intro η base args ds gs b _ d _ c _;refine cM yw b_ (tb:=4) b_ underlying4 rfl (λH ds hd=>?_) Tw Sz H enc η args ds gs b d c
 match ds,hd with
 |[_,_],_=>rfl
theorem tripleruleBehind_holds:Rows.TripleruleBehindSaid:=
 OpenClaim.holds_of_wide 3 f3 rfl rfl rfl rfl rfl rfl rfl ⟨rfl,rfl,rfl,rfl,rfl⟩ rfl rfl rfl rfl rfl Sx func3 Sw
  (of_decide_eq_true b_) (by unfold Func.isWrapper;first|(rw[QQ b!];kernel_rfl)|(rw[aE b!];exact⟨rfl,rfl⟩))
  (λos a H enc _=>SP os a H enc)
end Go.Proofs.YtpagkickoiafkaaGreat
