/- Lemmas. -/
import Derived.Test.YthcncnllajfkfaaGreatRead7
import Derived.Test.YthcncnllajfkfaaGreatP130
import Derived.Test.YthcncnllajfkfaaGreatCon6
import Derived.Test.YthcncnllajfkfaaGreatU2r7
set_option linter.all false
set_option maxRecDepth 100000
open Option renaming none->W
open Bool renaming false->T
namespace Go.Proofs.YthcncnllajfkfaaGreat
open Go Go.Sf Go.Sf.Sc Go.Proofs.Tryz
def ml:Array Value:=#[.slice W 0 0,.slice W 0 0,.slice W 0 0,.slice W 0 0,.int .u64 0,.slice W 0 0,.slice W 0 0,.slice W 0 0,.bool T,.bool T,.int .u8 0,.int .u8 0,.int .u8 0,.int .u8 0,.slice W 0 0]
theorem ACS:ownKnob prog.godebug=W:=a?
theorem AA0:laidOutB prog=true:=a?
theorem bj:Zw prog f7.params.toList (λa=>∃x,a=[I9 x]):=by
 rw [params7];exact cT a! ACZ λ_=>⟨_,rfl⟩
theorem ZX(a:Fq)(h:∃x,a=[I9 x])(b:TV.tc a)(_:TV.Sms a):AV prog 7 a (.sh (.bool true)):=by
 obtain ⟨x,rfl⟩:=h;exact(c7 x).snd true (Zj x (mG b.1))
theorem YX(os:Os)(a:os.Started)(H:Type)(enc:TypeId×Value->H):
  ReturnsInHanded {} checked os 7 .any (Rows.joinDepthSpec.pre6 enc prog f7 Rows.joinDepthRow.domain T) (Rows.joinDepthSpec.post enc prog f7 T true T T):=by
 refine returnsInHanded_of_change_sized (C:=checked) ACS a a? func7
  (ChangeSpec.witness6 (enc:=enc) (C:=checked) T ⟨#[],#[Value.agg (#[.slice W 0 0,.slice W 0 0]++ml++ml++#[.slice W 0 0,.slice W 0 0])],[]⟩ 8 a? a? a? a?) ?_
 intro η base args ds f before b g _ c _;refine Yb AA0 a? (tb:=4) a? underlying4 rfl (λH ds hd=>?_) ZX H enc η args ds f before g c (λi h=>bj H enc η base _ _ _ (λj t v d e=>b j t v (by rw[<-Array.getElem?_toList];exact d) (by rw[<-Array.getElem?_toList];exact e)) h)
 match ds,hd with
 |[_],_=>rfl
theorem joinDepth_holds:Rows.JoinDepthSaid:=
 OpenClaim.holds_of_wide 7 f7 rfl rfl rfl rfl rfl rfl rfl ⟨rfl,rfl,rfl,rfl,rfl⟩ rfl rfl rfl rfl rfl ZW func7 ZV
  (of_decide_eq_true a?) (by unfold Func.isWrapper;first|(rw[ac c!];kernel_rfl)|(rw[ae c!];exact⟨rfl,rfl⟩))
  (λos a H enc _=>YX os a H enc)
end Go.Proofs.YthcncnllajfkfaaGreat
