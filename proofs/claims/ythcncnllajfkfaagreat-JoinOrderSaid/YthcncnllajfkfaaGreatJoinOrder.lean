/- Lemmas. -/
import Derived.Test.YthcncnllajfkfaaGreatRead5
import Derived.Test.YthcncnllajfkfaaGreatP130
import Derived.Test.YthcncnllajfkfaaGreatCon6
import Derived.Test.YthcncnllajfkfaaGreatU2r5
set_option linter.all false
set_option maxRecDepth 100000
open Option renaming none->W
open Bool renaming false->T
namespace Go.Proofs.YthcncnllajfkfaaGreat
open Go Go.Sf Go.Sf.Sc Go.Proofs.Tryz
def mY:Array Value:=#[.slice W 0 0,.slice W 0 0,.slice W 0 0,.slice W 0 0,.int .u64 0,.slice W 0 0,.slice W 0 0,.slice W 0 0,.bool T,.bool T,.int .u8 0,.int .u8 0,.int .u8 0,.int .u8 0,.slice W 0 0]
theorem ACI:ownKnob prog.godebug=W:=a?
theorem AAq:laidOutB prog=true:=a?
theorem bc:Of prog f5.params.toList (λa=>∃cs bs,a=cs++bs/\(∃x,cs=[I9 x])/\∃n:Int,bs=[.int .u8 n]):=by
 rw [params5];exact Zk (cM a! ACP λ_=>⟨_,rfl⟩) (cN underlying5 Vp)
theorem ZS(a:Fq)(h:∃cs bs,a=cs++bs/\(∃x,cs=[I9 x])/\∃n:Int,bs=[.int .u8 n])(b:TV.sc a)(_:TV.Sms a):AV prog 5 a (.sh (.bool true)):=by
 obtain ⟨cs,bs,rfl,⟨x,rfl⟩,n,rfl⟩:=h;exact(c5 x n).snd true (Zf x n (l6 b.1) (Kl b.2.1))
theorem YW(os:Os)(a:os.Started)(H:Type)(enc:TypeId×Value->H):
  ReturnsInHanded {} checked os 5 .any (Rows.joinOrderSpec.pre6 enc prog f5 Rows.joinOrderRow.domain T) (Rows.joinOrderSpec.post enc prog f5 T true T T):=by
 refine returnsInHanded_of_change_sized (C:=checked) ACI a a? func5
  (ChangeSpec.witness6 (enc:=enc) (C:=checked) T ⟨#[],#[Value.agg (#[.slice W 0 0,.slice W 0 0]++mY++mY++#[.slice W 0 0,.slice W 0 0]),.int .u8 0],[]⟩ 8 a? a? a? a?) ?_
 intro η base args ds f before b g _ c _;refine Ya AAq a? (tb:=4) a? underlying4 rfl (λH ds hd=>?_) ZS H enc η args ds f before g c (λi h=>bc H enc η base _ _ _ (λj t v d e=>b j t v (by rw[<-Array.getElem?_toList];exact d) (by rw[<-Array.getElem?_toList];exact e)) h)
 match ds,hd with
 |[_,_],_=>rfl
theorem joinOrder_holds:Rows.JoinOrderSaid:=
 OpenClaim.holds_of_wide 5 f5 rfl rfl rfl rfl rfl rfl rfl ⟨rfl,rfl,rfl,rfl,rfl⟩ rfl rfl rfl rfl rfl ZR func5 ZQ
  (of_decide_eq_true a?) (by unfold Func.isWrapper;first|(rw[ac c!];kernel_rfl)|(rw[ae c!];exact⟨rfl,rfl⟩))
  (λos a H enc _=>YW os a H enc)
end Go.Proofs.YthcncnllajfkfaaGreat
