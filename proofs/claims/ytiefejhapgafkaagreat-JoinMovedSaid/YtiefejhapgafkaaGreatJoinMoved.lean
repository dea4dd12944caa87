/- Lemmas. -/
import Derived.Test.YtiefejhapgafkaaGreatRead3
import Derived.Test.YtiefejhapgafkaaGreatP130
import Derived.Test.YtiefejhapgafkaaGreatCon6
import Derived.Test.YtiefejhapgafkaaGreatU2r3
set_option linter.all false
set_option maxRecDepth 100000
open Option renaming none->W
open Bool renaming false->T
namespace Go.Proofs.YtiefejhapgafkaaGreat
open Go Go.Sf Go.Sf.Sc Go.Proofs.Tryz
def nM:Array Value:=#[.slice W 0 0,.slice W 0 0,.slice W 0 0,.slice W 0 0,.int .u64 0,.slice W 0 0,.slice W 0 0,.slice W 0 0,.bool T,.bool T,.int .u8 0,.int .u8 0,.int .u8 0,.int .u8 0,.slice W 0 0]
theorem ACp:ownKnob prog.godebug=W:=a?
theorem ABL:laidOutB prog=true:=a?
theorem b7:Z3 prog f3.params.toList (λa=>∃x,a=[JN x]):=by
 rw [params3];exact cg a! ACw λ_=>⟨_,rfl⟩
theorem Zg(a:Fq)(h:∃x,a=[JN x])(b:TV.pq a)(_:TV.Sms a):AV prog 3 a (.sh (.bool true)):=by
 obtain ⟨x,rfl⟩:=h;exact(c3 x).snd true (Zs x (mf b.1))
theorem Yh(os:Os)(a:os.Started)(H:Type)(enc:TypeId×Value->H):
  ReturnsInHanded {} checked os 3 .any (Rows.joinMovedSpec.pre6 enc prog f3 Rows.joinMovedRow.domain T) (Rows.joinMovedSpec.post enc prog f3 T true T T):=by
 refine returnsInHanded_of_change_sized (C:=checked) ACp a a? func3
  (ChangeSpec.witness6 (enc:=enc) (C:=checked) T ⟨#[],#[Value.agg (#[.slice W 0 0,.slice W 0 0]++nM++nM++#[.slice W 0 0,.slice W 0 0])],[]⟩ 8 a? a? a? a?) ?_
 intro η base args ds f before b g _ c _;refine Yl ABL a? (tb:=4) a? underlying4 rfl (λH ds hd=>?_) Zg H enc η args ds f before g c (λi h=>b7 H enc η base _ _ _ (λj t v d e=>b j t v (by rw[<-Array.getElem?_toList];exact d) (by rw[<-Array.getElem?_toList];exact e)) h)
 match ds,hd with
 |[_],_=>rfl
theorem joinMoved_holds:Rows.JoinMovedSaid:=
 OpenClaim.holds_of_wide 3 f3 rfl rfl rfl rfl rfl rfl rfl ⟨rfl,rfl,rfl,rfl,rfl⟩ rfl rfl rfl rfl rfl Zf func3 Ze
  (of_decide_eq_true a?) (by unfold Func.isWrapper;first|(rw[ac c_];kernel_rfl)|(rw[ae c_];exact⟨rfl,rfl⟩))
  (λos a H enc _=>Yh os a H enc)
end Go.Proofs.YtiefejhapgafkaaGreat
