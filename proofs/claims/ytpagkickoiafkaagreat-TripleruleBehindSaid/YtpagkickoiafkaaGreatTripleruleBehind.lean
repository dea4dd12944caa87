/- Lemmas. -/
import Derived.Test.YtpagkickoiafkaaGreatRead3
import Derived.Test.YtpagkickoiafkaaGreatP210
import Derived.Test.YtpagkickoiafkaaGreatCon6
import Derived.Test.YtpagkickoiafkaaGreatU2r3
set_option linter.all false
set_option maxRecDepth 100000
namespace Go.Proofs.YtpagkickoiafkaaGreat
open Go Go.Sf Go.Sf.Sc Go.Proofs.Tryz
theorem gM:ownKnob prog.godebug=none:=a_
theorem dZ:laidOutB prog=true:=a_
theorem Nc:KM prog f3.params.toList (λa=>∃x bs,a=El x::bs/\∃y ds,bs=GK y::ds/\ds=[]):=by
 rw [params3];exact Oi a? gQ (λ_=>⟨_,rfl⟩) (Oi a? am (λ_=>⟨_,rfl⟩) Sn)
theorem MR(a:Fq)(h:∃x bs,a=El x::bs/\∃y ds,bs=GK y::ds/\ds=[])(b:TV.jU a)(_:TV.mw a):AO prog 3 a (.sh (.bool true)):=by
 obtain ⟨x,bs,rfl,y,ds,rfl,rfl⟩:=h;exact(c3 x y).snd true (plainTripleruleBehind x y b.1 b.2.1)
theorem Lx(os:Os)(a:os.Started)(H:Type)(enc:TypeId×Value->H):
  ReturnsInHanded {} checked os 3 .any (Rows.tripleruleBehindSpec.pre6 enc prog f3 Rows.tripleruleBehindRow.domain false) (Rows.tripleruleBehindSpec.post enc prog f3 false true false false):=by
 refine returnsInHanded_of_change_sized (C:=checked) gM a a_ func3
  (ChangeSpec.witness6 (enc:=enc) (C:=checked) false ⟨#[],#[Value.agg #[.slice none 0 0,.slice none 0 0,.slice none 0 0,.slice none 0 0],Value.agg #[.slice none 0 0,.slice none 0 0]],[]⟩ 8 a_ a_ a_ a_) ?_
 intro η base args ds gs b _ d _ c _;refine SY dZ a_ (tb:=4) a_ underlying4 rfl (λH ds hd=>?_) Nc MR H enc η args ds gs b d c
 match ds,hd with
 |[_,_],_=>rfl
theorem tripleruleBehind_holds:Rows.TripleruleBehindSaid:=
 OpenClaim.holds_of_wide 3 f3 rfl rfl rfl rfl rfl rfl rfl ⟨rfl,rfl,rfl,rfl,rfl⟩ rfl rfl rfl rfl rfl MQ func3 MP
  (of_decide_eq_true a_) (by unfold Func.isWrapper;first|(rw[ae b_];kernel_rfl)|(rw[az b_];exact⟨rfl,rfl⟩))
  (λos a H enc _=>Lx os a H enc)
end Go.Proofs.YtpagkickoiafkaaGreat
