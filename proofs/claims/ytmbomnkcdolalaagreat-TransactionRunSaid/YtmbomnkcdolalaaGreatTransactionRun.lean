/- Lemmas. -/
import Derived.Test.YtmbomnkcdolalaaGreatRead5
import Derived.Test.YtmbomnkcdolalaaGreatP96
import Derived.Test.YtmbomnkcdolalaaGreatCon3
import Derived.Test.YtmbomnkcdolalaaGreatFns
import Derived.Test.YtmbomnkcdolalaaGreatRows
import Derived.JoinedOf
import Derived.JoinedAt
import Derived.Handed
import Derived.SizedLaws
import Derived.Test.YtmbomnkcdolalaaGreatU2r5
set_option linter.all false
set_option maxRecDepth 100000
namespace Go.Proofs.YtmbomnkcdolalaaGreat
open Go Go.Sf Go.Sf.Sc Go.Proofs.Tryz
theorem aJ:ownKnob prog.godebug=none:=by kernel_rfl
theorem We:laidOutB prog=true:=by kernel_rfl
theorem Ts:L0 prog f5.params.toList (fun a=>∃cs bs,a=cs++bs/\(∃x,cs=[CP x])/\∃l:List BJ,bs=[.list 5 (l.map Dk)]):=by
 rw [params5];exact Xr (Yz (by decide) bA fun _=>⟨_,rfl⟩) (bI underlying64 wz)
theorem dY:∀{l:List BJ},TV.Sms (l.map Dk)->∀a∈l,(Dk a).Sm
 |x::l,h,a,b=>by
  rcases List.mem_cons.1 b with rfl|b
  .exact h.1
  .exact dY h.2 a b
theorem Sa(a:Fq)(h:∃cs bs,a=cs++bs/\(∃x,cs=[CP x])/\∃l:List BJ,bs=[.list 5 (l.map Dk)])(_:TV.x8 a)(b:TV.Sms a):AV prog 5 a (.sh (.bool true)):=by
 obtain ⟨cs,bs,rfl,⟨x,rfl⟩,l,rfl⟩:=h;exact(c5 x l).snd true (ST x l b.1 (dY b.2.1.2))
theorem SI(os:Os)(a:os.Started)(H:Type)(enc:TypeId×Value->H):
  ReturnsInHanded {} checked os 5 .any (Rows.transactionRunSpec.pre6 enc prog f5 Rows.transactionRunRow.domain false) (Rows.transactionRunSpec.post enc prog f5 false true false false):=by
 refine returnsInHanded_of_change_sized (C:=checked) aJ a (by kernel_rfl) func5
  (ChangeSpec.witness6 (enc:=enc) (C:=checked) false ⟨#[],#[Value.agg #[.slice none 0 0,.slice none 0 0,.slice none 0 0,.slice none 0 0,.slice none 0 0,.slice none 0 0,.slice none 0 0,.slice none 0 0],.slice none 0 0],[]⟩ 8 (by kernel_rfl) (by kernel_rfl) (by kernel_rfl) (by kernel_rfl)) ?_
 intro W base args ds g b c i _ d _;refine Qb We (by kernel_rfl) (tb:=4) (by kernel_rfl) underlying4 rfl (fun H ds hd=>?_) Sa H enc W args ds g b i d (fun k h=>Ts H enc W base _ _ _ (fun j t v e f=>c j t v (by rw[<-Array.getElem?_toList];exact e) (by rw[<-Array.getElem?_toList];exact f)) h)
 match ds,hd with
 |[_,_],_=>rfl
theorem transactionRun_holds:Rows.TransactionRunSaid:=
 OpenClaim.holds_of_wide 5 f5 rfl rfl rfl rfl rfl rfl rfl ⟨rfl,rfl,rfl,rfl,rfl⟩ rfl rfl rfl rfl rfl SZ func5 SY
  (of_decide_eq_true (by kernel_rfl)) (by unfold Func.isWrapper;first|(rw[a6 (by decide +kernel)];kernel_rfl)|(rw[ae (by decide +kernel)];exact⟨rfl,rfl⟩))
  (fun os a H enc _=>SI os a H enc)
end Go.Proofs.YtmbomnkcdolalaaGreat
