/- Lemmas. -/
import Derived.Test.YtfcfkigfmofniaaGreatRead4
import Derived.Test.YtfcfkigfmofniaaGreatP130
import Derived.Test.YtfcfkigfmofniaaGreatCon7
import Derived.Test.YtfcfkigfmofniaaGreatFns
import Derived.Test.YtfcfkigfmofniaaGreatRows
import Derived.JoinedOf
import Derived.JoinedAt
import Derived.Handed
import Derived.SizedLaws
import Derived.Test.YtfcfkigfmofniaaGreatU2r4
set_option linter.all false
set_option maxRecDepth 100000
namespace Go.Proofs.YtfcfkigfmofniaaGreat
open Go Go.Sf Go.Sf.Sc Go.Proofs.Tryz
theorem xR:ownKnob prog.godebug=none:=by kernel_rfl
theorem vN:laidOutB prog=true:=by kernel_rfl
theorem Sz:M2 prog f4.params.toList (fun a=>∃cs bs,a=cs++bs/\(∃x,cs=[HC x])/\∃l:List EY,bs=[.list 2 (l.map Fo)]):=by
 rw [params4];exact Xm (Y3 (by decide) xU fun _=>⟨_,rfl⟩) (ax underlying22 fM)
theorem R5(b:Fq)(h:∃cs bs,b=cs++bs/\(∃x,cs=[HC x])/\∃l:List EY,bs=[.list 2 (l.map Fo)])(c:TV.tg b)(_:TV.zy b):AX prog 4 b (.sh (.bool true)):=by
 obtain ⟨cs,bs,rfl,⟨x,rfl⟩,l,rfl⟩:=h;exact(c4 x l).snd true (Ry x l (fx c.1) fun a k=>XE (F1 c.2.1 a k))
theorem RZ(os:Os)(a:os.Started)(H:Type)(enc:TypeId×Value->H):
  ReturnsInHanded {} checked os 4 .any (Rows.transactionStaysSpec.pre6 enc prog f4 Rows.transactionStaysRow.domain false) (Rows.transactionStaysSpec.post enc prog f4 false true false false):=by
 refine returnsInHanded_of_change_sized (C:=checked) xR a (by kernel_rfl) func4
  (ChangeSpec.witness6 (enc:=enc) (C:=checked) false ⟨#[],#[Value.agg #[.slice none 0 0,.slice none 0 0,.slice none 0 0,.slice none 0 0,.slice none 0 0],.slice none 0 0],[]⟩ 8 (by kernel_rfl) (by kernel_rfl) (by kernel_rfl) (by kernel_rfl)) ?_
 intro W base args ds g b c i _ d _;refine Wa vN (by kernel_rfl) (tb:=4) (by kernel_rfl) underlying4 rfl (fun H ds hd=>?_) R5 H enc W args ds g b i d (fun k h=>Sz H enc W base _ _ _ (fun j t v e f=>c j t v (by rw[<-Array.getElem?_toList];exact e) (by rw[<-Array.getElem?_toList];exact f)) h)
 match ds,hd with
 |[_,_],_=>rfl
theorem transactionStays_holds:Rows.TransactionStaysSaid:=
 OpenClaim.holds_of_wide 4 f4 rfl rfl rfl rfl rfl rfl rfl ⟨rfl,rfl,rfl,rfl,rfl⟩ rfl rfl rfl rfl rfl R4 func4 R3
  (of_decide_eq_true (by kernel_rfl)) (by unfold Func.isWrapper;first|(rw[ae (by decide +kernel)];kernel_rfl)|(rw[az (by decide +kernel)];exact⟨rfl,rfl⟩))
  (fun os a H enc _=>RZ os a H enc)
end Go.Proofs.YtfcfkigfmofniaaGreat
