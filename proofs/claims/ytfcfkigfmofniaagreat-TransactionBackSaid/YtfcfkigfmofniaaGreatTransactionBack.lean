/- Lemmas. -/
import Derived.Test.YtfcfkigfmofniaaGreatRead3
import Derived.Test.YtfcfkigfmofniaaGreatP130
import Derived.Test.YtfcfkigfmofniaaGreatCon7
import Derived.Test.YtfcfkigfmofniaaGreatU2r3
set_option linter.all false
set_option maxRecDepth 100000
namespace Go.Proofs.YtfcfkigfmofniaaGreat
open Go Go.Sf Go.Sf.Sc Go.Proofs.Tryz
theorem xf:ownKnob prog.godebug=none:=a!
theorem vZ:laidOutB prog=true:=a!
theorem TK:M3 prog f3.params.toList (λa=>∃cs bs,a=cs++bs/\(∃x,cs=[HH x])/\∃ds es,bs=ds++es/\(∃l:List DF,ds=[.list 2 (l.map EC)])/\∃l:List DF,es=[.list 2 (l.map EC)]):=by
 rw [params3];exact R5 (ZI a? xi λ_=>⟨_,rfl⟩) (R5 (UY underlying22 bL) (UY underlying22 bL))
theorem S4(b:Fq)(h:∃cs bs,b=cs++bs/\(∃x,cs=[HH x])/\∃ds es,bs=ds++es/\(∃l:List DF,ds=[.list 2 (l.map EC)])/\∃l:List DF,es=[.list 2 (l.map EC)])(c:TV.tl b)(_:TV.zQ b):AX prog 3 b (.sh (.bool true)):=by
 obtain ⟨cs,bs,rfl,⟨x,rfl⟩,ds,es,rfl,⟨l,rfl⟩,k,rfl⟩:=h;exact(c3 x l k).snd true (Sr x l k (gP c.1) (λa h=>Um (FM c.2.1 a h)) λa h=>Um (FM c.2.2.1 a h))
theorem R9(os:Os)(a:os.Started)(H:Type)(enc:TypeId×Value->H):
  ReturnsInHanded {} checked os 3 .any (Rows.transactionBackSpec.pre6 enc prog f3 Rows.transactionBackRow.domain false) (Rows.transactionBackSpec.post enc prog f3 false true false false):=by
 refine returnsInHanded_of_change_sized (C:=checked) xf a a! func3
  (ChangeSpec.witness6 (enc:=enc) (C:=checked) false ⟨#[],#[Value.agg #[.slice none 0 0,.slice none 0 0,.slice none 0 0,.slice none 0 0,.slice none 0 0],.slice none 0 0,.slice none 0 0],[]⟩ 8 a! a! a! a!) ?_
 intro η base args ds g b c i _ d _;refine Wm vZ a! (tb:=4) a! underlying4 rfl (λH ds hd=>?_) S4 H enc η args ds g b i d (λk h=>TK H enc η base _ _ _ (λj t v e f=>c j t v (by rw[<-Array.getElem?_toList];exact e) (by rw[<-Array.getElem?_toList];exact f)) h)
 match ds,hd with
 |[_,_,_],_=>rfl
theorem transactionBack_holds:Rows.TransactionBackSaid:=
 OpenClaim.holds_of_wide 3 f3 rfl rfl rfl rfl rfl rfl rfl ⟨rfl,rfl,rfl,rfl,rfl⟩ rfl rfl rfl rfl rfl S3 func3 S2
  (of_decide_eq_true a!) (by unfold Func.isWrapper;first|(rw[ae d_];kernel_rfl)|(rw[az d_];exact⟨rfl,rfl⟩))
  (λos a H enc _=>R9 os a H enc)
end Go.Proofs.YtfcfkigfmofniaaGreat
