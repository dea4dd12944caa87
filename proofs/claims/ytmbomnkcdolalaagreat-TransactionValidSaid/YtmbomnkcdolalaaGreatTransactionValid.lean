/- Lemmas. -/
import Derived.Test.YtmbomnkcdolalaaGreatRead
import Derived.Test.YtmbomnkcdolalaaGreatP96
import Derived.Test.YtmbomnkcdolalaaGreatCon3
import Derived.Test.YtmbomnkcdolalaaGreatFns
import Derived.Test.YtmbomnkcdolalaaGreatRows
import Derived.JoinedOf
import Derived.JoinedAt
import Derived.Handed
import Derived.SizedLaws
import Derived.Test.YtmbomnkcdolalaaGreatU2
set_option linter.all false
set_option maxRecDepth 100000
namespace Go.Proofs.YtmbomnkcdolalaaGreat
open Go Go.Sf Go.Sf.Sc Go.Proofs.Tryz
theorem sn:ownKnob prog.godebug=none:=by kernel_rfl
theorem qK:laidOutB prog=true:=by kernel_rfl
theorem Qo:OY prog f3.params.toList (fun a=>∃x bs,a=GO x::bs/\bs=[]):=by
 rw [params3];exact Xn (by decide) tC (fun _=>⟨_,rfl⟩) Xo
theorem P0(a:Fq)(h:∃x bs,a=GO x::bs/\bs=[])(_:TV.x9 a)(b:TV.Sms a):AQ prog 3 a (.sh (.bool true)):=by
 obtain ⟨x,bs,rfl,rfl⟩:=h;exact(c3 x).snd true (Pr x b.1)
theorem Pc(os:Os)(a:os.Started)(H:Type)(enc:TypeId×Value->H):
  ReturnsInHanded {} checked os 3 .any (Rows.transactionValidSpec.pre6 enc prog f3 Rows.transactionValidRow.domain false) (Rows.transactionValidSpec.post enc prog f3 false true false false):=by
 refine returnsInHanded_of_change_sized (C:=checked) sn a (by kernel_rfl) func3
  (ChangeSpec.witness6 (enc:=enc) (C:=checked) false ⟨#[],#[Value.agg #[.slice none 0 0,.slice none 0 0,.slice none 0 0,.slice none 0 0,.slice none 0 0,.slice none 0 0,.slice none 0 0,.slice none 0 0]],[]⟩ 8 (by kernel_rfl) (by kernel_rfl) (by kernel_rfl) (by kernel_rfl)) ?_
 intro W base args ds d b _ e _ c _;refine XF qK (by kernel_rfl) (tb:=4) (by kernel_rfl) underlying4 rfl (fun H ds hd=>?_) Qo P0 H enc W args ds d b e c
 match ds,hd with
 |[_],_=>rfl
theorem transactionValid_holds:Rows.TransactionValidSaid:=
 OpenClaim.holds_of_wide 3 f3 rfl rfl rfl rfl rfl rfl rfl ⟨rfl,rfl,rfl,rfl,rfl⟩ rfl rfl rfl rfl rfl Pz func3 Py
  (of_decide_eq_true (by kernel_rfl)) (by unfold Func.isWrapper;first|(rw[a6 (by decide +kernel)];kernel_rfl)|(rw[ae (by decide +kernel)];exact⟨rfl,rfl⟩))
  (fun os a H enc _=>Pc os a H enc)
end Go.Proofs.YtmbomnkcdolalaaGreat
