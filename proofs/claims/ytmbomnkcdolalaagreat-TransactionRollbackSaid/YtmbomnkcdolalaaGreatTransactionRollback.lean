/- Lemmas. -/
import Derived.Test.YtmbomnkcdolalaaGreatRead4
import Derived.Test.YtmbomnkcdolalaaGreatP96
import Derived.Test.YtmbomnkcdolalaaGreatCon3
import Derived.Test.YtmbomnkcdolalaaGreatFns
import Derived.Test.YtmbomnkcdolalaaGreatRows
import Derived.JoinedOf
import Derived.JoinedAt
import Derived.Handed
import Derived.SizedLaws
import Derived.Test.YtmbomnkcdolalaaGreatU2r4
set_option linter.all false
set_option maxRecDepth 100000
namespace Go.Proofs.YtmbomnkcdolalaaGreat
open Go Go.Sf Go.Sf.Sc Go.Proofs.Tryz
theorem aJ:ownKnob prog.godebug=none:=by kernel_rfl
theorem We:laidOutB prog=true:=by kernel_rfl
theorem Px:NI prog f4.params.toList (fun a=>∃x bs,a=CP x::bs/\bs=[]):=by
 rw [params4];exact Mp (by decide) bA (fun _=>⟨_,rfl⟩) Pf
theorem Pq(a:Fq)(h:∃x bs,a=CP x::bs/\bs=[])(_:TV.x8 a)(b:TV.Sms a):AV prog 4 a (.sh (.bool true)):=by
 obtain ⟨x,bs,rfl,rfl⟩:=h;exact(c4 x).snd true (Pa x b.1)
theorem O4(os:Os)(a:os.Started)(H:Type)(enc:TypeId×Value->H):
  ReturnsInHanded {} checked os 4 .any (Rows.transactionRollbackSpec.pre6 enc prog f4 Rows.transactionRollbackRow.domain false) (Rows.transactionRollbackSpec.post enc prog f4 false true false false):=by
 refine returnsInHanded_of_change_sized (C:=checked) aJ a (by kernel_rfl) func4
  (ChangeSpec.witness6 (enc:=enc) (C:=checked) false ⟨#[],#[Value.agg #[.slice none 0 0,.slice none 0 0,.slice none 0 0,.slice none 0 0,.slice none 0 0,.slice none 0 0,.slice none 0 0,.slice none 0 0]],[]⟩ 8 (by kernel_rfl) (by kernel_rfl) (by kernel_rfl) (by kernel_rfl)) ?_
 intro W base args ds d b _ e _ c _;refine TH We (by kernel_rfl) (tb:=4) (by kernel_rfl) underlying4 rfl (fun H ds hd=>?_) Px Pq H enc W args ds d b e c
 match ds,hd with
 |[_],_=>rfl
theorem transactionRollback_holds:Rows.TransactionRollbackSaid:=
 OpenClaim.holds_of_wide 4 f4 rfl rfl rfl rfl rfl rfl rfl ⟨rfl,rfl,rfl,rfl,rfl⟩ rfl rfl rfl rfl rfl Pp func4 Po
  (of_decide_eq_true (by kernel_rfl)) (by unfold Func.isWrapper;first|(rw[a6 (by decide +kernel)];kernel_rfl)|(rw[ae (by decide +kernel)];exact⟨rfl,rfl⟩))
  (fun os a H enc _=>O4 os a H enc)
end Go.Proofs.YtmbomnkcdolalaaGreat
