/- Lemmas. -/
import Derived.Test.YtmbomnkcdolalaaGreatRead8
import Derived.Test.YtmbomnkcdolalaaGreatP96
import Derived.Test.YtmbomnkcdolalaaGreatCon3
import Derived.Test.YtmbomnkcdolalaaGreatFns
import Derived.Test.YtmbomnkcdolalaaGreatRows
import Derived.JoinedOf
import Derived.JoinedAt
import Derived.Handed
import Derived.SizedLaws
import Derived.Test.YtmbomnkcdolalaaGreatU2r8
set_option linter.all false
set_option maxRecDepth 100000
namespace Go.Proofs.YtmbomnkcdolalaaGreat
open Go Go.Sf Go.Sf.Sc Go.Proofs.Tryz
theorem aJ:ownKnob prog.godebug=none:=by kernel_rfl
theorem We:laidOutB prog=true:=by kernel_rfl
theorem Uh:NI prog f8.params.toList (fun a=>∃x bs,a=CP x::bs/\∃y ds,bs=CZ y::ds/\ds=[]):=by
 rw [params8];exact Mp (by decide) bA (fun _=>⟨_,rfl⟩) (Mp (by decide) Vk (fun _=>⟨_,rfl⟩) Pf)
theorem Tn(a:Fq)(h:∃x bs,a=CP x::bs/\∃y ds,bs=CZ y::ds/\ds=[])(_:TV.x8 a)(b:TV.Sms a):AV prog 8 a (.sh (.bool true)):=by
 obtain ⟨x,bs,rfl,y,ds,rfl,rfl⟩:=h;exact(c8 x y).snd true (TT x y b.1 b.2.1)
theorem SV(os:Os)(a:os.Started)(H:Type)(enc:TypeId×Value->H):
  ReturnsInHanded {} checked os 8 .any (Rows.transactionDoSpec.pre6 enc prog f8 Rows.transactionDoRow.domain false) (Rows.transactionDoSpec.post enc prog f8 false true false false):=by
 refine returnsInHanded_of_change_sized (C:=checked) aJ a (by kernel_rfl) func8
  (ChangeSpec.witness6 (enc:=enc) (C:=checked) false ⟨#[],#[Value.agg #[.slice none 0 0,.slice none 0 0,.slice none 0 0,.slice none 0 0,.slice none 0 0,.slice none 0 0,.slice none 0 0,.slice none 0 0],Value.agg #[.int .i64 0,.slice none 0 0,.slice none 0 0,.slice none 0 0]],[]⟩ 8 (by kernel_rfl) (by kernel_rfl) (by kernel_rfl) (by kernel_rfl)) ?_
 intro W base args ds d b _ e _ c _;refine TH We (by kernel_rfl) (tb:=4) (by kernel_rfl) underlying4 rfl (fun H ds hd=>?_) Uh Tn H enc W args ds d b e c
 match ds,hd with
 |[_,_],_=>rfl
theorem transactionDo_holds:Rows.TransactionDoSaid:=
 OpenClaim.holds_of_wide 8 f8 rfl rfl rfl rfl rfl rfl rfl ⟨rfl,rfl,rfl,rfl,rfl⟩ rfl rfl rfl rfl rfl Tm func8 Tl
  (of_decide_eq_true (by kernel_rfl)) (by unfold Func.isWrapper;first|(rw[a6 (by decide +kernel)];kernel_rfl)|(rw[ae (by decide +kernel)];exact⟨rfl,rfl⟩))
  (fun os a H enc _=>SV os a H enc)
end Go.Proofs.YtmbomnkcdolalaaGreat
