/- Lemmas. -/
import Derived.Test.YtdnblcjdhbadaaaGreatRead
import Derived.Test.YtdnblcjdhbadaaaGreatP96
import Derived.Test.YtdnblcjdhbadaaaGreatCon3
import Derived.Test.YtdnblcjdhbadaaaGreatFns
import Derived.Test.YtdnblcjdhbadaaaGreatRows
import Derived.JoinedOf
import Derived.JoinedAt
import Derived.Handed
import Derived.SizedLaws
import Derived.Test.YtdnblcjdhbadaaaGreatU2
set_option linter.all false
set_option maxRecDepth 100000
namespace Go.Proofs.YtdnblcjdhbadaaaGreat
open Go Go.Sf Go.Sf.Sc Go.Proofs.Tryz
theorem vg:ownKnob prog.godebug=none:=by kernel_rfl
theorem sq:laidOutB prog=true:=by kernel_rfl
theorem SB:PT prog f3.params.toList (fun a=>∃x bs,a=Kz x::bs/\∃y ds,bs=C1 y::ds/\ds=[]):=by
 rw [params3];exact TN (by decide) vn (fun _=>⟨_,rfl⟩) (TN (by decide) v7 (fun _=>⟨_,rfl⟩) ZW)
theorem Rv(a:Fq)(h:∃x bs,a=Kz x::bs/\∃y ds,bs=C1 y::ds/\ds=[])(c:TV.up a)(b:TV.Sms a):AQ prog 3 a (.sh (.bool true)):=by
 obtain ⟨x,bs,rfl,y,ds,rfl,rfl⟩:=h;exact(c3 x y).snd true (Rf x y b.1 b.2.1 c.2.1)
theorem Qu(os:Os)(a:os.Started)(H:Type)(enc:TypeId×Value->H):
  ReturnsInHanded {} checked os 3 .any (Rows.tripleruleSplitSpec.pre6 enc prog f3 Rows.tripleruleSplitRow.domain false) (Rows.tripleruleSplitSpec.post enc prog f3 false true false false):=by
 refine returnsInHanded_of_change_sized (C:=checked) vg a (by kernel_rfl) func3
  (ChangeSpec.witness6 (enc:=enc) (C:=checked) false ⟨#[],#[Value.agg #[.slice none 0 0,.slice none 0 0,.slice none 0 0,.slice none 0 0],Value.agg #[.string ⟨#[]⟩,.slice none 0 0,.slice none 0 0,.slice none 0 0,.int .i64 0,.slice none 0 0,.slice none 0 0,.slice none 0 0,.slice none 0 0,.int .i64 0,.slice none 0 0,.slice none 0 0,.slice none 0 0,.slice none 0 0,.slice none 0 0,.bool false,.int .i64 0,.slice none 0 0,.slice none 0 0,.slice none 0 0,.slice none 0 0,.slice none 0 0,.slice none 0 0,.int .i64 0,.slice none 0 0,.slice none 0 0,.slice none 0 0,.slice none 0 0,.slice none 0 0,.slice none 0 0,.slice none 0 0,.slice none 0 0,.slice none 0 0,.slice none 0 0,.slice none 0 0,.slice none 0 0,.slice none 0 0,.slice none 0 0]],[]⟩ 8 (by kernel_rfl) (by kernel_rfl) (by kernel_rfl) (by kernel_rfl)) ?_
 intro W base args ds d b _ e _ c _;refine Yn sq (by kernel_rfl) (tb:=4) (by kernel_rfl) underlying4 rfl (fun H ds hd=>?_) SB Rv H enc W args ds d b e c
 match ds,hd with
 |[_,_],_=>rfl
theorem tripleruleSplit_holds:Rows.TripleruleSplitSaid:=
 OpenClaim.holds_of_wide 3 f3 rfl rfl rfl rfl rfl rfl rfl ⟨rfl,rfl,rfl,rfl,rfl⟩ rfl rfl rfl rfl rfl Ru func3 Rt
  (of_decide_eq_true (by kernel_rfl)) (by unfold Func.isWrapper;first|(rw[a6 (by decide +kernel)];kernel_rfl)|(rw[ae (by decide +kernel)];exact⟨rfl,rfl⟩))
  (fun os a H enc _=>Qu os a H enc)
end Go.Proofs.YtdnblcjdhbadaaaGreat
