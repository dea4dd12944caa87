/- Lemmas. -/
import Derived.Test.YtbmogdodchhhlaaGreatRead3
import Derived.Test.YtbmogdodchhhlaaGreatP96
import Derived.Test.YtbmogdodchhhlaaGreatCon4
import Derived.Test.YtbmogdodchhhlaaGreatFns
import Derived.Test.YtbmogdodchhhlaaGreatRows
import Derived.JoinedOf
import Derived.JoinedAt
import Derived.Handed
import Derived.SizedLaws
import Derived.Test.YtbmogdodchhhlaaGreatU2r3
set_option linter.all false
set_option maxRecDepth 100000
namespace Go.Proofs.YtbmogdodchhhlaaGreat
open Go Go.Sf Go.Sf.Sc Go.Proofs.Tryz
theorem jZ:ownKnob prog.godebug=none:=by kernel_rfl
theorem fl:laidOutB prog=true:=by kernel_rfl
theorem Qf:LU prog f3.params.toList (fun a=>∃x bs,a=Bp x::bs/\∃y ds,bs=Bp y::ds/\ds=[]):=by
 rw [params3];exact OF (by decide) cc (fun _=>⟨_,rfl⟩) (OF (by decide) cc (fun _=>⟨_,rfl⟩) S0)
theorem P5(a:Fq)(h:∃x bs,a=Bp x::bs/\∃y ds,bs=Bp y::ds/\ds=[])(b:TV.sq a)(_:TV.uA a):AJ prog 3 a (.sh (.bool true)):=by
 obtain ⟨x,bs,rfl,y,ds,rfl,rfl⟩:=h;exact(c3 x y).snd true (QK x y b.1 b.2.1)
theorem PD(os:Os)(a:os.Started)(H:Type)(enc:TypeId×Value->H):
  ReturnsInHanded {} checked os 3 .any (Rows.joinCommonSpec.pre6 enc prog f3 Rows.joinCommonRow.domain false) (Rows.joinCommonSpec.post enc prog f3 false true false false):=by
 refine returnsInHanded_of_change_sized (C:=checked) jZ a (by kernel_rfl) func3
  (ChangeSpec.witness6 (enc:=enc) (C:=checked) false ⟨#[],#[Value.agg #[.string ⟨#[]⟩,.slice none 0 0,.slice none 0 0,.slice none 0 0,.int .i64 0,.slice none 0 0,.slice none 0 0,.slice none 0 0,.slice none 0 0,.int .i64 0,.slice none 0 0,.slice none 0 0,.slice none 0 0,.slice none 0 0,.slice none 0 0,.bool false,.int .i64 0,.slice none 0 0,.slice none 0 0,.slice none 0 0,.slice none 0 0,.slice none 0 0,.slice none 0 0,.int .i64 0,.slice none 0 0,.slice none 0 0,.slice none 0 0,.slice none 0 0,.slice none 0 0,.slice none 0 0,.slice none 0 0,.slice none 0 0,.slice none 0 0,.slice none 0 0,.slice none 0 0,.slice none 0 0,.slice none 0 0,.slice none 0 0],Value.agg #[.string ⟨#[]⟩,.slice none 0 0,.slice none 0 0,.slice none 0 0,.int .i64 0,.slice none 0 0,.slice none 0 0,.slice none 0 0,.slice none 0 0,.int .i64 0,.slice none 0 0,.slice none 0 0,.slice none 0 0,.slice none 0 0,.slice none 0 0,.bool false,.int .i64 0,.slice none 0 0,.slice none 0 0,.slice none 0 0,.slice none 0 0,.slice none 0 0,.slice none 0 0,.int .i64 0,.slice none 0 0,.slice none 0 0,.slice none 0 0,.slice none 0 0,.slice none 0 0,.slice none 0 0,.slice none 0 0,.slice none 0 0,.slice none 0 0,.slice none 0 0,.slice none 0 0,.slice none 0 0,.slice none 0 0,.slice none 0 0]],[]⟩ 8 (by kernel_rfl) (by kernel_rfl) (by kernel_rfl) (by kernel_rfl)) ?_
 intro W base args ds d b _ e _ c _;refine So fl (by kernel_rfl) (tb:=4) (by kernel_rfl) underlying4 rfl (fun H ds hd=>?_) Qf P5 H enc W args ds d b e c
 match ds,hd with
 |[_,_],_=>rfl
theorem joinCommon_holds:Rows.JoinCommonSaid:=
 OpenClaim.holds_of_wide 3 f3 rfl rfl rfl rfl rfl rfl rfl ⟨rfl,rfl,rfl,rfl,rfl⟩ rfl rfl rfl rfl rfl P4 func3 P3
  (of_decide_eq_true (by kernel_rfl)) (by unfold Func.isWrapper;first|(rw[ae (by decide +kernel)];kernel_rfl)|(rw[az (by decide +kernel)];exact⟨rfl,rfl⟩))
  (fun os a H enc _=>PD os a H enc)
end Go.Proofs.YtbmogdodchhhlaaGreat
