/- Lemmas. -/
import Derived.Test.YtjgaphkmbjbdkaaGreatRead3
import Derived.Test.YtjgaphkmbjbdkaaGreatP138
import Derived.Test.YtjgaphkmbjbdkaaGreatCon8
import Derived.Test.YtjgaphkmbjbdkaaGreatFns
import Derived.Test.YtjgaphkmbjbdkaaGreatRows
import Derived.JoinedOf
import Derived.JoinedAt
import Derived.Handed
import Derived.SizedLaws
import Derived.Test.YtjgaphkmbjbdkaaGreatU2r3
set_option linter.all false
set_option maxRecDepth 100000
namespace Go.Proofs.YtjgaphkmbjbdkaaGreat
open Go Go.Sf Go.Sf.Sc Go.Proofs.Tryz
def nW:Array Value:=#[.string ⟨#[]⟩,.slice none 0 0,.slice none 0 0,.slice none 0 0,.int .i64 0,.slice none 0 0,.slice none 0 0,.slice none 0 0,.slice none 0 0,.int .i64 0,.slice none 0 0,.slice none 0 0,.slice none 0 0,.slice none 0 0,.slice none 0 0,.bool false,.int .i64 0,.slice none 0 0,.slice none 0 0,.slice none 0 0,.slice none 0 0,.slice none 0 0,.slice none 0 0,.int .i64 0,.slice none 0 0,.slice none 0 0,.slice none 0 0,.slice none 0 0,.slice none 0 0,.slice none 0 0,.slice none 0 0,.slice none 0 0,.slice none 0 0,.slice none 0 0,.slice none 0 0,.slice none 0 0,.slice none 0 0,.slice none 0 0]
theorem w7:ownKnob prog.godebug=none:=by kernel_rfl
theorem uq:laidOutB prog=true:=by kernel_rfl
theorem Ya:QX prog f3.params.toList (fun a=>∃x bs,a=AM x::bs/\∃y cs,bs=L6 y::cs/\∃z ds,cs=Ow z::ds/\ds=[]):=by
 rw [params3];exact Qn (by decide) xB (fun _=>⟨_,rfl⟩) (Qn (by decide) xJ (fun _=>⟨_,rfl⟩) (Qn (by decide) xL (fun _=>⟨_,rfl⟩) a8))
theorem Wv(a:Fq)(h:∃x bs,a=AM x::bs/\∃y cs,bs=L6 y::cs/\∃z ds,cs=Ow z::ds/\ds=[])(c:TV.sc a)(b:TV.Sms a):AU prog 3 a (.sh (.bool true)):=by
 obtain ⟨x,bs,rfl,y,cs,rfl,z,ds,rfl,rfl⟩:=h;exact(c3 x y z).snd true (W9 x y z b.1 b.2.1 c.2.1 b.2.2.1 c.2.2.1)
theorem Vz(os:Os)(a:os.Started)(H:Type)(enc:TypeId×Value->H):
  ReturnsInHanded {} checked os 3 .any (Rows.joinCheckSpec.pre6 enc prog f3 Rows.joinCheckRow.domain false) (Rows.joinCheckSpec.post enc prog f3 false true false false):=by
 refine returnsInHanded_of_change_sized (C:=checked) w7 a (by kernel_rfl) func3
  (ChangeSpec.witness6 (enc:=enc) (C:=checked) false ⟨#[],#[Value.agg #[.slice none 0 0,.slice none 0 0],Value.agg (#[.slice none 0 0]++nW++nW),Value.agg #[.slice none 0 0,.slice none 0 0,.slice none 0 0,.slice none 0 0,.slice none 0 0,.slice none 0 0,.slice none 0 0,.slice none 0 0,.slice none 0 0,.slice none 0 0]],[]⟩ 8 (by kernel_rfl) (by kernel_rfl) (by kernel_rfl) (by kernel_rfl)) ?_
 intro W base args ds c before _ d _ b _;refine aB uq (by kernel_rfl) (tb:=4) (by kernel_rfl) underlying4 rfl (fun H ds hd=>?_) Ya Wv H enc W args ds c before d b
 match ds,hd with
 |[_,_,_],_=>rfl
theorem joinCheck_holds:Rows.JoinCheckSaid:=
 OpenClaim.holds_of_wide 3 f3 rfl rfl rfl rfl rfl rfl rfl ⟨rfl,rfl,rfl,rfl,rfl⟩ rfl rfl rfl rfl rfl Wu func3 Wt
  (of_decide_eq_true (by kernel_rfl)) (by unfold Func.isWrapper;first|(rw[a6 (by decide +kernel)];kernel_rfl)|(rw[ae (by decide +kernel)];exact⟨rfl,rfl⟩))
  (fun os a H enc _=>Vz os a H enc)
end Go.Proofs.YtjgaphkmbjbdkaaGreat
