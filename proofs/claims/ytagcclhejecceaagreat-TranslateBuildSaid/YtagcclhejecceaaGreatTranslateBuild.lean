/- Lemmas. -/
import Derived.Test.YtagcclhejecceaaGreatRead3
import Derived.Test.YtagcclhejecceaaGreatP173
import Derived.Test.YtagcclhejecceaaGreatCon6
import Derived.Test.YtagcclhejecceaaGreatFns
import Derived.Test.YtagcclhejecceaaGreatRows
import Derived.JoinedOf
import Derived.JoinedAt
import Derived.Handed
import Derived.SizedLaws
import Derived.Test.YtagcclhejecceaaGreatU2r3
set_option linter.all false
set_option maxRecDepth 100000
namespace Go.Proofs.YtagcclhejecceaaGreat
open Go Go.Sf Go.Sf.Sc Go.Proofs.Tryz
theorem ig:ownKnob prog.godebug=none:=by kernel_rfl
theorem dH:laidOutB prog=true:=by kernel_rfl
theorem S9:ME prog f3.params.toList (fun a=>∃cs bs,a=cs++bs/\(∃x,cs=[DB x])/\∃l:List D8,bs=[.list 4 (l.map E7)]):=by
 rw [params3];exact W9 (YI (by decide) jG fun _=>⟨_,rfl⟩) (Z0 underlying32 jH)
theorem R7(a:Fq)(h:∃cs bs,a=cs++bs/\(∃x,cs=[DB x])/\∃l:List D8,bs=[.list 4 (l.map E7)])(_:TV.tn a)(b:TV.xB a):AR prog 3 a (.sh (.bool true)):=by
 obtain ⟨cs,bs,rfl,⟨x,rfl⟩,l,rfl⟩:=h;exact(c3 x l).snd true (R2 x l b.1)
theorem Rk(os:Os)(a:os.Started)(H:Type)(enc:TypeId×Value->H):
  ReturnsInHanded {} checked os 3 .any (Rows.translateBuildSpec.pre6 enc prog f3 Rows.translateBuildRow.domain false) (Rows.translateBuildSpec.post enc prog f3 false true false false):=by
 refine returnsInHanded_of_change_sized (C:=checked) ig a (by kernel_rfl) func3
  (ChangeSpec.witness6 (enc:=enc) (C:=checked) false ⟨#[],#[Value.agg #[.slice none 0 0,.slice none 0 0,.slice none 0 0,.slice none 0 0,.slice none 0 0],.slice none 0 0],[]⟩ 8 (by kernel_rfl) (by kernel_rfl) (by kernel_rfl) (by kernel_rfl)) ?_
 intro W base args ds gs b c g _ d _;refine P7 dH (by kernel_rfl) (tb:=4) (by kernel_rfl) underlying4 rfl (fun H ds hd=>?_) R7 H enc W args ds gs b g d (fun i h=>S9 H enc W base _ _ _ (fun j t v e f=>c j t v (by rw[<-Array.getElem?_toList];exact e) (by rw[<-Array.getElem?_toList];exact f)) h)
 match ds,hd with
 |[_,_],_=>rfl
theorem translateBuild_holds:Rows.TranslateBuildSaid:=
 OpenClaim.holds_of_wide 3 f3 rfl rfl rfl rfl rfl rfl rfl ⟨rfl,rfl,rfl,rfl,rfl⟩ rfl rfl rfl rfl rfl R6 func3 R5
  (of_decide_eq_true (by kernel_rfl)) (by unfold Func.isWrapper;first|(rw[a6 (by decide +kernel)];kernel_rfl)|(rw[ae (by decide +kernel)];exact⟨rfl,rfl⟩))
  (fun os a H enc _=>Rk os a H enc)
end Go.Proofs.YtagcclhejecceaaGreat
