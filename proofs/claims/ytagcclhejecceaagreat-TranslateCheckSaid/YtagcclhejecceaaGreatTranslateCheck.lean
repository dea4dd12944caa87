/- Lemmas. -/
import Derived.Test.YtagcclhejecceaaGreatRead4
import Derived.Test.YtagcclhejecceaaGreatP173
import Derived.Test.YtagcclhejecceaaGreatCon6
import Derived.Test.YtagcclhejecceaaGreatFns
import Derived.Test.YtagcclhejecceaaGreatRows
import Derived.JoinedOf
import Derived.JoinedAt
import Derived.Handed
import Derived.SizedLaws
import Derived.Test.YtagcclhejecceaaGreatU2r4
set_option linter.all false
set_option maxRecDepth 100000
namespace Go.Proofs.YtagcclhejecceaaGreat
open Go Go.Sf Go.Sf.Sc Go.Proofs.Tryz
theorem ig:ownKnob prog.godebug=none:=by kernel_rfl
theorem dH:laidOutB prog=true:=by kernel_rfl
theorem TZ:PV prog f4.params.toList (fun a=>∃x bs,a=DB x::bs/\∃y ds,bs=F7 y::ds/\ds=[]):=by
 rw [params4];exact Pk (by decide) jG (fun _=>⟨_,rfl⟩) (Pk (by decide) vB (fun _=>⟨_,rfl⟩) S0)
theorem SD(a:Fq)(h:∃x bs,a=DB x::bs/\∃y ds,bs=F7 y::ds/\ds=[])(_:TV.tn a)(b:TV.xB a):AR prog 4 a (.sh (.bool true)):=by
 obtain ⟨x,bs,rfl,y,ds,rfl,rfl⟩:=h;exact(c4 x y).snd true (R3 x y b.1)
theorem Ro(os:Os)(a:os.Started)(H:Type)(enc:TypeId×Value->H):
  ReturnsInHanded {} checked os 4 .any (Rows.translateCheckSpec.pre6 enc prog f4 Rows.translateCheckRow.domain false) (Rows.translateCheckSpec.post enc prog f4 false true false false):=by
 refine returnsInHanded_of_change_sized (C:=checked) ig a (by kernel_rfl) func4
  (ChangeSpec.witness6 (enc:=enc) (C:=checked) false ⟨#[],#[Value.agg #[.slice none 0 0,.slice none 0 0,.slice none 0 0,.slice none 0 0,.slice none 0 0],Value.agg #[.slice none 0 0,.slice none 0 0,.slice none 0 0,.slice none 0 0,.slice none 0 0,.slice none 0 0]],[]⟩ 8 (by kernel_rfl) (by kernel_rfl) (by kernel_rfl) (by kernel_rfl)) ?_
 intro W base args ds gs b _ d _ c _;refine ZV dH (by kernel_rfl) (tb:=4) (by kernel_rfl) underlying4 rfl (fun H ds hd=>?_) TZ SD H enc W args ds gs b d c
 match ds,hd with
 |[_,_],_=>rfl
theorem translateCheck_holds:Rows.TranslateCheckSaid:=
 OpenClaim.holds_of_wide 4 f4 rfl rfl rfl rfl rfl rfl rfl ⟨rfl,rfl,rfl,rfl,rfl⟩ rfl rfl rfl rfl rfl SC func4 SB
  (of_decide_eq_true (by kernel_rfl)) (by unfold Func.isWrapper;first|(rw[a6 (by decide +kernel)];kernel_rfl)|(rw[ae (by decide +kernel)];exact⟨rfl,rfl⟩))
  (fun os a H enc _=>Ro os a H enc)
end Go.Proofs.YtagcclhejecceaaGreat
