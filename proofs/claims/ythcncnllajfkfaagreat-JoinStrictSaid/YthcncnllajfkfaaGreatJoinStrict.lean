/- Lemmas. -/
import Derived.Test.YthcncnllajfkfaaGreatRead3
import Derived.Test.YthcncnllajfkfaaGreatP138
import Derived.Test.YthcncnllajfkfaaGreatCon6
import Derived.Test.YthcncnllajfkfaaGreatU2r3
set_option linter.all false
set_option maxRecDepth 100000
open Option renaming none->W
namespace Go.Proofs.YthcncnllajfkfaaGreat
open Go Go.Sf Go.Sf.Sc Go.Proofs.Tryz
def Y6:Array Value:=#[.string ⟨#[]⟩,.slice W 0 0,.slice W 0 0,.slice W 0 0,.int .i64 0,.slice W 0 0,.slice W 0 0,.slice W 0 0,.slice W 0 0,.int .i64 0,.slice W 0 0,.slice W 0 0,.slice W 0 0,.slice W 0 0,.slice W 0 0,.bool false,.int .i64 0,.slice W 0 0,.slice W 0 0,.slice W 0 0,.slice W 0 0,.slice W 0 0,.slice W 0 0,.int .i64 0,.slice W 0 0,.slice W 0 0,.slice W 0 0,.slice W 0 0,.slice W 0 0,.slice W 0 0,.slice W 0 0,.slice W 0 0,.slice W 0 0,.slice W 0 0,.slice W 0 0,.slice W 0 0,.slice W 0 0,.slice W 0 0]
theorem rH:ownKnob prog.godebug=W:=an
theorem l8:laidOutB prog=true:=an
theorem ZV:Mf prog f3.params.toList (λa=>∃cs bs,a=cs++bs/\(∃x,cs=[AK x])/\∃ds es,bs=ds++es/\(∃y,ds=[EP y])/\∃n:Int,es=[.int .i64 n]):=by
 rw [params3];exact NW (OQ a! rm λ_=>⟨_,rfl⟩) (NW (OQ a! r7 λ_=>⟨_,rfl⟩) (Uu underlying3 FY))
theorem YV(a:Fq)(h:∃cs bs,a=cs++bs/\(∃x,cs=[AK x])/\∃ds es,bs=ds++es/\(∃y,ds=[EP y])/\∃n:Int,es=[.int .i64 n])(c:TV.p0 a)(b:TV.Sms a):AT prog 3 a (.sh (.bool true)):=by
 obtain ⟨cs,bs,rfl,⟨x,rfl⟩,ds,es,rfl,⟨y,rfl⟩,n,rfl⟩:=h;exact(c3 x y n).snd true (Yt x y n b.1 b.2.1 c.2.1)
theorem XF(os:Os)(a:os.Started)(H:Type)(enc:TypeId×Value->H):
  ReturnsInHanded {} checked os 3 .any (Rows.joinStrictSpec.pre6 enc prog f3 Rows.joinStrictRow.domain false) (Rows.joinStrictSpec.post enc prog f3 false true false false):=by
 refine returnsInHanded_of_change_sized (C:=checked) rH a an func3
  (ChangeSpec.witness6 (enc:=enc) (C:=checked) false ⟨#[],#[Value.agg #[.slice W 0 0,.slice W 0 0],Value.agg (#[.slice W 0 0]++Y6++Y6),.int .i64 0],[]⟩ 8 an an an an) ?_
 intro η base args ds f before b g _ c _;refine Ss l8 an (tb:=4) an underlying4 rfl (λH ds hd=>?_) YV H enc η args ds f before g c (λi h=>ZV H enc η base _ _ _ (λj t v d e=>b j t v (by rw[<-Array.getElem?_toList];exact d) (by rw[<-Array.getElem?_toList];exact e)) h)
 match ds,hd with
 |[_,_,_],_=>rfl
theorem joinStrict_holds:Rows.JoinStrictSaid:=
 OpenClaim.holds_of_wide 3 f3 rfl rfl rfl rfl rfl rfl rfl ⟨rfl,rfl,rfl,rfl,rfl⟩ rfl rfl rfl rfl rfl YU func3 YT
  (of_decide_eq_true an) (by unfold Func.isWrapper;first|(rw[a6 b!];kernel_rfl)|(rw[ac b!];exact⟨rfl,rfl⟩))
  (λos a H enc _=>XF os a H enc)
end Go.Proofs.YthcncnllajfkfaaGreat
