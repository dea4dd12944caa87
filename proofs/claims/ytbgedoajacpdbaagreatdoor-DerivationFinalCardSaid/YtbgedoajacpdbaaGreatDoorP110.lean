/- Plain lemmas: what the functions of the program and of the reference compute. -/
import Derived.Test.YtbgedoajacpdbaaGreatDoorP96
set_option linter.all false
set_option maxRecDepth 100000
namespace Go.Sf.Sc
open Go Go.Sf
variable{c:HT}
theorem uc(h:(GQ c).Sm):(AQ c.T).Sm/\(∀r∈c.AbC,(B3 r).Sm)/\∀m∈c.D.kg,(Ft m).Sm:=by
 have a:TV.Sms [_,_,_,_,_,_,_]:=h;exact⟨⟨a.1,a.2.1,trivial⟩,(G4 (e:=B3) a.2.2.1).2,(G4 (e:=Ft) a.2.2.2.2.2.2.1).2⟩
theorem qy(h:(GQ c).Sm):∃b,NW c=some b/\(b=true->At c.T/\JR c.AbC/\Tp c.D):=by
 obtain ⟨a,s2,e⟩:=uc h;obtain⟨f,g,i⟩:=j8 a s2 c.D.o3;obtain⟨j,k,l⟩:=jo (d:=c.D) e (up:=33) (by decide);unfold NW
 grind
theorem kU(m:d6):MC m m=some true:=by grind[MC,Za,Zb,bs]
theorem gO:HH ⟨⟨[],[]⟩,[]⟩:=⟨by simp,by simp,by simp,fun v hv=>by cases hv⟩
theorem cJ{t:AC}(hf:At t){a:List hT}(b:JR a)(d:AY):HH (U5 t a d).1:=by
 unfold U5;split
 .exact gO
 .rename_i e;have:=(Nj hf b (YF.1 (Classical.not_not.1 e)) d.kg.length (bk _)).1
  grind
theorem Qj(c:HT)(d:(GQ c).Sm):Fu c=some true:=by
 obtain ⟨b,e,f⟩:=qy d;unfold Fu;rw[eo,bs,az (by decide),e,bs,bs];cases b with
 |false=>rfl|true=>
 obtain ⟨hf,a,g⟩:=f rfl;rw[az (by decide),Yc a,bs,nu g,bs,kK hf a,bs,kZ hf a,bs,ae (by simp),nZ (cJ hf a _),bs,bs,ae rfl,kU];rfl
end Go.Sf.Sc
