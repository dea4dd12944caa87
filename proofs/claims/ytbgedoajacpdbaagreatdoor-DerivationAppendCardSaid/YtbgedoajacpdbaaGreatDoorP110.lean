/- Plain lemmas: what the functions of the program and of the reference compute. -/
import Derived.Test.YtbgedoajacpdbaaGreatDoorP96
set_option linter.all false
set_option maxRecDepth 100000
namespace Go.Sf.Sc
open Go Go.Sf
variable{c:HZ}
theorem ut(h:(GW c).Sm):(AQ c.T).Sm/\(∀r∈c.AbD,(Bx r).Sm)/\∀m∈c.D.j4,(DA m).Sm:=by
 have a:TV.Sms [_,_,_,_,_,_,_]:=h;exact⟨⟨a.1,a.2.1,trivial⟩,(G8 (e:=Bx) a.2.2.1).2,(G8 (e:=DA) a.2.2.2.2.2.2.1).2⟩
theorem rK(h:(GW c).Sm):∃b,Nb c=some b/\(b=true->At c.T/\Ir c.AbD/\Rf c.D):=by
 obtain ⟨a,s2,e⟩:=ut h;obtain⟨f,g,i⟩:=kP a s2 c.D.kp;obtain⟨j,k,l⟩:=kA (d:=c.D) e (tl:=33) (by decide);unfold Nb
 grind
theorem gj:GA ⟨⟨[],[]⟩,[]⟩:=⟨by simp,by simp,by simp,fun v hv=>by cases hv⟩
theorem cJ{t:AC}{a:List gp}{d:AO}(hd:GA d.kp)(m:Bq):GA (U5 t a d m).1.kp:=by grind[U5,gj]
theorem P9(c:HZ)(m:Bq)(h:(GW c).Sm)(sm:(DA m).Sm):FV c m=some true:=by
 obtain ⟨b,e,f⟩:=rK h;have d:=Zb sm;obtain⟨i,j,_⟩:=Ve d.1 d.2;unfold FV;rw[fI,bs,az (by decide),e,bs,bs];cases b with
 |false=>rfl|true=>
 rw [az (by decide),j,bs,bs];cases i with
 |false=>rfl|true=>
 obtain ⟨hf,a,g⟩:=f rfl;rw[az (by decide),Ym a,bs,db g,bs,fu hf a,bs,gE hf a,bs,ae (by simp),rz (cJ g.start m)];rfl
end Go.Sf.Sc
