/- Lemmas. -/
import Derived.Test.YtbmgmpeimdomoaaGreatFns
import Derived.Test.YtbmgmpeimdomoaaGreatSfPl
set_option linter.all false
set_option maxRecDepth 100000
namespace Go.Sf.Sc
open Go Go.Sf
instance(N:Nat)(s_0:List Bx)(f' f:Bx->I1)[hf:∀y0,Mo (f' y0) (f y0)]:Mo (@DJ (eN N) s_0 f') (@DJ HH s_0 f):=⟨by unfold DJ;exact ly lx⟩
instance(N:Nat)(s_0:List Bx)(f' f:Bx->I1)[hf:∀y0,Mo (f' y0) (f y0)]:Mo (@BP (eN N) s_0 f') (@BP HH s_0 f):=⟨by unfold BP;exact ly lx⟩
instance(N:Nat)(s_0:ByteArray)(ok' ok:Int->I1)[hok:∀y0,Mo (ok' y0) (ok y0)]:Mo (@H0 (eN N) s_0 ok') (@H0 HH s_0 ok):=⟨by unfold H0;exact ly lx⟩
instance:MF @IT:=⟨λ_ _=>by unfold IT;exact ly lx⟩
instance:MF @Ka:=⟨λ_ _=>by unfold Ka;exact ly lx⟩
instance:MF @LA:=⟨λ_ _=>by unfold LA;exact ly lx⟩
instance:MF @EL:=⟨λ_ _=>by unfold EL;exact ly lx⟩
theorem S0(N:Nat):∀n m:Nat,n<=m->Mo (@DZ (eN N) n) (@DZ HH m)
 |0,_,_=>⟨λ_ _=>Le.none _⟩|n+1,0,h=>absurd h U|n+1,m+1,h=>by
  have ih:=S0 N n m U;exact⟨λ_ _=>by unfold DZ;exact ly lx⟩
instance:MF @NG:=⟨λN _ _=>LL N λn hn=>(S0 N N n hn).le _ _⟩
instance(N:Nat)(s_0:List ff)(f' f:ff->I1)[hf:∀y0,Mo (f' y0) (f y0)]:Mo (@D8 (eN N) s_0 f') (@D8 HH s_0 f):=⟨by unfold D8;exact ly lx⟩
instance(N:Nat)(s_0:List ff)(f' f:ff->I1)[hf:∀y0,Mo (f' y0) (f y0)]:Mo (@C1 (eN N) s_0 f') (@C1 HH s_0 f):=⟨by unfold C1;exact ly lx⟩
instance:MF @Jd:=⟨λ_ _=>by unfold Jd;exact ly lx⟩
instance:MF @GK:=⟨λ_ _ _=>by unfold GK;exact ly lx⟩
instance:MF @Kd:=⟨λ_ _ _=>by unfold Kd;exact ly lx⟩
instance(N:Nat)(s_0:List Cq)(f' f:Cq->I1)[hf:∀y0,Mo (f' y0) (f y0)]:Mo (@DI (eN N) s_0 f') (@DI HH s_0 f):=⟨by unfold DI;exact ly lx⟩
instance(N:Nat)(s_0:List Cq)(f' f:Cq->I1)[hf:∀y0,Mo (f' y0) (f y0)]:Mo (@CX (eN N) s_0 f') (@CX HH s_0 f):=⟨by unfold CX;exact ly lx⟩
instance:MF @Kb:=⟨λ_ _ _=>by unfold Kb;exact ly lx⟩
instance:MF @Dx:=⟨λ_ _=>by unfold Dx;exact ly lx⟩
instance:MF @IU:=⟨λ_ _ _=>by unfold IU;exact ly lx⟩
instance:MF @Gv:=⟨λ_ _ _=>by unfold Gv;exact ly lx⟩
instance(N:Nat)(s_0:Fp)(f' f:Int->I1)[hf:∀y0,Mo (f' y0) (f y0)]:Mo (@Eb (eN N) s_0 f') (@Eb HH s_0 f):=⟨by unfold Eb;exact ly lx⟩
instance(N:Nat)(s_0:Fp)(f' f:Int->I1)[hf:∀y0,Mo (f' y0) (f y0)]:Mo (@A9 (eN N) s_0 f') (@A9 HH s_0 f):=⟨by unfold A9;exact ly lx⟩
instance:MF @Gw:=⟨λ_ _ _=>by unfold Gw;exact ly lx⟩
instance:MF @Mj:=⟨λ_ _ _=>by unfold Mj;exact ly lx⟩
instance:MF @Kc:=⟨λ_ _ _ _=>by unfold Kc;exact ly lx⟩
instance:MF @Hp:=⟨λ_ _ _ _ _=>by unfold Hp;exact ly lx⟩
instance:MF @FO:=⟨λ_ _ _=>by unfold FO;exact ly lx⟩
instance(N:Nat)(s_0:List Bw)(f' f:Bw->I1)[hf:∀y0,Mo (f' y0) (f y0)]:Mo (@D9 (eN N) s_0 f') (@D9 HH s_0 f):=⟨by unfold D9;exact ly lx⟩
instance(N:Nat)(s_0:List Bw)(f' f:Bw->I1)[hf:∀y0,Mo (f' y0) (f y0)]:Mo (@BO (eN N) s_0 f') (@BO HH s_0 f):=⟨by unfold BO;exact ly lx⟩
instance:MF @Dd:=⟨λ_ _=>by unfold Dd;exact ly lx⟩
instance:MF @FE:=⟨λ_ _ _=>by unfold FE;exact ly lx⟩
instance:MF @Ge:=⟨λ_ _ _ _=>by unfold Ge;exact ly lx⟩
instance:MF @Db:=⟨λ_ _ _=>by unfold Db;exact ly lx⟩
instance:MF @KU:=⟨λ_ _ _=>by unfold KU;exact ly lx⟩
instance(N:Nat)(s_0:List DN)(f' f:DN->I1)[hf:∀y0,Mo (f' y0) (f y0)]:Mo (@EA (eN N) s_0 f') (@EA HH s_0 f):=⟨by unfold EA;exact ly lx⟩
instance(N:Nat)(s_0:List DN)(f' f:DN->I1)[hf:∀y0,Mo (f' y0) (f y0)]:Mo (@Ck (eN N) s_0 f') (@Ck HH s_0 f):=⟨by unfold Ck;exact ly lx⟩
instance:MF @L4:=⟨λ_ _ _ _=>by unfold L4;exact ly lx⟩
instance:MF @KT:=⟨λ_ _ _=>by unfold KT;exact ly lx⟩
instance:MF @DY:=⟨λ_ _ _ _=>by unfold DY;exact ly lx⟩
instance:MF @Cj:=⟨λ_ _ _ _=>by unfold Cj;exact ly lx⟩
instance:MF @FZ:=⟨λ_ _ _=>by unfold FZ;exact ly lx⟩
instance:MF @FM:=⟨λ_ _ _=>by unfold FM;exact ly lx⟩
instance:MF @L3:=⟨λ_ _=>by unfold L3;exact ly lx⟩
instance:MF @H5:=⟨λ_ _ _ _=>by unfold H5;exact ly lx⟩
instance:MF @IQ:=⟨λ_ _ _ _ _=>by unfold IQ;exact ly lx⟩
instance(N:Nat)(s_0:List bq)(f' f:bq->I1)[hf:∀y0,Mo (f' y0) (f y0)]:Mo (@DA (eN N) s_0 f') (@DA HH s_0 f):=⟨by unfold DA;exact ly lx⟩
instance(N:Nat)(s_0:List bq)(f' f:bq->I1)[hf:∀y0,Mo (f' y0) (f y0)]:Mo (@B5 (eN N) s_0 f') (@B5 HH s_0 f):=⟨by unfold B5;exact ly lx⟩
theorem Mn(N:Nat):∀n m:Nat,n<=m->Mo (@BY (eN N) n) (@BY HH m)/\Mo (@Bk (eN N) n) (@Bk HH m)
 |0,_,_=>⟨⟨λ_=>Le.none _⟩,⟨λ_=>Le.none _⟩⟩|n+1,0,h=>absurd h U|n+1,m+1,h=>by
  obtain ⟨i0,i1⟩:=Mn N n m U;refine⟨?_,?_⟩
  .exact⟨λ_=>by unfold BY;exact ly lx⟩
  .exact⟨λ_=>by unfold Bk;exact ly lx⟩
theorem RZ(N n m:Nat)(h:n<=m):Mo (@BY (eN N) n) (@BY HH m):=(Mn N n m h).1
instance:MF @Hg:=⟨λN _=>LL N λn hn=>(RZ N N n hn).le _⟩
theorem OH(N:Nat):∀n m:Nat,n<=m->Mo (@Ch (eN N) n) (@Ch HH m)
 |0,_,_=>⟨λ_=>Le.none _⟩|n+1,0,h=>absurd h U|n+1,m+1,h=>by
  have ih:=OH N n m U;exact⟨λ_=>by unfold Ch;exact ly lx⟩
instance:MF @Jg:=⟨λN _=>LL N λn hn=>(OH N N n hn).le _⟩
instance:MF @F4:=⟨λ_ _=>by unfold F4;exact ly lx⟩
instance:MF @Ek:=⟨λ_ _ _ _=>by unfold Ek;exact ly lx⟩
theorem O1(N:Nat):∀n m:Nat,n<=m->Mo (@CI (eN N) n) (@CI HH m)
 |0,_,_=>⟨λ_ _ _=>Le.none _⟩|n+1,0,h=>absurd h U|n+1,m+1,h=>by
  have ih:=O1 N n m U;exact⟨λ_ _ _=>by unfold CI;exact ly lx⟩
instance:MF @Na:=⟨λN _ _ _=>LL N λn hn=>(O1 N N n hn).le _ _ _⟩
instance:MF @Dc:=⟨λ_ _ _ _=>by unfold Dc;exact ly lx⟩
instance:MF @JF:=⟨λ_ _ _=>by unfold JF;exact ly lx⟩
instance:MF @FN:=⟨λ_ _ _ _=>by unfold FN;exact ly lx⟩
instance:MF @CS:=⟨λ_ _=>by unfold CS;exact ly lx⟩
instance:MF @Lb:=⟨λ_ _ _ _=>by unfold Lb;exact ly lx⟩
instance:MF @F8:=⟨λ_ _ _=>by unfold F8;exact ly lx⟩
instance:MF @Mg:=⟨λ_ _ _ _=>by unfold Mg;exact ly lx⟩
instance:MF @GO:=⟨λ_ _ _=>by unfold GO;exact ly lx⟩
instance:MF @FD:=⟨λ_ _ _ _=>by unfold FD;exact ly lx⟩
instance:MF @Jc:=⟨λ_ _ _=>by unfold Jc;exact ly lx⟩
instance:MF @G5:=⟨λ_ _=>by unfold G5;exact ly lx⟩
instance:MF @G6:=⟨λ_ _ _ _ _=>by unfold G6;exact ly lx⟩
instance:MF @GG:=⟨λ_ _ _ _ _ _=>by unfold GG;exact ly lx⟩
instance:MF @F1:=⟨λ_ _ _ _=>by unfold F1;exact ly lx⟩
instance:MF @Er:=⟨λ_ _ _ _ _=>by unfold Er;exact ly lx⟩
instance:MF @J9:=⟨λ_ _ _ _ _=>by unfold J9;exact ly lx⟩
instance:MF @GH:=⟨λ_ _ _ _ _=>by unfold GH;exact ly lx⟩
instance:MF @DH:=⟨λ_ _=>by unfold DH;exact ly lx⟩
instance:MF @HL:=⟨λ_ _ _ _ _=>by unfold HL;exact ly lx⟩
instance:MF @F3:=⟨λ_ _ _ _ _ _ _=>by unfold F3;exact ly lx⟩
theorem LX(N:Nat):∀n m:Nat,n<=m->Mo (@A4 (eN N) n) (@A4 HH m)
 |0,_,_=>⟨λ_=>Le.none _⟩|n+1,0,h=>absurd h U|n+1,m+1,h=>by
  have ih:=LX N n m U;exact⟨λ_=>by unfold A4;exact ly lx⟩
instance:MF @HD:=⟨λN _=>LL N λn hn=>(LX N N n hn).le _⟩
instance:MF @GI:=⟨λ_ _ _ _ _ _ _=>by unfold GI;exact ly lx⟩
instance:MF @JG:=⟨λ_ _ _ _ _ _=>by unfold JG;exact ly lx⟩
instance:MF @Hz:=⟨λ_ _ _=>by unfold Hz;exact ly lx⟩
instance:MF @HP:=⟨λ_ _ _ _ _ _=>by unfold HP;exact ly lx⟩
instance:MF @CU:=⟨λ_ _ _ _=>by unfold CU;exact ly lx⟩
theorem Js(N:Nat):∀n m:Nat,n<=m->Mo (@Av (eN N) n) (@Av HH m)/\Mo (@BT (eN N) n) (@BT HH m)
 |0,_,_=>⟨⟨λ_ _ _=>Le.none _⟩,⟨λ_ _ _=>Le.none _⟩⟩|n+1,0,h=>absurd h U|n+1,m+1,h=>by
  obtain ⟨i0,i1⟩:=Js N n m U;refine⟨?_,?_⟩
  .exact⟨λ_ _ _=>by unfold Av;exact ly lx⟩
  .exact⟨λ_ _ _=>by unfold BT;exact ly lx⟩
theorem O6(N n m:Nat)(h:n<=m):Mo (@Av (eN N) n) (@Av HH m):=(Js N n m h).1
instance:MF @Ff:=⟨λN _ _ _=>LL N λn hn=>(O6 N N n hn).le _ _ _⟩
instance:MF @Ej:=⟨λ_ _ _ _ _ _ _=>by unfold Ej;exact ly lx⟩
instance:MF @D1:=⟨λ_ _ _ _ _ _ _=>by unfold D1;exact ly lx⟩
instance:MF @KZ:=⟨λ_ _ _=>by unfold KZ;exact ly lx⟩
instance:MF @JI:=⟨λ_ _ _ _=>by unfold JI;exact ly lx⟩
instance:MF @Pe:=⟨λ_ _ _ _ _=>by unfold Pe;exact ly lx⟩
instance:MF @Pf:=⟨λ_ _ _ _=>by unfold Pf;exact ly lx⟩
instance:MF @L8:=⟨λ_ _ _=>by unfold L8;exact ly lx⟩
instance:MF @Mf:=⟨λ_ _ _ _ _=>by unfold Mf;exact ly lx⟩
instance:MF @KY:=⟨λ_ _ _ _ _=>by unfold KY;exact ly lx⟩
instance:MF @E1:=⟨λ_ _ _ _ _=>by unfold E1;exact ly lx⟩
instance:MF @D3:=⟨λ_ _ _ _=>by unfold D3;exact ly lx⟩
instance:MF @E3:=⟨λ_ _ _ _ _=>by unfold E3;exact ly lx⟩
instance:MF @CC:=⟨λ_ _ _ _=>by unfold CC;exact ly lx⟩
instance:MF @KV:=⟨λ_ _ _ _ _=>by unfold KV;exact ly lx⟩
theorem Jr(N:Nat):∀n m:Nat,n<=m->Mo (@A5 (eN N) n) (@A5 HH m)/\Mo (@BS (eN N) n) (@BS HH m)
 |0,_,_=>⟨⟨λ_ _=>Le.none _⟩,⟨λ_ _ _ _=>Le.none _⟩⟩|n+1,0,h=>absurd h U|n+1,m+1,h=>by
  obtain ⟨i0,i1⟩:=Jr N n m U;refine⟨?_,?_⟩
  .exact⟨λ_ _=>by unfold A5;exact ly lx⟩
  .exact⟨λ_ _ _ _=>by unfold BS;exact ly lx⟩
theorem O5(N n m:Nat)(h:n<=m):Mo (@A5 (eN N) n) (@A5 HH m):=(Jr N n m h).1
instance:MF @Fd:=⟨λN _ _=>LL N λn hn=>(O5 N N n hn).le _ _⟩
instance:MF @CD:=⟨λ_ _ _ _=>by unfold CD;exact ly lx⟩
instance:MF @GL:=⟨λ_ _ _ _ _=>by unfold GL;exact ly lx⟩
theorem Su(N:Nat):∀n m:Nat,n<=m->Mo (@EI (eN N) n) (@EI HH m)
 |0,_,_=>⟨λ_ _=>Le.none _⟩|n+1,0,h=>absurd h U|n+1,m+1,h=>by
  have ih:=Su N n m U;exact⟨λ_ _=>by unfold EI;exact ly lx⟩
instance:MF @M0:=⟨λN _ _=>LL N λn hn=>(Su N N n hn).le _ _⟩
instance:MF @Lq:=⟨λ_ _ _ _=>by unfold Lq;exact ly lx⟩
instance:MF @IJ:=⟨λ_ _ _=>by unfold IJ;exact ly lx⟩
instance:MF @Lp:=⟨λ_ _ _=>by unfold Lp;exact ly lx⟩
instance:MF @Kx:=⟨λ_ _=>by unfold Kx;exact ly lx⟩
instance:MF @EH:=⟨λ_ _=>by unfold EH;exact ly lx⟩
instance:MF @JS:=⟨λ_ _=>by unfold JS;exact ly lx⟩
instance:MF @GA:=⟨λ_ _=>by unfold GA;exact ly lx⟩
instance:MF @KO:=⟨λ_ _ _=>by unfold KO;exact ly lx⟩
instance:MF @KN:=⟨λ_ _ _=>by unfold KN;exact ly lx⟩
instance:MF @EO:=⟨λ_ _=>by unfold EO;exact ly lx⟩
instance:MF @Ht:=⟨λ_ _ _ _=>by unfold Ht;exact ly lx⟩
theorem R1(N:Nat):∀n m:Nat,n<=m->Mo (@Dt (eN N) n) (@Dt HH m)
 |0,_,_=>⟨λ_ _ _=>Le.none _⟩|n+1,0,h=>absurd h U|n+1,m+1,h=>by
  have ih:=R1 N n m U;exact⟨λ_ _ _=>by unfold Dt;exact ly lx⟩
instance:MF @G3:=⟨λN _ _ _=>LL N λn hn=>(R1 N N n hn).le _ _ _⟩
instance:MF @EY:=⟨λ_ _ _ _ _=>by unfold EY;exact ly lx⟩
instance:MF @Dw:=⟨λ_ _ _=>by unfold Dw;exact ly lx⟩
instance:MF @KQ:=⟨λ_ _ _=>by unfold KQ;exact ly lx⟩
instance:MF @Gt:=⟨λ_ _=>by unfold Gt;exact ly lx⟩
instance:MF @GD:=⟨λ_=>by unfold GD;exact ly lx⟩
instance:MF @Gq:=⟨λ_=>by unfold Gq;exact ly lx⟩
end Go.Sf.Sc
namespace Go.Sf.Sc
open Go Go.Sf
theorem rR:@Gq (eN 40)=some true:=b!
theorem nM:Gq=some true:=
 LO (MF.le (f:=@Gq) 40) _ rR
end Go.Sf.Sc
