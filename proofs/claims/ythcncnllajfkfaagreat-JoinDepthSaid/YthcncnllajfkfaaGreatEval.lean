/- Lemmas. -/
import Derived.Test.YthcncnllajfkfaaGreatFns
import Derived.Test.YthcncnllajfkfaaGreatSfPl
set_option linter.all false
set_option maxRecDepth 100000
namespace Go.Sf.Sc
open Go Go.Sf
instance(N:Nat)(s1_0:List Fp)(s2_1:List Fp)(eq' eq:Fp->Fp->K1)[heq:∀y0 y1,Mo (eq' y0 y1) (eq y0 y1)]:Mo (@DK (eN N) s1_0 s2_1 eq') (@DK E6 s1_0 s2_1 eq):=⟨by unfold DK;exact ly lx⟩
instance:MF @GR:=⟨λ_ _ _=>by unfold GR;exact ly lx⟩
instance:MF @G6:=⟨λ_ _ _=>by unfold G6;exact ly lx⟩
instance(N:Nat)(s_0:ByteArray)(ok' ok:Int->K1)[hok:∀y0,Mo (ok' y0) (ok y0)]:Mo (@IW (eN N) s_0 ok') (@IW E6 s_0 ok):=⟨by unfold IW;exact ly lx⟩
instance:MF @Iw:=⟨λ_ _=>by unfold Iw;exact ly lx⟩
instance:MF @Lc:=⟨λ_ _=>by unfold Lc;exact ly lx⟩
instance:MF @MB:=⟨λ_ _=>by unfold MB;exact ly lx⟩
instance:MF @Ec:=⟨λ_ _=>by unfold Ec;exact ly lx⟩
instance(N:Nat)(s_0:List Ba)(f' f:Ba->K1)[hf:∀y0,Mo (f' y0) (f y0)]:Mo (@DT (eN N) s_0 f') (@DT E6 s_0 f):=⟨by unfold DT;exact ly lx⟩
instance(N:Nat)(s_0:List Ba)(f' f:Ba->K1)[hf:∀y0,Mo (f' y0) (f y0)]:Mo (@Cg (eN N) s_0 f') (@Cg E6 s_0 f):=⟨by unfold Cg;exact ly lx⟩
theorem Tz(N:Nat):∀n m:Nat,n<=m->Mo (@Dm (eN N) n) (@Dm E6 m)
 |0,_,_=>⟨λ_ _=>Le.none _⟩|n+1,0,h=>absurd h U|n+1,m+1,h=>by
  have ih:=Tz N n m U;exact⟨λ_ _=>by unfold Dm;exact ly lx⟩
instance:MF @OM:=⟨λN _ _=>LL N λn hn=>(Tz N N n hn).le _ _⟩
instance(N:Nat)(s_0:List kp)(f' f:kp->K1)[hf:∀y0,Mo (f' y0) (f y0)]:Mo (@EP (eN N) s_0 f') (@EP E6 s_0 f):=⟨by unfold EP;exact ly lx⟩
instance(N:Nat)(s_0:List kp)(f' f:kp->K1)[hf:∀y0,Mo (f' y0) (f y0)]:Mo (@C5 (eN N) s_0 f') (@C5 E6 s_0 f):=⟨by unfold C5;exact ly lx⟩
instance:MF @KD:=⟨λ_ _=>by unfold KD;exact ly lx⟩
instance:MF @GO:=⟨λ_ _ _=>by unfold GO;exact ly lx⟩
instance:MF @Lg:=⟨λ_ _ _=>by unfold Lg;exact ly lx⟩
instance(N:Nat)(s_0:List Cs)(f' f:Cs->K1)[hf:∀y0,Mo (f' y0) (f y0)]:Mo (@DR (eN N) s_0 f') (@DR E6 s_0 f):=⟨by unfold DR;exact ly lx⟩
instance(N:Nat)(s_0:List Cs)(f' f:Cs->K1)[hf:∀y0,Mo (f' y0) (f y0)]:Mo (@Cf (eN N) s_0 f') (@Cf E6 s_0 f):=⟨by unfold Cf;exact ly lx⟩
instance:MF @Ld:=⟨λ_ _ _=>by unfold Ld;exact ly lx⟩
instance:MF @D9:=⟨λ_ _=>by unfold D9;exact ly lx⟩
instance(N:Nat)(s_0:Fp)(f' f:Int->K1)[hf:∀y0,Mo (f' y0) (f y0)]:Mo (@El (eN N) s_0 f') (@El E6 s_0 f):=⟨by unfold El;exact ly lx⟩
instance(N:Nat)(s_0:Fp)(f' f:Int->K1)[hf:∀y0,Mo (f' y0) (f y0)]:Mo (@BF (eN N) s_0 f') (@BF E6 s_0 f):=⟨by unfold BF;exact ly lx⟩
instance(N:Nat)(s_0:List Bx)(f' f:Bx->K1)[hf:∀y0,Mo (f' y0) (f y0)]:Mo (@EQ (eN N) s_0 f') (@EQ E6 s_0 f):=⟨by unfold EQ;exact ly lx⟩
instance(N:Nat)(s_0:List Bx)(f' f:Bx->K1)[hf:∀y0,Mo (f' y0) (f y0)]:Mo (@Br (eN N) s_0 f') (@Br E6 s_0 f):=⟨by unfold Br;exact ly lx⟩
instance:MF @DO:=⟨λ_ _=>by unfold DO;exact ly lx⟩
instance:MF @HK:=⟨λ_ _ _=>by unfold HK;exact ly lx⟩
instance:MF @FI:=⟨λ_ _ _=>by unfold FI;exact ly lx⟩
instance:MF @Gn:=⟨λ_ _ _ _=>by unfold Gn;exact ly lx⟩
instance:MF @Do:=⟨λ_ _ _=>by unfold Do;exact ly lx⟩
instance:MF @LU:=⟨λ_ _ _=>by unfold LU;exact ly lx⟩
instance(N:Nat)(s_0:List CA)(f' f:CA->K1)[hf:∀y0,Mo (f' y0) (f y0)]:Mo (@ER (eN N) s_0 f') (@ER E6 s_0 f):=⟨by unfold ER;exact ly lx⟩
instance(N:Nat)(s_0:List CA)(f' f:CA->K1)[hf:∀y0,Mo (f' y0) (f y0)]:Mo (@Cm (eN N) s_0 f') (@Cm E6 s_0 f):=⟨by unfold Cm;exact ly lx⟩
instance:MF @M1:=⟨λ_ _ _ _=>by unfold M1;exact ly lx⟩
instance:MF @LT:=⟨λ_ _ _=>by unfold LT;exact ly lx⟩
instance:MF @Fu:=⟨λ_ _ _=>by unfold Fu;exact ly lx⟩
instance:MF @Fa:=⟨λ_ _ _=>by unfold Fa;exact ly lx⟩
instance:MF @D6:=⟨λ_ _ _ _=>by unfold D6;exact ly lx⟩
instance:MF @Dw:=⟨λ_ _ _ _=>by unfold Dw;exact ly lx⟩
instance:MF @M0:=⟨λ_ _=>by unfold M0;exact ly lx⟩
instance:MF @Nk:=⟨λ_ _ _=>by unfold Nk;exact ly lx⟩
instance:MF @Lf:=⟨λ_ _ _ _=>by unfold Lf;exact ly lx⟩
instance:MF @Jt:=⟨λ_ _ _ _ _=>by unfold Jt;exact ly lx⟩
instance:MF @Ib:=⟨λ_ _ _ _=>by unfold Ib;exact ly lx⟩
instance:MF @Is:=⟨λ_ _ _ _ _=>by unfold Is;exact ly lx⟩
instance(N:Nat)(s_0:List d7)(f' f:d7->K1)[hf:∀y0,Mo (f' y0) (f y0)]:Mo (@DF (eN N) s_0 f') (@DF E6 s_0 f):=⟨by unfold DF;exact ly lx⟩
instance(N:Nat)(s_0:List d7)(f' f:d7->K1)[hf:∀y0,Mo (f' y0) (f y0)]:Mo (@CI (eN N) s_0 f') (@CI E6 s_0 f):=⟨by unfold CI;exact ly lx⟩
theorem Np(N:Nat):∀n m:Nat,n<=m->Mo (@Bn (eN N) n) (@Bn E6 m)/\Mo (@Bz (eN N) n) (@Bz E6 m)
 |0,_,_=>⟨⟨λ_=>Le.none _⟩,⟨λ_=>Le.none _⟩⟩|n+1,0,h=>absurd h U|n+1,m+1,h=>by
  obtain ⟨i0,i1⟩:=Np N n m U;refine⟨?_,?_⟩
  .exact⟨λ_=>by unfold Bn;exact ly lx⟩
  .exact⟨λ_=>by unfold Bz;exact ly lx⟩
theorem Si(N n m:Nat)(h:n<=m):Mo (@Bn (eN N) n) (@Bn E6 m):=(Np N n m h).1
instance:MF @H9:=⟨λN _=>LL N λn hn=>(Si N N n hn).le _⟩
theorem PI(N:Nat):∀n m:Nat,n<=m->Mo (@Cj (eN N) n) (@Cj E6 m)
 |0,_,_=>⟨λ_=>Le.none _⟩|n+1,0,h=>absurd h U|n+1,m+1,h=>by
  have ih:=PI N n m U;exact⟨λ_=>by unfold Cj;exact ly lx⟩
instance:MF @KH:=⟨λN _=>LL N λn hn=>(PI N N n hn).le _⟩
instance:MF @GE:=⟨λ_ _=>by unfold GE;exact ly lx⟩
instance:MF @Ez:=⟨λ_ _ _ _=>by unfold Ez;exact ly lx⟩
theorem P2(N:Nat):∀n m:Nat,n<=m->Mo (@CS (eN N) n) (@CS E6 m)
 |0,_,_=>⟨λ_ _ _=>Le.none _⟩|n+1,0,h=>absurd h U|n+1,m+1,h=>by
  have ih:=P2 N n m U;exact⟨λ_ _ _=>by unfold CS;exact ly lx⟩
instance:MF @Og:=⟨λN _ _ _=>LL N λn hn=>(P2 N N n hn).le _ _ _⟩
instance:MF @Dp:=⟨λ_ _ _ _=>by unfold Dp;exact ly lx⟩
instance:MF @Jm:=⟨λ_ _ _=>by unfold Jm;exact ly lx⟩
instance:MF @Md:=⟨λ_ _ _ _=>by unfold Md;exact ly lx⟩
instance:MF @G5:=⟨λ_ _ _=>by unfold G5;exact ly lx⟩
instance:MF @FV:=⟨λ_ _ _ _=>by unfold FV;exact ly lx⟩
instance:MF @IE:=⟨λ_ _ _ _=>by unfold IE;exact ly lx⟩
instance:MF @GX:=⟨λ_ _ _=>by unfold GX;exact ly lx⟩
instance:MF @FH:=⟨λ_ _ _ _=>by unfold FH;exact ly lx⟩
instance:MF @KC:=⟨λ_ _ _=>by unfold KC;exact ly lx⟩
instance:MF @HP:=⟨λ_ _=>by unfold HP;exact ly lx⟩
instance:MF @HQ:=⟨λ_ _ _ _ _=>by unfold HQ;exact ly lx⟩
instance:MF @GJ:=⟨λ_ _ _ _ _ _=>by unfold GJ;exact ly lx⟩
instance:MF @E4:=⟨λ_ _ _ _=>by unfold E4;exact ly lx⟩
instance:MF @E3:=⟨λ_ _ _ _ _=>by unfold E3;exact ly lx⟩
instance:MF @Ki:=⟨λ_ _ _ _ _=>by unfold Ki;exact ly lx⟩
instance:MF @GK:=⟨λ_ _ _ _ _=>by unfold GK;exact ly lx⟩
instance:MF @DQ:=⟨λ_ _=>by unfold DQ;exact ly lx⟩
instance:MF @Hk:=⟨λ_ _ _ _ _=>by unfold Hk;exact ly lx⟩
instance:MF @GD:=⟨λ_ _ _ _ _ _ _=>by unfold GD;exact ly lx⟩
theorem MY(N:Nat):∀n m:Nat,n<=m->Mo (@BL (eN N) n) (@BL E6 m)
 |0,_,_=>⟨λ_=>Le.none _⟩|n+1,0,h=>absurd h U|n+1,m+1,h=>by
  have ih:=MY N n m U;exact⟨λ_=>by unfold BL;exact ly lx⟩
instance:MF @HZ:=⟨λN _=>LL N λn hn=>(MY N N n hn).le _⟩
instance:MF @GL:=⟨λ_ _ _ _ _ _ _=>by unfold GL;exact ly lx⟩
instance:MF @Jn:=⟨λ_ _ _ _ _ _=>by unfold Jn;exact ly lx⟩
instance:MF @IV:=⟨λ_ _ _=>by unfold IV;exact ly lx⟩
instance:MF @Hp:=⟨λ_ _ _ _ _ _=>by unfold Hp;exact ly lx⟩
instance:MF @Ce:=⟨λ_ _ _ _=>by unfold Ce;exact ly lx⟩
theorem KS(N:Nat):∀n m:Nat,n<=m->Mo (@BA (eN N) n) (@BA E6 m)/\Mo (@Bh (eN N) n) (@Bh E6 m)
 |0,_,_=>⟨⟨λ_ _ _=>Le.none _⟩,⟨λ_ _ _=>Le.none _⟩⟩|n+1,0,h=>absurd h U|n+1,m+1,h=>by
  obtain ⟨i0,i1⟩:=KS N n m U;refine⟨?_,?_⟩
  .exact⟨λ_ _ _=>by unfold BA;exact ly lx⟩
  .exact⟨λ_ _ _=>by unfold Bh;exact ly lx⟩
theorem P7(N n m:Nat)(h:n<=m):Mo (@BA (eN N) n) (@BA E6 m):=(KS N n m h).1
instance:MF @Fy:=⟨λN _ _ _=>LL N λn hn=>(P7 N N n hn).le _ _ _⟩
instance:MF @Ey:=⟨λ_ _ _ _ _ _ _=>by unfold Ey;exact ly lx⟩
instance:MF @EC:=⟨λ_ _ _ _ _ _ _=>by unfold EC;exact ly lx⟩
instance:MF @LZ:=⟨λ_ _ _=>by unfold LZ;exact ly lx⟩
instance:MF @Jr:=⟨λ_ _ _ _=>by unfold Jr;exact ly lx⟩
instance:MF @Qc:=⟨λ_ _ _ _ _=>by unfold Qc;exact ly lx⟩
instance:MF @Qd:=⟨λ_ _ _ _=>by unfold Qd;exact ly lx⟩
instance:MF @M5:=⟨λ_ _ _=>by unfold M5;exact ly lx⟩
instance:MF @ID:=⟨λ_ _ _ _ _=>by unfold ID;exact ly lx⟩
instance:MF @FR:=⟨λ_ _ _ _ _=>by unfold FR;exact ly lx⟩
instance:MF @FU:=⟨λ_ _ _ _ _=>by unfold FU;exact ly lx⟩
instance:MF @EA:=⟨λ_ _ _ _=>by unfold EA;exact ly lx⟩
instance(N:Nat)(s1_0:List d7)(s2_1:List d7)(eq' eq:d7->d7->K1)[heq:∀y0 y1,Mo (eq' y0 y1) (eq y0 y1)]:Mo (@CZ (eN N) s1_0 s2_1 eq') (@CZ E6 s1_0 s2_1 eq):=⟨by unfold CZ;exact ly lx⟩
theorem RQ(N:Nat):∀n m:Nat,n<=m->Mo (@C1 (eN N) n) (@C1 E6 m)
 |0,_,_=>⟨λ_ _=>Le.none _⟩|n+1,0,h=>absurd h U|n+1,m+1,h=>by
  have ih:=RQ N n m U;exact⟨λ_ _=>by unfold C1;exact ly lx⟩
instance:MF @NG:=⟨λN _ _=>LL N λn hn=>(RQ N N n hn).le _ _⟩
instance:MF @My:=⟨λ_ _ _=>by unfold My;exact ly lx⟩
instance:MF @M4:=⟨λ_ _ _=>by unfold M4;exact ly lx⟩
instance:MF @Jq:=⟨λ_ _ _=>by unfold Jq;exact ly lx⟩
instance:MF @Jc:=⟨λ_ _ _ _ _=>by unfold Jc;exact ly lx⟩
instance:MF @LV:=⟨λ_ _ _ _ _=>by unfold LV;exact ly lx⟩
instance:MF @Eu:=⟨λ_ _ _ _ _=>by unfold Eu;exact ly lx⟩
instance:MF @E8:=⟨λ_ _ _ _=>by unfold E8;exact ly lx⟩
instance(N:Nat)(s_0:List A8)(f' f:A8->K1)[hf:∀y0,Mo (f' y0) (f y0)]:Mo (@Dl (eN N) s_0 f') (@Dl E6 s_0 f):=⟨by unfold Dl;exact ly lx⟩
instance(N:Nat)(s_0:List A8)(f' f:A8->K1)[hf:∀y0,Mo (f' y0) (f y0)]:Mo (@CF (eN N) s_0 f') (@CF E6 s_0 f):=⟨by unfold CF;exact ly lx⟩
theorem O7(N:Nat):∀n m:Nat,n<=m->Mo (@CW (eN N) n) (@CW E6 m)
 |0,_,_=>⟨λ_=>Le.none _⟩|n+1,0,h=>absurd h U|n+1,m+1,h=>by
  have ih:=O7 N n m U;exact⟨λ_=>by unfold CW;exact ly lx⟩
instance:MF @KG:=⟨λN _=>LL N λn hn=>(O7 N N n hn).le _⟩
theorem O8(N:Nat):∀n m:Nat,n<=m->Mo (@CX (eN N) n) (@CX E6 m)
 |0,_,_=>⟨λ_=>Le.none _⟩|n+1,0,h=>absurd h U|n+1,m+1,h=>by
  have ih:=O8 N n m U;exact⟨λ_=>by unfold CX;exact ly lx⟩
instance:MF @Hs:=⟨λN _=>LL N λn hn=>(O8 N N n hn).le _⟩
instance:MF @Dz:=⟨λ_ _ _ _ _=>by unfold Dz;exact ly lx⟩
instance:MF @NQ:=⟨λ_ _ _=>by unfold NQ;exact ly lx⟩
instance:MF @G7:=⟨λ_ _ _=>by unfold G7;exact ly lx⟩
instance:MF @II:=⟨λ_ _ _ _ _=>by unfold II;exact ly lx⟩
instance:MF @Kq:=⟨λ_ _ _ _ _ _ _=>by unfold Kq;exact ly lx⟩
instance:MF @N0:=⟨λ_ _ _ _ _ _=>by unfold N0;exact ly lx⟩
instance:MF @Hz:=⟨λ_ _=>by unfold Hz;exact ly lx⟩
instance:MF @Gh:=⟨λ_ _=>by unfold Gh;exact ly lx⟩
instance:MF @Gr:=⟨λ_ _ _ _=>by unfold Gr;exact ly lx⟩
instance:MF @Ik:=⟨λ_ _ _ _=>by unfold Ik;exact ly lx⟩
instance:MF @PQ:=⟨λ_ _ _ _ _ _=>by unfold PQ;exact ly lx⟩
theorem Tu(N:Nat):∀n m:Nat,n<=m->Mo (@EZ (eN N) n) (@EZ E6 m)
 |0,_,_=>⟨λ_ _=>Le.none _⟩|n+1,0,h=>absurd h U|n+1,m+1,h=>by
  have ih:=Tu N n m U;exact⟨λ_ _=>by unfold EZ;exact ly lx⟩
instance:MF @N6:=⟨λN _ _=>LL N λn hn=>(Tu N N n hn).le _ _⟩
instance:MF @Mp:=⟨λ_ _ _ _=>by unfold Mp;exact ly lx⟩
instance:MF @Im:=⟨λ_ _ _=>by unfold Im;exact ly lx⟩
instance:MF @Mn:=⟨λ_ _ _=>by unfold Mn;exact ly lx⟩
instance:MF @L0:=⟨λ_ _=>by unfold L0;exact ly lx⟩
instance:MF @EY:=⟨λ_ _=>by unfold EY;exact ly lx⟩
instance:MF @J1:=⟨λ_ _=>by unfold J1;exact ly lx⟩
instance:MF @GI:=⟨λ_ _=>by unfold GI;exact ly lx⟩
instance:MF @LM:=⟨λ_ _ _=>by unfold LM;exact ly lx⟩
instance:MF @LK:=⟨λ_ _ _=>by unfold LK;exact ly lx⟩
instance:MF @Ee:=⟨λ_ _=>by unfold Ee;exact ly lx⟩
instance:MF @IL:=⟨λ_ _ _ _=>by unfold IL;exact ly lx⟩
theorem TA(N:Nat):∀n m:Nat,n<=m->Mo (@D2 (eN N) n) (@D2 E6 m)
 |0,_,_=>⟨λ_ _ _=>Le.none _⟩|n+1,0,h=>absurd h U|n+1,m+1,h=>by
  have ih:=TA N n m U;exact⟨λ_ _ _=>by unfold D2;exact ly lx⟩
instance:MF @FE:=⟨λN _ _ _=>LL N λn hn=>(TA N N n hn).le _ _ _⟩
instance:MF @HC:=⟨λ_ _ _ _ _=>by unfold HC;exact ly lx⟩
instance:MF @Ds:=⟨λ_ _ _=>by unfold Ds;exact ly lx⟩
instance:MF @LP:=⟨λ_ _ _ _=>by unfold LP;exact ly lx⟩
instance:MF @F2:=⟨λ_ _ _=>by unfold F2;exact ly lx⟩
instance:MF @LR:=⟨λ_ _ _ _ _=>by unfold LR;exact ly lx⟩
instance:MF @F4:=⟨λ_ _ _=>by unfold F4;exact ly lx⟩
theorem RT(N:Nat):∀n m:Nat,n<=m->Mo (@DI (eN N) n) (@DI E6 m)
 |0,_,_=>⟨λ_=>Le.none _⟩|n+1,0,h=>absurd h U|n+1,m+1,h=>by
  have ih:=RT N n m U;exact⟨λ_=>by unfold DI;exact ly lx⟩
instance:MF @NZ:=⟨λN _=>LL N λn hn=>(RT N N n hn).le _⟩
theorem Sb(N:Nat):∀n m:Nat,n<=m->Mo (@Dj (eN N) n) (@Dj E6 m)
 |0,_,_=>⟨λ_=>Le.none _⟩|n+1,0,h=>absurd h U|n+1,m+1,h=>by
  have ih:=Sb N n m U;exact⟨λ_=>by unfold Dj;exact ly lx⟩
instance:MF @OV:=⟨λN _=>LL N λn hn=>(Sb N N n hn).le _⟩
instance:MF @J8:=⟨λ_ _=>by unfold J8;exact ly lx⟩
instance:MF @J9:=⟨λ_ _ _ _=>by unfold J9;exact ly lx⟩
theorem U4(N:Nat):∀n m:Nat,n<=m->Mo (@D8 (eN N) n) (@D8 E6 m)
 |0,_,_=>⟨λ_ _ _=>Le.none _⟩|n+1,0,h=>absurd h U|n+1,m+1,h=>by
  have ih:=U4 N n m U;exact⟨λ_ _ _=>by unfold D8;exact ly lx⟩
instance:MF @Uj:=⟨λN _ _ _=>LL N λn hn=>(U4 N N n hn).le _ _ _⟩
instance:MF @IR:=⟨λ_ _ _ _=>by unfold IR;exact ly lx⟩
instance:MF @LS:=⟨λ_ _ _ _=>by unfold LS;exact ly lx⟩
instance:MF @KA:=⟨λ_ _ _=>by unfold KA;exact ly lx⟩
instance:MF @Ir:=⟨λ_ _ _ _ _=>by unfold Ir;exact ly lx⟩
instance:MF @IS:=⟨λ_ _ _=>by unfold IS;exact ly lx⟩
instance:MF @HH:=⟨λ_ _ _ _=>by unfold HH;exact ly lx⟩
instance:MF @F3:=⟨λ_ _ _ _=>by unfold F3;exact ly lx⟩
instance:MF @J4:=⟨λ_ _ _ _ _ _=>by unfold J4;exact ly lx⟩
instance:MF @HD:=⟨λ_ _ _ _ _ _=>by unfold HD;exact ly lx⟩
instance:MF @IQ:=⟨λ_ _ _ _=>by unfold IQ;exact ly lx⟩
instance:MF @J5:=⟨λ_ _ _ _ _=>by unfold J5;exact ly lx⟩
instance:MF @Gy:=⟨λ_ _ _ _ _=>by unfold Gy;exact ly lx⟩
instance:MF @Ci:=⟨λ_ _ _ _=>by unfold Ci;exact ly lx⟩
theorem MV(N:Nat):∀n m:Nat,n<=m->Mo (@B3 (eN N) n) (@B3 E6 m)
 |0,_,_=>⟨λ_ _ _=>Le.none _⟩|n+1,0,h=>absurd h U|n+1,m+1,h=>by
  have ih:=MV N n m U;exact⟨λ_ _ _=>by unfold B3;exact ly lx⟩
instance:MF @KQ:=⟨λN _ _ _=>LL N λn hn=>(MV N N n hn).le _ _ _⟩
theorem MW(N:Nat):∀n m:Nat,n<=m->Mo (@B4 (eN N) n) (@B4 E6 m)
 |0,_,_=>⟨λ_ _=>Le.none _⟩|n+1,0,h=>absurd h U|n+1,m+1,h=>by
  have ih:=MW N n m U;exact⟨λ_ _=>by unfold B4;exact ly lx⟩
instance:MF @HV:=⟨λN _ _=>LL N λn hn=>(MW N N n hn).le _ _⟩
instance:MF @Kr:=⟨λ_ _ _ _ _ _ _=>by unfold Kr;exact ly lx⟩
instance:MF @Io:=⟨λ_ _ _ _ _ _=>by unfold Io;exact ly lx⟩
instance:MF @FY:=⟨λ_ _ _ _ _ _=>by unfold FY;exact ly lx⟩
theorem Tv(N:Nat):∀n m:Nat,n<=m->Mo (@DJ (eN N) n) (@DJ E6 m)
 |0,_,_=>⟨λ_ _ _ _ _=>Le.none _⟩|n+1,0,h=>absurd h U|n+1,m+1,h=>by
  have ih:=Tv N n m U;exact⟨λ_ _ _ _ _=>by unfold DJ;exact ly lx⟩
instance:MF @Qs:=⟨λN _ _ _ _ _=>LL N λn hn=>(Tv N N n hn).le _ _ _ _ _⟩
instance:MF @J7:=⟨λ_ _ _ _ _ _=>by unfold J7;exact ly lx⟩
instance:MF @Ia:=⟨λ_ _ _ _ _=>by unfold Ia;exact ly lx⟩
instance:MF @Hn:=⟨λ_ _ _ _=>by unfold Hn;exact ly lx⟩
instance:MF @JE:=⟨λ_ _ _ _=>by unfold JE;exact ly lx⟩
instance:MF @Jj:=⟨λ_ _ _ _ _=>by unfold Jj;exact ly lx⟩
instance:MF @Ku:=⟨λ_ _ _ _ _ _=>by unfold Ku;exact ly lx⟩
instance:MF @IT:=⟨λ_ _ _ _ _=>by unfold IT;exact ly lx⟩
instance:MF @LQ:=⟨λ_ _=>by unfold LQ;exact ly lx⟩
instance:MF @Ms:=⟨λ_ _ _ _ _=>by unfold Ms;exact ly lx⟩
instance:MF @Ho:=⟨λ_ _ _ _ _=>by unfold Ho;exact ly lx⟩
instance:MF @FZ:=⟨λ_ _ _ _=>by unfold FZ;exact ly lx⟩
instance:MF @HF:=⟨λ_ _ _ _ _=>by unfold HF;exact ly lx⟩
instance:MF @G8:=⟨λ_=>by unfold G8;exact ly lx⟩
end Go.Sf.Sc
namespace Go.Sf.Sc
open Go Go.Sf
theorem tq:@G8 (eN 40)=some true:=c!
theorem pv:G8=some true:=
 LO (MF.le (f:=@G8) 40) _ tq
end Go.Sf.Sc
