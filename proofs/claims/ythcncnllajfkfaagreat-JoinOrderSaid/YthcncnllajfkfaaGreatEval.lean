/- Lemmas. -/
import Derived.Test.YthcncnllajfkfaaGreatFns
import Derived.Test.YthcncnllajfkfaaGreatSfPl
set_option linter.all false
set_option maxRecDepth 100000
namespace Go.Sf.Sc
open Go Go.Sf
instance(N:Nat)(s1_0:List Fp)(s2_1:List Fp)(eq' eq:Fp->Fp->K1)[heq:∀y0 y1,Mo (eq' y0 y1) (eq y0 y1)]:Mo (@DL (eN N) s1_0 s2_1 eq') (@DL E6 s1_0 s2_1 eq):=⟨by unfold DL;exact ly lx⟩
instance:MF @GV:=⟨λ_ _ _=>by unfold GV;exact ly lx⟩
instance:MF @G7:=⟨λ_ _ _=>by unfold G7;exact ly lx⟩
instance(N:Nat)(s_0:ByteArray)(ok' ok:Int->K1)[hok:∀y0,Mo (ok' y0) (ok y0)]:Mo (@IY (eN N) s_0 ok') (@IY E6 s_0 ok):=⟨by unfold IY;exact ly lx⟩
instance:MF @Ix:=⟨λ_ _=>by unfold Ix;exact ly lx⟩
instance:MF @La:=⟨λ_ _=>by unfold La;exact ly lx⟩
instance:MF @L7:=⟨λ_ _=>by unfold L7;exact ly lx⟩
instance:MF @Ee:=⟨λ_ _=>by unfold Ee;exact ly lx⟩
instance(N:Nat)(s_0:List Ba)(f' f:Ba->K1)[hf:∀y0,Mo (f' y0) (f y0)]:Mo (@DV (eN N) s_0 f') (@DV E6 s_0 f):=⟨by unfold DV;exact ly lx⟩
instance(N:Nat)(s_0:List Ba)(f' f:Ba->K1)[hf:∀y0,Mo (f' y0) (f y0)]:Mo (@Cf (eN N) s_0 f') (@Cf E6 s_0 f):=⟨by unfold Cf;exact ly lx⟩
theorem Tn(N:Nat):∀n m:Nat,n<=m->Mo (@Dn (eN N) n) (@Dn E6 m)
 |0,_,_=>⟨λ_ _=>Le.none _⟩|n+1,0,h=>absurd h U|n+1,m+1,h=>by
  have ih:=Tn N n m U;exact⟨λ_ _=>by unfold Dn;exact ly lx⟩
instance:MF @OE:=⟨λN _ _=>LL N λn hn=>(Tn N N n hn).le _ _⟩
instance(N:Nat)(s_0:List kh)(f' f:kh->K1)[hf:∀y0,Mo (f' y0) (f y0)]:Mo (@EO (eN N) s_0 f') (@EO E6 s_0 f):=⟨by unfold EO;exact ly lx⟩
instance(N:Nat)(s_0:List kh)(f' f:kh->K1)[hf:∀y0,Mo (f' y0) (f y0)]:Mo (@C4 (eN N) s_0 f') (@C4 E6 s_0 f):=⟨by unfold C4;exact ly lx⟩
instance:MF @KC:=⟨λ_ _=>by unfold KC;exact ly lx⟩
instance:MF @GQ:=⟨λ_ _ _=>by unfold GQ;exact ly lx⟩
instance:MF @Ld:=⟨λ_ _ _=>by unfold Ld;exact ly lx⟩
instance(N:Nat)(s_0:List Cs)(f' f:Cs->K1)[hf:∀y0,Mo (f' y0) (f y0)]:Mo (@DU (eN N) s_0 f') (@DU E6 s_0 f):=⟨by unfold DU;exact ly lx⟩
instance(N:Nat)(s_0:List Cs)(f' f:Cs->K1)[hf:∀y0,Mo (f' y0) (f y0)]:Mo (@Ce (eN N) s_0 f') (@Ce E6 s_0 f):=⟨by unfold Ce;exact ly lx⟩
instance:MF @Lb:=⟨λ_ _ _=>by unfold Lb;exact ly lx⟩
instance:MF @D9:=⟨λ_ _=>by unfold D9;exact ly lx⟩
instance(N:Nat)(s_0:Fp)(f' f:Int->K1)[hf:∀y0,Mo (f' y0) (f y0)]:Mo (@Em (eN N) s_0 f') (@Em E6 s_0 f):=⟨by unfold Em;exact ly lx⟩
instance(N:Nat)(s_0:Fp)(f' f:Int->K1)[hf:∀y0,Mo (f' y0) (f y0)]:Mo (@BG (eN N) s_0 f') (@BG E6 s_0 f):=⟨by unfold BG;exact ly lx⟩
instance(N:Nat)(s_0:List Bt)(f' f:Bt->K1)[hf:∀y0,Mo (f' y0) (f y0)]:Mo (@EP (eN N) s_0 f') (@EP E6 s_0 f):=⟨by unfold EP;exact ly lx⟩
instance(N:Nat)(s_0:List Bt)(f' f:Bt->K1)[hf:∀y0,Mo (f' y0) (f y0)]:Mo (@Bq (eN N) s_0 f') (@Bq E6 s_0 f):=⟨by unfold Bq;exact ly lx⟩
instance:MF @DP:=⟨λ_ _=>by unfold DP;exact ly lx⟩
instance:MF @HM:=⟨λ_ _ _=>by unfold HM;exact ly lx⟩
instance:MF @FI:=⟨λ_ _ _=>by unfold FI;exact ly lx⟩
instance:MF @Gr:=⟨λ_ _ _ _=>by unfold Gr;exact ly lx⟩
instance:MF @Dp:=⟨λ_ _ _=>by unfold Dp;exact ly lx⟩
instance:MF @LS:=⟨λ_ _ _=>by unfold LS;exact ly lx⟩
instance(N:Nat)(s_0:List CA)(f' f:CA->K1)[hf:∀y0,Mo (f' y0) (f y0)]:Mo (@EQ (eN N) s_0 f') (@EQ E6 s_0 f):=⟨by unfold EQ;exact ly lx⟩
instance(N:Nat)(s_0:List CA)(f' f:CA->K1)[hf:∀y0,Mo (f' y0) (f y0)]:Mo (@Cm (eN N) s_0 f') (@Cm E6 s_0 f):=⟨by unfold Cm;exact ly lx⟩
instance:MF @Mw:=⟨λ_ _ _ _=>by unfold Mw;exact ly lx⟩
instance:MF @LR:=⟨λ_ _ _=>by unfold LR;exact ly lx⟩
instance:MF @Fu:=⟨λ_ _ _=>by unfold Fu;exact ly lx⟩
instance:MF @Fa:=⟨λ_ _ _=>by unfold Fa;exact ly lx⟩
instance:MF @D6:=⟨λ_ _ _ _=>by unfold D6;exact ly lx⟩
instance:MF @Dw:=⟨λ_ _ _ _=>by unfold Dw;exact ly lx⟩
instance:MF @Mv:=⟨λ_ _=>by unfold Mv;exact ly lx⟩
instance:MF @Nd:=⟨λ_ _ _=>by unfold Nd;exact ly lx⟩
instance:MF @Lc:=⟨λ_ _ _ _=>by unfold Lc;exact ly lx⟩
instance:MF @Js:=⟨λ_ _ _ _ _=>by unfold Js;exact ly lx⟩
instance:MF @Ic:=⟨λ_ _ _ _=>by unfold Ic;exact ly lx⟩
instance:MF @It:=⟨λ_ _ _ _ _=>by unfold It;exact ly lx⟩
instance(N:Nat)(s_0:List d5)(f' f:d5->K1)[hf:∀y0,Mo (f' y0) (f y0)]:Mo (@DF (eN N) s_0 f') (@DF E6 s_0 f):=⟨by unfold DF;exact ly lx⟩
instance(N:Nat)(s_0:List d5)(f' f:d5->K1)[hf:∀y0,Mo (f' y0) (f y0)]:Mo (@CI (eN N) s_0 f') (@CI E6 s_0 f):=⟨by unfold CI;exact ly lx⟩
theorem Nh(N:Nat):∀n m:Nat,n<=m->Mo (@Bk (eN N) n) (@Bk E6 m)/\Mo (@Bx (eN N) n) (@Bx E6 m)
 |0,_,_=>⟨⟨λ_=>Le.none _⟩,⟨λ_=>Le.none _⟩⟩|n+1,0,h=>absurd h U|n+1,m+1,h=>by
  obtain ⟨i0,i1⟩:=Nh N n m U;refine⟨?_,?_⟩
  .exact⟨λ_=>by unfold Bk;exact ly lx⟩
  .exact⟨λ_=>by unfold Bx;exact ly lx⟩
theorem SY(N n m:Nat)(h:n<=m):Mo (@Bk (eN N) n) (@Bk E6 m):=(Nh N n m h).1
instance:MF @IB:=⟨λN _=>LL N λn hn=>(SY N N n hn).le _⟩
theorem PA(N:Nat):∀n m:Nat,n<=m->Mo (@Cj (eN N) n) (@Cj E6 m)
 |0,_,_=>⟨λ_=>Le.none _⟩|n+1,0,h=>absurd h U|n+1,m+1,h=>by
  have ih:=PA N n m U;exact⟨λ_=>by unfold Cj;exact ly lx⟩
instance:MF @KG:=⟨λN _=>LL N λn hn=>(PA N N n hn).le _⟩
instance:MF @GF:=⟨λ_ _=>by unfold GF;exact ly lx⟩
instance:MF @Ez:=⟨λ_ _ _ _=>by unfold Ez;exact ly lx⟩
theorem Pw(N:Nat):∀n m:Nat,n<=m->Mo (@CS (eN N) n) (@CS E6 m)
 |0,_,_=>⟨λ_ _ _=>Le.none _⟩|n+1,0,h=>absurd h U|n+1,m+1,h=>by
  have ih:=Pw N n m U;exact⟨λ_ _ _=>by unfold CS;exact ly lx⟩
instance:MF @OY:=⟨λN _ _ _=>LL N λn hn=>(Pw N N n hn).le _ _ _⟩
instance:MF @Dq:=⟨λ_ _ _ _=>by unfold Dq;exact ly lx⟩
instance:MF @Jl:=⟨λ_ _ _=>by unfold Jl;exact ly lx⟩
instance:MF @MY:=⟨λ_ _ _ _=>by unfold MY;exact ly lx⟩
instance:MF @G6:=⟨λ_ _ _=>by unfold G6;exact ly lx⟩
instance:MF @FU:=⟨λ_ _ _ _=>by unfold FU;exact ly lx⟩
instance:MF @IG:=⟨λ_ _ _ _=>by unfold IG;exact ly lx⟩
instance:MF @Ga:=⟨λ_ _ _=>by unfold Ga;exact ly lx⟩
instance:MF @FH:=⟨λ_ _ _ _=>by unfold FH;exact ly lx⟩
instance:MF @KB:=⟨λ_ _ _=>by unfold KB;exact ly lx⟩
instance:MF @HU:=⟨λ_ _=>by unfold HU;exact ly lx⟩
instance:MF @HV:=⟨λ_ _ _ _ _=>by unfold HV;exact ly lx⟩
instance:MF @GL:=⟨λ_ _ _ _ _ _=>by unfold GL;exact ly lx⟩
instance:MF @E4:=⟨λ_ _ _ _=>by unfold E4;exact ly lx⟩
instance:MF @E3:=⟨λ_ _ _ _ _=>by unfold E3;exact ly lx⟩
instance:MF @Ki:=⟨λ_ _ _ _ _=>by unfold Ki;exact ly lx⟩
instance:MF @GM:=⟨λ_ _ _ _ _=>by unfold GM;exact ly lx⟩
instance:MF @DR:=⟨λ_ _=>by unfold DR;exact ly lx⟩
instance:MF @Ho:=⟨λ_ _ _ _ _=>by unfold Ho;exact ly lx⟩
instance:MF @GE:=⟨λ_ _ _ _ _ _ _=>by unfold GE;exact ly lx⟩
theorem MS(N:Nat):∀n m:Nat,n<=m->Mo (@BL (eN N) n) (@BL E6 m)
 |0,_,_=>⟨λ_=>Le.none _⟩|n+1,0,h=>absurd h U|n+1,m+1,h=>by
  have ih:=MS N n m U;exact⟨λ_=>by unfold BL;exact ly lx⟩
instance:MF @Hd:=⟨λN _=>LL N λn hn=>(MS N N n hn).le _⟩
instance:MF @GN:=⟨λ_ _ _ _ _ _ _=>by unfold GN;exact ly lx⟩
instance:MF @Jm:=⟨λ_ _ _ _ _ _=>by unfold Jm;exact ly lx⟩
instance:MF @IX:=⟨λ_ _ _=>by unfold IX;exact ly lx⟩
instance:MF @Ht:=⟨λ_ _ _ _ _ _=>by unfold Ht;exact ly lx⟩
instance:MF @Cd:=⟨λ_ _ _ _=>by unfold Cd;exact ly lx⟩
theorem KQ(N:Nat):∀n m:Nat,n<=m->Mo (@BA (eN N) n) (@BA E6 m)/\Mo (@Bf (eN N) n) (@Bf E6 m)
 |0,_,_=>⟨⟨λ_ _ _=>Le.none _⟩,⟨λ_ _ _=>Le.none _⟩⟩|n+1,0,h=>absurd h U|n+1,m+1,h=>by
  obtain ⟨i0,i1⟩:=KQ N n m U;refine⟨?_,?_⟩
  .exact⟨λ_ _ _=>by unfold BA;exact ly lx⟩
  .exact⟨λ_ _ _=>by unfold Bf;exact ly lx⟩
theorem P1(N n m:Nat)(h:n<=m):Mo (@BA (eN N) n) (@BA E6 m):=(KQ N n m h).1
instance:MF @Fy:=⟨λN _ _ _=>LL N λn hn=>(P1 N N n hn).le _ _ _⟩
instance:MF @Ey:=⟨λ_ _ _ _ _ _ _=>by unfold Ey;exact ly lx⟩
instance:MF @EC:=⟨λ_ _ _ _ _ _ _=>by unfold EC;exact ly lx⟩
instance:MF @LX:=⟨λ_ _ _=>by unfold LX;exact ly lx⟩
instance:MF @Jq:=⟨λ_ _ _ _=>by unfold Jq;exact ly lx⟩
instance:MF @QV:=⟨λ_ _ _ _ _=>by unfold QV;exact ly lx⟩
instance:MF @QW:=⟨λ_ _ _ _=>by unfold QW;exact ly lx⟩
instance:MF @M0:=⟨λ_ _ _=>by unfold M0;exact ly lx⟩
instance:MF @IF:=⟨λ_ _ _ _ _=>by unfold IF;exact ly lx⟩
instance:MF @FQ:=⟨λ_ _ _ _ _=>by unfold FQ;exact ly lx⟩
instance:MF @FT:=⟨λ_ _ _ _ _=>by unfold FT;exact ly lx⟩
instance:MF @EA:=⟨λ_ _ _ _=>by unfold EA;exact ly lx⟩
instance(N:Nat)(s1_0:List d5)(s2_1:List d5)(eq' eq:d5->d5->K1)[heq:∀y0 y1,Mo (eq' y0 y1) (eq y0 y1)]:Mo (@CY (eN N) s1_0 s2_1 eq') (@CY E6 s1_0 s2_1 eq):=⟨by unfold CY;exact ly lx⟩
theorem RI(N:Nat):∀n m:Nat,n<=m->Mo (@C1 (eN N) n) (@C1 E6 m)
 |0,_,_=>⟨λ_ _=>Le.none _⟩|n+1,0,h=>absurd h U|n+1,m+1,h=>by
  have ih:=RI N n m U;exact⟨λ_ _=>by unfold C1;exact ly lx⟩
instance:MF @NA:=⟨λN _ _=>LL N λn hn=>(RI N N n hn).le _ _⟩
instance:MF @Mt:=⟨λ_ _ _=>by unfold Mt;exact ly lx⟩
instance:MF @Mz:=⟨λ_ _ _=>by unfold Mz;exact ly lx⟩
instance:MF @Jp:=⟨λ_ _ _=>by unfold Jp;exact ly lx⟩
instance:MF @Jc:=⟨λ_ _ _ _ _=>by unfold Jc;exact ly lx⟩
instance:MF @LT:=⟨λ_ _ _ _ _=>by unfold LT;exact ly lx⟩
instance:MF @Eu:=⟨λ_ _ _ _ _=>by unfold Eu;exact ly lx⟩
instance:MF @E8:=⟨λ_ _ _ _=>by unfold E8;exact ly lx⟩
instance(N:Nat)(s_0:List A7)(f' f:A7->K1)[hf:∀y0,Mo (f' y0) (f y0)]:Mo (@Dm (eN N) s_0 f') (@Dm E6 s_0 f):=⟨by unfold Dm;exact ly lx⟩
instance(N:Nat)(s_0:List A7)(f' f:A7->K1)[hf:∀y0,Mo (f' y0) (f y0)]:Mo (@CF (eN N) s_0 f') (@CF E6 s_0 f):=⟨by unfold CF;exact ly lx⟩
theorem O0(N:Nat):∀n m:Nat,n<=m->Mo (@CU (eN N) n) (@CU E6 m)
 |0,_,_=>⟨λ_=>Le.none _⟩|n+1,0,h=>absurd h U|n+1,m+1,h=>by
  have ih:=O0 N n m U;exact⟨λ_=>by unfold CU;exact ly lx⟩
instance:MF @KF:=⟨λN _=>LL N λn hn=>(O0 N N n hn).le _⟩
theorem O1(N:Nat):∀n m:Nat,n<=m->Mo (@CW (eN N) n) (@CW E6 m)
 |0,_,_=>⟨λ_=>Le.none _⟩|n+1,0,h=>absurd h U|n+1,m+1,h=>by
  have ih:=O1 N n m U;exact⟨λ_=>by unfold CW;exact ly lx⟩
instance:MF @Hw:=⟨λN _=>LL N λn hn=>(O1 N N n hn).le _⟩
instance:MF @Dz:=⟨λ_ _ _ _ _=>by unfold Dz;exact ly lx⟩
instance:MF @NI:=⟨λ_ _ _=>by unfold NI;exact ly lx⟩
instance:MF @G9:=⟨λ_ _ _=>by unfold G9;exact ly lx⟩
instance:MF @IK:=⟨λ_ _ _ _ _=>by unfold IK;exact ly lx⟩
instance:MF @Kr:=⟨λ_ _ _ _ _ _ _=>by unfold Kr;exact ly lx⟩
instance:MF @G8:=⟨λ_ _ _ _ _ _=>by unfold G8;exact ly lx⟩
instance:MF @H5:=⟨λ_ _=>by unfold H5;exact ly lx⟩
instance:MF @Gl:=⟨λ_ _=>by unfold Gl;exact ly lx⟩
instance:MF @Gu:=⟨λ_ _ _ _=>by unfold Gu;exact ly lx⟩
instance:MF @Il:=⟨λ_ _ _ _=>by unfold Il;exact ly lx⟩
instance:MF @PJ:=⟨λ_ _ _ _ _ _=>by unfold PJ;exact ly lx⟩
theorem Ti(N:Nat):∀n m:Nat,n<=m->Mo (@Ea (eN N) n) (@Ea E6 m)
 |0,_,_=>⟨λ_ _=>Le.none _⟩|n+1,0,h=>absurd h U|n+1,m+1,h=>by
  have ih:=Ti N n m U;exact⟨λ_ _=>by unfold Ea;exact ly lx⟩
instance:MF @Nz:=⟨λN _ _=>LL N λn hn=>(Ti N N n hn).le _ _⟩
instance:MF @Mi:=⟨λ_ _ _ _=>by unfold Mi;exact ly lx⟩
instance:MF @Io:=⟨λ_ _ _=>by unfold Io;exact ly lx⟩
instance:MF @Mh:=⟨λ_ _ _=>by unfold Mh;exact ly lx⟩
instance:MF @Lw:=⟨λ_ _=>by unfold Lw;exact ly lx⟩
instance:MF @EZ:=⟨λ_ _=>by unfold EZ;exact ly lx⟩
instance:MF @J0:=⟨λ_ _=>by unfold J0;exact ly lx⟩
instance:MF @GK:=⟨λ_ _=>by unfold GK;exact ly lx⟩
instance:MF @LJ:=⟨λ_ _ _=>by unfold LJ;exact ly lx⟩
instance:MF @LI:=⟨λ_ _ _=>by unfold LI;exact ly lx⟩
instance:MF @Eg:=⟨λ_ _=>by unfold Eg;exact ly lx⟩
instance:MF @IN:=⟨λ_ _ _ _=>by unfold IN;exact ly lx⟩
theorem S2(N:Nat):∀n m:Nat,n<=m->Mo (@D2 (eN N) n) (@D2 E6 m)
 |0,_,_=>⟨λ_ _ _=>Le.none _⟩|n+1,0,h=>absurd h U|n+1,m+1,h=>by
  have ih:=S2 N n m U;exact⟨λ_ _ _=>by unfold D2;exact ly lx⟩
instance:MF @FE:=⟨λN _ _ _=>LL N λn hn=>(S2 N N n hn).le _ _ _⟩
instance:MF @HE:=⟨λ_ _ _ _ _=>by unfold HE;exact ly lx⟩
instance:MF @Ds:=⟨λ_ _ _=>by unfold Ds;exact ly lx⟩
instance:MF @LM:=⟨λ_ _ _ _=>by unfold LM;exact ly lx⟩
instance:MF @F3:=⟨λ_ _ _=>by unfold F3;exact ly lx⟩
instance:MF @LP:=⟨λ_ _ _ _ _=>by unfold LP;exact ly lx⟩
instance:MF @F5:=⟨λ_ _ _=>by unfold F5;exact ly lx⟩
theorem RL(N:Nat):∀n m:Nat,n<=m->Mo (@DI (eN N) n) (@DI E6 m)
 |0,_,_=>⟨λ_=>Le.none _⟩|n+1,0,h=>absurd h U|n+1,m+1,h=>by
  have ih:=RL N n m U;exact⟨λ_=>by unfold DI;exact ly lx⟩
instance:MF @NU:=⟨λN _=>LL N λn hn=>(RL N N n hn).le _⟩
theorem ST(N:Nat):∀n m:Nat,n<=m->Mo (@Dk (eN N) n) (@Dk E6 m)
 |0,_,_=>⟨λ_=>Le.none _⟩|n+1,0,h=>absurd h U|n+1,m+1,h=>by
  have ih:=ST N n m U;exact⟨λ_=>by unfold Dk;exact ly lx⟩
instance:MF @ON:=⟨λN _=>LL N λn hn=>(ST N N n hn).le _⟩
instance:MF @J7:=⟨λ_ _=>by unfold J7;exact ly lx⟩
instance:MF @J8:=⟨λ_ _ _ _=>by unfold J8;exact ly lx⟩
theorem Uu(N:Nat):∀n m:Nat,n<=m->Mo (@D8 (eN N) n) (@D8 E6 m)
 |0,_,_=>⟨λ_ _ _=>Le.none _⟩|n+1,0,h=>absurd h U|n+1,m+1,h=>by
  have ih:=Uu N n m U;exact⟨λ_ _ _=>by unfold D8;exact ly lx⟩
instance:MF @Ub:=⟨λN _ _ _=>LL N λn hn=>(Uu N N n hn).le _ _ _⟩
instance:MF @IT:=⟨λ_ _ _ _=>by unfold IT;exact ly lx⟩
instance:MF @LQ:=⟨λ_ _ _ _=>by unfold LQ;exact ly lx⟩
instance:MF @J9:=⟨λ_ _ _=>by unfold J9;exact ly lx⟩
instance:MF @Is:=⟨λ_ _ _ _ _=>by unfold Is;exact ly lx⟩
instance:MF @IU:=⟨λ_ _ _=>by unfold IU;exact ly lx⟩
instance:MF @HK:=⟨λ_ _ _ _=>by unfold HK;exact ly lx⟩
instance:MF @F4:=⟨λ_ _ _ _=>by unfold F4;exact ly lx⟩
instance:MF @J3:=⟨λ_ _ _ _ _ _=>by unfold J3;exact ly lx⟩
instance:MF @HF:=⟨λ_ _ _ _ _ _=>by unfold HF;exact ly lx⟩
instance:MF @IS:=⟨λ_ _ _ _=>by unfold IS;exact ly lx⟩
instance:MF @J4:=⟨λ_ _ _ _ _=>by unfold J4;exact ly lx⟩
instance:MF @G0:=⟨λ_ _ _ _ _=>by unfold G0;exact ly lx⟩
instance:MF @Ci:=⟨λ_ _ _ _=>by unfold Ci;exact ly lx⟩
theorem MQ(N:Nat):∀n m:Nat,n<=m->Mo (@B4 (eN N) n) (@B4 E6 m)
 |0,_,_=>⟨λ_ _ _=>Le.none _⟩|n+1,0,h=>absurd h U|n+1,m+1,h=>by
  have ih:=MQ N n m U;exact⟨λ_ _ _=>by unfold B4;exact ly lx⟩
instance:MF @KP:=⟨λN _ _ _=>LL N λn hn=>(MQ N N n hn).le _ _ _⟩
theorem MR(N:Nat):∀n m:Nat,n<=m->Mo (@B5 (eN N) n) (@B5 E6 m)
 |0,_,_=>⟨λ_ _=>Le.none _⟩|n+1,0,h=>absurd h U|n+1,m+1,h=>by
  have ih:=MR N n m U;exact⟨λ_ _=>by unfold B5;exact ly lx⟩
instance:MF @Hc:=⟨λN _ _=>LL N λn hn=>(MR N N n hn).le _ _⟩
instance:MF @Ks:=⟨λ_ _ _ _ _ _ _=>by unfold Ks;exact ly lx⟩
instance:MF @Ip:=⟨λ_ _ _ _ _ _=>by unfold Ip;exact ly lx⟩
instance:MF @FY:=⟨λ_ _ _ _ _ _=>by unfold FY;exact ly lx⟩
theorem Tj(N:Nat):∀n m:Nat,n<=m->Mo (@DJ (eN N) n) (@DJ E6 m)
 |0,_,_=>⟨λ_ _ _ _ _=>Le.none _⟩|n+1,0,h=>absurd h U|n+1,m+1,h=>by
  have ih:=Tj N n m U;exact⟨λ_ _ _ _ _=>by unfold DJ;exact ly lx⟩
instance:MF @Ql:=⟨λN _ _ _ _ _=>LL N λn hn=>(Tj N N n hn).le _ _ _ _ _⟩
instance:MF @J6:=⟨λ_ _ _ _ _ _=>by unfold J6;exact ly lx⟩
instance:MF @Ib:=⟨λ_ _ _ _ _=>by unfold Ib;exact ly lx⟩
instance:MF @Hr:=⟨λ_ _ _ _=>by unfold Hr;exact ly lx⟩
instance:MF @JE:=⟨λ_ _ _ _=>by unfold JE;exact ly lx⟩
instance:MF @Ji:=⟨λ_ _ _ _ _=>by unfold Ji;exact ly lx⟩
instance:MF @Kv:=⟨λ_ _ _ _ _ _=>by unfold Kv;exact ly lx⟩
instance:MF @IV:=⟨λ_ _ _ _ _=>by unfold IV;exact ly lx⟩
instance:MF @LN:=⟨λ_ _=>by unfold LN;exact ly lx⟩
instance:MF @Mm:=⟨λ_ _ _ _ _=>by unfold Mm;exact ly lx⟩
instance:MF @Hs:=⟨λ_ _ _ _ _=>by unfold Hs;exact ly lx⟩
instance:MF @FZ:=⟨λ_ _ _ _=>by unfold FZ;exact ly lx⟩
instance:MF @HI:=⟨λ_ _ _ _ _=>by unfold HI;exact ly lx⟩
instance:MF @HC:=⟨λ_=>by unfold HC;exact ly lx⟩
end Go.Sf.Sc
namespace Go.Sf.Sc
open Go Go.Sf
theorem tZ:@HC (eN 40)=some true:=c!
theorem pZ:HC=some true:=
 LO (MF.le (f:=@HC) 40) _ tZ
end Go.Sf.Sc
