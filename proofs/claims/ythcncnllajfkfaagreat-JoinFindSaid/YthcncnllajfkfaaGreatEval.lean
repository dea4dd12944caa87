/- Lemmas. -/
import Derived.Test.YthcncnllajfkfaaGreatFns
import Derived.Test.YthcncnllajfkfaaGreatSfPl
set_option linter.all false
set_option maxRecDepth 100000
namespace Go.Sf.Sc
open Go Go.Sf
instance(N:Nat)(s1_0:List Fp)(s2_1:List Fp)(eq' eq:Fp->Fp->K1)[heq:∀y0 y1,Mo (eq' y0 y1) (eq y0 y1)]:Mo (@DN (eN N) s1_0 s2_1 eq') (@DN FD s1_0 s2_1 eq):=⟨by unfold DN;exact ly lx⟩
instance:MF @Ge:=⟨λ_ _ _=>by unfold Ge;exact ly lx⟩
instance:MF @GA:=⟨λ_ _ _=>by unfold GA;exact ly lx⟩
instance(N:Nat)(s_0:ByteArray)(ok' ok:Int->K1)[hok:∀y0,Mo (ok' y0) (ok y0)]:Mo (@Ie (eN N) s_0 ok') (@Ie FD s_0 ok):=⟨by unfold Ie;exact ly lx⟩
instance:MF @I2:=⟨λ_ _=>by unfold I2;exact ly lx⟩
instance:MF @LY:=⟨λ_ _=>by unfold LY;exact ly lx⟩
instance:MF @L7:=⟨λ_ _=>by unfold L7;exact ly lx⟩
instance:MF @Ef:=⟨λ_ _=>by unfold Ef;exact ly lx⟩
instance(N:Nat)(s_0:List Cj)(f' f:Cj->K1)[hf:∀y0,Mo (f' y0) (f y0)]:Mo (@DU (eN N) s_0 f') (@DU FD s_0 f):=⟨by unfold DU;exact ly lx⟩
instance(N:Nat)(s_0:List Cj)(f' f:Cj->K1)[hf:∀y0,Mo (f' y0) (f y0)]:Mo (@Cf (eN N) s_0 f') (@Cf FD s_0 f):=⟨by unfold Cf;exact ly lx⟩
theorem TW(N:Nat):∀n m:Nat,n<=m->Mo (@Dl (eN N) n) (@Dl FD m)
 |0,_,_=>⟨λ_ _=>Le.none _⟩|n+1,0,h=>absurd h U|n+1,m+1,h=>by
  have ih:=TW N n m U;exact⟨λ_ _=>by unfold Dl;exact ly lx⟩
instance:MF @N7:=⟨λN _ _=>LL N λn hn=>(TW N N n hn).le _ _⟩
instance(N:Nat)(s_0:List ke)(f' f:ke->K1)[hf:∀y0,Mo (f' y0) (f y0)]:Mo (@EO (eN N) s_0 f') (@EO FD s_0 f):=⟨by unfold EO;exact ly lx⟩
instance(N:Nat)(s_0:List ke)(f' f:ke->K1)[hf:∀y0,Mo (f' y0) (f y0)]:Mo (@C6 (eN N) s_0 f') (@C6 FD s_0 f):=⟨by unfold C6;exact ly lx⟩
instance:MF @KL:=⟨λ_ _=>by unfold KL;exact ly lx⟩
instance:MF @GZ:=⟨λ_ _ _=>by unfold GZ;exact ly lx⟩
instance:MF @Lb:=⟨λ_ _ _=>by unfold Lb;exact ly lx⟩
instance(N:Nat)(s_0:List Cx)(f' f:Cx->K1)[hf:∀y0,Mo (f' y0) (f y0)]:Mo (@DT (eN N) s_0 f') (@DT FD s_0 f):=⟨by unfold DT;exact ly lx⟩
instance(N:Nat)(s_0:List Cx)(f' f:Cx->K1)[hf:∀y0,Mo (f' y0) (f y0)]:Mo (@Ce (eN N) s_0 f') (@Ce FD s_0 f):=⟨by unfold Ce;exact ly lx⟩
instance:MF @LZ:=⟨λ_ _ _=>by unfold LZ;exact ly lx⟩
instance:MF @D6:=⟨λ_ _=>by unfold D6;exact ly lx⟩
instance(N:Nat)(s_0:Fp)(f' f:Int->K1)[hf:∀y0,Mo (f' y0) (f y0)]:Mo (@Es (eN N) s_0 f') (@Es FD s_0 f):=⟨by unfold Es;exact ly lx⟩
instance(N:Nat)(s_0:Fp)(f' f:Int->K1)[hf:∀y0,Mo (f' y0) (f y0)]:Mo (@A4 (eN N) s_0 f') (@A4 FD s_0 f):=⟨by unfold A4;exact ly lx⟩
instance(N:Nat)(s_0:List CC)(f' f:CC->K1)[hf:∀y0,Mo (f' y0) (f y0)]:Mo (@EP (eN N) s_0 f') (@EP FD s_0 f):=⟨by unfold EP;exact ly lx⟩
instance(N:Nat)(s_0:List CC)(f' f:CC->K1)[hf:∀y0,Mo (f' y0) (f y0)]:Mo (@Bm (eN N) s_0 f') (@Bm FD s_0 f):=⟨by unfold Bm;exact ly lx⟩
instance:MF @DQ:=⟨λ_ _=>by unfold DQ;exact ly lx⟩
instance:MF @HT:=⟨λ_ _ _=>by unfold HT;exact ly lx⟩
instance:MF @FR:=⟨λ_ _ _=>by unfold FR;exact ly lx⟩
instance:MF @Gy:=⟨λ_ _ _ _=>by unfold Gy;exact ly lx⟩
instance:MF @Do:=⟨λ_ _ _=>by unfold Do;exact ly lx⟩
instance:MF @LS:=⟨λ_ _ _=>by unfold LS;exact ly lx⟩
instance(N:Nat)(s_0:List Cu)(f' f:Cu->K1)[hf:∀y0,Mo (f' y0) (f y0)]:Mo (@EQ (eN N) s_0 f') (@EQ FD s_0 f):=⟨by unfold EQ;exact ly lx⟩
instance(N:Nat)(s_0:List Cu)(f' f:Cu->K1)[hf:∀y0,Mo (f' y0) (f y0)]:Mo (@Cm (eN N) s_0 f') (@Cm FD s_0 f):=⟨by unfold Cm;exact ly lx⟩
instance:MF @Mw:=⟨λ_ _ _ _=>by unfold Mw;exact ly lx⟩
instance:MF @LR:=⟨λ_ _ _=>by unfold LR;exact ly lx⟩
instance:MF @F5:=⟨λ_ _ _=>by unfold F5;exact ly lx⟩
instance:MF @Fu:=⟨λ_ _ _=>by unfold Fu;exact ly lx⟩
instance:MF @D4:=⟨λ_ _ _ _=>by unfold D4;exact ly lx⟩
instance:MF @Du:=⟨λ_ _ _ _=>by unfold Du;exact ly lx⟩
instance:MF @Mv:=⟨λ_ _=>by unfold Mv;exact ly lx⟩
instance:MF @Nb:=⟨λ_ _ _=>by unfold Nb;exact ly lx⟩
instance:MF @La:=⟨λ_ _ _ _=>by unfold La;exact ly lx⟩
instance:MF @Jt:=⟨λ_ _ _ _ _=>by unfold Jt;exact ly lx⟩
instance:MF @Ik:=⟨λ_ _ _ _=>by unfold Ik;exact ly lx⟩
instance:MF @Iz:=⟨λ_ _ _ _ _=>by unfold Iz;exact ly lx⟩
instance(N:Nat)(s_0:List d5)(f' f:d5->K1)[hf:∀y0,Mo (f' y0) (f y0)]:Mo (@DI (eN N) s_0 f') (@DI FD s_0 f):=⟨by unfold DI;exact ly lx⟩
instance(N:Nat)(s_0:List d5)(f' f:d5->K1)[hf:∀y0,Mo (f' y0) (f y0)]:Mo (@CG (eN N) s_0 f') (@CG FD s_0 f):=⟨by unfold CG;exact ly lx⟩
theorem Nf(N:Nat):∀n m:Nat,n<=m->Mo (@Bi (eN N) n) (@Bi FD m)/\Mo (@Bx (eN N) n) (@Bx FD m)
 |0,_,_=>⟨⟨λ_=>Le.none _⟩,⟨λ_=>Le.none _⟩⟩|n+1,0,h=>absurd h U|n+1,m+1,h=>by
  obtain ⟨i0,i1⟩:=Nf N n m U;refine⟨?_,?_⟩
  .exact⟨λ_=>by unfold Bi;exact ly lx⟩
  .exact⟨λ_=>by unfold Bx;exact ly lx⟩
theorem SM(N n m:Nat)(h:n<=m):Mo (@Bi (eN N) n) (@Bi FD m):=(Nf N n m h).1
instance:MF @IG:=⟨λN _=>LL N λn hn=>(SM N N n hn).le _⟩
theorem PA(N:Nat):∀n m:Nat,n<=m->Mo (@Ck (eN N) n) (@Ck FD m)
 |0,_,_=>⟨λ_=>Le.none _⟩|n+1,0,h=>absurd h U|n+1,m+1,h=>by
  have ih:=PA N n m U;exact⟨λ_=>by unfold Ck;exact ly lx⟩
instance:MF @KN:=⟨λN _=>LL N λn hn=>(PA N N n hn).le _⟩
instance:MF @GM:=⟨λ_ _=>by unfold GM;exact ly lx⟩
instance:MF @E3:=⟨λ_ _ _ _=>by unfold E3;exact ly lx⟩
theorem Pu(N:Nat):∀n m:Nat,n<=m->Mo (@CS (eN N) n) (@CS FD m)
 |0,_,_=>⟨λ_ _ _=>Le.none _⟩|n+1,0,h=>absurd h U|n+1,m+1,h=>by
  have ih:=Pu N n m U;exact⟨λ_ _ _=>by unfold CS;exact ly lx⟩
instance:MF @OT:=⟨λN _ _ _=>LL N λn hn=>(Pu N N n hn).le _ _ _⟩
instance:MF @Dp:=⟨λ_ _ _ _=>by unfold Dp;exact ly lx⟩
instance:MF @Jo:=⟨λ_ _ _=>by unfold Jo;exact ly lx⟩
instance:MF @Md:=⟨λ_ _ _ _=>by unfold Md;exact ly lx⟩
instance:MF @HH:=⟨λ_ _ _=>by unfold HH;exact ly lx⟩
instance:MF @Fh:=⟨λ_ _ _ _=>by unfold Fh;exact ly lx⟩
instance:MF @IM:=⟨λ_ _ _ _=>by unfold IM;exact ly lx⟩
instance:MF @Gl:=⟨λ_ _ _=>by unfold Gl;exact ly lx⟩
instance:MF @FQ:=⟨λ_ _ _ _=>by unfold FQ;exact ly lx⟩
instance:MF @KK:=⟨λ_ _ _=>by unfold KK;exact ly lx⟩
instance:MF @Hd:=⟨λ_ _=>by unfold Hd;exact ly lx⟩
instance:MF @He:=⟨λ_ _ _ _ _=>by unfold He;exact ly lx⟩
instance:MF @GU:=⟨λ_ _ _ _ _ _=>by unfold GU;exact ly lx⟩
instance:MF @E9:=⟨λ_ _ _ _=>by unfold E9;exact ly lx⟩
instance:MF @E8:=⟨λ_ _ _ _ _=>by unfold E8;exact ly lx⟩
instance:MF @Km:=⟨λ_ _ _ _ _=>by unfold Km;exact ly lx⟩
instance:MF @GV:=⟨λ_ _ _ _ _=>by unfold GV;exact ly lx⟩
instance:MF @DR:=⟨λ_ _=>by unfold DR;exact ly lx⟩
instance:MF @Hs:=⟨λ_ _ _ _ _=>by unfold Hs;exact ly lx⟩
instance:MF @GL:=⟨λ_ _ _ _ _ _ _=>by unfold GL;exact ly lx⟩
theorem MY(N:Nat):∀n m:Nat,n<=m->Mo (@A9 (eN N) n) (@A9 FD m)
 |0,_,_=>⟨λ_=>Le.none _⟩|n+1,0,h=>absurd h U|n+1,m+1,h=>by
  have ih:=MY N n m U;exact⟨λ_=>by unfold A9;exact ly lx⟩
instance:MF @Hi:=⟨λN _=>LL N λn hn=>(MY N N n hn).le _⟩
instance:MF @GW:=⟨λ_ _ _ _ _ _ _=>by unfold GW;exact ly lx⟩
instance:MF @Jp:=⟨λ_ _ _ _ _ _=>by unfold Jp;exact ly lx⟩
instance:MF @Ib:=⟨λ_ _ _=>by unfold Ib;exact ly lx⟩
instance:MF @Hv:=⟨λ_ _ _ _ _ _=>by unfold Hv;exact ly lx⟩
instance:MF @Cc:=⟨λ_ _ _ _=>by unfold Cc;exact ly lx⟩
theorem KX(N:Nat):∀n m:Nat,n<=m->Mo (@A0 (eN N) n) (@A0 FD m)/\Mo (@Bc (eN N) n) (@Bc FD m)
 |0,_,_=>⟨⟨λ_ _ _=>Le.none _⟩,⟨λ_ _ _=>Le.none _⟩⟩|n+1,0,h=>absurd h U|n+1,m+1,h=>by
  obtain ⟨i0,i1⟩:=KX N n m U;refine⟨?_,?_⟩
  .exact⟨λ_ _ _=>by unfold A0;exact ly lx⟩
  .exact⟨λ_ _ _=>by unfold Bc;exact ly lx⟩
theorem Pz(N n m:Nat)(h:n<=m):Mo (@A0 (eN N) n) (@A0 FD m):=(KX N n m h).1
instance:MF @F9:=⟨λN _ _ _=>LL N λn hn=>(Pz N N n hn).le _ _ _⟩
instance:MF @E2:=⟨λ_ _ _ _ _ _ _=>by unfold E2;exact ly lx⟩
instance:MF @EA:=⟨λ_ _ _ _ _ _ _=>by unfold EA;exact ly lx⟩
instance:MF @LX:=⟨λ_ _ _=>by unfold LX;exact ly lx⟩
instance:MF @Js:=⟨λ_ _ _ _=>by unfold Js;exact ly lx⟩
instance:MF @QJ:=⟨λ_ _ _ _ _=>by unfold QJ;exact ly lx⟩
instance:MF @QK:=⟨λ_ _ _ _=>by unfold QK;exact ly lx⟩
instance:MF @M0:=⟨λ_ _ _=>by unfold M0;exact ly lx⟩
instance:MF @IL:=⟨λ_ _ _ _ _=>by unfold IL;exact ly lx⟩
instance:MF @Fc:=⟨λ_ _ _ _ _=>by unfold Fc;exact ly lx⟩
instance:MF @Fg:=⟨λ_ _ _ _ _=>by unfold Fg;exact ly lx⟩
instance:MF @D7:=⟨λ_ _ _ _=>by unfold D7;exact ly lx⟩
instance(N:Nat)(s1_0:List d5)(s2_1:List d5)(eq' eq:d5->d5->K1)[heq:∀y0 y1,Mo (eq' y0 y1) (eq y0 y1)]:Mo (@CY (eN N) s1_0 s2_1 eq') (@CY FD s1_0 s2_1 eq):=⟨by unfold CY;exact ly lx⟩
theorem Q7(N:Nat):∀n m:Nat,n<=m->Mo (@C2 (eN N) n) (@C2 FD m)
 |0,_,_=>⟨λ_ _=>Le.none _⟩|n+1,0,h=>absurd h U|n+1,m+1,h=>by
  have ih:=Q7 N n m U;exact⟨λ_ _=>by unfold C2;exact ly lx⟩
instance:MF @M8:=⟨λN _ _=>LL N λn hn=>(Q7 N N n hn).le _ _⟩
instance:MF @Mt:=⟨λ_ _ _=>by unfold Mt;exact ly lx⟩
instance:MF @Mz:=⟨λ_ _ _=>by unfold Mz;exact ly lx⟩
instance:MF @Jr:=⟨λ_ _ _=>by unfold Jr;exact ly lx⟩
instance:MF @Jf:=⟨λ_ _ _ _ _=>by unfold Jf;exact ly lx⟩
instance:MF @LT:=⟨λ_ _ _ _ _=>by unfold LT;exact ly lx⟩
instance:MF @E0:=⟨λ_ _ _ _ _=>by unfold E0;exact ly lx⟩
instance:MF @FH:=⟨λ_ _ _ _=>by unfold FH;exact ly lx⟩
instance(N:Nat)(s_0:List Ax)(f' f:Ax->K1)[hf:∀y0,Mo (f' y0) (f y0)]:Mo (@Dk (eN N) s_0 f') (@Dk FD s_0 f):=⟨by unfold Dk;exact ly lx⟩
instance(N:Nat)(s_0:List Ax)(f' f:Ax->K1)[hf:∀y0,Mo (f' y0) (f y0)]:Mo (@CB (eN N) s_0 f') (@CB FD s_0 f):=⟨by unfold CB;exact ly lx⟩
theorem Oy(N:Nat):∀n m:Nat,n<=m->Mo (@Bp (eN N) n) (@Bp FD m)
 |0,_,_=>⟨λ_=>Le.none _⟩|n+1,0,h=>absurd h U|n+1,m+1,h=>by
  have ih:=Oy N n m U;exact⟨λ_=>by unfold Bp;exact ly lx⟩
instance:MF @Hz:=⟨λN _=>LL N λn hn=>(Oy N N n hn).le _⟩
theorem Oz(N:Nat):∀n m:Nat,n<=m->Mo (@Bq (eN N) n) (@Bq FD m)
 |0,_,_=>⟨λ_=>Le.none _⟩|n+1,0,h=>absurd h U|n+1,m+1,h=>by
  have ih:=Oz N n m U;exact⟨λ_=>by unfold Bq;exact ly lx⟩
instance:MF @Ga:=⟨λN _=>LL N λn hn=>(Oz N N n hn).le _⟩
instance:MF @Db:=⟨λ_ _ _ _ _=>by unfold Db;exact ly lx⟩
instance:MF @NE:=⟨λ_ _ _=>by unfold NE;exact ly lx⟩
instance:MF @HL:=⟨λ_ _ _=>by unfold HL;exact ly lx⟩
instance:MF @IQ:=⟨λ_ _ _ _ _=>by unfold IQ;exact ly lx⟩
instance:MF @Ku:=⟨λ_ _ _ _ _ _ _=>by unfold Ku;exact ly lx⟩
instance:MF @J2:=⟨λ_ _ _ _ _ _=>by unfold J2;exact ly lx⟩
instance:MF @Gc:=⟨λ_ _=>by unfold Gc;exact ly lx⟩
instance:MF @EB:=⟨λ_ _=>by unfold EB;exact ly lx⟩
instance:MF @EX:=⟨λ_ _ _ _=>by unfold EX;exact ly lx⟩
instance:MF @Fr:=⟨λ_ _ _ _=>by unfold Fr;exact ly lx⟩
instance:MF @HI:=⟨λ_ _ _ _ _ _=>by unfold HI;exact ly lx⟩
theorem TO(N:Nat):∀n m:Nat,n<=m->Mo (@Ea (eN N) n) (@Ea FD m)
 |0,_,_=>⟨λ_ _=>Le.none _⟩|n+1,0,h=>absurd h U|n+1,m+1,h=>by
  have ih:=TO N n m U;exact⟨λ_ _=>by unfold Ea;exact ly lx⟩
instance:MF @Nx:=⟨λN _ _=>LL N λn hn=>(TO N N n hn).le _ _⟩
instance:MF @Mj:=⟨λ_ _ _ _=>by unfold Mj;exact ly lx⟩
instance:MF @It:=⟨λ_ _ _=>by unfold It;exact ly lx⟩
instance:MF @Mi:=⟨λ_ _ _=>by unfold Mi;exact ly lx⟩
instance:MF @Lu:=⟨λ_ _=>by unfold Lu;exact ly lx⟩
instance:MF @EZ:=⟨λ_ _=>by unfold EZ;exact ly lx⟩
instance:MF @J6:=⟨λ_ _=>by unfold J6;exact ly lx⟩
instance:MF @GR:=⟨λ_ _=>by unfold GR;exact ly lx⟩
instance:MF @LH:=⟨λ_ _ _=>by unfold LH;exact ly lx⟩
instance:MF @LG:=⟨λ_ _ _=>by unfold LG;exact ly lx⟩
instance:MF @Eg:=⟨λ_ _=>by unfold Eg;exact ly lx⟩
instance:MF @IS:=⟨λ_ _ _ _=>by unfold IS;exact ly lx⟩
theorem Sl(N:Nat):∀n m:Nat,n<=m->Mo (@D0 (eN N) n) (@D0 FD m)
 |0,_,_=>⟨λ_ _ _=>Le.none _⟩|n+1,0,h=>absurd h U|n+1,m+1,h=>by
  have ih:=Sl N n m U;exact⟨λ_ _ _=>by unfold D0;exact ly lx⟩
instance:MF @Ha:=⟨λN _ _ _=>LL N λn hn=>(Sl N N n hn).le _ _ _⟩
instance:MF @Ji:=⟨λ_ _ _ _ _=>by unfold Ji;exact ly lx⟩
instance:MF @FO:=⟨λ_ _ _=>by unfold FO;exact ly lx⟩
instance:MF @LJ:=⟨λ_ _ _ _=>by unfold LJ;exact ly lx⟩
instance:MF @GB:=⟨λ_ _ _=>by unfold GB;exact ly lx⟩
instance:MF @LN:=⟨λ_ _ _ _ _=>by unfold LN;exact ly lx⟩
instance:MF @GE:=⟨λ_ _ _=>by unfold GE;exact ly lx⟩
theorem RC(N:Nat):∀n m:Nat,n<=m->Mo (@DL (eN N) n) (@DL FD m)
 |0,_,_=>⟨λ_=>Le.none _⟩|n+1,0,h=>absurd h U|n+1,m+1,h=>by
  have ih:=RC N n m U;exact⟨λ_=>by unfold DL;exact ly lx⟩
instance:MF @NR:=⟨λN _=>LL N λn hn=>(RC N N n hn).le _⟩
theorem SG(N:Nat):∀n m:Nat,n<=m->Mo (@Dh (eN N) n) (@Dh FD m)
 |0,_,_=>⟨λ_=>Le.none _⟩|n+1,0,h=>absurd h U|n+1,m+1,h=>by
  have ih:=SG N n m U;exact⟨λ_=>by unfold Dh;exact ly lx⟩
instance:MF @OI:=⟨λN _=>LL N λn hn=>(SG N N n hn).le _⟩
instance:MF @KD:=⟨λ_ _=>by unfold KD;exact ly lx⟩
instance:MF @KE:=⟨λ_ _ _ _=>by unfold KE;exact ly lx⟩
theorem Ul(N:Nat):∀n m:Nat,n<=m->Mo (@D5 (eN N) n) (@D5 FD m)
 |0,_,_=>⟨λ_ _ _=>Le.none _⟩|n+1,0,h=>absurd h U|n+1,m+1,h=>by
  have ih:=Ul N n m U;exact⟨λ_ _ _=>by unfold D5;exact ly lx⟩
instance:MF @UO:=⟨λN _ _ _=>LL N λn hn=>(Ul N N n hn).le _ _ _⟩
instance:MF @IY:=⟨λ_ _ _ _=>by unfold IY;exact ly lx⟩
instance:MF @LP:=⟨λ_ _ _ _=>by unfold LP;exact ly lx⟩
instance:MF @KF:=⟨λ_ _ _=>by unfold KF;exact ly lx⟩
instance:MF @Iy:=⟨λ_ _ _ _ _=>by unfold Iy;exact ly lx⟩
instance:MF @IZ:=⟨λ_ _ _=>by unfold IZ;exact ly lx⟩
instance:MF @HP:=⟨λ_ _ _ _=>by unfold HP;exact ly lx⟩
instance:MF @GD:=⟨λ_ _ _ _=>by unfold GD;exact ly lx⟩
instance:MF @J9:=⟨λ_ _ _ _ _ _=>by unfold J9;exact ly lx⟩
instance:MF @HN:=⟨λ_ _ _ _ _ _=>by unfold HN;exact ly lx⟩
instance:MF @IW:=⟨λ_ _ _ _=>by unfold IW;exact ly lx⟩
instance:MF @KA:=⟨λ_ _ _ _ _=>by unfold KA;exact ly lx⟩
instance:MF @G8:=⟨λ_ _ _ _ _=>by unfold G8;exact ly lx⟩
instance:MF @Ch:=⟨λ_ _ _ _=>by unfold Ch;exact ly lx⟩
theorem MV(N:Nat):∀n m:Nat,n<=m->Mo (@B0 (eN N) n) (@B0 FD m)
 |0,_,_=>⟨λ_ _ _=>Le.none _⟩|n+1,0,h=>absurd h U|n+1,m+1,h=>by
  have ih:=MV N n m U;exact⟨λ_ _ _=>by unfold B0;exact ly lx⟩
instance:MF @KW:=⟨λN _ _ _=>LL N λn hn=>(MV N N n hn).le _ _ _⟩
theorem MW(N:Nat):∀n m:Nat,n<=m->Mo (@B1 (eN N) n) (@B1 FD m)
 |0,_,_=>⟨λ_ _=>Le.none _⟩|n+1,0,h=>absurd h U|n+1,m+1,h=>by
  have ih:=MW N n m U;exact⟨λ_ _=>by unfold B1;exact ly lx⟩
instance:MF @Hh:=⟨λN _ _=>LL N λn hn=>(MW N N n hn).le _ _⟩
instance:MF @Kw:=⟨λ_ _ _ _ _ _ _=>by unfold Kw;exact ly lx⟩
instance:MF @Iv:=⟨λ_ _ _ _ _ _=>by unfold Iv;exact ly lx⟩
instance:MF @Ft:=⟨λ_ _ _ _ _ _=>by unfold Ft;exact ly lx⟩
theorem TP(N:Nat):∀n m:Nat,n<=m->Mo (@DM (eN N) n) (@DM FD m)
 |0,_,_=>⟨λ_ _ _ _ _=>Le.none _⟩|n+1,0,h=>absurd h U|n+1,m+1,h=>by
  have ih:=TP N n m U;exact⟨λ_ _ _ _ _=>by unfold DM;exact ly lx⟩
instance:MF @QX:=⟨λN _ _ _ _ _=>LL N λn hn=>(TP N N n hn).le _ _ _ _ _⟩
instance:MF @KC:=⟨λ_ _ _ _ _ _=>by unfold KC;exact ly lx⟩
instance:MF @Ii:=⟨λ_ _ _ _ _=>by unfold Ii;exact ly lx⟩
instance:MF @Ht:=⟨λ_ _ _ _=>by unfold Ht;exact ly lx⟩
instance:MF @JL:=⟨λ_ _ _ _=>by unfold JL;exact ly lx⟩
instance:MF @Jm:=⟨λ_ _ _ _ _=>by unfold Jm;exact ly lx⟩
instance:MF @Kz:=⟨λ_ _ _ _ _ _=>by unfold Kz;exact ly lx⟩
instance:MF @Ei:=⟨λ_ _ _ _ _=>by unfold Ei;exact ly lx⟩
instance:MF @LK:=⟨λ_ _=>by unfold LK;exact ly lx⟩
instance:MF @Mm:=⟨λ_ _ _ _ _=>by unfold Mm;exact ly lx⟩
instance:MF @Hu:=⟨λ_ _ _ _ _=>by unfold Hu;exact ly lx⟩
instance:MF @Ec:=⟨λ_ _ _ _=>by unfold Ec;exact ly lx⟩
instance:MF @N1:=⟨λ_ _ _ _ _=>by unfold N1;exact ly lx⟩
instance:MF @FM:=⟨λ_=>by unfold FM;exact ly lx⟩
end Go.Sf.Sc
namespace Go.Sf.Sc
open Go Go.Sf
theorem uR:@FM (eN 40)=some true:=b!
theorem dX:FM=some true:=
 LO (MF.le (f:=@FM) 40) _ uR
end Go.Sf.Sc
