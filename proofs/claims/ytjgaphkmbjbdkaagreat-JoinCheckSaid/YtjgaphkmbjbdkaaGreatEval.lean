/- Lemmas. -/
import Derived.Test.YtjgaphkmbjbdkaaGreatFns
import Derived.Test.YtjgaphkmbjbdkaaGreatSfPl
set_option linter.all false
set_option maxRecDepth 100000
namespace Go.Sf.Sc
open Go Go.Sf
instance(N:Nat)(s1_0:List Fp)(s2_1:List Fp)(eq' eq:Fp->Fp->K1)[heq:∀y0 y1,Mo (eq' y0 y1) (eq y0 y1)]:Mo (@C8 (eN N) s1_0 s2_1 eq') (@C8 EZ s1_0 s2_1 eq):=⟨by unfold C8;exact ly lx⟩
instance:MF @Fd:=⟨fun _ _ _=>by unfold Fd;exact ly lx⟩
instance:MF @EC:=⟨fun _ _ _=>by unfold EC;exact ly lx⟩
instance(N:Nat)(s_0:ByteArray)(ok' ok:Int->K1)[hok:∀y0,Mo (ok' y0) (ok y0)]:Mo (@Hi (eN N) s_0 ok') (@Hi EZ s_0 ok):=⟨by unfold Hi;exact ly lx⟩
instance:MF @H5:=⟨fun _ _=>by unfold H5;exact ly lx⟩
instance:MF @KP:=⟨fun _ _=>by unfold KP;exact ly lx⟩
instance:MF @Ky:=⟨fun _ _=>by unfold Ky;exact ly lx⟩
instance:MF @EB:=⟨fun _ _=>by unfold EB;exact ly lx⟩
instance(N:Nat)(s_0:List CN)(f' f:CN->K1)[hf:∀y0,Mo (f' y0) (f y0)]:Mo (@DH (eN N) s_0 f') (@DH EZ s_0 f):=⟨by unfold DH;exact ly lx⟩
instance(N:Nat)(s_0:List CN)(f' f:CN->K1)[hf:∀y0,Mo (f' y0) (f y0)]:Mo (@CW (eN N) s_0 f') (@CW EZ s_0 f):=⟨by unfold CW;exact ly lx⟩
theorem R1(N:Nat):∀n m:Nat,n<=m->Mo (@DR (eN N) n) (@DR EZ m)
 |0,_,_=>⟨fun _ _=>Le.none _⟩|n+1,0,h=>absurd h (by omega)|n+1,m+1,h=>by
  have ih:=R1 N n m (by omega);exact⟨fun _ _=>by unfold DR;exact ly lx⟩
instance:MF @Mu:=⟨fun N _ _=>LL N fun n hn=>(R1 N N n hn).le _ _⟩
instance(N:Nat)(s_0:List kg)(f' f:kg->K1)[hf:∀y0,Mo (f' y0) (f y0)]:Mo (@D0 (eN N) s_0 f') (@D0 EZ s_0 f):=⟨by unfold D0;exact ly lx⟩
instance(N:Nat)(s_0:List kg)(f' f:kg->K1)[hf:∀y0,Mo (f' y0) (f y0)]:Mo (@Cv (eN N) s_0 f') (@Cv EZ s_0 f):=⟨by unfold Cv;exact ly lx⟩
instance:MF @JE:=⟨fun _ _=>by unfold JE;exact ly lx⟩
instance:MF @FY:=⟨fun _ _ _=>by unfold FY;exact ly lx⟩
instance:MF @KT:=⟨fun _ _ _=>by unfold KT;exact ly lx⟩
instance(N:Nat)(s_0:List Cb)(f' f:Cb->K1)[hf:∀y0,Mo (f' y0) (f y0)]:Mo (@DG (eN N) s_0 f') (@DG EZ s_0 f):=⟨by unfold DG;exact ly lx⟩
instance(N:Nat)(s_0:List Cb)(f' f:Cb->K1)[hf:∀y0,Mo (f' y0) (f y0)]:Mo (@CU (eN N) s_0 f') (@CU EZ s_0 f):=⟨by unfold CU;exact ly lx⟩
instance:MF @KQ:=⟨fun _ _ _=>by unfold KQ;exact ly lx⟩
instance:MF @Dl:=⟨fun _ _=>by unfold Dl;exact ly lx⟩
instance(N:Nat)(s_0:Fp)(f' f:Int->K1)[hf:∀y0,Mo (f' y0) (f y0)]:Mo (@EL (eN N) s_0 f') (@EL EZ s_0 f):=⟨by unfold EL;exact ly lx⟩
instance(N:Nat)(s_0:Fp)(f' f:Int->K1)[hf:∀y0,Mo (f' y0) (f y0)]:Mo (@A1 (eN N) s_0 f') (@A1 EZ s_0 f):=⟨by unfold A1;exact ly lx⟩
instance(N:Nat)(s_0:List Bk)(f' f:Bk->K1)[hf:∀y0,Mo (f' y0) (f y0)]:Mo (@D1 (eN N) s_0 f') (@D1 EZ s_0 f):=⟨by unfold D1;exact ly lx⟩
instance(N:Nat)(s_0:List Bk)(f' f:Bk->K1)[hf:∀y0,Mo (f' y0) (f y0)]:Mo (@Be (eN N) s_0 f') (@Be EZ s_0 f):=⟨by unfold Be;exact ly lx⟩
instance:MF @DC:=⟨fun _ _=>by unfold DC;exact ly lx⟩
instance:MF @GP:=⟨fun _ _ _=>by unfold GP;exact ly lx⟩
instance:MF @Eg:=⟨fun _ _ _=>by unfold Eg;exact ly lx⟩
instance:MF @Fy:=⟨fun _ _ _ _=>by unfold Fy;exact ly lx⟩
instance:MF @DV:=⟨fun _ _ _=>by unfold DV;exact ly lx⟩
instance:MF @KI:=⟨fun _ _ _=>by unfold KI;exact ly lx⟩
instance(N:Nat)(s_0:List CP)(f' f:CP->K1)[hf:∀y0,Mo (f' y0) (f y0)]:Mo (@D2 (eN N) s_0 f') (@D2 EZ s_0 f):=⟨by unfold D2;exact ly lx⟩
instance(N:Nat)(s_0:List CP)(f' f:CP->K1)[hf:∀y0,Mo (f' y0) (f y0)]:Mo (@Ce (eN N) s_0 f') (@Ce EZ s_0 f):=⟨by unfold Ce;exact ly lx⟩
instance:MF @Ls:=⟨fun _ _ _ _=>by unfold Ls;exact ly lx⟩
instance:MF @KH:=⟨fun _ _ _=>by unfold KH;exact ly lx⟩
instance:MF @E8:=⟨fun _ _ _=>by unfold E8;exact ly lx⟩
instance:MF @Ey:=⟨fun _ _ _=>by unfold Ey;exact ly lx⟩
instance:MF @Dj:=⟨fun _ _ _ _=>by unfold Dj;exact ly lx⟩
instance:MF @DZ:=⟨fun _ _ _ _=>by unfold DZ;exact ly lx⟩
instance:MF @Lr:=⟨fun _ _=>by unfold Lr;exact ly lx⟩
instance:MF @MO:=⟨fun _ _ _=>by unfold MO;exact ly lx⟩
instance:MF @KS:=⟨fun _ _ _ _=>by unfold KS;exact ly lx⟩
instance:MF @It:=⟨fun _ _ _ _ _=>by unfold It;exact ly lx⟩
instance:MF @Hp:=⟨fun _ _ _ _=>by unfold Hp;exact ly lx⟩
instance:MF @H1:=⟨fun _ _ _ _ _=>by unfold H1;exact ly lx⟩
instance(N:Nat)(s_0:List d7)(f' f:d7->K1)[hf:∀y0,Mo (f' y0) (f y0)]:Mo (@C3 (eN N) s_0 f') (@C3 EZ s_0 f):=⟨by unfold C3;exact ly lx⟩
instance(N:Nat)(s_0:List d7)(f' f:d7->K1)[hf:∀y0,Mo (f' y0) (f y0)]:Mo (@B2 (eN N) s_0 f') (@B2 EZ s_0 f):=⟨by unfold B2;exact ly lx⟩
theorem MQ(N:Nat):∀n m:Nat,n<=m->Mo (@BY (eN N) n) (@BY EZ m)/\Mo (@Bj (eN N) n) (@Bj EZ m)
 |0,_,_=>⟨⟨fun _=>Le.none _⟩,⟨fun _=>Le.none _⟩⟩|n+1,0,h=>absurd h (by omega)|n+1,m+1,h=>by
  obtain ⟨i0,i1⟩:=MQ N n m (by omega);refine⟨?_,?_⟩
  .exact⟨fun _=>by unfold BY;exact ly lx⟩
  .exact⟨fun _=>by unfold Bj;exact ly lx⟩
theorem Qx(N n m:Nat)(h:n<=m):Mo (@BY (eN N) n) (@BY EZ m):=(MQ N n m h).1
instance:MF @HK:=⟨fun N _=>LL N fun n hn=>(Qx N N n hn).le _⟩
theorem Ns(N:Nat):∀n m:Nat,n<=m->Mo (@Cc (eN N) n) (@Cc EZ m)
 |0,_,_=>⟨fun _=>Le.none _⟩|n+1,0,h=>absurd h (by omega)|n+1,m+1,h=>by
  have ih:=Ns N n m (by omega);exact⟨fun _=>by unfold Cc;exact ly lx⟩
instance:MF @JJ:=⟨fun N _=>LL N fun n hn=>(Ns N N n hn).le _⟩
instance:MF @FQ:=⟨fun _ _=>by unfold FQ;exact ly lx⟩
instance:MF @ER:=⟨fun _ _ _ _=>by unfold ER;exact ly lx⟩
theorem OT(N:Nat):∀n m:Nat,n<=m->Mo (@CH (eN N) n) (@CH EZ m)
 |0,_,_=>⟨fun _ _ _=>Le.none _⟩|n+1,0,h=>absurd h (by omega)|n+1,m+1,h=>by
  have ih:=OT N n m (by omega);exact⟨fun _ _ _=>by unfold CH;exact ly lx⟩
instance:MF @NC:=⟨fun N _ _ _=>LL N fun n hn=>(OT N N n hn).le _ _ _⟩
instance:MF @DW:=⟨fun _ _ _ _=>by unfold DW;exact ly lx⟩
instance:MF @Io:=⟨fun _ _ _=>by unfold Io;exact ly lx⟩
instance:MF @LV:=⟨fun _ _ _ _=>by unfold LV;exact ly lx⟩
instance:MF @GG:=⟨fun _ _ _=>by unfold GG;exact ly lx⟩
instance:MF @Es:=⟨fun _ _ _ _=>by unfold Es;exact ly lx⟩
instance:MF @KM:=⟨fun _ _ _ _=>by unfold KM;exact ly lx⟩
instance:MF @Fo:=⟨fun _ _ _=>by unfold Fo;exact ly lx⟩
instance:MF @Ef:=⟨fun _ _ _ _=>by unfold Ef;exact ly lx⟩
instance:MF @JC:=⟨fun _ _ _=>by unfold JC;exact ly lx⟩
instance:MF @Ga:=⟨fun _ _=>by unfold Ga;exact ly lx⟩
instance:MF @Gb:=⟨fun _ _ _ _ _=>by unfold Gb;exact ly lx⟩
instance:MF @FV:=⟨fun _ _ _ _ _ _=>by unfold FV;exact ly lx⟩
instance:MF @EX:=⟨fun _ _ _ _=>by unfold EX;exact ly lx⟩
instance:MF @EW:=⟨fun _ _ _ _ _=>by unfold EW;exact ly lx⟩
instance:MF @Jj:=⟨fun _ _ _ _ _=>by unfold Jj;exact ly lx⟩
instance:MF @FW:=⟨fun _ _ _ _ _=>by unfold FW;exact ly lx⟩
instance:MF @DE:=⟨fun _ _=>by unfold DE;exact ly lx⟩
instance:MF @Gt:=⟨fun _ _ _ _ _=>by unfold Gt;exact ly lx⟩
instance:MF @FP:=⟨fun _ _ _ _ _ _ _=>by unfold FP;exact ly lx⟩
theorem LP(N:Nat):∀n m:Nat,n<=m->Mo (@A4 (eN N) n) (@A4 EZ m)
 |0,_,_=>⟨fun _=>Le.none _⟩|n+1,0,h=>absurd h (by omega)|n+1,m+1,h=>by
  have ih:=LP N n m (by omega);exact⟨fun _=>by unfold A4;exact ly lx⟩
instance:MF @Gf:=⟨fun N _=>LL N fun n hn=>(LP N N n hn).le _⟩
instance:MF @H3:=⟨fun _ _ _ _ _ _ _=>by unfold H3;exact ly lx⟩
instance:MF @KJ:=⟨fun _ _ _ _ _ _=>by unfold KJ;exact ly lx⟩
instance:MF @Hg:=⟨fun _ _ _=>by unfold Hg;exact ly lx⟩
instance:MF @Gw:=⟨fun _ _ _ _ _ _=>by unfold Gw;exact ly lx⟩
instance:MF @CS:=⟨fun _ _ _ _=>by unfold CS;exact ly lx⟩
theorem JQ(N:Nat):∀n m:Nat,n<=m->Mo (@Av (eN N) n) (@Av EZ m)/\Mo (@BR (eN N) n) (@BR EZ m)
 |0,_,_=>⟨⟨fun _ _ _=>Le.none _⟩,⟨fun _ _ _=>Le.none _⟩⟩|n+1,0,h=>absurd h (by omega)|n+1,m+1,h=>by
  obtain ⟨i0,i1⟩:=JQ N n m (by omega);refine⟨?_,?_⟩
  .exact⟨fun _ _ _=>by unfold Av;exact ly lx⟩
  .exact⟨fun _ _ _=>by unfold BR;exact ly lx⟩
theorem OW(N n m:Nat)(h:n<=m):Mo (@Av (eN N) n) (@Av EZ m):=(JQ N n m h).1
instance:MF @FC:=⟨fun N _ _ _=>LL N fun n hn=>(OW N N n hn).le _ _ _⟩
instance:MF @EQ:=⟨fun _ _ _ _ _ _ _=>by unfold EQ;exact ly lx⟩
instance:MF @Dp:=⟨fun _ _ _ _ _ _ _=>by unfold Dp;exact ly lx⟩
instance:MF @KN:=⟨fun _ _ _=>by unfold KN;exact ly lx⟩
instance:MF @Is:=⟨fun _ _ _ _=>by unfold Is;exact ly lx⟩
instance:MF @Ox:=⟨fun _ _ _ _ _=>by unfold Ox;exact ly lx⟩
instance:MF @Oy:=⟨fun _ _ _ _=>by unfold Oy;exact ly lx⟩
instance:MF @Lv:=⟨fun _ _ _=>by unfold Lv;exact ly lx⟩
instance:MF @KL:=⟨fun _ _ _ _ _=>by unfold KL;exact ly lx⟩
instance:MF @HQ:=⟨fun _ _ _ _ _=>by unfold HQ;exact ly lx⟩
instance:MF @Er:=⟨fun _ _ _ _ _=>by unfold Er;exact ly lx⟩
instance:MF @Dm:=⟨fun _ _ _ _=>by unfold Dm;exact ly lx⟩
instance(N:Nat)(s1_0:List d7)(s2_1:List d7)(eq' eq:d7->d7->K1)[heq:∀y0 y1,Mo (eq' y0 y1) (eq y0 y1)]:Mo (@CL (eN N) s1_0 s2_1 eq') (@CL EZ s1_0 s2_1 eq):=⟨by unfold CL;exact ly lx⟩
theorem Pn(N:Nat):∀n m:Nat,n<=m->Mo (@Cq (eN N) n) (@Cq EZ m)
 |0,_,_=>⟨fun _ _=>Le.none _⟩|n+1,0,h=>absurd h (by omega)|n+1,m+1,h=>by
  have ih:=Pn N n m (by omega);exact⟨fun _ _=>by unfold Cq;exact ly lx⟩
instance:MF @L3:=⟨fun N _ _=>LL N fun n hn=>(Pn N N n hn).le _ _⟩
instance:MF @Lp:=⟨fun _ _ _=>by unfold Lp;exact ly lx⟩
instance:MF @Lu:=⟨fun _ _ _=>by unfold Lu;exact ly lx⟩
instance:MF @Ir:=⟨fun _ _ _=>by unfold Ir;exact ly lx⟩
instance:MF @Ie:=⟨fun _ _ _ _ _=>by unfold Ie;exact ly lx⟩
instance:MF @FZ:=⟨fun _ _=>by unfold FZ;exact ly lx⟩
instance:MF @Dq:=⟨fun _ _=>by unfold Dq;exact ly lx⟩
instance:MF @D5:=⟨fun _ _ _ _=>by unfold D5;exact ly lx⟩
theorem Nc(N:Nat):∀n m:Nat,n<=m->Mo (@B7 (eN N) n) (@B7 EZ m)
 |0,_,_=>⟨fun _=>Le.none _⟩|n+1,0,h=>absurd h (by omega)|n+1,m+1,h=>by
  have ih:=Nc N n m (by omega);exact⟨fun _=>by unfold B7;exact ly lx⟩
instance:MF @JH:=⟨fun N _=>LL N fun n hn=>(Nc N N n hn).le _⟩
theorem Nd(N:Nat):∀n m:Nat,n<=m->Mo (@B8 (eN N) n) (@B8 EZ m)
 |0,_,_=>⟨fun _=>Le.none _⟩|n+1,0,h=>absurd h (by omega)|n+1,m+1,h=>by
  have ih:=Nd N n m (by omega);exact⟨fun _=>by unfold B8;exact ly lx⟩
instance:MF @JI:=⟨fun N _=>LL N fun n hn=>(Nd N N n hn).le _⟩
instance:MF @HM:=⟨fun _ _ _ _ _=>by unfold HM;exact ly lx⟩
instance:MF @Eu:=⟨fun _ _ _ _=>by unfold Eu;exact ly lx⟩
instance:MF @IZ:=⟨fun _ _ _ _ _ _=>by unfold IZ;exact ly lx⟩
instance:MF @Lh:=⟨fun _ _ _ _=>by unfold Lh;exact ly lx⟩
instance:MF @Hw:=⟨fun _ _ _=>by unfold Hw;exact ly lx⟩
instance:MF @Lg:=⟨fun _ _ _=>by unfold Lg;exact ly lx⟩
instance:MF @Kl:=⟨fun _ _=>by unfold Kl;exact ly lx⟩
instance:MF @D7:=⟨fun _ _=>by unfold D7;exact ly lx⟩
theorem Rv(N:Nat):∀n m:Nat,n<=m->Mo (@D8 (eN N) n) (@D8 EZ m)
 |0,_,_=>⟨fun _ _=>Le.none _⟩|n+1,0,h=>absurd h (by omega)|n+1,m+1,h=>by
  have ih:=Rv N n m (by omega);exact⟨fun _ _=>by unfold D8;exact ly lx⟩
instance:MF @Mk:=⟨fun N _ _=>LL N fun n hn=>(Rv N N n hn).le _ _⟩
instance:MF @I0:=⟨fun _ _=>by unfold I0;exact ly lx⟩
instance:MF @FR:=⟨fun _ _=>by unfold FR;exact ly lx⟩
instance:MF @KA:=⟨fun _ _ _=>by unfold KA;exact ly lx⟩
instance:MF @J9:=⟨fun _ _ _=>by unfold J9;exact ly lx⟩
instance:MF @EE:=⟨fun _ _=>by unfold EE;exact ly lx⟩
instance:MF @HV:=⟨fun _ _ _ _=>by unfold HV;exact ly lx⟩
instance:MF @Ed:=⟨fun _ _ _=>by unfold Ed;exact ly lx⟩
instance:MF @KD:=⟨fun _ _ _ _=>by unfold KD;exact ly lx⟩
theorem RN(N:Nat):∀n m:Nat,n<=m->Mo (@Df (eN N) n) (@Df EZ m)
 |0,_,_=>⟨fun _ _ _=>Le.none _⟩|n+1,0,h=>absurd h (by omega)|n+1,m+1,h=>by
  have ih:=RN N n m (by omega);exact⟨fun _ _ _=>by unfold Df;exact ly lx⟩
instance:MF @GV:=⟨fun N _ _ _=>LL N fun n hn=>(RN N N n hn).le _ _ _⟩
instance:MF @Ih:=⟨fun _ _ _ _ _=>by unfold Ih;exact ly lx⟩
instance:MF @FI:=⟨fun _ _ _=>by unfold FI;exact ly lx⟩
instance:MF @KF:=⟨fun _ _ _ _ _=>by unfold KF;exact ly lx⟩
instance:MF @FK:=⟨fun _ _ _=>by unfold FK;exact ly lx⟩
theorem Pq(N:Nat):∀n m:Nat,n<=m->Mo (@C6 (eN N) n) (@C6 EZ m)
 |0,_,_=>⟨fun _=>Le.none _⟩|n+1,0,h=>absurd h (by omega)|n+1,m+1,h=>by
  have ih:=Pq N n m (by omega);exact⟨fun _=>by unfold C6;exact ly lx⟩
instance:MF @MI:=⟨fun N _=>LL N fun n hn=>(Pq N N n hn).le _⟩
theorem Qq(N:Nat):∀n m:Nat,n<=m->Mo (@DO (eN N) n) (@DO EZ m)
 |0,_,_=>⟨fun _=>Le.none _⟩|n+1,0,h=>absurd h (by omega)|n+1,m+1,h=>by
  have ih:=Qq N n m (by omega);exact⟨fun _=>by unfold DO;exact ly lx⟩
instance:MF @M3:=⟨fun N _=>LL N fun n hn=>(Qq N N n hn).le _⟩
instance:MF @I7:=⟨fun _ _=>by unfold I7;exact ly lx⟩
instance:MF @I8:=⟨fun _ _ _ _=>by unfold I8;exact ly lx⟩
theorem S7(N:Nat):∀n m:Nat,n<=m->Mo (@Dk (eN N) n) (@Dk EZ m)
 |0,_,_=>⟨fun _ _ _=>Le.none _⟩|n+1,0,h=>absurd h (by omega)|n+1,m+1,h=>by
  have ih:=S7 N n m (by omega);exact⟨fun _ _ _=>by unfold Dk;exact ly lx⟩
instance:MF @Si:=⟨fun N _ _ _=>LL N fun n hn=>(S7 N N n hn).le _ _ _⟩
instance:MF @Hd:=⟨fun _ _ _ _=>by unfold Hd;exact ly lx⟩
instance:MF @KG:=⟨fun _ _ _ _=>by unfold KG;exact ly lx⟩
instance:MF @I9:=⟨fun _ _ _=>by unfold I9;exact ly lx⟩
instance:MF @Hz:=⟨fun _ _ _ _ _=>by unfold Hz;exact ly lx⟩
instance:MF @He:=⟨fun _ _ _=>by unfold He;exact ly lx⟩
instance:MF @JA:=⟨fun _ _ _ _=>by unfold JA;exact ly lx⟩
instance:MF @FJ:=⟨fun _ _ _ _=>by unfold FJ;exact ly lx⟩
instance:MF @I3:=⟨fun _ _ _ _ _ _=>by unfold I3;exact ly lx⟩
instance:MF @GM:=⟨fun _ _ _ _ _ _=>by unfold GM;exact ly lx⟩
instance:MF @Hb:=⟨fun _ _ _ _=>by unfold Hb;exact ly lx⟩
instance:MF @I4:=⟨fun _ _ _ _ _=>by unfold I4;exact ly lx⟩
instance:MF @F9:=⟨fun _ _ _ _ _=>by unfold F9;exact ly lx⟩
instance:MF @CY:=⟨fun _ _ _ _=>by unfold CY;exact ly lx⟩
theorem LM(N:Nat):∀n m:Nat,n<=m->Mo (@Bp (eN N) n) (@Bp EZ m)
 |0,_,_=>⟨fun _ _ _=>Le.none _⟩|n+1,0,h=>absurd h (by omega)|n+1,m+1,h=>by
  have ih:=LM N n m (by omega);exact⟨fun _ _ _=>by unfold Bp;exact ly lx⟩
instance:MF @JP:=⟨fun N _ _ _=>LL N fun n hn=>(LM N N n hn).le _ _ _⟩
theorem LN(N:Nat):∀n m:Nat,n<=m->Mo (@Bq (eN N) n) (@Bq EZ m)
 |0,_,_=>⟨fun _ _=>Le.none _⟩|n+1,0,h=>absurd h (by omega)|n+1,m+1,h=>by
  have ih:=LN N n m (by omega);exact⟨fun _ _=>by unfold Bq;exact ly lx⟩
instance:MF @Ge:=⟨fun N _ _=>LL N fun n hn=>(LN N N n hn).le _ _⟩
instance:MF @Jp:=⟨fun _ _ _ _ _ _ _=>by unfold Jp;exact ly lx⟩
instance:MF @Hx:=⟨fun _ _ _ _ _ _=>by unfold Hx;exact ly lx⟩
instance:MF @Ew:=⟨fun _ _ _ _ _ _=>by unfold Ew;exact ly lx⟩
theorem Rw(N:Nat):∀n m:Nat,n<=m->Mo (@C7 (eN N) n) (@C7 EZ m)
 |0,_,_=>⟨fun _ _ _ _ _=>Le.none _⟩|n+1,0,h=>absurd h (by omega)|n+1,m+1,h=>by
  have ih:=Rw N n m (by omega);exact⟨fun _ _ _ _ _=>by unfold C7;exact ly lx⟩
instance:MF @O8:=⟨fun N _ _ _ _ _=>LL N fun n hn=>(Rw N N n hn).le _ _ _ _ _⟩
instance:MF @I6:=⟨fun _ _ _ _ _ _=>by unfold I6;exact ly lx⟩
instance:MF @Ho:=⟨fun _ _ _ _ _=>by unfold Ho;exact ly lx⟩
instance:MF @Gv:=⟨fun _ _ _ _=>by unfold Gv;exact ly lx⟩
instance:MF @IJ:=⟨fun _ _ _ _=>by unfold IJ;exact ly lx⟩
instance:MF @Il:=⟨fun _ _ _ _ _=>by unfold Il;exact ly lx⟩
instance:MF @Js:=⟨fun _ _ _ _ _ _=>by unfold Js;exact ly lx⟩
instance:MF @FL:=⟨fun _ _ _ _ _=>by unfold FL;exact ly lx⟩
instance:MF @N9:=⟨fun _ _=>by unfold N9;exact ly lx⟩
instance:MF @PY:=⟨fun _ _ _ _ _=>by unfold PY;exact ly lx⟩
instance:MF @Kb:=⟨fun _ _ _ _ _=>by unfold Kb;exact ly lx⟩
instance:MF @H0:=⟨fun _ _ _ _=>by unfold H0;exact ly lx⟩
instance:MF @Mq:=⟨fun _ _ _ _ _=>by unfold Mq;exact ly lx⟩
instance:MF @OJ:=⟨fun _ _ _ _ _=>by unfold OJ;exact ly lx⟩
instance:MF @Gz:=⟨fun _ _ _ _ _=>by unfold Gz;exact ly lx⟩
instance:MF @Iq:=⟨fun _ _ _ _=>by unfold Iq;exact ly lx⟩
instance(N:Nat)(s_0:List Aq)(f' f:Aq->K1)[hf:∀y0,Mo (f' y0) (f y0)]:Mo (@DQ (eN N) s_0 f') (@DQ EZ s_0 f):=⟨by unfold DQ;exact ly lx⟩
instance(N:Nat)(s_0:List Aq)(f' f:Aq->K1)[hf:∀y0,Mo (f' y0) (f y0)]:Mo (@Cx (eN N) s_0 f') (@Cx EZ s_0 f):=⟨by unfold Cx;exact ly lx⟩
instance:MF @Nz:=⟨fun _ _ _=>by unfold Nz;exact ly lx⟩
instance:MF @Md:=⟨fun _ _ _=>by unfold Md;exact ly lx⟩
instance:MF @NS:=⟨fun _ _ _ _ _=>by unfold NS;exact ly lx⟩
instance:MF @PQ:=⟨fun _ _ _ _ _ _ _=>by unfold PQ;exact ly lx⟩
instance:MF @Mb:=⟨fun _ _ _ _ _ _=>by unfold Mb;exact ly lx⟩
instance:MF @GI:=⟨fun _=>by unfold GI;exact ly lx⟩
end Go.Sf.Sc
namespace Go.Sf.Sc
open Go Go.Sf
theorem np:@GI (eN 40)=some true:=by decide +kernel
theorem kH:GI=some true:=
 LO (MF.le (f:=@GI) 40) _ np
end Go.Sf.Sc
