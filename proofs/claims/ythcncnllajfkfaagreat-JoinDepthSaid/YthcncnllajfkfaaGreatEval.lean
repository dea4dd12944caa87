/- Lemmas. -/
import Derived.Test.YthcncnllajfkfaaGreatFns
import Derived.Test.YthcncnllajfkfaaGreatSfPl
set_option linter.all false
set_option maxRecDepth 100000
namespace Go.Sf.Sc
open Go Go.Sf
instance(N:Nat)(s1_0:List Fp)(s2_1:List Fp)(eq' eq:Fp->Fp->K1)[heq:∀y0 y1,Mo (eq' y0 y1) (eq y0 y1)]:Mo (@C8 (eN N) s1_0 s2_1 eq') (@C8 Es s1_0 s2_1 eq):=⟨by unfold C8;exact ly lx⟩
instance:MF @GF:=⟨λ_ _ _=>by unfold GF;exact ly lx⟩
instance:MF @Gt:=⟨λ_ _ _=>by unfold Gt;exact ly lx⟩
instance(N:Nat)(s_0:ByteArray)(ok' ok:Int->K1)[hok:∀y0,Mo (ok' y0) (ok y0)]:Mo (@IJ (eN N) s_0 ok') (@IJ Es s_0 ok):=⟨by unfold IJ;exact ly lx⟩
instance:MF @Ij:=⟨λ_ _=>by unfold Ij;exact ly lx⟩
instance:MF @LP:=⟨λ_ _=>by unfold LP;exact ly lx⟩
instance:MF @Lx:=⟨λ_ _=>by unfold Lx;exact ly lx⟩
instance:MF @EP:=⟨λ_ _=>by unfold EP;exact ly lx⟩
instance(N:Nat)(s_0:List BO)(f' f:BO->K1)[hf:∀y0,Mo (f' y0) (f y0)]:Mo (@DG (eN N) s_0 f') (@DG Es s_0 f):=⟨by unfold DG;exact ly lx⟩
instance(N:Nat)(s_0:List BO)(f' f:BO->K1)[hf:∀y0,Mo (f' y0) (f y0)]:Mo (@CS (eN N) s_0 f') (@CS Es s_0 f):=⟨by unfold CS;exact ly lx⟩
theorem Tm(N:Nat):∀n m:Nat,n<=m->Mo (@Da (eN N) n) (@Da Es m)
 |0,_,_=>⟨λ_ _=>Le.none _⟩|n+1,0,h=>absurd h U|n+1,m+1,h=>by
  have ih:=Tm N n m U;exact⟨λ_ _=>by unfold Da;exact ly lx⟩
instance:MF @OA:=⟨λN _ _=>LL N λn hn=>(Tm N N n hn).le _ _⟩
instance(N:Nat)(s_0:List kp)(f' f:kp->K1)[hf:∀y0,Mo (f' y0) (f y0)]:Mo (@ED (eN N) s_0 f') (@ED Es s_0 f):=⟨by unfold ED;exact ly lx⟩
instance(N:Nat)(s_0:List kp)(f' f:kp->K1)[hf:∀y0,Mo (f' y0) (f y0)]:Mo (@Cs (eN N) s_0 f') (@Cs Es s_0 f):=⟨by unfold Cs;exact ly lx⟩
instance:MF @J1:=⟨λ_ _=>by unfold J1;exact ly lx⟩
instance:MF @GB:=⟨λ_ _ _=>by unfold GB;exact ly lx⟩
instance:MF @LS:=⟨λ_ _ _=>by unfold LS;exact ly lx⟩
instance(N:Nat)(s_0:List Cf)(f' f:Cf->K1)[hf:∀y0,Mo (f' y0) (f y0)]:Mo (@DF (eN N) s_0 f') (@DF Es s_0 f):=⟨by unfold DF;exact ly lx⟩
instance(N:Nat)(s_0:List Cf)(f' f:Cf->K1)[hf:∀y0,Mo (f' y0) (f y0)]:Mo (@CR (eN N) s_0 f') (@CR Es s_0 f):=⟨by unfold CR;exact ly lx⟩
instance:MF @LQ:=⟨λ_ _ _=>by unfold LQ;exact ly lx⟩
instance:MF @Dx:=⟨λ_ _=>by unfold Dx;exact ly lx⟩
instance(N:Nat)(s_0:Fp)(f' f:Int->K1)[hf:∀y0,Mo (f' y0) (f y0)]:Mo (@EZ (eN N) s_0 f') (@EZ Es s_0 f):=⟨by unfold EZ;exact ly lx⟩
instance(N:Nat)(s_0:Fp)(f' f:Int->K1)[hf:∀y0,Mo (f' y0) (f y0)]:Mo (@A3 (eN N) s_0 f') (@A3 Es s_0 f):=⟨by unfold A3;exact ly lx⟩
instance(N:Nat)(s_0:List Bk)(f' f:Bk->K1)[hf:∀y0,Mo (f' y0) (f y0)]:Mo (@EE (eN N) s_0 f') (@EE Es s_0 f):=⟨by unfold EE;exact ly lx⟩
instance(N:Nat)(s_0:List Bk)(f' f:Bk->K1)[hf:∀y0,Mo (f' y0) (f y0)]:Mo (@Be (eN N) s_0 f') (@Be Es s_0 f):=⟨by unfold Be;exact ly lx⟩
instance:MF @DC:=⟨λ_ _=>by unfold DC;exact ly lx⟩
instance:MF @G4:=⟨λ_ _ _=>by unfold G4;exact ly lx⟩
instance:MF @E5:=⟨λ_ _ _=>by unfold E5;exact ly lx⟩
instance:MF @Ga:=⟨λ_ _ _ _=>by unfold Ga;exact ly lx⟩
instance:MF @Dc:=⟨λ_ _ _=>by unfold Dc;exact ly lx⟩
instance:MF @LG:=⟨λ_ _ _=>by unfold LG;exact ly lx⟩
instance(N:Nat)(s_0:List By)(f' f:By->K1)[hf:∀y0,Mo (f' y0) (f y0)]:Mo (@EF (eN N) s_0 f') (@EF Es s_0 f):=⟨by unfold EF;exact ly lx⟩
instance(N:Nat)(s_0:List By)(f' f:By->K1)[hf:∀y0,Mo (f' y0) (f y0)]:Mo (@Ca (eN N) s_0 f') (@Ca Es s_0 f):=⟨by unfold Ca;exact ly lx⟩
instance:MF @Mp:=⟨λ_ _ _ _=>by unfold Mp;exact ly lx⟩
instance:MF @LF:=⟨λ_ _ _=>by unfold LF;exact ly lx⟩
instance:MF @FY:=⟨λ_ _ _=>by unfold FY;exact ly lx⟩
instance:MF @FN:=⟨λ_ _ _=>by unfold FN;exact ly lx⟩
instance:MF @Du:=⟨λ_ _ _ _=>by unfold Du;exact ly lx⟩
instance:MF @Dj:=⟨λ_ _ _ _=>by unfold Dj;exact ly lx⟩
instance:MF @Mn:=⟨λ_ _=>by unfold Mn;exact ly lx⟩
instance:MF @NX:=⟨λ_ _ _=>by unfold NX;exact ly lx⟩
instance:MF @LR:=⟨λ_ _ _ _=>by unfold LR;exact ly lx⟩
instance:MF @Jh:=⟨λ_ _ _ _ _=>by unfold Jh;exact ly lx⟩
instance:MF @IP:=⟨λ_ _ _ _=>by unfold IP;exact ly lx⟩
instance:MF @If:=⟨λ_ _ _ _ _=>by unfold If;exact ly lx⟩
instance(N:Nat)(s_0:List d7)(f' f:d7->K1)[hf:∀y0,Mo (f' y0) (f y0)]:Mo (@C3 (eN N) s_0 f') (@C3 Es s_0 f):=⟨by unfold C3;exact ly lx⟩
instance(N:Nat)(s_0:List d7)(f' f:d7->K1)[hf:∀y0,Mo (f' y0) (f y0)]:Mo (@B6 (eN N) s_0 f') (@B6 Es s_0 f):=⟨by unfold B6;exact ly lx⟩
theorem Na(N:Nat):∀n m:Nat,n<=m->Mo (@BZ (eN N) n) (@BZ Es m)/\Mo (@Bn (eN N) n) (@Bn Es m)
 |0,_,_=>⟨⟨λ_=>Le.none _⟩,⟨λ_=>Le.none _⟩⟩|n+1,0,h=>absurd h U|n+1,m+1,h=>by
  obtain ⟨i0,i1⟩:=Na N n m U;refine⟨?_,?_⟩
  .exact⟨λ_=>by unfold BZ;exact ly lx⟩
  .exact⟨λ_=>by unfold Bn;exact ly lx⟩
theorem SU(N n m:Nat)(h:n<=m):Mo (@BZ (eN N) n) (@BZ Es m):=(Na N n m h).1
instance:MF @Hu:=⟨λN _=>LL N λn hn=>(SU N N n hn).le _⟩
theorem O5(N:Nat):∀n m:Nat,n<=m->Mo (@CX (eN N) n) (@CX Es m)
 |0,_,_=>⟨λ_=>Le.none _⟩|n+1,0,h=>absurd h U|n+1,m+1,h=>by
  have ih:=O5 N n m U;exact⟨λ_=>by unfold CX;exact ly lx⟩
instance:MF @J5:=⟨λN _=>LL N λn hn=>(O5 N N n hn).le _⟩
instance:MF @F1:=⟨λ_ _=>by unfold F1;exact ly lx⟩
instance:MF @Ej:=⟨λ_ _ _ _=>by unfold Ej;exact ly lx⟩
theorem Pq(N:Nat):∀n m:Nat,n<=m->Mo (@CF (eN N) n) (@CF Es m)
 |0,_,_=>⟨λ_ _ _=>Le.none _⟩|n+1,0,h=>absurd h U|n+1,m+1,h=>by
  have ih:=Pq N n m U;exact⟨λ_ _ _=>by unfold CF;exact ly lx⟩
instance:MF @OU:=⟨λN _ _ _=>LL N λn hn=>(Pq N N n hn).le _ _ _⟩
instance:MF @Dd:=⟨λ_ _ _ _=>by unfold Dd;exact ly lx⟩
instance:MF @Ja:=⟨λ_ _ _=>by unfold Ja;exact ly lx⟩
instance:MF @MQ:=⟨λ_ _ _ _=>by unfold MQ;exact ly lx⟩
instance:MF @Gs:=⟨λ_ _ _=>by unfold Gs;exact ly lx⟩
instance:MF @FI:=⟨λ_ _ _ _=>by unfold FI;exact ly lx⟩
instance:MF @Hz:=⟨λ_ _ _ _=>by unfold Hz;exact ly lx⟩
instance:MF @GK:=⟨λ_ _ _=>by unfold GK;exact ly lx⟩
instance:MF @E4:=⟨λ_ _ _ _=>by unfold E4;exact ly lx⟩
instance:MF @J0:=⟨λ_ _ _=>by unfold J0;exact ly lx⟩
instance:MF @G9:=⟨λ_ _=>by unfold G9;exact ly lx⟩
instance:MF @HC:=⟨λ_ _ _ _ _=>by unfold HC;exact ly lx⟩
instance:MF @F6:=⟨λ_ _ _ _ _ _=>by unfold F6;exact ly lx⟩
instance:MF @Ep:=⟨λ_ _ _ _=>by unfold Ep;exact ly lx⟩
instance:MF @Eo:=⟨λ_ _ _ _ _=>by unfold Eo;exact ly lx⟩
instance:MF @KW:=⟨λ_ _ _ _ _=>by unfold KW;exact ly lx⟩
instance:MF @F7:=⟨λ_ _ _ _ _=>by unfold F7;exact ly lx⟩
instance:MF @DE:=⟨λ_ _=>by unfold DE;exact ly lx⟩
instance:MF @HV:=⟨λ_ _ _ _ _=>by unfold HV;exact ly lx⟩
instance:MF @Fy:=⟨λ_ _ _ _ _ _ _=>by unfold Fy;exact ly lx⟩
theorem ML(N:Nat):∀n m:Nat,n<=m->Mo (@A8 (eN N) n) (@A8 Es m)
 |0,_,_=>⟨λ_=>Le.none _⟩|n+1,0,h=>absurd h U|n+1,m+1,h=>by
  have ih:=ML N n m U;exact⟨λ_=>by unfold A8;exact ly lx⟩
instance:MF @HH:=⟨λN _=>LL N λn hn=>(ML N N n hn).le _⟩
instance:MF @F8:=⟨λ_ _ _ _ _ _ _=>by unfold F8;exact ly lx⟩
instance:MF @Jb:=⟨λ_ _ _ _ _ _=>by unfold Jb;exact ly lx⟩
instance:MF @II:=⟨λ_ _ _=>by unfold II;exact ly lx⟩
instance:MF @Hd:=⟨λ_ _ _ _ _ _=>by unfold Hd;exact ly lx⟩
instance:MF @CQ:=⟨λ_ _ _ _=>by unfold CQ;exact ly lx⟩
theorem KF(N:Nat):∀n m:Nat,n<=m->Mo (@Ay (eN N) n) (@Ay Es m)/\Mo (@BU (eN N) n) (@BU Es m)
 |0,_,_=>⟨⟨λ_ _ _=>Le.none _⟩,⟨λ_ _ _=>Le.none _⟩⟩|n+1,0,h=>absurd h U|n+1,m+1,h=>by
  obtain ⟨i0,i1⟩:=KF N n m U;refine⟨?_,?_⟩
  .exact⟨λ_ _ _=>by unfold Ay;exact ly lx⟩
  .exact⟨λ_ _ _=>by unfold BU;exact ly lx⟩
theorem Pv(N n m:Nat)(h:n<=m):Mo (@Ay (eN N) n) (@Ay Es m):=(KF N n m h).1
instance:MF @Fd:=⟨λN _ _ _=>LL N λn hn=>(Pv N N n hn).le _ _ _⟩
instance:MF @Ei:=⟨λ_ _ _ _ _ _ _=>by unfold Ei;exact ly lx⟩
instance:MF @D0:=⟨λ_ _ _ _ _ _ _=>by unfold D0;exact ly lx⟩
instance:MF @LK:=⟨λ_ _ _=>by unfold LK;exact ly lx⟩
instance:MF @Jf:=⟨λ_ _ _ _=>by unfold Jf;exact ly lx⟩
instance:MF @QP:=⟨λ_ _ _ _ _=>by unfold QP;exact ly lx⟩
instance:MF @QR:=⟨λ_ _ _ _=>by unfold QR;exact ly lx⟩
instance:MF @Mt:=⟨λ_ _ _=>by unfold Mt;exact ly lx⟩
instance:MF @Hy:=⟨λ_ _ _ _ _=>by unfold Hy;exact ly lx⟩
instance:MF @FE:=⟨λ_ _ _ _ _=>by unfold FE;exact ly lx⟩
instance:MF @FH:=⟨λ_ _ _ _ _=>by unfold FH;exact ly lx⟩
instance:MF @Dy:=⟨λ_ _ _ _=>by unfold Dy;exact ly lx⟩
instance(N:Nat)(s1_0:List d7)(s2_1:List d7)(eq' eq:d7->d7->K1)[heq:∀y0 y1,Mo (eq' y0 y1) (eq y0 y1)]:Mo (@CL (eN N) s1_0 s2_1 eq') (@CL Es s1_0 s2_1 eq):=⟨by unfold CL;exact ly lx⟩
theorem RE(N:Nat):∀n m:Nat,n<=m->Mo (@Cn (eN N) n) (@Cn Es m)
 |0,_,_=>⟨λ_ _=>Le.none _⟩|n+1,0,h=>absurd h U|n+1,m+1,h=>by
  have ih:=RE N n m U;exact⟨λ_ _=>by unfold Cn;exact ly lx⟩
instance:MF @M4:=⟨λN _ _=>LL N λn hn=>(RE N N n hn).le _ _⟩
instance:MF @Mk:=⟨λ_ _ _=>by unfold Mk;exact ly lx⟩
instance:MF @Ms:=⟨λ_ _ _=>by unfold Ms;exact ly lx⟩
instance:MF @Je:=⟨λ_ _ _=>by unfold Je;exact ly lx⟩
instance:MF @JQ:=⟨λ_ _ _ _ _=>by unfold JQ;exact ly lx⟩
instance:MF @LH:=⟨λ_ _ _ _ _=>by unfold LH;exact ly lx⟩
instance:MF @Eg:=⟨λ_ _ _ _ _=>by unfold Eg;exact ly lx⟩
instance:MF @Eu:=⟨λ_ _ _ _=>by unfold Eu;exact ly lx⟩
instance(N:Nat)(s_0:List Aw)(f' f:Aw->K1)[hf:∀y0,Mo (f' y0) (f y0)]:Mo (@DZ (eN N) s_0 f') (@DZ Es s_0 f):=⟨by unfold DZ;exact ly lx⟩
instance(N:Nat)(s_0:List Aw)(f' f:Aw->K1)[hf:∀y0,Mo (f' y0) (f y0)]:Mo (@B3 (eN N) s_0 f') (@B3 Es s_0 f):=⟨by unfold B3;exact ly lx⟩
theorem Ov(N:Nat):∀n m:Nat,n<=m->Mo (@CH (eN N) n) (@CH Es m)
 |0,_,_=>⟨λ_=>Le.none _⟩|n+1,0,h=>absurd h U|n+1,m+1,h=>by
  have ih:=Ov N n m U;exact⟨λ_=>by unfold CH;exact ly lx⟩
instance:MF @J4:=⟨λN _=>LL N λn hn=>(Ov N N n hn).le _⟩
theorem Ow(N:Nat):∀n m:Nat,n<=m->Mo (@CI (eN N) n) (@CI Es m)
 |0,_,_=>⟨λ_=>Le.none _⟩|n+1,0,h=>absurd h U|n+1,m+1,h=>by
  have ih:=Ow N n m U;exact⟨λ_=>by unfold CI;exact ly lx⟩
instance:MF @Hg:=⟨λN _=>LL N λn hn=>(Ow N N n hn).le _⟩
instance:MF @Dm:=⟨λ_ _ _ _ _=>by unfold Dm;exact ly lx⟩
instance:MF @NB:=⟨λ_ _ _=>by unfold NB;exact ly lx⟩
instance:MF @Gu:=⟨λ_ _ _=>by unfold Gu;exact ly lx⟩
instance:MF @H6:=⟨λ_ _ _ _ _=>by unfold H6;exact ly lx⟩
instance:MF @Kd:=⟨λ_ _ _ _ _ _ _=>by unfold Kd;exact ly lx⟩
instance:MF @Nn:=⟨λ_ _ _ _ _ _=>by unfold Nn;exact ly lx⟩
instance:MF @Hn:=⟨λ_ _=>by unfold Hn;exact ly lx⟩
instance:MF @GV:=⟨λ_ _=>by unfold GV;exact ly lx⟩
instance:MF @Gd:=⟨λ_ _ _ _=>by unfold Gd;exact ly lx⟩
instance:MF @IX:=⟨λ_ _ _ _=>by unfold IX;exact ly lx⟩
instance:MF @PD:=⟨λ_ _ _ _ _ _=>by unfold PD;exact ly lx⟩
theorem Th(N:Nat):∀n m:Nat,n<=m->Mo (@EM (eN N) n) (@EM Es m)
 |0,_,_=>⟨λ_ _=>Le.none _⟩|n+1,0,h=>absurd h U|n+1,m+1,h=>by
  have ih:=Th N n m U;exact⟨λ_ _=>by unfold EM;exact ly lx⟩
instance:MF @Nu:=⟨λN _ _=>LL N λn hn=>(Th N N n hn).le _ _⟩
instance:MF @Mb:=⟨λ_ _ _ _=>by unfold Mb;exact ly lx⟩
instance:MF @IZ:=⟨λ_ _ _=>by unfold IZ;exact ly lx⟩
instance:MF @Ma:=⟨λ_ _ _=>by unfold Ma;exact ly lx⟩
instance:MF @Ln:=⟨λ_ _=>by unfold Ln;exact ly lx⟩
instance:MF @EL:=⟨λ_ _=>by unfold EL;exact ly lx⟩
instance:MF @Jp:=⟨λ_ _=>by unfold Jp;exact ly lx⟩
instance:MF @F5:=⟨λ_ _=>by unfold F5;exact ly lx⟩
instance:MF @K9:=⟨λ_ _ _=>by unfold K9;exact ly lx⟩
instance:MF @K8:=⟨λ_ _ _=>by unfold K8;exact ly lx⟩
instance:MF @ER:=⟨λ_ _=>by unfold ER;exact ly lx⟩
instance:MF @H9:=⟨λ_ _ _ _=>by unfold H9;exact ly lx⟩
theorem Sx(N:Nat):∀n m:Nat,n<=m->Mo (@Dp (eN N) n) (@Dp Es m)
 |0,_,_=>⟨λ_ _ _=>Le.none _⟩|n+1,0,h=>absurd h U|n+1,m+1,h=>by
  have ih:=Sx N n m U;exact⟨λ_ _ _=>by unfold Dp;exact ly lx⟩
instance:MF @E2:=⟨λN _ _ _=>LL N λn hn=>(Sx N N n hn).le _ _ _⟩
instance:MF @Gx:=⟨λ_ _ _ _ _=>by unfold Gx;exact ly lx⟩
instance:MF @Df:=⟨λ_ _ _=>by unfold Df;exact ly lx⟩
instance:MF @LB:=⟨λ_ _ _ _=>by unfold LB;exact ly lx⟩
instance:MF @Fg:=⟨λ_ _ _=>by unfold Fg;exact ly lx⟩
instance:MF @LD:=⟨λ_ _ _ _ _=>by unfold LD;exact ly lx⟩
instance:MF @Fm:=⟨λ_ _ _=>by unfold Fm;exact ly lx⟩
theorem RH(N:Nat):∀n m:Nat,n<=m->Mo (@C6 (eN N) n) (@C6 Es m)
 |0,_,_=>⟨λ_=>Le.none _⟩|n+1,0,h=>absurd h U|n+1,m+1,h=>by
  have ih:=RH N n m U;exact⟨λ_=>by unfold C6;exact ly lx⟩
instance:MF @NM:=⟨λN _=>LL N λn hn=>(RH N N n hn).le _⟩
theorem SP(N:Nat):∀n m:Nat,n<=m->Mo (@DX (eN N) n) (@DX Es m)
 |0,_,_=>⟨λ_=>Le.none _⟩|n+1,0,h=>absurd h U|n+1,m+1,h=>by
  have ih:=SP N n m U;exact⟨λ_=>by unfold DX;exact ly lx⟩
instance:MF @OJ:=⟨λN _=>LL N λn hn=>(SP N N n hn).le _⟩
instance:MF @Jw:=⟨λ_ _=>by unfold Jw;exact ly lx⟩
instance:MF @Jx:=⟨λ_ _ _ _=>by unfold Jx;exact ly lx⟩
theorem Uq(N:Nat):∀n m:Nat,n<=m->Mo (@Dw (eN N) n) (@Dw Es m)
 |0,_,_=>⟨λ_ _ _=>Le.none _⟩|n+1,0,h=>absurd h U|n+1,m+1,h=>by
  have ih:=Uq N n m U;exact⟨λ_ _ _=>by unfold Dw;exact ly lx⟩
instance:MF @UX:=⟨λN _ _ _=>LL N λn hn=>(Uq N N n hn).le _ _ _⟩
instance:MF @IE:=⟨λ_ _ _ _=>by unfold IE;exact ly lx⟩
instance:MF @LE:=⟨λ_ _ _ _=>by unfold LE;exact ly lx⟩
instance:MF @Jy:=⟨λ_ _ _=>by unfold Jy;exact ly lx⟩
instance:MF @Ie:=⟨λ_ _ _ _ _=>by unfold Ie;exact ly lx⟩
instance:MF @IF:=⟨λ_ _ _=>by unfold IF;exact ly lx⟩
instance:MF @G2:=⟨λ_ _ _ _=>by unfold G2;exact ly lx⟩
instance:MF @Fh:=⟨λ_ _ _ _=>by unfold Fh;exact ly lx⟩
instance:MF @Js:=⟨λ_ _ _ _ _ _=>by unfold Js;exact ly lx⟩
instance:MF @Gy:=⟨λ_ _ _ _ _ _=>by unfold Gy;exact ly lx⟩
instance:MF @ID:=⟨λ_ _ _ _=>by unfold ID;exact ly lx⟩
instance:MF @Jt:=⟨λ_ _ _ _ _=>by unfold Jt;exact ly lx⟩
instance:MF @Gl:=⟨λ_ _ _ _ _=>by unfold Gl;exact ly lx⟩
instance:MF @CW:=⟨λ_ _ _ _=>by unfold CW;exact ly lx⟩
theorem MJ(N:Nat):∀n m:Nat,n<=m->Mo (@Br (eN N) n) (@Br Es m)
 |0,_,_=>⟨λ_ _ _=>Le.none _⟩|n+1,0,h=>absurd h U|n+1,m+1,h=>by
  have ih:=MJ N n m U;exact⟨λ_ _ _=>by unfold Br;exact ly lx⟩
instance:MF @KE:=⟨λN _ _ _=>LL N λn hn=>(MJ N N n hn).le _ _ _⟩
theorem MK(N:Nat):∀n m:Nat,n<=m->Mo (@Bs (eN N) n) (@Bs Es m)
 |0,_,_=>⟨λ_ _=>Le.none _⟩|n+1,0,h=>absurd h U|n+1,m+1,h=>by
  have ih:=MK N n m U;exact⟨λ_ _=>by unfold Bs;exact ly lx⟩
instance:MF @HF:=⟨λN _ _=>LL N λn hn=>(MK N N n hn).le _ _⟩
instance:MF @Ke:=⟨λ_ _ _ _ _ _ _=>by unfold Ke;exact ly lx⟩
instance:MF @Ia:=⟨λ_ _ _ _ _ _=>by unfold Ia;exact ly lx⟩
instance:MF @FL:=⟨λ_ _ _ _ _ _=>by unfold FL;exact ly lx⟩
theorem Ti(N:Nat):∀n m:Nat,n<=m->Mo (@C7 (eN N) n) (@C7 Es m)
 |0,_,_=>⟨λ_ _ _ _ _=>Le.none _⟩|n+1,0,h=>absurd h U|n+1,m+1,h=>by
  have ih:=Ti N n m U;exact⟨λ_ _ _ _ _=>by unfold C7;exact ly lx⟩
instance:MF @Qg:=⟨λN _ _ _ _ _=>LL N λn hn=>(Ti N N n hn).le _ _ _ _ _⟩
instance:MF @Jv:=⟨λ_ _ _ _ _ _=>by unfold Jv;exact ly lx⟩
instance:MF @IN:=⟨λ_ _ _ _ _=>by unfold IN;exact ly lx⟩
instance:MF @Hb:=⟨λ_ _ _ _=>by unfold Hb;exact ly lx⟩
instance:MF @I1:=⟨λ_ _ _ _=>by unfold I1;exact ly lx⟩
instance:MF @JX:=⟨λ_ _ _ _ _=>by unfold JX;exact ly lx⟩
instance:MF @Kh:=⟨λ_ _ _ _ _ _=>by unfold Kh;exact ly lx⟩
instance:MF @IG:=⟨λ_ _ _ _ _=>by unfold IG;exact ly lx⟩
instance:MF @LC:=⟨λ_ _=>by unfold LC;exact ly lx⟩
instance:MF @Me:=⟨λ_ _ _ _ _=>by unfold Me;exact ly lx⟩
instance:MF @Hc:=⟨λ_ _ _ _ _=>by unfold Hc;exact ly lx⟩
instance:MF @FM:=⟨λ_ _ _ _=>by unfold FM;exact ly lx⟩
instance:MF @G0:=⟨λ_ _ _ _ _=>by unfold G0;exact ly lx⟩
instance:MF @Gv:=⟨λ_=>by unfold Gv;exact ly lx⟩
end Go.Sf.Sc
namespace Go.Sf.Sc
open Go Go.Sf
theorem tU:@Gv (eN 40)=some true:=c!
theorem pT:Gv=some true:=
 LO (MF.le (f:=@Gv) 40) _ tU
end Go.Sf.Sc
