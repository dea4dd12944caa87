/- Lemmas. -/
import Derived.Test.YtiefejhapgafkaaGreatFns
set_option linter.all false
set_option maxRecDepth 100000
namespace Go.Sf.Sc
open Go Go.Sf
theorem Tv(N:Nat):∀n m:Nat,n<=m->Mo (@Ee (eN N) n) (@Ee FC m)
 |0,_,_=>⟨λ_ _=>Le.none _⟩|n+1,0,h=>absurd h U|n+1,m+1,h=>by
  have ih:=Tv N n m U;exact⟨λ_ _=>by unfold Ee;exact ly lx⟩
instance:MF @OB:=⟨λN _ _=>LL N λn hn=>(Tv N N n hn).le _ _⟩
instance:MF @Mx:=⟨λ_ _ _ _=>by unfold Mx;exact ly lx⟩
instance:MF @I1:=⟨λ_ _ _=>by unfold I1;exact ly lx⟩
instance:MF @Mw:=⟨λ_ _ _=>by unfold Mw;exact ly lx⟩
instance:MF @MC:=⟨λ_ _=>by unfold MC;exact ly lx⟩
instance:MF @Ed:=⟨λ_ _=>by unfold Ed;exact ly lx⟩
instance:MF @KG:=⟨λ_ _=>by unfold KG;exact ly lx⟩
instance:MF @GR:=⟨λ_ _=>by unfold GR;exact ly lx⟩
instance:MF @Lb:=⟨λ_ _ _=>by unfold Lb;exact ly lx⟩
instance:MF @La:=⟨λ_ _ _=>by unfold La;exact ly lx⟩
instance:MF @Ej:=⟨λ_ _=>by unfold Ej;exact ly lx⟩
instance:MF @Ib:=⟨λ_ _ _ _=>by unfold Ib;exact ly lx⟩
instance:MF @Dz:=⟨λ_ _ _=>by unfold Dz;exact ly lx⟩
theorem TC(N:Nat):∀n m:Nat,n<=m->Mo (@D7 (eN N) n) (@D7 FC m)
 |0,_,_=>⟨λ_ _ _=>Le.none _⟩|n+1,0,h=>absurd h U|n+1,m+1,h=>by
  have ih:=TC N n m U;exact⟨λ_ _ _=>by unfold D7;exact ly lx⟩
instance:MF @FL:=⟨λN _ _ _=>LL N λn hn=>(TC N N n hn).le _ _ _⟩
instance:MF @HT:=⟨λ_ _ _ _ _=>by unfold HT;exact ly lx⟩
instance:MF @Lg:=⟨λ_ _ _ _ _=>by unfold Lg;exact ly lx⟩
instance:MF @GF:=⟨λ_ _ _=>by unfold GF;exact ly lx⟩
theorem RR(N:Nat):∀n m:Nat,n<=m->Mo (@DP (eN N) n) (@DP FC m)
 |0,_,_=>⟨λ_=>Le.none _⟩|n+1,0,h=>absurd h U|n+1,m+1,h=>by
  have ih:=RR N n m U;exact⟨λ_=>by unfold DP;exact ly lx⟩
instance:MF @Nh:=⟨λN _=>LL N λn hn=>(RR N N n hn).le _⟩
theorem Sd(N:Nat):∀n m:Nat,n<=m->Mo (@Ds (eN N) n) (@Ds FC m)
 |0,_,_=>⟨λ_=>Le.none _⟩|n+1,0,h=>absurd h U|n+1,m+1,h=>by
  have ih:=Sd N n m U;exact⟨λ_=>by unfold Ds;exact ly lx⟩
instance:MF @OZ:=⟨λN _=>LL N λn hn=>(Sd N N n hn).le _⟩
instance:MF @KN:=⟨λ_ _=>by unfold KN;exact ly lx⟩
instance:MF @KO:=⟨λ_ _ _ _=>by unfold KO;exact ly lx⟩
theorem VC(N:Nat):∀n m:Nat,n<=m->Mo (@ED (eN N) n) (@ED FC m)
 |0,_,_=>⟨λ_ _ _=>Le.none _⟩|n+1,0,h=>absurd h U|n+1,m+1,h=>by
  have ih:=VC N n m U;exact⟨λ_ _ _=>by unfold ED;exact ly lx⟩
instance:MF @Uq:=⟨λN _ _ _=>LL N λn hn=>(VC N N n hn).le _ _ _⟩
instance:MF @Ih:=⟨λ_ _ _ _=>by unfold Ih;exact ly lx⟩
instance:MF @GE:=⟨λ_ _ _ _=>by unfold GE;exact ly lx⟩
instance:MF @Lh:=⟨λ_ _ _ _=>by unfold Lh;exact ly lx⟩
instance:MF @KP:=⟨λ_ _ _=>by unfold KP;exact ly lx⟩
instance:MF @I5:=⟨λ_ _ _ _ _=>by unfold I5;exact ly lx⟩
instance:MF @Ii:=⟨λ_ _ _=>by unfold Ii;exact ly lx⟩
instance:MF @Ld:=⟨λ_ _ _ _=>by unfold Ld;exact ly lx⟩
instance:MF @GD:=⟨λ_ _ _=>by unfold GD;exact ly lx⟩
instance:MF @Ha:=⟨λ_ _ _ _=>by unfold Ha;exact ly lx⟩
instance:MF @KJ:=⟨λ_ _ _ _ _ _=>by unfold KJ;exact ly lx⟩
instance:MF @HU:=⟨λ_ _ _ _ _ _=>by unfold HU;exact ly lx⟩
instance:MF @Ig:=⟨λ_ _ _ _=>by unfold Ig;exact ly lx⟩
instance:MF @KK:=⟨λ_ _ _ _ _=>by unfold KK;exact ly lx⟩
instance:MF @HE:=⟨λ_ _ _ _ _=>by unfold HE;exact ly lx⟩
instance:MF @Cm:=⟨λ_ _ _ _=>by unfold Cm;exact ly lx⟩
theorem Md(N:Nat):∀n m:Nat,n<=m->Mo (@B9 (eN N) n) (@B9 FC m)
 |0,_,_=>⟨λ_ _ _=>Le.none _⟩|n+1,0,h=>absurd h U|n+1,m+1,h=>by
  have ih:=Md N n m U;exact⟨λ_ _ _=>by unfold B9;exact ly lx⟩
instance:MF @Kg:=⟨λN _ _ _=>LL N λn hn=>(Md N N n hn).le _ _ _⟩
theorem Me(N:Nat):∀n m:Nat,n<=m->Mo (@CA (eN N) n) (@CA FC m)
 |0,_,_=>⟨λ_ _=>Le.none _⟩|n+1,0,h=>absurd h U|n+1,m+1,h=>by
  have ih:=Me N n m U;exact⟨λ_ _=>by unfold CA;exact ly lx⟩
instance:MF @Hp:=⟨λN _ _=>LL N λn hn=>(Me N N n hn).le _ _⟩
instance:MF @LC:=⟨λ_ _ _ _ _ _ _=>by unfold LC;exact ly lx⟩
instance:MF @I2:=⟨λ_ _ _ _ _ _=>by unfold I2;exact ly lx⟩
instance:MF @Fm:=⟨λ_ _ _ _ _ _=>by unfold Fm;exact ly lx⟩
theorem Tw(N:Nat):∀n m:Nat,n<=m->Mo (@DQ (eN N) n) (@DQ FC m)
 |0,_,_=>⟨λ_ _ _ _ _=>Le.none _⟩|n+1,0,h=>absurd h U|n+1,m+1,h=>by
  have ih:=Tw N n m U;exact⟨λ_ _ _ _ _=>by unfold DQ;exact ly lx⟩
instance:MF @Qn:=⟨λN _ _ _ _ _=>LL N λn hn=>(Tw N N n hn).le _ _ _ _ _⟩
instance:MF @KM:=⟨λ_ _ _ _ _ _=>by unfold KM;exact ly lx⟩
instance:MF @Ip:=⟨λ_ _ _ _ _=>by unfold Ip;exact ly lx⟩
instance:MF @H6:=⟨λ_ _ _ _=>by unfold H6;exact ly lx⟩
instance:MF @JR:=⟨λ_ _ _ _=>by unfold JR;exact ly lx⟩
instance:MF @Jx:=⟨λ_ _ _ _ _=>by unfold Jx;exact ly lx⟩
instance:MF @LF:=⟨λ_ _ _ _ _ _=>by unfold LF;exact ly lx⟩
instance:MF @Ij:=⟨λ_ _ _ _ _=>by unfold Ij;exact ly lx⟩
instance:MF @Lf:=⟨λ_ _=>by unfold Lf;exact ly lx⟩
instance:MF @M0:=⟨λ_ _ _ _ _=>by unfold M0;exact ly lx⟩
instance:MF @H7:=⟨λ_ _ _ _ _=>by unfold H7;exact ly lx⟩
instance:MF @Fo:=⟨λ_ _ _ _=>by unfold Fo;exact ly lx⟩
instance:MF @HZ:=⟨λ_ _ _ _ _=>by unfold HZ;exact ly lx⟩
instance(N:Nat)(s1_0:List Fp)(s2_1:List Fp)(eq' eq:Fp->Fp->K1)[heq:∀y0 y1,Mo (eq' y0 y1) (eq y0 y1)]:Mo (@DR (eN N) s1_0 s2_1 eq') (@DR FC s1_0 s2_1 eq):=⟨by unfold DR;exact ly lx⟩
instance:MF @Gf:=⟨λ_ _ _=>by unfold Gf;exact ly lx⟩
instance:MF @HM:=⟨λ_ _ _=>by unfold HM;exact ly lx⟩
instance(N:Nat)(s_0:ByteArray)(ok' ok:Int->K1)[hok:∀y0,Mo (ok' y0) (ok y0)]:Mo (@Im (eN N) s_0 ok') (@Im FC s_0 ok):=⟨by unfold Im;exact ly lx⟩
instance:MF @I9:=⟨λ_ _=>by unfold I9;exact ly lx⟩
instance:MF @Lr:=⟨λ_ _=>by unfold Lr;exact ly lx⟩
instance:MF @MM:=⟨λ_ _=>by unfold MM;exact ly lx⟩
instance:MF @Eh:=⟨λ_ _=>by unfold Eh;exact ly lx⟩
instance(N:Nat)(s_0:List Be)(f' f:Be->K1)[hf:∀y0,Mo (f' y0) (f y0)]:Mo (@Db (eN N) s_0 f') (@Db FC s_0 f):=⟨by unfold Db;exact ly lx⟩
instance(N:Nat)(s_0:List Be)(f' f:Be->K1)[hf:∀y0,Mo (f' y0) (f y0)]:Mo (@Ck (eN N) s_0 f') (@Ck FC s_0 f):=⟨by unfold Ck;exact ly lx⟩
theorem T3(N:Nat):∀n m:Nat,n<=m->Mo (@Dv (eN N) n) (@Dv FC m)
 |0,_,_=>⟨λ_ _=>Le.none _⟩|n+1,0,h=>absurd h U|n+1,m+1,h=>by
  have ih:=T3 N n m U;exact⟨λ_ _=>by unfold Dv;exact ly lx⟩
instance:MF @OQ:=⟨λN _ _=>LL N λn hn=>(T3 N N n hn).le _ _⟩
instance(N:Nat)(s_0:List ke)(f' f:ke->K1)[hf:∀y0,Mo (f' y0) (f y0)]:Mo (@EU (eN N) s_0 f') (@EU FC s_0 f):=⟨by unfold EU;exact ly lx⟩
instance(N:Nat)(s_0:List ke)(f' f:ke->K1)[hf:∀y0,Mo (f' y0) (f y0)]:Mo (@C9 (eN N) s_0 f') (@C9 FC s_0 f):=⟨by unfold C9;exact ly lx⟩
instance:MF @KU:=⟨λ_ _=>by unfold KU;exact ly lx⟩
instance:MF @GZ:=⟨λ_ _ _=>by unfold GZ;exact ly lx⟩
instance:MF @Lu:=⟨λ_ _ _=>by unfold Lu;exact ly lx⟩
instance(N:Nat)(s_0:List Cy)(f' f:Cy->K1)[hf:∀y0,Mo (f' y0) (f y0)]:Mo (@Da (eN N) s_0 f') (@Da FC s_0 f):=⟨by unfold Da;exact ly lx⟩
instance(N:Nat)(s_0:List Cy)(f' f:Cy->K1)[hf:∀y0,Mo (f' y0) (f y0)]:Mo (@Cj (eN N) s_0 f') (@Cj FC s_0 f):=⟨by unfold Cj;exact ly lx⟩
instance:MF @Ls:=⟨λ_ _ _=>by unfold Ls;exact ly lx⟩
instance:MF @EE:=⟨λ_ _=>by unfold EE;exact ly lx⟩
instance(N:Nat)(s_0:Fp)(f' f:Int->K1)[hf:∀y0,Mo (f' y0) (f y0)]:Mo (@Es (eN N) s_0 f') (@Es FC s_0 f):=⟨by unfold Es;exact ly lx⟩
instance(N:Nat)(s_0:Fp)(f' f:Int->K1)[hf:∀y0,Mo (f' y0) (f y0)]:Mo (@BG (eN N) s_0 f') (@BG FC s_0 f):=⟨by unfold BG;exact ly lx⟩
instance(N:Nat)(s_0:List B0)(f' f:B0->K1)[hf:∀y0,Mo (f' y0) (f y0)]:Mo (@EW (eN N) s_0 f') (@EW FC s_0 f):=⟨by unfold EW;exact ly lx⟩
instance(N:Nat)(s_0:List B0)(f' f:B0->K1)[hf:∀y0,Mo (f' y0) (f y0)]:Mo (@Bs (eN N) s_0 f') (@Bs FC s_0 f):=⟨by unfold Bs;exact ly lx⟩
instance:MF @DV:=⟨λ_ _=>by unfold DV;exact ly lx⟩
instance:MF @Hc:=⟨λ_ _ _=>by unfold Hc;exact ly lx⟩
instance:MF @FO:=⟨λ_ _ _=>by unfold FO;exact ly lx⟩
instance:MF @G2:=⟨λ_ _ _ _=>by unfold G2;exact ly lx⟩
instance:MF @Dx:=⟨λ_ _ _=>by unfold Dx;exact ly lx⟩
instance:MF @Lj:=⟨λ_ _ _=>by unfold Lj;exact ly lx⟩
instance(N:Nat)(s_0:List CF)(f' f:CF->K1)[hf:∀y0,Mo (f' y0) (f y0)]:Mo (@EX (eN N) s_0 f') (@EX FC s_0 f):=⟨by unfold EX;exact ly lx⟩
instance(N:Nat)(s_0:List CF)(f' f:CF->K1)[hf:∀y0,Mo (f' y0) (f y0)]:Mo (@Cq (eN N) s_0 f') (@Cq FC s_0 f):=⟨by unfold Cq;exact ly lx⟩
instance:MF @M9:=⟨λ_ _ _ _=>by unfold M9;exact ly lx⟩
instance:MF @Li:=⟨λ_ _ _=>by unfold Li;exact ly lx⟩
instance:MF @F4:=⟨λ_ _ _=>by unfold F4;exact ly lx⟩
instance:MF @Fr:=⟨λ_ _ _=>by unfold Fr;exact ly lx⟩
instance:MF @EB:=⟨λ_ _ _ _=>by unfold EB;exact ly lx⟩
instance:MF @D4:=⟨λ_ _ _ _=>by unfold D4;exact ly lx⟩
instance:MF @M8:=⟨λ_ _=>by unfold M8;exact ly lx⟩
instance:MF @Ns:=⟨λ_ _ _=>by unfold Ns;exact ly lx⟩
instance:MF @Lt:=⟨λ_ _ _ _=>by unfold Lt;exact ly lx⟩
instance:MF @J7:=⟨λ_ _ _ _ _=>by unfold J7;exact ly lx⟩
instance:MF @Iq:=⟨λ_ _ _ _=>by unfold Iq;exact ly lx⟩
instance:MF @I6:=⟨λ_ _ _ _ _=>by unfold I6;exact ly lx⟩
instance(N:Nat)(s_0:List d5)(f' f:d5->K1)[hf:∀y0,Mo (f' y0) (f y0)]:Mo (@DM (eN N) s_0 f') (@DM FC s_0 f):=⟨by unfold DM;exact ly lx⟩
instance(N:Nat)(s_0:List d5)(f' f:d5->K1)[hf:∀y0,Mo (f' y0) (f y0)]:Mo (@CM (eN N) s_0 f') (@CM FC s_0 f):=⟨by unfold CM;exact ly lx⟩
theorem Nv(N:Nat):∀n m:Nat,n<=m->Mo (@Bm (eN N) n) (@Bm FC m)/\Mo (@B1 (eN N) n) (@B1 FC m)
 |0,_,_=>⟨⟨λ_=>Le.none _⟩,⟨λ_=>Le.none _⟩⟩|n+1,0,h=>absurd h U|n+1,m+1,h=>by
  obtain ⟨i0,i1⟩:=Nv N n m U;refine⟨?_,?_⟩
  .exact⟨λ_=>by unfold Bm;exact ly lx⟩
  .exact⟨λ_=>by unfold B1;exact ly lx⟩
theorem Sl(N n m:Nat)(h:n<=m):Mo (@Bm (eN N) n) (@Bm FC m):=(Nv N n m h).1
instance:MF @IQ:=⟨λN _=>LL N λn hn=>(Sl N N n hn).le _⟩
theorem PP(N:Nat):∀n m:Nat,n<=m->Mo (@Cn (eN N) n) (@Cn FC m)
 |0,_,_=>⟨λ_=>Le.none _⟩|n+1,0,h=>absurd h U|n+1,m+1,h=>by
  have ih:=PP N n m U;exact⟨λ_=>by unfold Cn;exact ly lx⟩
instance:MF @KY:=⟨λN _=>LL N λn hn=>(PP N N n hn).le _⟩
instance:MF @GN:=⟨λ_ _=>by unfold GN;exact ly lx⟩
instance:MF @E4:=⟨λ_ _ _ _=>by unfold E4;exact ly lx⟩
theorem P1(N:Nat):∀n m:Nat,n<=m->Mo (@CZ (eN N) n) (@CZ FC m)
 |0,_,_=>⟨λ_ _ _=>Le.none _⟩|n+1,0,h=>absurd h U|n+1,m+1,h=>by
  have ih:=P1 N n m U;exact⟨λ_ _ _=>by unfold CZ;exact ly lx⟩
instance:MF @Ok:=⟨λN _ _ _=>LL N λn hn=>(P1 N N n hn).le _ _ _⟩
instance:MF @Dy:=⟨λ_ _ _ _=>by unfold Dy;exact ly lx⟩
instance:MF @J0:=⟨λ_ _ _=>by unfold J0;exact ly lx⟩
instance:MF @Mn:=⟨λ_ _ _ _=>by unfold Mn;exact ly lx⟩
instance:MF @HL:=⟨λ_ _ _=>by unfold HL;exact ly lx⟩
instance:MF @Fd:=⟨λ_ _ _ _=>by unfold Fd;exact ly lx⟩
instance:MF @IV:=⟨λ_ _ _ _=>by unfold IV;exact ly lx⟩
instance:MF @Gm:=⟨λ_ _ _=>by unfold Gm;exact ly lx⟩
instance:MF @FN:=⟨λ_ _ _ _=>by unfold FN;exact ly lx⟩
instance:MF @KT:=⟨λ_ _ _=>by unfold KT;exact ly lx⟩
instance:MF @Hj:=⟨λ_ _=>by unfold Hj;exact ly lx⟩
instance:MF @Hk:=⟨λ_ _ _ _ _=>by unfold Hk;exact ly lx⟩
instance:MF @GT:=⟨λ_ _ _ _ _ _=>by unfold GT;exact ly lx⟩
instance:MF @FA:=⟨λ_ _ _ _=>by unfold FA;exact ly lx⟩
instance:MF @E9:=⟨λ_ _ _ _ _=>by unfold E9;exact ly lx⟩
instance:MF @K4:=⟨λ_ _ _ _ _=>by unfold K4;exact ly lx⟩
instance:MF @GU:=⟨λ_ _ _ _ _=>by unfold GU;exact ly lx⟩
instance:MF @DX:=⟨λ_ _=>by unfold DX;exact ly lx⟩
instance:MF @H0:=⟨λ_ _ _ _ _=>by unfold H0;exact ly lx⟩
instance:MF @GM:=⟨λ_ _ _ _ _ _ _=>by unfold GM;exact ly lx⟩
theorem Mf(N:Nat):∀n m:Nat,n<=m->Mo (@BL (eN N) n) (@BL FC m)
 |0,_,_=>⟨λ_=>Le.none _⟩|n+1,0,h=>absurd h U|n+1,m+1,h=>by
  have ih:=Mf N n m U;exact⟨λ_=>by unfold BL;exact ly lx⟩
instance:MF @Hq:=⟨λN _=>LL N λn hn=>(Mf N N n hn).le _⟩
instance:MF @GV:=⟨λ_ _ _ _ _ _ _=>by unfold GV;exact ly lx⟩
instance:MF @J1:=⟨λ_ _ _ _ _ _=>by unfold J1;exact ly lx⟩
instance:MF @Il:=⟨λ_ _ _=>by unfold Il;exact ly lx⟩
instance:MF @H8:=⟨λ_ _ _ _ _ _=>by unfold H8;exact ly lx⟩
instance:MF @Ci:=⟨λ_ _ _ _=>by unfold Ci;exact ly lx⟩
theorem Kh(N:Nat):∀n m:Nat,n<=m->Mo (@BB (eN N) n) (@BB FC m)/\Mo (@Bg (eN N) n) (@Bg FC m)
 |0,_,_=>⟨⟨λ_ _ _=>Le.none _⟩,⟨λ_ _ _=>Le.none _⟩⟩|n+1,0,h=>absurd h U|n+1,m+1,h=>by
  obtain ⟨i0,i1⟩:=Kh N n m U;refine⟨?_,?_⟩
  .exact⟨λ_ _ _=>by unfold BB;exact ly lx⟩
  .exact⟨λ_ _ _=>by unfold Bg;exact ly lx⟩
theorem P6(N n m:Nat)(h:n<=m):Mo (@BB (eN N) n) (@BB FC m):=(Kh N n m h).1
instance:MF @F8:=⟨λN _ _ _=>LL N λn hn=>(P6 N N n hn).le _ _ _⟩
instance:MF @E3:=⟨λ_ _ _ _ _ _ _=>by unfold E3;exact ly lx⟩
instance:MF @EH:=⟨λ_ _ _ _ _ _ _=>by unfold EH;exact ly lx⟩
instance:MF @Lp:=⟨λ_ _ _=>by unfold Lp;exact ly lx⟩
instance:MF @J5:=⟨λ_ _ _ _=>by unfold J5;exact ly lx⟩
instance:MF @QY:=⟨λ_ _ _ _ _=>by unfold QY;exact ly lx⟩
instance:MF @QZ:=⟨λ_ _ _ _=>by unfold QZ;exact ly lx⟩
instance:MF @ND:=⟨λ_ _ _=>by unfold ND;exact ly lx⟩
instance:MF @IU:=⟨λ_ _ _ _ _=>by unfold IU;exact ly lx⟩
instance:MF @FY:=⟨λ_ _ _ _ _=>by unfold FY;exact ly lx⟩
instance:MF @Fc:=⟨λ_ _ _ _ _=>by unfold Fc;exact ly lx⟩
instance:MF @EF:=⟨λ_ _ _ _=>by unfold EF;exact ly lx⟩
instance(N:Nat)(s1_0:List d5)(s2_1:List d5)(eq' eq:d5->d5->K1)[heq:∀y0 y1,Mo (eq' y0 y1) (eq y0 y1)]:Mo (@Cb (eN N) s1_0 s2_1 eq') (@Cb FC s1_0 s2_1 eq):=⟨by unfold Cb;exact ly lx⟩
theorem RM(N:Nat):∀n m:Nat,n<=m->Mo (@C6 (eN N) n) (@C6 FC m)
 |0,_,_=>⟨λ_ _=>Le.none _⟩|n+1,0,h=>absurd h U|n+1,m+1,h=>by
  have ih:=RM N n m U;exact⟨λ_ _=>by unfold C6;exact ly lx⟩
instance:MF @NP:=⟨λN _ _=>LL N λn hn=>(RM N N n hn).le _ _⟩
instance:MF @M6:=⟨λ_ _ _=>by unfold M6;exact ly lx⟩
instance:MF @NC:=⟨λ_ _ _=>by unfold NC;exact ly lx⟩
instance:MF @J4:=⟨λ_ _ _=>by unfold J4;exact ly lx⟩
instance:MF @Jr:=⟨λ_ _ _ _ _=>by unfold Jr;exact ly lx⟩
instance:MF @Gb:=⟨λ_ _=>by unfold Gb;exact ly lx⟩
instance:MF @EI:=⟨λ_ _=>by unfold EI;exact ly lx⟩
instance:MF @Eb:=⟨λ_ _ _ _=>by unfold Eb;exact ly lx⟩
theorem PE(N:Nat):∀n m:Nat,n<=m->Mo (@Bu (eN N) n) (@Bu FC m)
 |0,_,_=>⟨λ_=>Le.none _⟩|n+1,0,h=>absurd h U|n+1,m+1,h=>by
  have ih:=PE N n m U;exact⟨λ_=>by unfold Bu;exact ly lx⟩
instance:MF @IC:=⟨λN _=>LL N λn hn=>(PE N N n hn).le _⟩
theorem PF(N:Nat):∀n m:Nat,n<=m->Mo (@Bv (eN N) n) (@Bv FC m)
 |0,_,_=>⟨λ_=>Le.none _⟩|n+1,0,h=>absurd h U|n+1,m+1,h=>by
  have ih:=PF N n m U;exact⟨λ_=>by unfold Bv;exact ly lx⟩
instance:MF @Ga:=⟨λN _=>LL N λn hn=>(PF N N n hn).le _⟩
instance:MF @Dm:=⟨λ_ _ _ _ _=>by unfold Dm;exact ly lx⟩
instance:MF @Fh:=⟨λ_ _ _ _=>by unfold Fh;exact ly lx⟩
instance:MF @FT:=⟨λ_ _ _ _ _ _=>by unfold FT;exact ly lx⟩
instance:MF @Lk:=⟨λ_ _ _ _ _=>by unfold Lk;exact ly lx⟩
instance:MF @E1:=⟨λ_ _ _ _ _=>by unfold E1;exact ly lx⟩
instance:MF @FE:=⟨λ_ _ _ _=>by unfold FE;exact ly lx⟩
instance(N:Nat)(s_0:List A7)(f' f:A7->K1)[hf:∀y0,Mo (f' y0) (f y0)]:Mo (@Du (eN N) s_0 f') (@Du FC s_0 f):=⟨by unfold Du;exact ly lx⟩
instance(N:Nat)(s_0:List A7)(f' f:A7->K1)[hf:∀y0,Mo (f' y0) (f y0)]:Mo (@CJ (eN N) s_0 f') (@CJ FC s_0 f):=⟨by unfold CJ;exact ly lx⟩
instance:MF @NX:=⟨λ_ _ _=>by unfold NX;exact ly lx⟩
instance:MF @HO:=⟨λ_ _ _=>by unfold HO;exact ly lx⟩
instance:MF @IY:=⟨λ_ _ _ _ _=>by unfold IY;exact ly lx⟩
instance:MF @LB:=⟨λ_ _ _ _ _ _ _=>by unfold LB;exact ly lx⟩
instance:MF @N5:=⟨λ_ _ _ _ _ _=>by unfold N5;exact ly lx⟩
instance:MF @HP:=⟨λ_=>by unfold HP;exact ly lx⟩
end Go.Sf.Sc
namespace Go.Sf.Sc
open Go Go.Sf
theorem uV:@HP (eN 40)=some true:=c_
theorem qP:HP=some true:=
 LO (MF.le (f:=@HP) 40) _ uV
end Go.Sf.Sc
