/- Lemmas. -/
import Derived.Test.YthcncnllajfkfaaGreatFns
import Derived.Test.YthcncnllajfkfaaGreatSfPl
set_option linter.all false
set_option maxRecDepth 100000
namespace Go.Sf.Sc
open Go Go.Sf
instance(N:Nat)(s1_0:List Fp)(s2_1:List Fp)(eq' eq:Fp->Fp->K1)[heq:∀y0 y1,Mo (eq' y0 y1) (eq y0 y1)]:Mo (@DY (eN N) s1_0 s2_1 eq') (@DY FO s1_0 s2_1 eq):=⟨by unfold DY;exact ly lx⟩
instance:MF @Gp:=⟨λ_ _ _=>by unfold Gp;exact ly lx⟩
instance:MF @GK:=⟨λ_ _ _=>by unfold GK;exact ly lx⟩
instance(N:Nat)(s_0:ByteArray)(ok' ok:Int->K1)[hok:∀y0,Mo (ok' y0) (ok y0)]:Mo (@Ip (eN N) s_0 ok') (@Ip FO s_0 ok):=⟨by unfold Ip;exact ly lx⟩
instance:MF @JC:=⟨λ_ _=>by unfold JC;exact ly lx⟩
instance:MF @Lj:=⟨λ_ _=>by unfold Lj;exact ly lx⟩
instance:MF @MI:=⟨λ_ _=>by unfold MI;exact ly lx⟩
instance:MF @Ep:=⟨λ_ _=>by unfold Ep;exact ly lx⟩
instance(N:Nat)(s_0:List Cv)(f' f:Cv->K1)[hf:∀y0,Mo (f' y0) (f y0)]:Mo (@De (eN N) s_0 f') (@De FO s_0 f):=⟨by unfold De;exact ly lx⟩
instance(N:Nat)(s_0:List Cv)(f' f:Cv->K1)[hf:∀y0,Mo (f' y0) (f y0)]:Mo (@Cq (eN N) s_0 f') (@Cq FO s_0 f):=⟨by unfold Cq;exact ly lx⟩
theorem Tg(N:Nat):∀n m:Nat,n<=m->Mo (@Dw (eN N) n) (@Dw FO m)
 |0,_,_=>⟨λ_ _=>Le.none _⟩|n+1,0,h=>absurd h U|n+1,m+1,h=>by
  have ih:=Tg N n m U;exact⟨λ_ _=>by unfold Dw;exact ly lx⟩
instance:MF @OH:=⟨λN _ _=>LL N λn hn=>(Tg N N n hn).le _ _⟩
instance(N:Nat)(s_0:List ke)(f' f:ke->K1)[hf:∀y0,Mo (f' y0) (f y0)]:Mo (@EZ (eN N) s_0 f') (@EZ FO s_0 f):=⟨by unfold EZ;exact ly lx⟩
instance(N:Nat)(s_0:List ke)(f' f:ke->K1)[hf:∀y0,Mo (f' y0) (f y0)]:Mo (@DG (eN N) s_0 f') (@DG FO s_0 f):=⟨by unfold DG;exact ly lx⟩
instance:MF @KW:=⟨λ_ _=>by unfold KW;exact ly lx⟩
instance:MF @Gi:=⟨λ_ _ _=>by unfold Gi;exact ly lx⟩
instance:MF @Ln:=⟨λ_ _ _=>by unfold Ln;exact ly lx⟩
instance(N:Nat)(s_0:List C7)(f' f:C7->K1)[hf:∀y0,Mo (f' y0) (f y0)]:Mo (@Dd (eN N) s_0 f') (@Dd FO s_0 f):=⟨by unfold Dd;exact ly lx⟩
instance(N:Nat)(s_0:List C7)(f' f:C7->K1)[hf:∀y0,Mo (f' y0) (f y0)]:Mo (@Cp (eN N) s_0 f') (@Cp FO s_0 f):=⟨by unfold Cp;exact ly lx⟩
instance:MF @Lk:=⟨λ_ _ _=>by unfold Lk;exact ly lx⟩
instance:MF @EG:=⟨λ_ _=>by unfold EG;exact ly lx⟩
instance(N:Nat)(s_0:Fp)(f' f:Int->K1)[hf:∀y0,Mo (f' y0) (f y0)]:Mo (@E4 (eN N) s_0 f') (@E4 FO s_0 f):=⟨by unfold E4;exact ly lx⟩
instance(N:Nat)(s_0:Fp)(f' f:Int->K1)[hf:∀y0,Mo (f' y0) (f y0)]:Mo (@BE (eN N) s_0 f') (@BE FO s_0 f):=⟨by unfold BE;exact ly lx⟩
instance(N:Nat)(s_0:List CN)(f' f:CN->K1)[hf:∀y0,Mo (f' y0) (f y0)]:Mo (@Ea (eN N) s_0 f') (@Ea FO s_0 f):=⟨by unfold Ea;exact ly lx⟩
instance(N:Nat)(s_0:List CN)(f' f:CN->K1)[hf:∀y0,Mo (f' y0) (f y0)]:Mo (@Bw (eN N) s_0 f') (@Bw FO s_0 f):=⟨by unfold Bw;exact ly lx⟩
instance:MF @Db:=⟨λ_ _=>by unfold Db;exact ly lx⟩
instance:MF @Hg:=⟨λ_ _ _=>by unfold Hg;exact ly lx⟩
instance:MF @Fd:=⟨λ_ _ _=>by unfold Fd;exact ly lx⟩
instance:MF @G9:=⟨λ_ _ _ _=>by unfold G9;exact ly lx⟩
instance:MF @Dz:=⟨λ_ _ _=>by unfold Dz;exact ly lx⟩
instance:MF @Ld:=⟨λ_ _ _=>by unfold Ld;exact ly lx⟩
instance(N:Nat)(s_0:List C4)(f' f:C4->K1)[hf:∀y0,Mo (f' y0) (f y0)]:Mo (@Eb (eN N) s_0 f') (@Eb FO s_0 f):=⟨by unfold Eb;exact ly lx⟩
instance(N:Nat)(s_0:List C4)(f' f:C4->K1)[hf:∀y0,Mo (f' y0) (f y0)]:Mo (@Cy (eN N) s_0 f') (@Cy FO s_0 f):=⟨by unfold Cy;exact ly lx⟩
instance:MF @M6:=⟨λ_ _ _ _=>by unfold M6;exact ly lx⟩
instance:MF @Lc:=⟨λ_ _ _=>by unfold Lc;exact ly lx⟩
instance:MF @GF:=⟨λ_ _ _=>by unfold GF;exact ly lx⟩
instance:MF @F5:=⟨λ_ _ _=>by unfold F5;exact ly lx⟩
instance:MF @EE:=⟨λ_ _ _ _=>by unfold EE;exact ly lx⟩
instance:MF @D4:=⟨λ_ _ _ _=>by unfold D4;exact ly lx⟩
instance:MF @M5:=⟨λ_ _=>by unfold M5;exact ly lx⟩
instance:MF @Nl:=⟨λ_ _ _=>by unfold Nl;exact ly lx⟩
instance:MF @Ll:=⟨λ_ _ _ _=>by unfold Ll;exact ly lx⟩
instance:MF @J3:=⟨λ_ _ _ _ _=>by unfold J3;exact ly lx⟩
instance:MF @Iv:=⟨λ_ _ _ _=>by unfold Iv;exact ly lx⟩
instance:MF @I9:=⟨λ_ _ _ _ _=>by unfold I9;exact ly lx⟩
instance(N:Nat)(s_0:List d5)(f' f:d5->K1)[hf:∀y0,Mo (f' y0) (f y0)]:Mo (@DT (eN N) s_0 f') (@DT FO s_0 f):=⟨by unfold DT;exact ly lx⟩
instance(N:Nat)(s_0:List d5)(f' f:d5->K1)[hf:∀y0,Mo (f' y0) (f y0)]:Mo (@CR (eN N) s_0 f') (@CR FO s_0 f):=⟨by unfold CR;exact ly lx⟩
theorem Nq(N:Nat):∀n m:Nat,n<=m->Mo (@Bt (eN N) n) (@Bt FO m)/\Mo (@B7 (eN N) n) (@B7 FO m)
 |0,_,_=>⟨⟨λ_=>Le.none _⟩,⟨λ_=>Le.none _⟩⟩|n+1,0,h=>absurd h U|n+1,m+1,h=>by
  obtain ⟨i0,i1⟩:=Nq N n m U;refine⟨?_,?_⟩
  .exact⟨λ_=>by unfold Bt;exact ly lx⟩
  .exact⟨λ_=>by unfold B7;exact ly lx⟩
theorem SW(N n m:Nat)(h:n<=m):Mo (@Bt (eN N) n) (@Bt FO m):=(Nq N n m h).1
instance:MF @IR:=⟨λN _=>LL N λn hn=>(SW N N n hn).le _⟩
theorem PM(N:Nat):∀n m:Nat,n<=m->Mo (@Cw (eN N) n) (@Cw FO m)
 |0,_,_=>⟨λ_=>Le.none _⟩|n+1,0,h=>absurd h U|n+1,m+1,h=>by
  have ih:=PM N n m U;exact⟨λ_=>by unfold Cw;exact ly lx⟩
instance:MF @KY:=⟨λN _=>LL N λn hn=>(PM N N n hn).le _⟩
instance:MF @GX:=⟨λ_ _=>by unfold GX;exact ly lx⟩
instance:MF @FD:=⟨λ_ _ _ _=>by unfold FD;exact ly lx⟩
theorem P4(N:Nat):∀n m:Nat,n<=m->Mo (@Ce (eN N) n) (@Ce FO m)
 |0,_,_=>⟨λ_ _ _=>Le.none _⟩|n+1,0,h=>absurd h U|n+1,m+1,h=>by
  have ih:=P4 N n m U;exact⟨λ_ _ _=>by unfold Ce;exact ly lx⟩
instance:MF @Od:=⟨λN _ _ _=>LL N λn hn=>(P4 N N n hn).le _ _ _⟩
instance:MF @D0:=⟨λ_ _ _ _=>by unfold D0;exact ly lx⟩
instance:MF @Jy:=⟨λ_ _ _=>by unfold Jy;exact ly lx⟩
instance:MF @Mp:=⟨λ_ _ _ _=>by unfold Mp;exact ly lx⟩
instance:MF @HU:=⟨λ_ _ _=>by unfold HU;exact ly lx⟩
instance:MF @Fy:=⟨λ_ _ _ _=>by unfold Fy;exact ly lx⟩
instance:MF @IX:=⟨λ_ _ _ _=>by unfold IX;exact ly lx⟩
instance:MF @Gv:=⟨λ_ _ _=>by unfold Gv;exact ly lx⟩
instance:MF @Fc:=⟨λ_ _ _ _=>by unfold Fc;exact ly lx⟩
instance:MF @KV:=⟨λ_ _ _=>by unfold KV;exact ly lx⟩
instance:MF @Hn:=⟨λ_ _=>by unfold Hn;exact ly lx⟩
instance:MF @Ho:=⟨λ_ _ _ _ _=>by unfold Ho;exact ly lx⟩
instance:MF @Gd:=⟨λ_ _ _ _ _ _=>by unfold Gd;exact ly lx⟩
instance:MF @FK:=⟨λ_ _ _ _=>by unfold FK;exact ly lx⟩
instance:MF @FJ:=⟨λ_ _ _ _ _=>by unfold FJ;exact ly lx⟩
instance:MF @Kx:=⟨λ_ _ _ _ _=>by unfold Kx;exact ly lx⟩
instance:MF @Ge:=⟨λ_ _ _ _ _=>by unfold Ge;exact ly lx⟩
instance:MF @Dc:=⟨λ_ _=>by unfold Dc;exact ly lx⟩
instance:MF @H5:=⟨λ_ _ _ _ _=>by unfold H5;exact ly lx⟩
instance:MF @GW:=⟨λ_ _ _ _ _ _ _=>by unfold GW;exact ly lx⟩
theorem Mi(N:Nat):∀n m:Nat,n<=m->Mo (@BJ (eN N) n) (@BJ FO m)
 |0,_,_=>⟨λ_=>Le.none _⟩|n+1,0,h=>absurd h U|n+1,m+1,h=>by
  have ih:=Mi N n m U;exact⟨λ_=>by unfold BJ;exact ly lx⟩
instance:MF @Hs:=⟨λN _=>LL N λn hn=>(Mi N N n hn).le _⟩
instance:MF @Gf:=⟨λ_ _ _ _ _ _ _=>by unfold Gf;exact ly lx⟩
instance:MF @Jz:=⟨λ_ _ _ _ _ _=>by unfold Jz;exact ly lx⟩
instance:MF @Im:=⟨λ_ _ _=>by unfold Im;exact ly lx⟩
instance:MF @H8:=⟨λ_ _ _ _ _ _=>by unfold H8;exact ly lx⟩
instance:MF @Cm:=⟨λ_ _ _ _=>by unfold Cm;exact ly lx⟩
theorem Kh(N:Nat):∀n m:Nat,n<=m->Mo (@BA (eN N) n) (@BA FO m)/\Mo (@Bo (eN N) n) (@Bo FO m)
 |0,_,_=>⟨⟨λ_ _ _=>Le.none _⟩,⟨λ_ _ _=>Le.none _⟩⟩|n+1,0,h=>absurd h U|n+1,m+1,h=>by
  obtain ⟨i0,i1⟩:=Kh N n m U;refine⟨?_,?_⟩
  .exact⟨λ_ _ _=>by unfold BA;exact ly lx⟩
  .exact⟨λ_ _ _=>by unfold Bo;exact ly lx⟩
theorem P9(N n m:Nat)(h:n<=m):Mo (@BA (eN N) n) (@BA FO m):=(Kh N n m h).1
instance:MF @GJ:=⟨λN _ _ _=>LL N λn hn=>(P9 N N n hn).le _ _ _⟩
instance:MF @FC:=⟨λ_ _ _ _ _ _ _=>by unfold FC;exact ly lx⟩
instance:MF @EK:=⟨λ_ _ _ _ _ _ _=>by unfold EK;exact ly lx⟩
instance:MF @Li:=⟨λ_ _ _=>by unfold Li;exact ly lx⟩
instance:MF @J2:=⟨λ_ _ _ _=>by unfold J2;exact ly lx⟩
instance:MF @QU:=⟨λ_ _ _ _ _=>by unfold QU;exact ly lx⟩
instance:MF @QV:=⟨λ_ _ _ _=>by unfold QV;exact ly lx⟩
instance:MF @M9:=⟨λ_ _ _=>by unfold M9;exact ly lx⟩
instance:MF @IW:=⟨λ_ _ _ _ _=>by unfold IW;exact ly lx⟩
instance:MF @Fv:=⟨λ_ _ _ _ _=>by unfold Fv;exact ly lx⟩
instance:MF @Fx:=⟨λ_ _ _ _ _=>by unfold Fx;exact ly lx⟩
instance:MF @EH:=⟨λ_ _ _ _=>by unfold EH;exact ly lx⟩
instance(N:Nat)(s1_0:List d5)(s2_1:List d5)(eq' eq:d5->d5->K1)[heq:∀y0 y1,Mo (eq' y0 y1) (eq y0 y1)]:Mo (@Ci (eN N) s1_0 s2_1 eq') (@Ci FO s1_0 s2_1 eq):=⟨by unfold Ci;exact ly lx⟩
theorem RH(N:Nat):∀n m:Nat,n<=m->Mo (@DC (eN N) n) (@DC FO m)
 |0,_,_=>⟨λ_ _=>Le.none _⟩|n+1,0,h=>absurd h U|n+1,m+1,h=>by
  have ih:=RH N n m U;exact⟨λ_ _=>by unfold DC;exact ly lx⟩
instance:MF @NI:=⟨λN _ _=>LL N λn hn=>(RH N N n hn).le _ _⟩
instance:MF @M3:=⟨λ_ _ _=>by unfold M3;exact ly lx⟩
instance:MF @M8:=⟨λ_ _ _=>by unfold M8;exact ly lx⟩
instance:MF @J1:=⟨λ_ _ _=>by unfold J1;exact ly lx⟩
instance:MF @Jp:=⟨λ_ _ _ _ _=>by unfold Jp;exact ly lx⟩
instance:MF @Lf:=⟨λ_ _ _ _ _=>by unfold Lf;exact ly lx⟩
instance:MF @FA:=⟨λ_ _ _ _ _=>by unfold FA;exact ly lx⟩
instance:MF @FR:=⟨λ_ _ _ _=>by unfold FR;exact ly lx⟩
instance(N:Nat)(s_0:List A7)(f' f:A7->K1)[hf:∀y0,Mo (f' y0) (f y0)]:Mo (@Dv (eN N) s_0 f') (@Dv FO s_0 f):=⟨by unfold Dv;exact ly lx⟩
instance(N:Nat)(s_0:List A7)(f' f:A7->K1)[hf:∀y0,Mo (f' y0) (f y0)]:Mo (@CM (eN N) s_0 f') (@CM FO s_0 f):=⟨by unfold CM;exact ly lx⟩
theorem O8(N:Nat):∀n m:Nat,n<=m->Mo (@Bz (eN N) n) (@Bz FO m)
 |0,_,_=>⟨λ_=>Le.none _⟩|n+1,0,h=>absurd h U|n+1,m+1,h=>by
  have ih:=O8 N n m U;exact⟨λ_=>by unfold Bz;exact ly lx⟩
instance:MF @IC:=⟨λN _=>LL N λn hn=>(O8 N N n hn).le _⟩
theorem O9(N:Nat):∀n m:Nat,n<=m->Mo (@B0 (eN N) n) (@B0 FO m)
 |0,_,_=>⟨λ_=>Le.none _⟩|n+1,0,h=>absurd h U|n+1,m+1,h=>by
  have ih:=O9 N n m U;exact⟨λ_=>by unfold B0;exact ly lx⟩
instance:MF @Gk:=⟨λN _=>LL N λn hn=>(O9 N N n hn).le _⟩
instance:MF @Dl:=⟨λ_ _ _ _ _=>by unfold Dl;exact ly lx⟩
instance:MF @NQ:=⟨λ_ _ _=>by unfold NQ;exact ly lx⟩
instance:MF @Ha:=⟨λ_ _ _=>by unfold Ha;exact ly lx⟩
instance:MF @Ia:=⟨λ_ _ _ _ _=>by unfold Ia;exact ly lx⟩
instance:MF @K6:=⟨λ_ _ _ _ _ _ _=>by unfold K6;exact ly lx⟩
instance:MF @KC:=⟨λ_ _ _ _ _ _=>by unfold KC;exact ly lx⟩
instance:MF @Gm:=⟨λ_ _=>by unfold Gm;exact ly lx⟩
instance:MF @EL:=⟨λ_ _=>by unfold EL;exact ly lx⟩
instance:MF @Eg:=⟨λ_ _ _ _=>by unfold Eg;exact ly lx⟩
instance:MF @F3:=⟨λ_ _ _ _=>by unfold F3;exact ly lx⟩
instance:MF @HV:=⟨λ_ _ _ _ _ _=>by unfold HV;exact ly lx⟩
theorem TZ(N:Nat):∀n m:Nat,n<=m->Mo (@Ej (eN N) n) (@Ej FO m)
 |0,_,_=>⟨λ_ _=>Le.none _⟩|n+1,0,h=>absurd h U|n+1,m+1,h=>by
  have ih:=TZ N n m U;exact⟨λ_ _=>by unfold Ej;exact ly lx⟩
instance:MF @N7:=⟨λN _ _=>LL N λn hn=>(TZ N N n hn).le _ _⟩
instance:MF @Mv:=⟨λ_ _ _ _=>by unfold Mv;exact ly lx⟩
instance:MF @I3:=⟨λ_ _ _=>by unfold I3;exact ly lx⟩
instance:MF @Mu:=⟨λ_ _ _=>by unfold Mu;exact ly lx⟩
instance:MF @L6:=⟨λ_ _=>by unfold L6;exact ly lx⟩
instance:MF @Ei:=⟨λ_ _=>by unfold Ei;exact ly lx⟩
instance:MF @KG:=⟨λ_ _=>by unfold KG;exact ly lx⟩
instance:MF @Gc:=⟨λ_ _=>by unfold Gc;exact ly lx⟩
instance:MF @LT:=⟨λ_ _ _=>by unfold LT;exact ly lx⟩
instance:MF @LS:=⟨λ_ _ _=>by unfold LS;exact ly lx⟩
instance:MF @Er:=⟨λ_ _=>by unfold Er;exact ly lx⟩
instance:MF @Ic:=⟨λ_ _ _ _=>by unfold Ic;exact ly lx⟩
theorem Sx(N:Nat):∀n m:Nat,n<=m->Mo (@EA (eN N) n) (@EA FO m)
 |0,_,_=>⟨λ_ _ _=>Le.none _⟩|n+1,0,h=>absurd h U|n+1,m+1,h=>by
  have ih:=Sx N n m U;exact⟨λ_ _ _=>by unfold EA;exact ly lx⟩
instance:MF @Hk:=⟨λN _ _ _=>LL N λn hn=>(Sx N N n hn).le _ _ _⟩
instance:MF @Js:=⟨λ_ _ _ _ _=>by unfold Js;exact ly lx⟩
instance:MF @FZ:=⟨λ_ _ _=>by unfold FZ;exact ly lx⟩
instance:MF @LV:=⟨λ_ _ _ _=>by unfold LV;exact ly lx⟩
instance:MF @GL:=⟨λ_ _ _=>by unfold GL;exact ly lx⟩
instance:MF @LZ:=⟨λ_ _ _ _ _=>by unfold LZ;exact ly lx⟩
instance:MF @GN:=⟨λ_ _ _=>by unfold GN;exact ly lx⟩
theorem RM(N:Nat):∀n m:Nat,n<=m->Mo (@DW (eN N) n) (@DW FO m)
 |0,_,_=>⟨λ_=>Le.none _⟩|n+1,0,h=>absurd h U|n+1,m+1,h=>by
  have ih:=RM N n m U;exact⟨λ_=>by unfold DW;exact ly lx⟩
instance:MF @Nb:=⟨λN _=>LL N λn hn=>(RM N N n hn).le _⟩
theorem SQ(N:Nat):∀n m:Nat,n<=m->Mo (@Ds (eN N) n) (@Ds FO m)
 |0,_,_=>⟨λ_=>Le.none _⟩|n+1,0,h=>absurd h U|n+1,m+1,h=>by
  have ih:=SQ N n m U;exact⟨λ_=>by unfold Ds;exact ly lx⟩
instance:MF @OS:=⟨λN _=>LL N λn hn=>(SQ N N n hn).le _⟩
instance:MF @KN:=⟨λ_ _=>by unfold KN;exact ly lx⟩
instance:MF @KO:=⟨λ_ _ _ _=>by unfold KO;exact ly lx⟩
theorem Uv(N:Nat):∀n m:Nat,n<=m->Mo (@EF (eN N) n) (@EF FO m)
 |0,_,_=>⟨λ_ _ _=>Le.none _⟩|n+1,0,h=>absurd h U|n+1,m+1,h=>by
  have ih:=Uv N n m U;exact⟨λ_ _ _=>by unfold EF;exact ly lx⟩
instance:MF @UY:=⟨λN _ _ _=>LL N λn hn=>(Uv N N n hn).le _ _ _⟩
instance:MF @Ij:=⟨λ_ _ _ _=>by unfold Ij;exact ly lx⟩
instance:MF @La:=⟨λ_ _ _ _=>by unfold La;exact ly lx⟩
instance:MF @KP:=⟨λ_ _ _=>by unfold KP;exact ly lx⟩
instance:MF @I8:=⟨λ_ _ _ _ _=>by unfold I8;exact ly lx⟩
instance:MF @Ik:=⟨λ_ _ _=>by unfold Ik;exact ly lx⟩
instance:MF @He:=⟨λ_ _ _ _=>by unfold He;exact ly lx⟩
instance:MF @GM:=⟨λ_ _ _ _=>by unfold GM;exact ly lx⟩
instance:MF @KJ:=⟨λ_ _ _ _ _ _=>by unfold KJ;exact ly lx⟩
instance:MF @Hc:=⟨λ_ _ _ _ _ _=>by unfold Hc;exact ly lx⟩
instance:MF @Ih:=⟨λ_ _ _ _=>by unfold Ih;exact ly lx⟩
instance:MF @KK:=⟨λ_ _ _ _ _=>by unfold KK;exact ly lx⟩
instance:MF @HM:=⟨λ_ _ _ _ _=>by unfold HM;exact ly lx⟩
instance:MF @Cs:=⟨λ_ _ _ _=>by unfold Cs;exact ly lx⟩
theorem Mg(N:Nat):∀n m:Nat,n<=m->Mo (@CA (eN N) n) (@CA FO m)
 |0,_,_=>⟨λ_ _ _=>Le.none _⟩|n+1,0,h=>absurd h U|n+1,m+1,h=>by
  have ih:=Mg N n m U;exact⟨λ_ _ _=>by unfold CA;exact ly lx⟩
instance:MF @Kg:=⟨λN _ _ _=>LL N λn hn=>(Mg N N n hn).le _ _ _⟩
theorem Mh(N:Nat):∀n m:Nat,n<=m->Mo (@CB (eN N) n) (@CB FO m)
 |0,_,_=>⟨λ_ _=>Le.none _⟩|n+1,0,h=>absurd h U|n+1,m+1,h=>by
  have ih:=Mh N n m U;exact⟨λ_ _=>by unfold CB;exact ly lx⟩
instance:MF @Hr:=⟨λN _ _=>LL N λn hn=>(Mh N N n hn).le _ _⟩
instance:MF @K8:=⟨λ_ _ _ _ _ _ _=>by unfold K8;exact ly lx⟩
instance:MF @I5:=⟨λ_ _ _ _ _ _=>by unfold I5;exact ly lx⟩
instance:MF @F4:=⟨λ_ _ _ _ _ _=>by unfold F4;exact ly lx⟩
theorem Ta(N:Nat):∀n m:Nat,n<=m->Mo (@DX (eN N) n) (@DX FO m)
 |0,_,_=>⟨λ_ _ _ _ _=>Le.none _⟩|n+1,0,h=>absurd h U|n+1,m+1,h=>by
  have ih:=Ta N n m U;exact⟨λ_ _ _ _ _=>by unfold DX;exact ly lx⟩
instance:MF @Qh:=⟨λN _ _ _ _ _=>LL N λn hn=>(Ta N N n hn).le _ _ _ _ _⟩
instance:MF @KM:=⟨λ_ _ _ _ _ _=>by unfold KM;exact ly lx⟩
instance:MF @It:=⟨λ_ _ _ _ _=>by unfold It;exact ly lx⟩
instance:MF @H6:=⟨λ_ _ _ _=>by unfold H6;exact ly lx⟩
instance:MF @JV:=⟨λ_ _ _ _=>by unfold JV;exact ly lx⟩
instance:MF @Jw:=⟨λ_ _ _ _ _=>by unfold Jw;exact ly lx⟩
instance:MF @LB:=⟨λ_ _ _ _ _ _=>by unfold LB;exact ly lx⟩
instance:MF @Et:=⟨λ_ _ _ _ _=>by unfold Et;exact ly lx⟩
instance:MF @LX:=⟨λ_ _=>by unfold LX;exact ly lx⟩
instance:MF @Mx:=⟨λ_ _ _ _ _=>by unfold Mx;exact ly lx⟩
instance:MF @H7:=⟨λ_ _ _ _ _=>by unfold H7;exact ly lx⟩
instance:MF @El:=⟨λ_ _ _ _=>by unfold El;exact ly lx⟩
instance:MF @OB:=⟨λ_ _ _ _ _=>by unfold OB;exact ly lx⟩
instance:MF @FX:=⟨λ_=>by unfold FX;exact ly lx⟩
end Go.Sf.Sc
namespace Go.Sf.Sc
open Go Go.Sf
theorem ub:@FX (eN 40)=some true:=b!
theorem de:FX=some true:=
 LO (MF.le (f:=@FX) 40) _ ub
end Go.Sf.Sc
