/- Lemmas. -/
import Derived.Test.YtbmgmpeimdomoaaGreatFns
import Derived.Test.YtbmgmpeimdomoaaGreatSfPl
set_option linter.all false
set_option maxRecDepth 100000
namespace Go.Sf.Sc
open Go Go.Sf
instance(N:Nat)(s_0:List B2)(f' f:B2->I1)[hf:∀y0,Mo (f' y0) (f y0)]:Mo (@DR (eN N) s_0 f') (@DR Hh s_0 f):=⟨by unfold DR;exact ly lx⟩
instance(N:Nat)(s_0:List B2)(f' f:B2->I1)[hf:∀y0,Mo (f' y0) (f y0)]:Mo (@BS (eN N) s_0 f') (@BS Hh s_0 f):=⟨by unfold BS;exact ly lx⟩
instance(N:Nat)(s_0:ByteArray)(ok' ok:Int->I1)[hok:∀y0,Mo (ok' y0) (ok y0)]:Mo (@IN (eN N) s_0 ok') (@IN Hh s_0 ok):=⟨by unfold IN;exact ly lx⟩
instance:MF @Ir:=⟨λ_ _=>by unfold Ir;exact ly lx⟩
instance:MF @Kv:=⟨λ_ _=>by unfold Kv;exact ly lx⟩
instance:MF @LT:=⟨λ_ _=>by unfold LT;exact ly lx⟩
instance:MF @EZ:=⟨λ_ _=>by unfold EZ;exact ly lx⟩
theorem TK(N:Nat):∀n m:Nat,n<=m->Mo (@Dg (eN N) n) (@Dg Hh m)
 |0,_,_=>⟨λ_ _=>Le.none _⟩|n+1,0,h=>absurd h U|n+1,m+1,h=>by
  have ih:=TK N n m U;exact⟨λ_ _=>by unfold Dg;exact ly lx⟩
instance:MF @Nf:=⟨λN _ _=>LL N λn hn=>(TK N N n hn).le _ _⟩
instance(N:Nat)(s_0:List ff)(f' f:ff->I1)[hf:∀y0,Mo (f' y0) (f y0)]:Mo (@EJ (eN N) s_0 f') (@EJ Hh s_0 f):=⟨by unfold EJ;exact ly lx⟩
instance(N:Nat)(s_0:List ff)(f' f:ff->I1)[hf:∀y0,Mo (f' y0) (f y0)]:Mo (@C7 (eN N) s_0 f') (@C7 Hh s_0 f):=⟨by unfold C7;exact ly lx⟩
instance:MF @Jx:=⟨λ_ _=>by unfold Jx;exact ly lx⟩
instance:MF @GX:=⟨λ_ _ _=>by unfold GX;exact ly lx⟩
instance:MF @Ky:=⟨λ_ _ _=>by unfold Ky;exact ly lx⟩
instance(N:Nat)(s_0:List Cy)(f' f:Cy->I1)[hf:∀y0,Mo (f' y0) (f y0)]:Mo (@DQ (eN N) s_0 f') (@DQ Hh s_0 f):=⟨by unfold DQ;exact ly lx⟩
instance(N:Nat)(s_0:List Cy)(f' f:Cy->I1)[hf:∀y0,Mo (f' y0) (f y0)]:Mo (@Cc (eN N) s_0 f') (@Cc Hh s_0 f):=⟨by unfold Cc;exact ly lx⟩
instance:MF @Kw:=⟨λ_ _ _=>by unfold Kw;exact ly lx⟩
instance:MF @D8:=⟨λ_ _=>by unfold D8;exact ly lx⟩
instance:MF @Ha:=⟨λ_ _ _=>by unfold Ha;exact ly lx⟩
instance:MF @HI:=⟨λ_ _ _=>by unfold HI;exact ly lx⟩
instance(N:Nat)(s_0:Fp)(f' f:Int->I1)[hf:∀y0,Mo (f' y0) (f y0)]:Mo (@Ep (eN N) s_0 f') (@Ep Hh s_0 f):=⟨by unfold Ep;exact ly lx⟩
instance(N:Nat)(s_0:Fp)(f' f:Int->I1)[hf:∀y0,Mo (f' y0) (f y0)]:Mo (@BA (eN N) s_0 f') (@BA Hh s_0 f):=⟨by unfold BA;exact ly lx⟩
instance:MF @HK:=⟨λ_ _ _=>by unfold HK;exact ly lx⟩
instance:MF @M4:=⟨λ_ _ _=>by unfold M4;exact ly lx⟩
instance:MF @Kx:=⟨λ_ _ _ _=>by unfold Kx;exact ly lx⟩
instance:MF @IC:=⟨λ_ _ _ _ _=>by unfold IC;exact ly lx⟩
instance:MF @Fd:=⟨λ_ _ _=>by unfold Fd;exact ly lx⟩
instance(N:Nat)(s_0:List B1)(f' f:B1->I1)[hf:∀y0,Mo (f' y0) (f y0)]:Mo (@EK (eN N) s_0 f') (@EK Hh s_0 f):=⟨by unfold EK;exact ly lx⟩
instance(N:Nat)(s_0:List B1)(f' f:B1->I1)[hf:∀y0,Mo (f' y0) (f y0)]:Mo (@BR (eN N) s_0 f') (@BR Hh s_0 f):=⟨by unfold BR;exact ly lx⟩
instance:MF @Dk:=⟨λ_ _=>by unfold Dk;exact ly lx⟩
instance:MF @FU:=⟨λ_ _ _=>by unfold FU;exact ly lx⟩
instance:MF @Gu:=⟨λ_ _ _ _=>by unfold Gu;exact ly lx⟩
instance:MF @Di:=⟨λ_ _ _=>by unfold Di;exact ly lx⟩
instance:MF @Kq:=⟨λ_ _ _=>by unfold Kq;exact ly lx⟩
instance(N:Nat)(s_0:List DW)(f' f:DW->I1)[hf:∀y0,Mo (f' y0) (f y0)]:Mo (@EL (eN N) s_0 f') (@EL Hh s_0 f):=⟨by unfold EL;exact ly lx⟩
instance(N:Nat)(s_0:List DW)(f' f:DW->I1)[hf:∀y0,Mo (f' y0) (f y0)]:Mo (@Cp (eN N) s_0 f') (@Cp Hh s_0 f):=⟨by unfold Cp;exact ly lx⟩
instance:MF @MP:=⟨λ_ _ _ _=>by unfold MP;exact ly lx⟩
instance:MF @Ko:=⟨λ_ _ _=>by unfold Ko;exact ly lx⟩
instance:MF @Df:=⟨λ_ _ _ _=>by unfold Df;exact ly lx⟩
instance:MF @Cn:=⟨λ_ _ _ _=>by unfold Cn;exact ly lx⟩
instance:MF @Fu:=⟨λ_ _ _=>by unfold Fu;exact ly lx⟩
instance:MF @EY:=⟨λ_ _ _=>by unfold EY;exact ly lx⟩
instance:MF @MO:=⟨λ_ _=>by unfold MO;exact ly lx⟩
instance:MF @IQ:=⟨λ_ _ _ _=>by unfold IQ;exact ly lx⟩
instance:MF @Io:=⟨λ_ _ _ _ _=>by unfold Io;exact ly lx⟩
instance(N:Nat)(s_0:List ca)(f' f:ca->I1)[hf:∀y0,Mo (f' y0) (f y0)]:Mo (@DI (eN N) s_0 f') (@DI Hh s_0 f):=⟨by unfold DI;exact ly lx⟩
instance(N:Nat)(s_0:List ca)(f' f:ca->I1)[hf:∀y0,Mo (f' y0) (f y0)]:Mo (@CA (eN N) s_0 f') (@CA Hh s_0 f):=⟨by unfold CA;exact ly lx⟩
theorem M7(N:Nat):∀n m:Nat,n<=m->Mo (@Bg (eN N) n) (@Bg Hh m)/\Mo (@Bq (eN N) n) (@Bq Hh m)
 |0,_,_=>⟨⟨λ_=>Le.none _⟩,⟨λ_=>Le.none _⟩⟩|n+1,0,h=>absurd h U|n+1,m+1,h=>by
  obtain ⟨i0,i1⟩:=M7 N n m U;refine⟨?_,?_⟩
  .exact⟨λ_=>by unfold Bg;exact ly lx⟩
  .exact⟨λ_=>by unfold Bq;exact ly lx⟩
theorem Rp(N n m:Nat)(h:n<=m):Mo (@Bg (eN N) n) (@Bg Hh m):=(M7 N n m h).1
instance:MF @H0:=⟨λN _=>LL N λn hn=>(Rp N N n hn).le _⟩
theorem Ob(N:Nat):∀n m:Nat,n<=m->Mo (@Cl (eN N) n) (@Cl Hh m)
 |0,_,_=>⟨λ_=>Le.none _⟩|n+1,0,h=>absurd h U|n+1,m+1,h=>by
  have ih:=Ob N n m U;exact⟨λ_=>by unfold Cl;exact ly lx⟩
instance:MF @J0:=⟨λN _=>LL N λn hn=>(Ob N N n hn).le _⟩
instance:MF @GJ:=⟨λ_ _=>by unfold GJ;exact ly lx⟩
instance:MF @E1:=⟨λ_ _ _ _=>by unfold E1;exact ly lx⟩
theorem PG(N:Nat):∀n m:Nat,n<=m->Mo (@CN (eN N) n) (@CN Hh m)
 |0,_,_=>⟨λ_ _ _=>Le.none _⟩|n+1,0,h=>absurd h U|n+1,m+1,h=>by
  have ih:=PG N n m U;exact⟨λ_ _ _=>by unfold CN;exact ly lx⟩
instance:MF @Ny:=⟨λN _ _ _=>LL N λn hn=>(PG N N n hn).le _ _ _⟩
instance:MF @Dj:=⟨λ_ _ _ _=>by unfold Dj;exact ly lx⟩
instance:MF @JZ:=⟨λ_ _ _=>by unfold JZ;exact ly lx⟩
instance:MF @Fc:=⟨λ_ _ _ _=>by unfold Fc;exact ly lx⟩
instance:MF @CY:=⟨λ_ _=>by unfold CY;exact ly lx⟩
instance:MF @Lz:=⟨λ_ _ _ _=>by unfold Lz;exact ly lx⟩
instance:MF @Ek:=⟨λ_ _ _=>by unfold Ek;exact ly lx⟩
instance:MF @M1:=⟨λ_ _ _ _=>by unfold M1;exact ly lx⟩
instance:MF @Gb:=⟨λ_ _ _=>by unfold Gb;exact ly lx⟩
instance:MF @FR:=⟨λ_ _ _ _=>by unfold FR;exact ly lx⟩
instance:MF @Jw:=⟨λ_ _ _=>by unfold Jw;exact ly lx⟩
instance:MF @HU:=⟨λ_ _=>by unfold HU;exact ly lx⟩
instance:MF @HV:=⟨λ_ _ _ _ _=>by unfold HV;exact ly lx⟩
instance:MF @GR:=⟨λ_ _ _ _ _ _=>by unfold GR;exact ly lx⟩
instance:MF @GG:=⟨λ_ _ _ _=>by unfold GG;exact ly lx⟩
instance:MF @E7:=⟨λ_ _ _ _ _=>by unfold E7;exact ly lx⟩
instance:MF @KV:=⟨λ_ _ _ _ _=>by unfold KV;exact ly lx⟩
instance:MF @GT:=⟨λ_ _ _ _ _=>by unfold GT;exact ly lx⟩
instance:MF @DP:=⟨λ_ _=>by unfold DP;exact ly lx⟩
instance:MF @Hk:=⟨λ_ _ _ _ _=>by unfold Hk;exact ly lx⟩
instance:MF @GI:=⟨λ_ _ _ _ _ _ _=>by unfold GI;exact ly lx⟩
theorem Lt(N:Nat):∀n m:Nat,n<=m->Mo (@A6 (eN N) n) (@A6 Hh m)
 |0,_,_=>⟨λ_=>Le.none _⟩|n+1,0,h=>absurd h U|n+1,m+1,h=>by
  have ih:=Lt N n m U;exact⟨λ_=>by unfold A6;exact ly lx⟩
instance:MF @He:=⟨λN _=>LL N λn hn=>(Lt N N n hn).le _⟩
instance:MF @GU:=⟨λ_ _ _ _ _ _ _=>by unfold GU;exact ly lx⟩
instance:MF @Ja:=⟨λ_ _ _ _ _ _=>by unfold Ja;exact ly lx⟩
instance:MF @IM:=⟨λ_ _ _=>by unfold IM;exact ly lx⟩
instance:MF @Ho:=⟨λ_ _ _ _ _ _=>by unfold Ho;exact ly lx⟩
instance:MF @Ca:=⟨λ_ _ _ _=>by unfold Ca;exact ly lx⟩
theorem KC(N:Nat):∀n m:Nat,n<=m->Mo (@Av (eN N) n) (@Av Hh m)/\Mo (@BZ (eN N) n) (@BZ Hh m)
 |0,_,_=>⟨⟨λ_ _ _=>Le.none _⟩,⟨λ_ _ _=>Le.none _⟩⟩|n+1,0,h=>absurd h U|n+1,m+1,h=>by
  obtain ⟨i0,i1⟩:=KC N n m U;refine⟨?_,?_⟩
  .exact⟨λ_ _ _=>by unfold Av;exact ly lx⟩
  .exact⟨λ_ _ _=>by unfold BZ;exact ly lx⟩
theorem PO(N n m:Nat)(h:n<=m):Mo (@Av (eN N) n) (@Av Hh m):=(KC N n m h).1
instance:MF @F1:=⟨λN _ _ _=>LL N λn hn=>(PO N N n hn).le _ _ _⟩
instance:MF @E0:=⟨λ_ _ _ _ _ _ _=>by unfold E0;exact ly lx⟩
instance:MF @EC:=⟨λ_ _ _ _ _ _ _=>by unfold EC;exact ly lx⟩
instance:MF @Ku:=⟨λ_ _ _=>by unfold Ku;exact ly lx⟩
instance:MF @Jd:=⟨λ_ _ _ _=>by unfold Jd;exact ly lx⟩
instance:MF @Pr:=⟨λ_ _ _ _ _=>by unfold Pr;exact ly lx⟩
instance:MF @Ps:=⟨λ_ _ _ _=>by unfold Ps;exact ly lx⟩
instance:MF @MT:=⟨λ_ _ _=>by unfold MT;exact ly lx⟩
instance:MF @M0:=⟨λ_ _ _ _ _=>by unfold M0;exact ly lx⟩
instance:MF @Kt:=⟨λ_ _ _ _ _=>by unfold Kt;exact ly lx⟩
instance:MF @GV:=⟨λ_ _ _ _ _=>by unfold GV;exact ly lx⟩
instance:MF @ED:=⟨λ_ _ _ _=>by unfold ED;exact ly lx⟩
instance:MF @Dm:=⟨λ_ _ _ _ _=>by unfold Dm;exact ly lx⟩
instance:MF @By:=⟨λ_ _ _ _=>by unfold By;exact ly lx⟩
instance:MF @Kr:=⟨λ_ _ _ _ _=>by unfold Kr;exact ly lx⟩
theorem KB(N:Nat):∀n m:Nat,n<=m->Mo (@A7 (eN N) n) (@A7 Hh m)/\Mo (@BY (eN N) n) (@BY Hh m)
 |0,_,_=>⟨⟨λ_ _=>Le.none _⟩,⟨λ_ _ _ _=>Le.none _⟩⟩|n+1,0,h=>absurd h U|n+1,m+1,h=>by
  obtain ⟨i0,i1⟩:=KB N n m U;refine⟨?_,?_⟩
  .exact⟨λ_ _=>by unfold A7;exact ly lx⟩
  .exact⟨λ_ _ _ _=>by unfold BY;exact ly lx⟩
theorem PM(N n m:Nat)(h:n<=m):Mo (@A7 (eN N) n) (@A7 Hh m):=(KB N n m h).1
instance:MF @Fy:=⟨λN _ _=>LL N λn hn=>(PM N N n hn).le _ _⟩
instance:MF @Bz:=⟨λ_ _ _ _=>by unfold Bz;exact ly lx⟩
instance:MF @DZ:=⟨λ_ _ _ _ _=>by unfold DZ;exact ly lx⟩
theorem TF(N:Nat):∀n m:Nat,n<=m->Mo (@EU (eN N) n) (@EU Hh m)
 |0,_,_=>⟨λ_ _=>Le.none _⟩|n+1,0,h=>absurd h U|n+1,m+1,h=>by
  have ih:=TF N n m U;exact⟨λ_ _=>by unfold EU;exact ly lx⟩
instance:MF @NM:=⟨λN _ _=>LL N λn hn=>(TF N N n hn).le _ _⟩
instance:MF @MC:=⟨λ_ _ _ _=>by unfold MC;exact ly lx⟩
instance:MF @Ih:=⟨λ_ _ _=>by unfold Ih;exact ly lx⟩
instance:MF @MB:=⟨λ_ _ _=>by unfold MB;exact ly lx⟩
instance:MF @LH:=⟨λ_ _=>by unfold LH;exact ly lx⟩
instance:MF @ET:=⟨λ_ _=>by unfold ET;exact ly lx⟩
instance:MF @Jm:=⟨λ_ _=>by unfold Jm;exact ly lx⟩
instance:MF @GM:=⟨λ_ _=>by unfold GM;exact ly lx⟩
instance:MF @Kk:=⟨λ_ _ _=>by unfold Kk;exact ly lx⟩
instance:MF @Kj:=⟨λ_ _ _=>by unfold Kj;exact ly lx⟩
instance:MF @Ec:=⟨λ_ _=>by unfold Ec;exact ly lx⟩
instance:MF @IG:=⟨λ_ _ _ _=>by unfold IG;exact ly lx⟩
theorem SI(N:Nat):∀n m:Nat,n<=m->Mo (@D3 (eN N) n) (@D3 Hh m)
 |0,_,_=>⟨λ_ _ _=>Le.none _⟩|n+1,0,h=>absurd h U|n+1,m+1,h=>by
  have ih:=SI N n m U;exact⟨λ_ _ _=>by unfold D3;exact ly lx⟩
instance:MF @HQ:=⟨λN _ _ _=>LL N λn hn=>(SI N N n hn).le _ _ _⟩
instance:MF @Em:=⟨λ_ _ _ _ _=>by unfold Em;exact ly lx⟩
instance:MF @D7:=⟨λ_ _ _=>by unfold D7;exact ly lx⟩
instance:MF @Km:=⟨λ_ _ _=>by unfold Km;exact ly lx⟩
instance:MF @HE:=⟨λ_ _=>by unfold HE;exact ly lx⟩
instance:MF @GO:=⟨λ_=>by unfold GO;exact ly lx⟩
instance:MF @FM:=⟨λ_=>by unfold FM;exact ly lx⟩
end Go.Sf.Sc
namespace Go.Sf.Sc
open Go Go.Sf
theorem tG:@FM (eN 40)=some true:=b!
theorem dA:FM=some true:=
 LO (MF.le (f:=@FM) 40) _ tG
end Go.Sf.Sc
