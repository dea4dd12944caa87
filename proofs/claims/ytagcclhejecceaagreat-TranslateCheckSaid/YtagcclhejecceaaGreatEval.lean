/- Lemmas. -/
import Derived.Test.YtagcclhejecceaaGreatFns
import Derived.Test.YtagcclhejecceaaGreatSfPl
set_option linter.all false
set_option maxRecDepth 100000
namespace Go.Sf.Sc
open Go Go.Sf
instance(N:Nat)(s_0:List Bb)(f' f:Bb->K1)[hf:∀y0,Mo (f' y0) (f y0)]:Mo (@C1 (eN N) s_0 f') (@C1 GN s_0 f):=⟨by unfold C1;exact ly lx⟩
instance(N:Nat)(s_0:List Bb)(f' f:Bb->K1)[hf:∀y0,Mo (f' y0) (f y0)]:Mo (@BM (eN N) s_0 f') (@BM GN s_0 f):=⟨by unfold BM;exact ly lx⟩
instance(N:Nat)(s_0:ByteArray)(ok' ok:Int->K1)[hok:∀y0,Mo (ok' y0) (ok y0)]:Mo (@Gz (eN N) s_0 ok') (@Gz GN s_0 ok):=⟨by unfold Gz;exact ly lx⟩
instance:MF @HU:=⟨fun _ _=>by unfold HU;exact ly lx⟩
instance:MF @JQ:=⟨fun _ _=>by unfold JQ;exact ly lx⟩
instance:MF @Jy:=⟨fun _ _=>by unfold Jy;exact ly lx⟩
instance:MF @Dv:=⟨fun _ _=>by unfold Dv;exact ly lx⟩
theorem Qu(N:Nat):∀n m:Nat,n<=m->Mo (@DG (eN N) n) (@DG GN m)
 |0,_,_=>⟨fun _ _=>Le.none _⟩|n+1,0,h=>absurd h (by omega)|n+1,m+1,h=>by
  have ih:=Qu N n m (by omega);exact⟨fun _ _=>by unfold DG;exact ly lx⟩
instance:MF @Ln:=⟨fun N _ _=>LL N fun n hn=>(Qu N N n hn).le _ _⟩
instance(N:Nat)(s_0:List kl)(f' f:kl->K1)[hf:∀y0,Mo (f' y0) (f y0)]:Mo (@Dk (eN N) s_0 f') (@Dk GN s_0 f):=⟨by unfold Dk;exact ly lx⟩
instance(N:Nat)(s_0:List kl)(f' f:kl->K1)[hf:∀y0,Mo (f' y0) (f y0)]:Mo (@Cg (eN N) s_0 f') (@Cg GN s_0 f):=⟨by unfold Cg;exact ly lx⟩
instance:MF @IT:=⟨fun _ _=>by unfold IT;exact ly lx⟩
instance:MF @FK:=⟨fun _ _ _=>by unfold FK;exact ly lx⟩
instance:MF @JT:=⟨fun _ _ _=>by unfold JT;exact ly lx⟩
instance(N:Nat)(s_0:List CZ)(f' f:CZ->K1)[hf:∀y0,Mo (f' y0) (f y0)]:Mo (@C0 (eN N) s_0 f') (@C0 GN s_0 f):=⟨by unfold C0;exact ly lx⟩
instance(N:Nat)(s_0:List CZ)(f' f:CZ->K1)[hf:∀y0,Mo (f' y0) (f y0)]:Mo (@CI (eN N) s_0 f') (@CI GN s_0 f):=⟨by unfold CI;exact ly lx⟩
instance:MF @JR:=⟨fun _ _ _=>by unfold JR;exact ly lx⟩
instance:MF @DY:=⟨fun _ _=>by unfold DY;exact ly lx⟩
instance:MF @HZ:=⟨fun _ _ _=>by unfold HZ;exact ly lx⟩
instance:MF @Fy:=⟨fun _ _ _=>by unfold Fy;exact ly lx⟩
instance(N:Nat)(s_0:Fp)(f' f:Int->K1)[hf:∀y0,Mo (f' y0) (f y0)]:Mo (@D4 (eN N) s_0 f') (@D4 GN s_0 f):=⟨by unfold D4;exact ly lx⟩
instance(N:Nat)(s_0:Fp)(f' f:Int->K1)[hf:∀y0,Mo (f' y0) (f y0)]:Mo (@A2 (eN N) s_0 f') (@A2 GN s_0 f):=⟨by unfold A2;exact ly lx⟩
instance:MF @F1:=⟨fun _ _ _=>by unfold F1;exact ly lx⟩
instance:MF @LE:=⟨fun _ _ _=>by unfold LE;exact ly lx⟩
instance:MF @JS:=⟨fun _ _ _ _=>by unfold JS;exact ly lx⟩
instance:MF @Gq:=⟨fun _ _ _ _ _=>by unfold Gq;exact ly lx⟩
instance:MF @Eg:=⟨fun _ _ _=>by unfold Eg;exact ly lx⟩
instance(N:Nat)(s_0:List Bw)(f' f:Bw->K1)[hf:∀y0,Mo (f' y0) (f y0)]:Mo (@Dl (eN N) s_0 f') (@Dl GN s_0 f):=⟨by unfold Dl;exact ly lx⟩
instance(N:Nat)(s_0:List Bw)(f' f:Bw->K1)[hf:∀y0,Mo (f' y0) (f y0)]:Mo (@BL (eN N) s_0 f') (@BL GN s_0 f):=⟨by unfold BL;exact ly lx⟩
instance:MF @DK:=⟨fun _ _=>by unfold DK;exact ly lx⟩
instance:MF @EX:=⟨fun _ _ _=>by unfold EX;exact ly lx⟩
instance:MF @Fc:=⟨fun _ _ _ _=>by unfold Fc;exact ly lx⟩
instance:MF @DI:=⟨fun _ _ _=>by unfold DI;exact ly lx⟩
instance:MF @JK:=⟨fun _ _ _=>by unfold JK;exact ly lx⟩
instance(N:Nat)(s_0:List Cx)(f' f:Cx->K1)[hf:∀y0,Mo (f' y0) (f y0)]:Mo (@Dm (eN N) s_0 f') (@Dm GN s_0 f):=⟨by unfold Dm;exact ly lx⟩
instance(N:Nat)(s_0:List Cx)(f' f:Cx->K1)[hf:∀y0,Mo (f' y0) (f y0)]:Mo (@CR (eN N) s_0 f') (@CR GN s_0 f):=⟨by unfold CR;exact ly lx⟩
instance:MF @Kg:=⟨fun _ _ _ _=>by unfold Kg;exact ly lx⟩
instance:MF @JJ:=⟨fun _ _ _=>by unfold JJ;exact ly lx⟩
instance:MF @DE:=⟨fun _ _ _ _=>by unfold DE;exact ly lx⟩
instance:MF @CQ:=⟨fun _ _ _ _=>by unfold CQ;exact ly lx⟩
instance:MF @Er:=⟨fun _ _ _=>by unfold Er;exact ly lx⟩
instance:MF @Ee:=⟨fun _ _ _=>by unfold Ee;exact ly lx⟩
instance:MF @Kf:=⟨fun _ _=>by unfold Kf;exact ly lx⟩
instance:MF @G2:=⟨fun _ _ _ _=>by unfold G2;exact ly lx⟩
instance:MF @HO:=⟨fun _ _ _ _ _=>by unfold HO;exact ly lx⟩
instance(N:Nat)(s_0:List d5)(f' f:d5->K1)[hf:∀y0,Mo (f' y0) (f y0)]:Mo (@Cr (eN N) s_0 f') (@Cr GN s_0 f):=⟨by unfold Cr;exact ly lx⟩
instance(N:Nat)(s_0:List d5)(f' f:d5->K1)[hf:∀y0,Mo (f' y0) (f y0)]:Mo (@Bu (eN N) s_0 f') (@Bu GN s_0 f):=⟨by unfold Bu;exact ly lx⟩
theorem LG(N:Nat):∀n m:Nat,n<=m->Mo (@BV (eN N) n) (@BV GN m)/\Mo (@Bf (eN N) n) (@Bf GN m)
 |0,_,_=>⟨⟨fun _=>Le.none _⟩,⟨fun _=>Le.none _⟩⟩|n+1,0,h=>absurd h (by omega)|n+1,m+1,h=>by
  obtain ⟨i0,i1⟩:=LG N n m (by omega);refine⟨?_,?_⟩
  .exact⟨fun _=>by unfold BV;exact ly lx⟩
  .exact⟨fun _=>by unfold Bf;exact ly lx⟩
theorem Pq(N n m:Nat)(h:n<=m):Mo (@BV (eN N) n) (@BV GN m):=(LG N n m h).1
instance:MF @Gk:=⟨fun N _=>LL N fun n hn=>(Pq N N n hn).le _⟩
theorem Mi(N:Nat):∀n m:Nat,n<=m->Mo (@CO (eN N) n) (@CO GN m)
 |0,_,_=>⟨fun _=>Le.none _⟩|n+1,0,h=>absurd h (by omega)|n+1,m+1,h=>by
  have ih:=Mi N n m (by omega);exact⟨fun _=>by unfold CO;exact ly lx⟩
instance:MF @IX:=⟨fun N _=>LL N fun n hn=>(Mi N N n hn).le _⟩
instance:MF @E6:=⟨fun _ _=>by unfold E6;exact ly lx⟩
instance:MF @EC:=⟨fun _ _ _ _=>by unfold EC;exact ly lx⟩
theorem NV(N:Nat):∀n m:Nat,n<=m->Mo (@B6 (eN N) n) (@B6 GN m)
 |0,_,_=>⟨fun _ _ _=>Le.none _⟩|n+1,0,h=>absurd h (by omega)|n+1,m+1,h=>by
  have ih:=NV N n m (by omega);exact⟨fun _ _ _=>by unfold B6;exact ly lx⟩
instance:MF @L7:=⟨fun N _ _ _=>LL N fun n hn=>(NV N N n hn).le _ _ _⟩
instance:MF @DJ:=⟨fun _ _ _ _=>by unfold DJ;exact ly lx⟩
instance:MF @IB:=⟨fun _ _ _=>by unfold IB;exact ly lx⟩
instance:MF @Ef:=⟨fun _ _ _ _=>by unfold Ef;exact ly lx⟩
instance:MF @CD:=⟨fun _ _=>by unfold CD;exact ly lx⟩
instance:MF @KM:=⟨fun _ _ _ _=>by unfold KM;exact ly lx⟩
instance:MF @FB:=⟨fun _ _ _=>by unfold FB;exact ly lx⟩
instance:MF @K9:=⟨fun _ _ _ _=>by unfold K9;exact ly lx⟩
instance:MF @FR:=⟨fun _ _ _=>by unfold FR;exact ly lx⟩
instance:MF @EW:=⟨fun _ _ _ _=>by unfold EW;exact ly lx⟩
instance:MF @IS:=⟨fun _ _ _=>by unfold IS;exact ly lx⟩
instance:MF @GB:=⟨fun _ _=>by unfold GB;exact ly lx⟩
instance:MF @GD:=⟨fun _ _ _ _ _=>by unfold GD;exact ly lx⟩
instance:MF @FH:=⟨fun _ _ _ _ _ _=>by unfold FH;exact ly lx⟩
instance:MF @E4:=⟨fun _ _ _ _=>by unfold E4;exact ly lx⟩
instance:MF @EF:=⟨fun _ _ _ _ _=>by unfold EF;exact ly lx⟩
instance:MF @Iz:=⟨fun _ _ _ _ _=>by unfold Iz;exact ly lx⟩
instance:MF @FI:=⟨fun _ _ _ _ _=>by unfold FI;exact ly lx⟩
instance:MF @Cz:=⟨fun _ _=>by unfold Cz;exact ly lx⟩
instance:MF @GW:=⟨fun _ _ _ _ _=>by unfold GW;exact ly lx⟩
instance:MF @E5:=⟨fun _ _ _ _ _ _ _=>by unfold E5;exact ly lx⟩
theorem KI(N:Nat):∀n m:Nat,n<=m->Mo (@Ay (eN N) n) (@Ay GN m)
 |0,_,_=>⟨fun _=>Le.none _⟩|n+1,0,h=>absurd h (by omega)|n+1,m+1,h=>by
  have ih:=KI N n m (by omega);exact⟨fun _=>by unfold Ay;exact ly lx⟩
instance:MF @GJ:=⟨fun N _=>LL N fun n hn=>(KI N N n hn).le _⟩
instance:MF @HQ:=⟨fun _ _ _ _ _ _ _=>by unfold HQ;exact ly lx⟩
instance:MF @JL:=⟨fun _ _ _ _ _ _=>by unfold JL;exact ly lx⟩
instance:MF @Gy:=⟨fun _ _ _=>by unfold Gy;exact ly lx⟩
instance:MF @GY:=⟨fun _ _ _ _ _ _=>by unfold GY;exact ly lx⟩
instance:MF @CF:=⟨fun _ _ _ _=>by unfold CF;exact ly lx⟩
theorem Ig(N:Nat):∀n m:Nat,n<=m->Mo (@An (eN N) n) (@An GN m)/\Mo (@BQ (eN N) n) (@BQ GN m)
 |0,_,_=>⟨⟨fun _ _ _=>Le.none _⟩,⟨fun _ _ _=>Le.none _⟩⟩|n+1,0,h=>absurd h (by omega)|n+1,m+1,h=>by
  obtain ⟨i0,i1⟩:=Ig N n m (by omega);refine⟨?_,?_⟩
  .exact⟨fun _ _ _=>by unfold An;exact ly lx⟩
  .exact⟨fun _ _ _=>by unfold BQ;exact ly lx⟩
theorem Na(N n m:Nat)(h:n<=m):Mo (@An (eN N) n) (@An GN m):=(Ig N n m h).1
instance:MF @Eu:=⟨fun N _ _ _=>LL N fun n hn=>(Na N N n hn).le _ _ _⟩
instance:MF @EB:=⟨fun _ _ _ _ _ _ _=>by unfold EB;exact ly lx⟩
instance:MF @Da:=⟨fun _ _ _ _ _ _ _=>by unfold Da;exact ly lx⟩
instance:MF @JO:=⟨fun _ _ _=>by unfold JO;exact ly lx⟩
instance:MF @IE:=⟨fun _ _ _ _=>by unfold IE;exact ly lx⟩
instance:MF @N1:=⟨fun _ _ _ _ _=>by unfold N1;exact ly lx⟩
instance:MF @N2:=⟨fun _ _ _ _=>by unfold N2;exact ly lx⟩
instance:MF @Ki:=⟨fun _ _ _=>by unfold Ki;exact ly lx⟩
instance:MF @K8:=⟨fun _ _ _ _ _=>by unfold K8;exact ly lx⟩
instance:MF @JN:=⟨fun _ _ _ _ _=>by unfold JN;exact ly lx⟩
instance:MF @EJ:=⟨fun _ _ _ _ _=>by unfold EJ;exact ly lx⟩
instance:MF @Dc:=⟨fun _ _ _ _=>by unfold Dc;exact ly lx⟩
instance:MF @EK:=⟨fun _ _ _ _ _=>by unfold EK;exact ly lx⟩
instance:MF @Df:=⟨fun _ _ _ _=>by unfold Df;exact ly lx⟩
instance:MF @NF:=⟨fun _ _ _ _ _=>by unfold NF;exact ly lx⟩
theorem If(N:Nat):∀n m:Nat,n<=m->Mo (@BI (eN N) n) (@BI GN m)/\Mo (@Bn (eN N) n) (@Bn GN m)
 |0,_,_=>⟨⟨fun _ _=>Le.none _⟩,⟨fun _ _ _ _=>Le.none _⟩⟩|n+1,0,h=>absurd h (by omega)|n+1,m+1,h=>by
  obtain ⟨i0,i1⟩:=If N n m (by omega);refine⟨?_,?_⟩
  .exact⟨fun _ _=>by unfold BI;exact ly lx⟩
  .exact⟨fun _ _ _ _=>by unfold Bn;exact ly lx⟩
theorem NZ(N n m:Nat)(h:n<=m):Mo (@BI (eN N) n) (@BI GN m):=(If N n m h).1
instance:MF @Gg:=⟨fun N _ _=>LL N fun n hn=>(NZ N N n hn).le _ _⟩
instance:MF @Dg:=⟨fun _ _ _ _=>by unfold Dg;exact ly lx⟩
instance:MF @FM:=⟨fun _ _ _ _ _=>by unfold FM;exact ly lx⟩
instance:MF @KU:=⟨fun _ _ _ _=>by unfold KU;exact ly lx⟩
instance:MF @HI:=⟨fun _ _ _=>by unfold HI;exact ly lx⟩
instance:MF @KT:=⟨fun _ _ _=>by unfold KT;exact ly lx⟩
instance:MF @Jm:=⟨fun _ _=>by unfold Jm;exact ly lx⟩
instance:MF @Dq:=⟨fun _ _=>by unfold Dq;exact ly lx⟩
theorem Qn(N:Nat):∀n m:Nat,n<=m->Mo (@Ds (eN N) n) (@Ds GN m)
 |0,_,_=>⟨fun _ _=>Le.none _⟩|n+1,0,h=>absurd h (by omega)|n+1,m+1,h=>by
  have ih:=Qn N n m (by omega);exact⟨fun _ _=>by unfold Ds;exact ly lx⟩
instance:MF @LV:=⟨fun N _ _=>LL N fun n hn=>(Qn N N n hn).le _ _⟩
instance:MF @IL:=⟨fun _ _=>by unfold IL;exact ly lx⟩
instance:MF @FE:=⟨fun _ _=>by unfold FE;exact ly lx⟩
instance:MF @JG:=⟨fun _ _ _=>by unfold JG;exact ly lx⟩
instance:MF @JF:=⟨fun _ _ _=>by unfold JF;exact ly lx⟩
instance:MF @Dy:=⟨fun _ _=>by unfold Dy;exact ly lx⟩
instance:MF @Gt:=⟨fun _ _ _ _=>by unfold Gt;exact ly lx⟩
theorem QF(N:Nat):∀n m:Nat,n<=m->Mo (@DT (eN N) n) (@DT GN m)
 |0,_,_=>⟨fun _ _ _=>Le.none _⟩|n+1,0,h=>absurd h (by omega)|n+1,m+1,h=>by
  have ih:=QF N n m (by omega);exact⟨fun _ _ _=>by unfold DT;exact ly lx⟩
instance:MF @FC:=⟨fun N _ _ _=>LL N fun n hn=>(QF N N n hn).le _ _ _⟩
instance:MF @FD:=⟨fun _ _ _ _ _=>by unfold FD;exact ly lx⟩
instance:MF @Dx:=⟨fun _ _ _=>by unfold Dx;exact ly lx⟩
instance:MF @M3:=⟨fun _ _ _=>by unfold M3;exact ly lx⟩
instance:MF @K6:=⟨fun _ _=>by unfold K6;exact ly lx⟩
instance:MF @JI:=⟨fun _=>by unfold JI;exact ly lx⟩
instance:MF @ER:=⟨fun _=>by unfold ER;exact ly lx⟩
end Go.Sf.Sc
namespace Go.Sf.Sc
open Go Go.Sf
theorem lr:@ER (eN 40)=some true:=by decide +kernel
theorem Yt:ER=some true:=
 LO (MF.le (f:=@ER) 40) _ lr
end Go.Sf.Sc
