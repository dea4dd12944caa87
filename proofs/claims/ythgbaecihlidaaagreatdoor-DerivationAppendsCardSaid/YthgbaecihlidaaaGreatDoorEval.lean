/- Lemmas. -/
import Derived.Test.YthgbaecihlidaaaGreatDoorFns
import Derived.Test.YthgbaecihlidaaaGreatDoorSfPl
set_option linter.all false
set_option maxRecDepth 100000
namespace Go.Sf.Sc
open Go Go.Sf
instance(N:Nat)(s_0:ByteArray)(ok' ok:Int->K1)[hok:∀y0,Mo (ok' y0) (ok y0)]:Mo (@Gl (eN N) s_0 ok') (@Gl HZ s_0 ok):=⟨by unfold Gl;exact ly lx⟩
instance:MF @Gz:=⟨fun _ _=>by unfold Gz;exact ly lx⟩
instance:MF @I3:=⟨fun _ _=>by unfold I3;exact ly lx⟩
instance:MF @JZ:=⟨fun _ _=>by unfold JZ;exact ly lx⟩
instance:MF @Dn:=⟨fun _ _=>by unfold Dn;exact ly lx⟩
instance(N:Nat)(s_0:List BL)(f' f:BL->K1)[hf:∀y0,Mo (f' y0) (f y0)]:Mo (@Cr (eN N) s_0 f') (@Cr HZ s_0 f):=⟨by unfold Cr;exact ly lx⟩
instance(N:Nat)(s_0:List BL)(f' f:BL->K1)[hf:∀y0,Mo (f' y0) (f y0)]:Mo (@CD (eN N) s_0 f') (@CD HZ s_0 f):=⟨by unfold CD;exact ly lx⟩
theorem Qv(N:Nat):∀n m:Nat,n<=m->Mo (@C1 (eN N) n) (@C1 HZ m)
 |0,_,_=>⟨fun _ _=>Le.none _⟩|n+1,0,h=>absurd h (by omega)|n+1,m+1,h=>by
  have ih:=Qv N n m (by omega);exact⟨fun _ _=>by unfold C1;exact ly lx⟩
instance:MF @LK:=⟨fun N _ _=>LL N fun n hn=>(Qv N N n hn).le _ _⟩
instance(N:Nat)(s_0:List mh)(f' f:mh->K1)[hf:∀y0,Mo (f' y0) (f y0)]:Mo (@Dc (eN N) s_0 f') (@Dc HZ s_0 f):=⟨by unfold Dc;exact ly lx⟩
instance(N:Nat)(s_0:List mh)(f' f:mh->K1)[hf:∀y0,Mo (f' y0) (f y0)]:Mo (@Ca (eN N) s_0 f') (@Ca HZ s_0 f):=⟨by unfold Ca;exact ly lx⟩
instance:MF @H4:=⟨fun _ _=>by unfold H4;exact ly lx⟩
instance:MF @E7:=⟨fun _ _ _=>by unfold E7;exact ly lx⟩
instance:MF @I6:=⟨fun _ _ _=>by unfold I6;exact ly lx⟩
instance(N:Nat)(s_0:List CA)(f' f:CA->K1)[hf:∀y0,Mo (f' y0) (f y0)]:Mo (@Cq (eN N) s_0 f') (@Cq HZ s_0 f):=⟨by unfold Cq;exact ly lx⟩
instance(N:Nat)(s_0:List CA)(f' f:CA->K1)[hf:∀y0,Mo (f' y0) (f y0)]:Mo (@CC (eN N) s_0 f') (@CC HZ s_0 f):=⟨by unfold CC;exact ly lx⟩
instance:MF @I4:=⟨fun _ _ _=>by unfold I4;exact ly lx⟩
instance:MF @DJ:=⟨fun _ _=>by unfold DJ;exact ly lx⟩
instance(N:Nat)(s_0:Fp)(f' f:Int->K1)[hf:∀y0,Mo (f' y0) (f y0)]:Mo (@Ck (eN N) s_0 f') (@Ck HZ s_0 f):=⟨by unfold Ck;exact ly lx⟩
instance(N:Nat)(s_0:Fp)(f' f:Int->K1)[hf:∀y0,Mo (f' y0) (f y0)]:Mo (@Ay (eN N) s_0 f') (@Ay HZ s_0 f):=⟨by unfold Ay;exact ly lx⟩
instance(N:Nat)(s_0:List Bc)(f' f:Bc->K1)[hf:∀y0,Mo (f' y0) (f y0)]:Mo (@Dd (eN N) s_0 f') (@Dd HZ s_0 f):=⟨by unfold Dd;exact ly lx⟩
instance(N:Nat)(s_0:List Bc)(f' f:Bc->K1)[hf:∀y0,Mo (f' y0) (f y0)]:Mo (@BV (eN N) s_0 f') (@BV HZ s_0 f):=⟨by unfold BV;exact ly lx⟩
instance:MF @Cm:=⟨fun _ _=>by unfold Cm;exact ly lx⟩
instance:MF @F1:=⟨fun _ _ _=>by unfold F1;exact ly lx⟩
instance:MF @EK:=⟨fun _ _ _=>by unfold EK;exact ly lx⟩
instance:MF @FW:=⟨fun _ _ _ _=>by unfold FW;exact ly lx⟩
instance:MF @C2:=⟨fun _ _ _=>by unfold C2;exact ly lx⟩
instance:MF @Iy:=⟨fun _ _ _=>by unfold Iy;exact ly lx⟩
instance(N:Nat)(s_0:List Bv)(f' f:Bv->K1)[hf:∀y0,Mo (f' y0) (f y0)]:Mo (@De (eN N) s_0 f') (@De HZ s_0 f):=⟨by unfold De;exact ly lx⟩
instance(N:Nat)(s_0:List Bv)(f' f:Bv->K1)[hf:∀y0,Mo (f' y0) (f y0)]:Mo (@CI (eN N) s_0 f') (@CI HZ s_0 f):=⟨by unfold CI;exact ly lx⟩
instance:MF @KD:=⟨fun _ _ _ _=>by unfold KD;exact ly lx⟩
instance:MF @Ix:=⟨fun _ _ _=>by unfold Ix;exact ly lx⟩
instance:MF @Ec:=⟨fun _ _ _=>by unfold Ec;exact ly lx⟩
instance:MF @ER:=⟨fun _ _ _=>by unfold ER;exact ly lx⟩
instance:MF @DH:=⟨fun _ _ _ _=>by unfold DH;exact ly lx⟩
instance:MF @C6:=⟨fun _ _ _ _=>by unfold C6;exact ly lx⟩
instance:MF @KC:=⟨fun _ _=>by unfold KC;exact ly lx⟩
instance:MF @Kf:=⟨fun _ _ _=>by unfold Kf;exact ly lx⟩
instance:MF @I5:=⟨fun _ _ _ _=>by unfold I5;exact ly lx⟩
instance:MF @Hq:=⟨fun _ _ _ _ _=>by unfold Hq;exact ly lx⟩
instance:MF @Gm:=⟨fun _ _ _ _=>by unfold Gm;exact ly lx⟩
instance:MF @Gw:=⟨fun _ _ _ _ _=>by unfold Gw;exact ly lx⟩
instance(N:Nat)(s_0:List ea)(f' f:ea->K1)[hf:∀y0,Mo (f' y0) (f y0)]:Mo (@Cg (eN N) s_0 f') (@Cg HZ s_0 f):=⟨by unfold Cg;exact ly lx⟩
instance(N:Nat)(s_0:List ea)(f' f:ea->K1)[hf:∀y0,Mo (f' y0) (f y0)]:Mo (@Bs (eN N) s_0 f') (@Bs HZ s_0 f):=⟨by unfold Bs;exact ly lx⟩
theorem Kh(N:Nat):∀n m:Nat,n<=m->Mo (@BS (eN N) n) (@BS HZ m)/\Mo (@Ba (eN N) n) (@Ba HZ m)
 |0,_,_=>⟨⟨fun _=>Le.none _⟩,⟨fun _=>Le.none _⟩⟩|n+1,0,h=>absurd h (by omega)|n+1,m+1,h=>by
  obtain ⟨i0,i1⟩:=Kh N n m (by omega);refine⟨?_,?_⟩
  .exact⟨fun _=>by unfold BS;exact ly lx⟩
  .exact⟨fun _=>by unfold Ba;exact ly lx⟩
theorem PF(N n m:Nat)(h:n<=m):Mo (@BS (eN N) n) (@BS HZ m):=(Kh N n m h).1
instance:MF @GW:=⟨fun N _=>LL N fun n hn=>(PF N N n hn).le _⟩
theorem L9(N:Nat):∀n m:Nat,n<=m->Mo (@CG (eN N) n) (@CG HZ m)
 |0,_,_=>⟨fun _=>Le.none _⟩|n+1,0,h=>absurd h (by omega)|n+1,m+1,h=>by
  have ih:=L9 N n m (by omega);exact⟨fun _=>by unfold CG;exact ly lx⟩
instance:MF @H5:=⟨fun N _=>LL N fun n hn=>(L9 N N n hn).le _⟩
instance:MF @Ew:=⟨fun _ _=>by unfold Ew;exact ly lx⟩
instance:MF @D2:=⟨fun _ _ _ _=>by unfold D2;exact ly lx⟩
theorem Mu(N:Nat):∀n m:Nat,n<=m->Mo (@B4 (eN N) n) (@B4 HZ m)
 |0,_,_=>⟨fun _ _ _=>Le.none _⟩|n+1,0,h=>absurd h (by omega)|n+1,m+1,h=>by
  have ih:=Mu N n m (by omega);exact⟨fun _ _ _=>by unfold B4;exact ly lx⟩
instance:MF @Lc:=⟨fun N _ _ _=>LL N fun n hn=>(Mu N N n hn).le _ _ _⟩
instance:MF @C3:=⟨fun _ _ _ _=>by unfold C3;exact ly lx⟩
instance:MF @Hk:=⟨fun _ _ _=>by unfold Hk;exact ly lx⟩
instance:MF @Jy:=⟨fun _ _ _ _=>by unfold Jy;exact ly lx⟩
instance:MF @Ft:=⟨fun _ _ _=>by unfold Ft;exact ly lx⟩
instance:MF @Di:=⟨fun _ _ _ _=>by unfold Di;exact ly lx⟩
instance:MF @Gf:=⟨fun _ _ _ _=>by unfold Gf;exact ly lx⟩
instance:MF @EA:=⟨fun _ _ _ _=>by unfold EA;exact ly lx⟩
instance:MF @FI:=⟨fun _ _ _=>by unfold FI;exact ly lx⟩
instance:MF @EJ:=⟨fun _ _ _ _=>by unfold EJ;exact ly lx⟩
instance:MF @H3:=⟨fun _ _ _=>by unfold H3;exact ly lx⟩
instance:MF @F5:=⟨fun _ _=>by unfold F5;exact ly lx⟩
theorem Jp(N:Nat):∀n m:Nat,n<=m->Mo (@A4 (eN N) n) (@A4 HZ m)
 |0,_,_=>⟨fun _=>Le.none _⟩|n+1,0,h=>absurd h (by omega)|n+1,m+1,h=>by
  have ih:=Jp N n m (by omega);exact⟨fun _=>by unfold A4;exact ly lx⟩
instance:MF @F8:=⟨fun N _=>LL N fun n hn=>(Jp N N n hn).le _⟩
instance:MF @E4:=⟨fun _ _ _ _ _ _ _=>by unfold E4;exact ly lx⟩
instance:MF @Hl:=⟨fun _ _ _ _ _ _=>by unfold Hl;exact ly lx⟩
instance:MF @Iz:=⟨fun _ _ _ _ _=>by unfold Iz;exact ly lx⟩
instance:MF @Dz:=⟨fun _ _ _ _ _=>by unfold Dz;exact ly lx⟩
instance:MF @F6:=⟨fun _ _ _ _ _=>by unfold F6;exact ly lx⟩
instance:MF @E2:=⟨fun _ _ _ _ _ _=>by unfold E2;exact ly lx⟩
instance:MF @D9:=⟨fun _ _ _ _ _=>by unfold D9;exact ly lx⟩
instance:MF @IW:=⟨fun _ _ _ _ _=>by unfold IW;exact ly lx⟩
instance:MF @E3:=⟨fun _ _ _ _ _=>by unfold E3;exact ly lx⟩
instance:MF @Cn:=⟨fun _ _=>by unfold Cn;exact ly lx⟩
instance:MF @GH:=⟨fun _ _ _ _ _=>by unfold GH;exact ly lx⟩
instance:MF @Eu:=⟨fun _ _ _ _ _ _ _=>by unfold Eu;exact ly lx⟩
instance:MF @Gk:=⟨fun _ _ _=>by unfold Gk;exact ly lx⟩
instance:MF @GJ:=⟨fun _ _ _ _ _ _=>by unfold GJ;exact ly lx⟩
instance:MF @CB:=⟨fun _ _ _ _=>by unfold CB;exact ly lx⟩
theorem ID(N:Nat):∀n m:Nat,n<=m->Mo (@Aw (eN N) n) (@Aw HZ m)/\Mo (@BP (eN N) n) (@BP HZ m)
 |0,_,_=>⟨⟨fun _ _ _=>Le.none _⟩,⟨fun _ _ _=>Le.none _⟩⟩|n+1,0,h=>absurd h (by omega)|n+1,m+1,h=>by
  obtain ⟨i0,i1⟩:=ID N n m (by omega);refine⟨?_,?_⟩
  .exact⟨fun _ _ _=>by unfold Aw;exact ly lx⟩
  .exact⟨fun _ _ _=>by unfold BP;exact ly lx⟩
theorem Mz(N n m:Nat)(h:n<=m):Mo (@Aw (eN N) n) (@Aw HZ m):=(ID N n m h).1
instance:MF @Eh:=⟨fun N _ _ _=>LL N fun n hn=>(Mz N N n hn).le _ _ _⟩
instance:MF @D1:=⟨fun _ _ _ _ _ _ _=>by unfold D1;exact ly lx⟩
instance:MF @DP:=⟨fun _ _ _ _ _ _ _=>by unfold DP;exact ly lx⟩
instance:MF @I1:=⟨fun _ _ _=>by unfold I1;exact ly lx⟩
instance:MF @Ho:=⟨fun _ _ _ _=>by unfold Ho;exact ly lx⟩
instance:MF @NQ:=⟨fun _ _ _ _ _=>by unfold NQ;exact ly lx⟩
instance:MF @NR:=⟨fun _ _ _ _=>by unfold NR;exact ly lx⟩
instance:MF @KH:=⟨fun _ _ _=>by unfold KH;exact ly lx⟩
instance:MF @Ge:=⟨fun _ _ _ _ _=>by unfold Ge;exact ly lx⟩
instance:MF @E6:=⟨fun _ _ _ _=>by unfold E6;exact ly lx⟩
instance:MF @DR:=⟨fun _ _ _ _=>by unfold DR;exact ly lx⟩
instance:MF @Hn:=⟨fun _ _ _ _ _=>by unfold Hn;exact ly lx⟩
instance:MF @DA:=⟨fun _ _ _ _ _=>by unfold DA;exact ly lx⟩
instance:MF @DK:=⟨fun _ _ _ _ _=>by unfold DK;exact ly lx⟩
instance:MF @DL:=⟨fun _ _ _ _=>by unfold DL;exact ly lx⟩
instance:MF @E9:=⟨fun _ _=>by unfold E9;exact ly lx⟩
instance:MF @DQ:=⟨fun _ _=>by unfold DQ;exact ly lx⟩
instance:MF @C9:=⟨fun _ _ _ _=>by unfold C9;exact ly lx⟩
instance:MF @Fu:=⟨fun _=>by unfold Fu;exact ly lx⟩
end Go.Sf.Sc
namespace Go.Sf.Sc
open Go Go.Sf
theorem lj:@Fu (eN 40)=some true:=by decide +kernel
theorem gj:Fu=some true:=
 LO (MF.le (f:=@Fu) 40) _ lj
end Go.Sf.Sc
