/- Lemmas. -/
import Derived.Test.YthgbaecihlidaaaGreatDoorFns
import Derived.Test.YthgbaecihlidaaaGreatDoorSfPl
set_option linter.all false
set_option maxRecDepth 100000
namespace Go.Sf.Sc
open Go Go.Sf
instance(N:Nat)(s_0:ByteArray)(ok' ok:Int->K1)[hok:∀y0,Mo (ok' y0) (ok y0)]:Mo (@Gn (eN N) s_0 ok') (@Gn Hb s_0 ok):=⟨by unfold Gn;exact ly lx⟩
instance:MF @G2:=⟨fun _ _=>by unfold G2;exact ly lx⟩
instance:MF @I5:=⟨fun _ _=>by unfold I5;exact ly lx⟩
instance:MF @Jc:=⟨fun _ _=>by unfold Jc;exact ly lx⟩
instance:MF @Do:=⟨fun _ _=>by unfold Do;exact ly lx⟩
instance(N:Nat)(s_0:List BL)(f' f:BL->K1)[hf:∀y0,Mo (f' y0) (f y0)]:Mo (@Cr (eN N) s_0 f') (@Cr Hb s_0 f):=⟨by unfold Cr;exact ly lx⟩
instance(N:Nat)(s_0:List BL)(f' f:BL->K1)[hf:∀y0,Mo (f' y0) (f y0)]:Mo (@CE (eN N) s_0 f') (@CE Hb s_0 f):=⟨by unfold CE;exact ly lx⟩
theorem Qx(N:Nat):∀n m:Nat,n<=m->Mo (@C1 (eN N) n) (@C1 Hb m)
 |0,_,_=>⟨fun _ _=>Le.none _⟩|n+1,0,h=>absurd h (by omega)|n+1,m+1,h=>by
  have ih:=Qx N n m (by omega);exact⟨fun _ _=>by unfold C1;exact ly lx⟩
instance:MF @LM:=⟨fun N _ _=>LL N fun n hn=>(Qx N N n hn).le _ _⟩
instance(N:Nat)(s_0:List mh)(f' f:mh->K1)[hf:∀y0,Mo (f' y0) (f y0)]:Mo (@Dd (eN N) s_0 f') (@Dd Hb s_0 f):=⟨by unfold Dd;exact ly lx⟩
instance(N:Nat)(s_0:List mh)(f' f:mh->K1)[hf:∀y0,Mo (f' y0) (f y0)]:Mo (@Ca (eN N) s_0 f') (@Ca Hb s_0 f):=⟨by unfold Ca;exact ly lx⟩
instance:MF @H7:=⟨fun _ _=>by unfold H7;exact ly lx⟩
instance:MF @E9:=⟨fun _ _ _=>by unfold E9;exact ly lx⟩
instance:MF @I8:=⟨fun _ _ _=>by unfold I8;exact ly lx⟩
instance(N:Nat)(s_0:List CB)(f' f:CB->K1)[hf:∀y0,Mo (f' y0) (f y0)]:Mo (@Cq (eN N) s_0 f') (@Cq Hb s_0 f):=⟨by unfold Cq;exact ly lx⟩
instance(N:Nat)(s_0:List CB)(f' f:CB->K1)[hf:∀y0,Mo (f' y0) (f y0)]:Mo (@CD (eN N) s_0 f') (@CD Hb s_0 f):=⟨by unfold CD;exact ly lx⟩
instance:MF @I6:=⟨fun _ _ _=>by unfold I6;exact ly lx⟩
instance:MF @DJ:=⟨fun _ _=>by unfold DJ;exact ly lx⟩
instance(N:Nat)(s_0:Fp)(f' f:Int->K1)[hf:∀y0,Mo (f' y0) (f y0)]:Mo (@Ck (eN N) s_0 f') (@Ck Hb s_0 f):=⟨by unfold Ck;exact ly lx⟩
instance(N:Nat)(s_0:Fp)(f' f:Int->K1)[hf:∀y0,Mo (f' y0) (f y0)]:Mo (@Ay (eN N) s_0 f') (@Ay Hb s_0 f):=⟨by unfold Ay;exact ly lx⟩
instance(N:Nat)(s_0:List Bc)(f' f:Bc->K1)[hf:∀y0,Mo (f' y0) (f y0)]:Mo (@De (eN N) s_0 f') (@De Hb s_0 f):=⟨by unfold De;exact ly lx⟩
instance(N:Nat)(s_0:List Bc)(f' f:Bc->K1)[hf:∀y0,Mo (f' y0) (f y0)]:Mo (@BV (eN N) s_0 f') (@BV Hb s_0 f):=⟨by unfold BV;exact ly lx⟩
instance:MF @Cm:=⟨fun _ _=>by unfold Cm;exact ly lx⟩
instance:MF @F3:=⟨fun _ _ _=>by unfold F3;exact ly lx⟩
instance:MF @EL:=⟨fun _ _ _=>by unfold EL;exact ly lx⟩
instance:MF @FY:=⟨fun _ _ _ _=>by unfold FY;exact ly lx⟩
instance:MF @C2:=⟨fun _ _ _=>by unfold C2;exact ly lx⟩
instance:MF @I0:=⟨fun _ _ _=>by unfold I0;exact ly lx⟩
instance(N:Nat)(s_0:List Bv)(f' f:Bv->K1)[hf:∀y0,Mo (f' y0) (f y0)]:Mo (@Df (eN N) s_0 f') (@Df Hb s_0 f):=⟨by unfold Df;exact ly lx⟩
instance(N:Nat)(s_0:List Bv)(f' f:Bv->K1)[hf:∀y0,Mo (f' y0) (f y0)]:Mo (@CJ (eN N) s_0 f') (@CJ Hb s_0 f):=⟨by unfold CJ;exact ly lx⟩
instance:MF @KF:=⟨fun _ _ _ _=>by unfold KF;exact ly lx⟩
instance:MF @Iz:=⟨fun _ _ _=>by unfold Iz;exact ly lx⟩
instance:MF @Ed:=⟨fun _ _ _=>by unfold Ed;exact ly lx⟩
instance:MF @ES:=⟨fun _ _ _=>by unfold ES;exact ly lx⟩
instance:MF @DH:=⟨fun _ _ _ _=>by unfold DH;exact ly lx⟩
instance:MF @C6:=⟨fun _ _ _ _=>by unfold C6;exact ly lx⟩
instance:MF @KE:=⟨fun _ _=>by unfold KE;exact ly lx⟩
instance:MF @Kg:=⟨fun _ _ _=>by unfold Kg;exact ly lx⟩
instance:MF @I7:=⟨fun _ _ _ _=>by unfold I7;exact ly lx⟩
instance:MF @Ht:=⟨fun _ _ _ _ _=>by unfold Ht;exact ly lx⟩
instance:MF @Gp:=⟨fun _ _ _ _=>by unfold Gp;exact ly lx⟩
instance:MF @Gy:=⟨fun _ _ _ _ _=>by unfold Gy;exact ly lx⟩
instance(N:Nat)(s_0:List ea)(f' f:ea->K1)[hf:∀y0,Mo (f' y0) (f y0)]:Mo (@Cg (eN N) s_0 f') (@Cg Hb s_0 f):=⟨by unfold Cg;exact ly lx⟩
instance(N:Nat)(s_0:List ea)(f' f:ea->K1)[hf:∀y0,Mo (f' y0) (f y0)]:Mo (@Bs (eN N) s_0 f') (@Bs Hb s_0 f):=⟨by unfold Bs;exact ly lx⟩
theorem Ki(N:Nat):∀n m:Nat,n<=m->Mo (@BS (eN N) n) (@BS Hb m)/\Mo (@Ba (eN N) n) (@Ba Hb m)
 |0,_,_=>⟨⟨fun _=>Le.none _⟩,⟨fun _=>Le.none _⟩⟩|n+1,0,h=>absurd h (by omega)|n+1,m+1,h=>by
  obtain ⟨i0,i1⟩:=Ki N n m (by omega);refine⟨?_,?_⟩
  .exact⟨fun _=>by unfold BS;exact ly lx⟩
  .exact⟨fun _=>by unfold Ba;exact ly lx⟩
theorem PI(N n m:Nat)(h:n<=m):Mo (@BS (eN N) n) (@BS Hb m):=(Ki N n m h).1
instance:MF @GX:=⟨fun N _=>LL N fun n hn=>(PI N N n hn).le _⟩
theorem MA(N:Nat):∀n m:Nat,n<=m->Mo (@CH (eN N) n) (@CH Hb m)
 |0,_,_=>⟨fun _=>Le.none _⟩|n+1,0,h=>absurd h (by omega)|n+1,m+1,h=>by
  have ih:=MA N n m (by omega);exact⟨fun _=>by unfold CH;exact ly lx⟩
instance:MF @H8:=⟨fun N _=>LL N fun n hn=>(MA N N n hn).le _⟩
instance:MF @Ez:=⟨fun _ _=>by unfold Ez;exact ly lx⟩
instance:MF @D2:=⟨fun _ _ _ _=>by unfold D2;exact ly lx⟩
theorem Mv(N:Nat):∀n m:Nat,n<=m->Mo (@B4 (eN N) n) (@B4 Hb m)
 |0,_,_=>⟨fun _ _ _=>Le.none _⟩|n+1,0,h=>absurd h (by omega)|n+1,m+1,h=>by
  have ih:=Mv N n m (by omega);exact⟨fun _ _ _=>by unfold B4;exact ly lx⟩
instance:MF @Ld:=⟨fun N _ _ _=>LL N fun n hn=>(Mv N N n hn).le _ _ _⟩
instance:MF @C3:=⟨fun _ _ _ _=>by unfold C3;exact ly lx⟩
instance:MF @Hn:=⟨fun _ _ _=>by unfold Hn;exact ly lx⟩
instance:MF @J1:=⟨fun _ _ _ _=>by unfold J1;exact ly lx⟩
instance:MF @Fv:=⟨fun _ _ _=>by unfold Fv;exact ly lx⟩
instance:MF @Dj:=⟨fun _ _ _ _=>by unfold Dj;exact ly lx⟩
instance:MF @Gh:=⟨fun _ _ _ _=>by unfold Gh;exact ly lx⟩
instance:MF @EA:=⟨fun _ _ _ _=>by unfold EA;exact ly lx⟩
instance:MF @FK:=⟨fun _ _ _=>by unfold FK;exact ly lx⟩
instance:MF @EK:=⟨fun _ _ _ _=>by unfold EK;exact ly lx⟩
instance:MF @H6:=⟨fun _ _ _=>by unfold H6;exact ly lx⟩
instance:MF @F8:=⟨fun _ _=>by unfold F8;exact ly lx⟩
theorem Js(N:Nat):∀n m:Nat,n<=m->Mo (@A4 (eN N) n) (@A4 Hb m)
 |0,_,_=>⟨fun _=>Le.none _⟩|n+1,0,h=>absurd h (by omega)|n+1,m+1,h=>by
  have ih:=Js N n m (by omega);exact⟨fun _=>by unfold A4;exact ly lx⟩
instance:MF @GB:=⟨fun N _=>LL N fun n hn=>(Js N N n hn).le _⟩
instance:MF @E6:=⟨fun _ _ _ _ _ _ _=>by unfold E6;exact ly lx⟩
instance:MF @Ho:=⟨fun _ _ _ _ _ _=>by unfold Ho;exact ly lx⟩
instance:MF @I1:=⟨fun _ _ _ _ _=>by unfold I1;exact ly lx⟩
instance:MF @D0:=⟨fun _ _ _ _ _=>by unfold D0;exact ly lx⟩
instance:MF @F9:=⟨fun _ _ _ _ _=>by unfold F9;exact ly lx⟩
instance:MF @E4:=⟨fun _ _ _ _ _ _=>by unfold E4;exact ly lx⟩
instance:MF @D9:=⟨fun _ _ _ _ _=>by unfold D9;exact ly lx⟩
instance:MF @IY:=⟨fun _ _ _ _ _=>by unfold IY;exact ly lx⟩
instance:MF @E5:=⟨fun _ _ _ _ _=>by unfold E5;exact ly lx⟩
instance:MF @Cn:=⟨fun _ _=>by unfold Cn;exact ly lx⟩
instance:MF @GK:=⟨fun _ _ _ _ _=>by unfold GK;exact ly lx⟩
instance:MF @Ey:=⟨fun _ _ _ _ _ _ _=>by unfold Ey;exact ly lx⟩
instance:MF @Gm:=⟨fun _ _ _=>by unfold Gm;exact ly lx⟩
instance:MF @GM:=⟨fun _ _ _ _ _ _=>by unfold GM;exact ly lx⟩
instance:MF @CC:=⟨fun _ _ _ _=>by unfold CC;exact ly lx⟩
theorem IG(N:Nat):∀n m:Nat,n<=m->Mo (@Aw (eN N) n) (@Aw Hb m)/\Mo (@BQ (eN N) n) (@BQ Hb m)
 |0,_,_=>⟨⟨fun _ _ _=>Le.none _⟩,⟨fun _ _ _=>Le.none _⟩⟩|n+1,0,h=>absurd h (by omega)|n+1,m+1,h=>by
  obtain ⟨i0,i1⟩:=IG N n m (by omega);refine⟨?_,?_⟩
  .exact⟨fun _ _ _=>by unfold Aw;exact ly lx⟩
  .exact⟨fun _ _ _=>by unfold BQ;exact ly lx⟩
theorem M0(N n m:Nat)(h:n<=m):Mo (@Aw (eN N) n) (@Aw Hb m):=(IG N n m h).1
instance:MF @Ei:=⟨fun N _ _ _=>LL N fun n hn=>(M0 N N n hn).le _ _ _⟩
instance:MF @D1:=⟨fun _ _ _ _ _ _ _=>by unfold D1;exact ly lx⟩
instance:MF @DQ:=⟨fun _ _ _ _ _ _ _=>by unfold DQ;exact ly lx⟩
instance:MF @I3:=⟨fun _ _ _=>by unfold I3;exact ly lx⟩
instance:MF @Hr:=⟨fun _ _ _ _=>by unfold Hr;exact ly lx⟩
instance:MF @NR:=⟨fun _ _ _ _ _=>by unfold NR;exact ly lx⟩
instance:MF @NS:=⟨fun _ _ _ _=>by unfold NS;exact ly lx⟩
instance:MF @KJ:=⟨fun _ _ _=>by unfold KJ;exact ly lx⟩
instance:MF @Gg:=⟨fun _ _ _ _ _=>by unfold Gg;exact ly lx⟩
instance:MF @E8:=⟨fun _ _ _ _=>by unfold E8;exact ly lx⟩
instance:MF @DT:=⟨fun _ _ _ _=>by unfold DT;exact ly lx⟩
instance:MF @Hq:=⟨fun _ _ _ _ _=>by unfold Hq;exact ly lx⟩
instance:MF @DA:=⟨fun _ _ _ _ _=>by unfold DA;exact ly lx⟩
instance:MF @DK:=⟨fun _ _ _ _ _=>by unfold DK;exact ly lx⟩
instance:MF @DL:=⟨fun _ _ _ _=>by unfold DL;exact ly lx⟩
instance:MF @FB:=⟨fun _ _=>by unfold FB;exact ly lx⟩
instance:MF @DR:=⟨fun _ _=>by unfold DR;exact ly lx⟩
instance:MF @C9:=⟨fun _ _ _ _=>by unfold C9;exact ly lx⟩
instance:MF @Fw:=⟨fun _=>by unfold Fw;exact ly lx⟩
end Go.Sf.Sc
namespace Go.Sf.Sc
open Go Go.Sf
theorem mP:@Fw (eN 40)=some true:=by decide +kernel
theorem iB:Fw=some true:=
 LO (MF.le (f:=@Fw) 40) _ mP
end Go.Sf.Sc
