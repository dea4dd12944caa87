/- Lemmas. -/
import Derived.Test.YtfcfkigfmofniaaGreatFns
import Derived.Test.YtfcfkigfmofniaaGreatSfPl
set_option linter.all false
set_option maxRecDepth 100000
namespace Go.Sf.Sc
open Go Go.Sf
instance(N:Nat)(s_0:ByteArray)(ok' ok:Int->K1)[hok:∀y0,Mo (ok' y0) (ok y0)]:Mo (@G3 (eN N) s_0 ok') (@G3 II s_0 ok):=⟨by unfold G3;exact ly lx⟩
instance:MF @Hd:=⟨λ_ _=>by unfold Hd;exact ly lx⟩
instance:MF @Jw:=⟨λ_ _=>by unfold Jw;exact ly lx⟩
instance:MF @Kc:=⟨λ_ _=>by unfold Kc;exact ly lx⟩
instance:MF @Ds:=⟨λ_ _=>by unfold Ds;exact ly lx⟩
instance(N:Nat)(s_0:List BD)(f' f:BD->K1)[hf:∀y0,Mo (f' y0) (f y0)]:Mo (@Cv (eN N) s_0 f') (@Cv II s_0 f):=⟨by unfold Cv;exact ly lx⟩
instance(N:Nat)(s_0:List BD)(f' f:BD->K1)[hf:∀y0,Mo (f' y0) (f y0)]:Mo (@B8 (eN N) s_0 f') (@B8 II s_0 f):=⟨by unfold B8;exact ly lx⟩
theorem SC(N:Nat):∀n m:Nat,n<=m->Mo (@C7 (eN N) n) (@C7 II m)
 |0,_,_=>⟨λ_ _=>Le.none _⟩|n+1,0,h=>absurd h U|n+1,m+1,h=>by
  have ih:=SC N n m U;exact⟨λ_ _=>by unfold C7;exact ly lx⟩
instance:MF @MZ:=⟨λN _ _=>LL N λn hn=>(SC N N n hn).le _ _⟩
instance(N:Nat)(s_0:List mh)(f' f:mh->K1)[hf:∀y0,Mo (f' y0) (f y0)]:Mo (@Dg (eN N) s_0 f') (@Dg II s_0 f):=⟨by unfold Dg;exact ly lx⟩
instance(N:Nat)(s_0:List mh)(f' f:mh->K1)[hf:∀y0,Mo (f' y0) (f y0)]:Mo (@CW (eN N) s_0 f') (@CW II s_0 f):=⟨by unfold CW;exact ly lx⟩
instance:MF @Iu:=⟨λ_ _=>by unfold Iu;exact ly lx⟩
instance:MF @FL:=⟨λ_ _ _=>by unfold FL;exact ly lx⟩
instance:MF @Jz:=⟨λ_ _ _=>by unfold Jz;exact ly lx⟩
instance(N:Nat)(s_0:List CI)(f' f:CI->K1)[hf:∀y0,Mo (f' y0) (f y0)]:Mo (@Cu (eN N) s_0 f') (@Cu II s_0 f):=⟨by unfold Cu;exact ly lx⟩
instance(N:Nat)(s_0:List CI)(f' f:CI->K1)[hf:∀y0,Mo (f' y0) (f y0)]:Mo (@B7 (eN N) s_0 f') (@B7 II s_0 f):=⟨by unfold B7;exact ly lx⟩
instance:MF @Jx:=⟨λ_ _ _=>by unfold Jx;exact ly lx⟩
instance:MF @DM:=⟨λ_ _=>by unfold DM;exact ly lx⟩
instance(N:Nat)(s_0:Fp)(f' f:Int->K1)[hf:∀y0,Mo (f' y0) (f y0)]:Mo (@D0 (eN N) s_0 f') (@D0 II s_0 f):=⟨by unfold D0;exact ly lx⟩
instance(N:Nat)(s_0:Fp)(f' f:Int->K1)[hf:∀y0,Mo (f' y0) (f y0)]:Mo (@A0 (eN N) s_0 f') (@A0 II s_0 f):=⟨by unfold A0;exact ly lx⟩
instance(N:Nat)(s_0:List Bo)(f' f:Bo->K1)[hf:∀y0,Mo (f' y0) (f y0)]:Mo (@Dh (eN N) s_0 f') (@Dh II s_0 f):=⟨by unfold Dh;exact ly lx⟩
instance(N:Nat)(s_0:List Bo)(f' f:Bo->K1)[hf:∀y0,Mo (f' y0) (f y0)]:Mo (@BP (eN N) s_0 f') (@BP II s_0 f):=⟨by unfold BP;exact ly lx⟩
instance:MF @Cp:=⟨λ_ _=>by unfold Cp;exact ly lx⟩
instance:MF @GB:=⟨λ_ _ _=>by unfold GB;exact ly lx⟩
instance:MF @ES:=⟨λ_ _ _=>by unfold ES;exact ly lx⟩
instance:MF @K0:=⟨λ_ _ _ _=>by unfold K0;exact ly lx⟩
instance:MF @Lx:=⟨λ_ _ _=>by unfold Lx;exact ly lx⟩
instance:MF @Jy:=⟨λ_ _ _ _=>by unfold Jy;exact ly lx⟩
instance:MF @IZ:=⟨λ_ _ _ _ _=>by unfold IZ;exact ly lx⟩
instance:MF @FA:=⟨λ_ _ _=>by unfold FA;exact ly lx⟩
instance:MF @Fo:=⟨λ_ _ _ _=>by unfold Fo;exact ly lx⟩
instance:MF @C9:=⟨λ_ _ _=>by unfold C9;exact ly lx⟩
instance:MF @Jq:=⟨λ_ _ _=>by unfold Jq;exact ly lx⟩
instance(N:Nat)(s_0:List Bw)(f' f:Bw->K1)[hf:∀y0,Mo (f' y0) (f y0)]:Mo (@Di (eN N) s_0 f') (@Di II s_0 f):=⟨by unfold Di;exact ly lx⟩
instance(N:Nat)(s_0:List Bw)(f' f:Bw->K1)[hf:∀y0,Mo (f' y0) (f y0)]:Mo (@CE (eN N) s_0 f') (@CE II s_0 f):=⟨by unfold CE;exact ly lx⟩
instance:MF @LP:=⟨λ_ _ _ _=>by unfold LP;exact ly lx⟩
instance:MF @Jp:=⟨λ_ _ _=>by unfold Jp;exact ly lx⟩
instance:MF @Ep:=⟨λ_ _ _=>by unfold Ep;exact ly lx⟩
instance:MF @Ee:=⟨λ_ _ _=>by unfold Ee;exact ly lx⟩
instance:MF @DK:=⟨λ_ _ _ _=>by unfold DK;exact ly lx⟩
instance:MF @DE:=⟨λ_ _ _ _=>by unfold DE;exact ly lx⟩
instance:MF @LN:=⟨λ_ _=>by unfold LN;exact ly lx⟩
instance:MF @G9:=⟨λ_ _ _ _=>by unfold G9;exact ly lx⟩
instance:MF @HV:=⟨λ_ _ _ _ _=>by unfold HV;exact ly lx⟩
instance(N:Nat)(s_0:List d5)(f' f:d5->K1)[hf:∀y0,Mo (f' y0) (f y0)]:Mo (@Ck (eN N) s_0 f') (@Ck II s_0 f):=⟨by unfold Ck;exact ly lx⟩
instance(N:Nat)(s_0:List d5)(f' f:d5->K1)[hf:∀y0,Mo (f' y0) (f y0)]:Mo (@Bq (eN N) s_0 f') (@Bq II s_0 f):=⟨by unfold Bq;exact ly lx⟩
theorem Lz(N:Nat):∀n m:Nat,n<=m->Mo (@BJ (eN N) n) (@BJ II m)/\Mo (@BW (eN N) n) (@BW II m)
 |0,_,_=>⟨⟨λ_=>Le.none _⟩,⟨λ_=>Le.none _⟩⟩|n+1,0,h=>absurd h U|n+1,m+1,h=>by
  obtain ⟨i0,i1⟩:=Lz N n m U;refine⟨?_,?_⟩
  .exact⟨λ_=>by unfold BJ;exact ly lx⟩
  .exact⟨λ_=>by unfold BW;exact ly lx⟩
theorem Qz(N n m:Nat)(h:n<=m):Mo (@BJ (eN N) n) (@BJ II m):=(Lz N n m h).1
instance:MF @Gl:=⟨λN _=>LL N λn hn=>(Qz N N n hn).le _⟩
theorem NY(N:Nat):∀n m:Nat,n<=m->Mo (@CC (eN N) n) (@CC II m)
 |0,_,_=>⟨λ_=>Le.none _⟩|n+1,0,h=>absurd h U|n+1,m+1,h=>by
  have ih:=NY N n m U;exact⟨λ_=>by unfold CC;exact ly lx⟩
instance:MF @Ix:=⟨λN _=>LL N λn hn=>(NY N N n hn).le _⟩
instance:MF @E8:=⟨λ_ _=>by unfold E8;exact ly lx⟩
instance:MF @EA:=⟨λ_ _ _ _=>by unfold EA;exact ly lx⟩
theorem OR(N:Nat):∀n m:Nat,n<=m->Mo (@Bz (eN N) n) (@Bz II m)
 |0,_,_=>⟨λ_ _ _=>Le.none _⟩|n+1,0,h=>absurd h U|n+1,m+1,h=>by
  have ih:=OR N n m U;exact⟨λ_ _ _=>by unfold Bz;exact ly lx⟩
instance:MF @Mv:=⟨λN _ _ _=>LL N λn hn=>(OR N N n hn).le _ _ _⟩
instance:MF @DA:=⟨λ_ _ _ _=>by unfold DA;exact ly lx⟩
instance:MF @IU:=⟨λ_ _ _=>by unfold IU;exact ly lx⟩
instance:MF @Ec:=⟨λ_ _ _ _=>by unfold Ec;exact ly lx⟩
instance:MF @Lu:=⟨λ_ _ _ _=>by unfold Lu;exact ly lx⟩
instance:MF @FY:=⟨λ_ _ _=>by unfold FY;exact ly lx⟩
instance:MF @FI:=⟨λ_ _ _ _=>by unfold FI;exact ly lx⟩
instance:MF @It:=⟨λ_ _ _=>by unfold It;exact ly lx⟩
instance:MF @GH:=⟨λ_ _=>by unfold GH;exact ly lx⟩
instance:MF @GI:=⟨λ_ _ _ _ _=>by unfold GI;exact ly lx⟩
instance:MF @FG:=⟨λ_ _ _ _ _ _=>by unfold FG;exact ly lx⟩
instance:MF @E6:=⟨λ_ _ _ _=>by unfold E6;exact ly lx⟩
instance:MF @EI:=⟨λ_ _ _ _ _=>by unfold EI;exact ly lx⟩
instance:MF @JT:=⟨λ_ _ _ _ _=>by unfold JT;exact ly lx⟩
instance:MF @FH:=⟨λ_ _ _ _ _=>by unfold FH;exact ly lx⟩
instance:MF @Cr:=⟨λ_ _=>by unfold Cr;exact ly lx⟩
instance:MF @GX:=⟨λ_ _ _ _ _=>by unfold GX;exact ly lx⟩
instance:MF @E7:=⟨λ_ _ _ _ _ _ _=>by unfold E7;exact ly lx⟩
instance:MF @G0:=⟨λ_ _ _=>by unfold G0;exact ly lx⟩
theorem Kt(N:Nat):∀n m:Nat,n<=m->Mo (@Aw (eN N) n) (@Aw II m)
 |0,_,_=>⟨λ_=>Le.none _⟩|n+1,0,h=>absurd h U|n+1,m+1,h=>by
  have ih:=Kt N n m U;exact⟨λ_=>by unfold Aw;exact ly lx⟩
instance:MF @GL:=⟨λN _=>LL N λn hn=>(Kt N N n hn).le _⟩
instance:MF @Ha:=⟨λ_ _ _ _ _ _ _=>by unfold Ha;exact ly lx⟩
instance:MF @Ls:=⟨λ_ _ _ _ _ _=>by unfold Ls;exact ly lx⟩
instance:MF @GZ:=⟨λ_ _ _ _ _ _=>by unfold GZ;exact ly lx⟩
instance:MF @B6:=⟨λ_ _ _ _=>by unfold B6;exact ly lx⟩
theorem I6(N:Nat):∀n m:Nat,n<=m->Mo (@Am (eN N) n) (@Am II m)/\Mo (@BG (eN N) n) (@BG II m)
 |0,_,_=>⟨⟨λ_ _ _=>Le.none _⟩,⟨λ_ _ _=>Le.none _⟩⟩|n+1,0,h=>absurd h U|n+1,m+1,h=>by
  obtain ⟨i0,i1⟩:=I6 N n m U;refine⟨?_,?_⟩
  .exact⟨λ_ _ _=>by unfold Am;exact ly lx⟩
  .exact⟨λ_ _ _=>by unfold BG;exact ly lx⟩
theorem OW(N n m:Nat)(h:n<=m):Mo (@Am (eN N) n) (@Am II m):=(I6 N n m h).1
instance:MF @Eu:=⟨λN _ _ _=>LL N λn hn=>(OW N N n hn).le _ _ _⟩
instance:MF @D9:=⟨λ_ _ _ _ _ _ _=>by unfold D9;exact ly lx⟩
instance:MF @DR:=⟨λ_ _ _ _ _ _ _=>by unfold DR;exact ly lx⟩
instance:MF @Jt:=⟨λ_ _ _=>by unfold Jt;exact ly lx⟩
instance:MF @IW:=⟨λ_ _ _ _=>by unfold IW;exact ly lx⟩
instance:MF @Oy:=⟨λ_ _ _ _ _=>by unfold Oy;exact ly lx⟩
instance:MF @Oz:=⟨λ_ _ _ _=>by unfold Oz;exact ly lx⟩
instance:MF @LR:=⟨λ_ _ _=>by unfold LR;exact ly lx⟩
instance:MF @Lt:=⟨λ_ _ _ _ _=>by unfold Lt;exact ly lx⟩
instance:MF @Js:=⟨λ_ _ _ _ _=>by unfold Js;exact ly lx⟩
instance:MF @Dm:=⟨λ_ _ _ _ _=>by unfold Dm;exact ly lx⟩
instance:MF @DO:=⟨λ_ _ _ _=>by unfold DO;exact ly lx⟩
instance:MF @DQ:=⟨λ_ _ _ _=>by unfold DQ;exact ly lx⟩
instance:MF @FO:=⟨λ_ _=>by unfold FO;exact ly lx⟩
instance:MF @DT:=⟨λ_ _=>by unfold DT;exact ly lx⟩
instance:MF @Eb:=⟨λ_ _ _ _=>by unfold Eb;exact ly lx⟩
instance:MF @EB:=⟨λ_ _ _ _ _=>by unfold EB;exact ly lx⟩
instance:MF @F5:=⟨λ_ _ _ _ _=>by unfold F5;exact ly lx⟩
instance:MF @FK:=⟨λ_ _ _ _ _=>by unfold FK;exact ly lx⟩
instance:MF @DB:=⟨λ_ _ _ _ _=>by unfold DB;exact ly lx⟩
instance:MF @Cn:=⟨λ_ _ _ _=>by unfold Cn;exact ly lx⟩
instance:MF @IY:=⟨λ_ _ _=>by unfold IY;exact ly lx⟩
instance:MF @F8:=⟨λ_=>by unfold F8;exact ly lx⟩
end Go.Sf.Sc
namespace Go.Sf.Sc
open Go Go.Sf
theorem oR:@F8 (eN 40)=some true:=d_
theorem kW:F8=some true:=
 LO (MF.le (f:=@F8) 40) _ oR
end Go.Sf.Sc
