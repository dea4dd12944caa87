/- Lemmas. -/
import Derived.Test.YtfcfkigfmofniaaGreatFns
import Derived.Test.YtfcfkigfmofniaaGreatSfPl
set_option linter.all false
set_option maxRecDepth 100000
namespace Go.Sf.Sc
open Go Go.Sf
instance(N:Nat)(s_0:ByteArray)(ok' ok:Int->K1)[hok:∀y0,Mo (ok' y0) (ok y0)]:Mo (@G0 (eN N) s_0 ok') (@G0 ID s_0 ok):=⟨by unfold G0;exact ly lx⟩
instance:MF @HZ:=⟨fun _ _=>by unfold HZ;exact ly lx⟩
instance:MF @Js:=⟨fun _ _=>by unfold Js;exact ly lx⟩
instance:MF @KY:=⟨fun _ _=>by unfold KY;exact ly lx⟩
instance:MF @Do:=⟨fun _ _=>by unfold Do;exact ly lx⟩
instance(N:Nat)(s_0:List BD)(f' f:BD->K1)[hf:∀y0,Mo (f' y0) (f y0)]:Mo (@Cu (eN N) s_0 f') (@Cu ID s_0 f):=⟨by unfold Cu;exact ly lx⟩
instance(N:Nat)(s_0:List BD)(f' f:BD->K1)[hf:∀y0,Mo (f' y0) (f y0)]:Mo (@B8 (eN N) s_0 f') (@B8 ID s_0 f):=⟨by unfold B8;exact ly lx⟩
theorem R9(N:Nat):∀n m:Nat,n<=m->Mo (@C7 (eN N) n) (@C7 ID m)
 |0,_,_=>⟨fun _ _=>Le.none _⟩|n+1,0,h=>absurd h (by omega)|n+1,m+1,h=>by
  have ih:=R9 N n m (by omega);exact⟨fun _ _=>by unfold C7;exact ly lx⟩
instance:MF @MZ:=⟨fun N _ _=>LL N fun n hn=>(R9 N N n hn).le _ _⟩
instance(N:Nat)(s_0:List kq)(f' f:kq->K1)[hf:∀y0,Mo (f' y0) (f y0)]:Mo (@Dd (eN N) s_0 f') (@Dd ID s_0 f):=⟨by unfold Dd;exact ly lx⟩
instance(N:Nat)(s_0:List kq)(f' f:kq->K1)[hf:∀y0,Mo (f' y0) (f y0)]:Mo (@CW (eN N) s_0 f') (@CW ID s_0 f):=⟨by unfold CW;exact ly lx⟩
instance:MF @Io:=⟨fun _ _=>by unfold Io;exact ly lx⟩
instance:MF @FH:=⟨fun _ _ _=>by unfold FH;exact ly lx⟩
instance:MF @Jv:=⟨fun _ _ _=>by unfold Jv;exact ly lx⟩
instance(N:Nat)(s_0:List CI)(f' f:CI->K1)[hf:∀y0,Mo (f' y0) (f y0)]:Mo (@Cs (eN N) s_0 f') (@Cs ID s_0 f):=⟨by unfold Cs;exact ly lx⟩
instance(N:Nat)(s_0:List CI)(f' f:CI->K1)[hf:∀y0,Mo (f' y0) (f y0)]:Mo (@B7 (eN N) s_0 f') (@B7 ID s_0 f):=⟨by unfold B7;exact ly lx⟩
instance:MF @Jt:=⟨fun _ _ _=>by unfold Jt;exact ly lx⟩
instance:MF @DL:=⟨fun _ _=>by unfold DL;exact ly lx⟩
instance(N:Nat)(s_0:Fp)(f' f:Int->K1)[hf:∀y0,Mo (f' y0) (f y0)]:Mo (@Dv (eN N) s_0 f') (@Dv ID s_0 f):=⟨by unfold Dv;exact ly lx⟩
instance(N:Nat)(s_0:Fp)(f' f:Int->K1)[hf:∀y0,Mo (f' y0) (f y0)]:Mo (@A0 (eN N) s_0 f') (@A0 ID s_0 f):=⟨by unfold A0;exact ly lx⟩
instance(N:Nat)(s_0:List Bn)(f' f:Bn->K1)[hf:∀y0,Mo (f' y0) (f y0)]:Mo (@De (eN N) s_0 f') (@De ID s_0 f):=⟨by unfold De;exact ly lx⟩
instance(N:Nat)(s_0:List Bn)(f' f:Bn->K1)[hf:∀y0,Mo (f' y0) (f y0)]:Mo (@BP (eN N) s_0 f') (@BP ID s_0 f):=⟨by unfold BP;exact ly lx⟩
instance:MF @Co:=⟨fun _ _=>by unfold Co;exact ly lx⟩
instance:MF @F8:=⟨fun _ _ _=>by unfold F8;exact ly lx⟩
instance:MF @EM:=⟨fun _ _ _=>by unfold EM;exact ly lx⟩
instance:MF @Kw:=⟨fun _ _ _ _=>by unfold Kw;exact ly lx⟩
instance:MF @Lx:=⟨fun _ _ _=>by unfold Lx;exact ly lx⟩
instance:MF @Ju:=⟨fun _ _ _ _=>by unfold Ju;exact ly lx⟩
instance:MF @IT:=⟨fun _ _ _ _ _=>by unfold IT;exact ly lx⟩
instance:MF @E5:=⟨fun _ _ _=>by unfold E5;exact ly lx⟩
instance:MF @Fc:=⟨fun _ _ _ _=>by unfold Fc;exact ly lx⟩
instance:MF @C9:=⟨fun _ _ _=>by unfold C9;exact ly lx⟩
instance:MF @Jm:=⟨fun _ _ _=>by unfold Jm;exact ly lx⟩
instance(N:Nat)(s_0:List Bw)(f' f:Bw->K1)[hf:∀y0,Mo (f' y0) (f y0)]:Mo (@Df (eN N) s_0 f') (@Df ID s_0 f):=⟨by unfold Df;exact ly lx⟩
instance(N:Nat)(s_0:List Bw)(f' f:Bw->K1)[hf:∀y0,Mo (f' y0) (f y0)]:Mo (@CE (eN N) s_0 f') (@CE ID s_0 f):=⟨by unfold CE;exact ly lx⟩
instance:MF @LJ:=⟨fun _ _ _ _=>by unfold LJ;exact ly lx⟩
instance:MF @Jl:=⟨fun _ _ _=>by unfold Jl;exact ly lx⟩
instance:MF @Eh:=⟨fun _ _ _=>by unfold Eh;exact ly lx⟩
instance:MF @EX:=⟨fun _ _ _=>by unfold EX;exact ly lx⟩
instance:MF @DJ:=⟨fun _ _ _ _=>by unfold DJ;exact ly lx⟩
instance:MF @DD:=⟨fun _ _ _ _=>by unfold DD;exact ly lx⟩
instance:MF @LI:=⟨fun _ _=>by unfold LI;exact ly lx⟩
instance:MF @G5:=⟨fun _ _ _ _=>by unfold G5;exact ly lx⟩
instance:MF @HP:=⟨fun _ _ _ _ _=>by unfold HP;exact ly lx⟩
instance(N:Nat)(s_0:List d5)(f' f:d5->K1)[hf:∀y0,Mo (f' y0) (f y0)]:Mo (@Ck (eN N) s_0 f') (@Ck ID s_0 f):=⟨by unfold Ck;exact ly lx⟩
instance(N:Nat)(s_0:List d5)(f' f:d5->K1)[hf:∀y0,Mo (f' y0) (f y0)]:Mo (@Bq (eN N) s_0 f') (@Bq ID s_0 f):=⟨by unfold Bq;exact ly lx⟩
theorem Lz(N:Nat):∀n m:Nat,n<=m->Mo (@BJ (eN N) n) (@BJ ID m)/\Mo (@BV (eN N) n) (@BV ID m)
 |0,_,_=>⟨⟨fun _=>Le.none _⟩,⟨fun _=>Le.none _⟩⟩|n+1,0,h=>absurd h (by omega)|n+1,m+1,h=>by
  obtain ⟨i0,i1⟩:=Lz N n m (by omega);refine⟨?_,?_⟩
  .exact⟨fun _=>by unfold BJ;exact ly lx⟩
  .exact⟨fun _=>by unfold BV;exact ly lx⟩
theorem Qp(N n m:Nat)(h:n<=m):Mo (@BJ (eN N) n) (@BJ ID m):=(Lz N n m h).1
instance:MF @Gi:=⟨fun N _=>LL N fun n hn=>(Qp N N n hn).le _⟩
theorem NW(N:Nat):∀n m:Nat,n<=m->Mo (@CC (eN N) n) (@CC ID m)
 |0,_,_=>⟨fun _=>Le.none _⟩|n+1,0,h=>absurd h (by omega)|n+1,m+1,h=>by
  have ih:=NW N n m (by omega);exact⟨fun _=>by unfold CC;exact ly lx⟩
instance:MF @Is:=⟨fun N _=>LL N fun n hn=>(NW N N n hn).le _⟩
instance:MF @E2:=⟨fun _ _=>by unfold E2;exact ly lx⟩
instance:MF @D4:=⟨fun _ _ _ _=>by unfold D4;exact ly lx⟩
theorem ON(N:Nat):∀n m:Nat,n<=m->Mo (@Bz (eN N) n) (@Bz ID m)
 |0,_,_=>⟨fun _ _ _=>Le.none _⟩|n+1,0,h=>absurd h (by omega)|n+1,m+1,h=>by
  have ih:=ON N n m (by omega);exact⟨fun _ _ _=>by unfold Bz;exact ly lx⟩
instance:MF @Mu:=⟨fun N _ _ _=>LL N fun n hn=>(ON N N n hn).le _ _ _⟩
instance:MF @DA:=⟨fun _ _ _ _=>by unfold DA;exact ly lx⟩
instance:MF @IN:=⟨fun _ _ _=>by unfold IN;exact ly lx⟩
instance:MF @EU:=⟨fun _ _ _ _=>by unfold EU;exact ly lx⟩
instance:MF @Lu:=⟨fun _ _ _ _=>by unfold Lu;exact ly lx⟩
instance:MF @FR:=⟨fun _ _ _=>by unfold FR;exact ly lx⟩
instance:MF @FC:=⟨fun _ _ _ _=>by unfold FC;exact ly lx⟩
instance:MF @Im:=⟨fun _ _ _=>by unfold Im;exact ly lx⟩
instance:MF @GE:=⟨fun _ _=>by unfold GE;exact ly lx⟩
instance:MF @GF:=⟨fun _ _ _ _ _=>by unfold GF;exact ly lx⟩
instance:MF @FA:=⟨fun _ _ _ _ _ _=>by unfold FA;exact ly lx⟩
instance:MF @E0:=⟨fun _ _ _ _=>by unfold E0;exact ly lx⟩
instance:MF @EB:=⟨fun _ _ _ _ _=>by unfold EB;exact ly lx⟩
instance:MF @JP:=⟨fun _ _ _ _ _=>by unfold JP;exact ly lx⟩
instance:MF @FB:=⟨fun _ _ _ _ _=>by unfold FB;exact ly lx⟩
instance:MF @Cq:=⟨fun _ _=>by unfold Cq;exact ly lx⟩
instance:MF @GU:=⟨fun _ _ _ _ _=>by unfold GU;exact ly lx⟩
instance:MF @E1:=⟨fun _ _ _ _ _ _ _=>by unfold E1;exact ly lx⟩
instance:MF @Gy:=⟨fun _ _ _=>by unfold Gy;exact ly lx⟩
theorem Kn(N:Nat):∀n m:Nat,n<=m->Mo (@Aw (eN N) n) (@Aw ID m)
 |0,_,_=>⟨fun _=>Le.none _⟩|n+1,0,h=>absurd h (by omega)|n+1,m+1,h=>by
  have ih:=Kn N n m (by omega);exact⟨fun _=>by unfold Aw;exact ly lx⟩
instance:MF @GJ:=⟨fun N _=>LL N fun n hn=>(Kn N N n hn).le _⟩
instance:MF @HT:=⟨fun _ _ _ _ _ _ _=>by unfold HT;exact ly lx⟩
instance:MF @Ls:=⟨fun _ _ _ _ _ _=>by unfold Ls;exact ly lx⟩
instance:MF @GW:=⟨fun _ _ _ _ _ _=>by unfold GW;exact ly lx⟩
instance:MF @B6:=⟨fun _ _ _ _=>by unfold B6;exact ly lx⟩
theorem I2(N:Nat):∀n m:Nat,n<=m->Mo (@Am (eN N) n) (@Am ID m)/\Mo (@BG (eN N) n) (@BG ID m)
 |0,_,_=>⟨⟨fun _ _ _=>Le.none _⟩,⟨fun _ _ _=>Le.none _⟩⟩|n+1,0,h=>absurd h (by omega)|n+1,m+1,h=>by
  obtain ⟨i0,i1⟩:=I2 N n m (by omega);refine⟨?_,?_⟩
  .exact⟨fun _ _ _=>by unfold Am;exact ly lx⟩
  .exact⟨fun _ _ _=>by unfold BG;exact ly lx⟩
theorem OS(N n m:Nat)(h:n<=m):Mo (@Am (eN N) n) (@Am ID m):=(I2 N n m h).1
instance:MF @El:=⟨fun N _ _ _=>LL N fun n hn=>(OS N N n hn).le _ _ _⟩
instance:MF @D3:=⟨fun _ _ _ _ _ _ _=>by unfold D3;exact ly lx⟩
instance:MF @DP:=⟨fun _ _ _ _ _ _ _=>by unfold DP;exact ly lx⟩
instance:MF @Jp:=⟨fun _ _ _=>by unfold Jp;exact ly lx⟩
instance:MF @IQ:=⟨fun _ _ _ _=>by unfold IQ;exact ly lx⟩
instance:MF @Ou:=⟨fun _ _ _ _ _=>by unfold Ou;exact ly lx⟩
instance:MF @Ov:=⟨fun _ _ _ _=>by unfold Ov;exact ly lx⟩
instance:MF @LM:=⟨fun _ _ _=>by unfold LM;exact ly lx⟩
instance:MF @Lt:=⟨fun _ _ _ _ _=>by unfold Lt;exact ly lx⟩
instance:MF @Jo:=⟨fun _ _ _ _ _=>by unfold Jo;exact ly lx⟩
instance:MF @Dj:=⟨fun _ _ _ _ _=>by unfold Dj;exact ly lx⟩
instance:MF @DN:=⟨fun _ _ _ _=>by unfold DN;exact ly lx⟩
instance:MF @Cz:=⟨fun _ _ _ _=>by unfold Cz;exact ly lx⟩
instance:MF @FJ:=⟨fun _ _=>by unfold FJ;exact ly lx⟩
instance:MF @DQ:=⟨fun _ _=>by unfold DQ;exact ly lx⟩
instance:MF @DE:=⟨fun _ _ _ _=>by unfold DE;exact ly lx⟩
instance:MF @D5:=⟨fun _ _ _ _ _=>by unfold D5;exact ly lx⟩
instance:MF @Fy:=⟨fun _ _ _ _ _=>by unfold Fy;exact ly lx⟩
instance:MF @FG:=⟨fun _ _ _ _ _=>by unfold FG;exact ly lx⟩
instance:MF @EE:=⟨fun _ _ _ _ _=>by unfold EE;exact ly lx⟩
instance:MF @FE:=⟨fun _ _ _ _=>by unfold FE;exact ly lx⟩
instance:MF @IS:=⟨fun _ _ _=>by unfold IS;exact ly lx⟩
instance:MF @F5:=⟨fun _=>by unfold F5;exact ly lx⟩
end Go.Sf.Sc
namespace Go.Sf.Sc
open Go Go.Sf
theorem oD:@F5 (eN 40)=some true:=by decide +kernel
theorem kH:F5=some true:=
 LO (MF.le (f:=@F5) 40) _ oD
end Go.Sf.Sc
