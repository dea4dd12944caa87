/- Lemmas. -/
import Derived.Test.YtiaddfklojalbaaGreatFns
import Derived.Test.YtiaddfklojalbaaGreatSfPl
set_option linter.all false
set_option maxRecDepth 100000
namespace Go.Sf.Sc
open Go Go.Sf
instance(N:Nat)(s_0:List B6)(f' f:B6->K1)[hf:∀y0,Mo (f' y0) (f y0)]:Mo (@DR (eN N) s_0 f') (@DR HD s_0 f):=⟨by unfold DR;exact ly lx⟩
instance(N:Nat)(s_0:List B6)(f' f:B6->K1)[hf:∀y0,Mo (f' y0) (f y0)]:Mo (@BW (eN N) s_0 f') (@BW HD s_0 f):=⟨by unfold BW;exact ly lx⟩
instance(N:Nat)(s_0:ByteArray)(ok' ok:Int->K1)[hok:∀y0,Mo (ok' y0) (ok y0)]:Mo (@Hk (eN N) s_0 ok') (@Hk HD s_0 ok):=⟨by unfold Hk;exact ly lx⟩
instance:MF @IB:=⟨λ_ _=>by unfold IB;exact ly lx⟩
instance:MF @KD:=⟨λ_ _=>by unfold KD;exact ly lx⟩
instance:MF @Kj:=⟨λ_ _=>by unfold Kj;exact ly lx⟩
instance:MF @ES:=⟨λ_ _=>by unfold ES;exact ly lx⟩
theorem TC(N:Nat):∀n m:Nat,n<=m->Mo (@De (eN N) n) (@De HD m)
 |0,_,_=>⟨λ_ _=>Le.none _⟩|n+1,0,h=>absurd h U|n+1,m+1,h=>by
  have ih:=TC N n m U;exact⟨λ_ _=>by unfold De;exact ly lx⟩
instance:MF @Ma:=⟨λN _ _=>LL N λn hn=>(TC N N n hn).le _ _⟩
instance(N:Nat)(s_0:List gi)(f' f:gi->K1)[hf:∀y0,Mo (f' y0) (f y0)]:Mo (@ED (eN N) s_0 f') (@ED HD s_0 f):=⟨by unfold ED;exact ly lx⟩
instance(N:Nat)(s_0:List gi)(f' f:gi->K1)[hf:∀y0,Mo (f' y0) (f y0)]:Mo (@C7 (eN N) s_0 f') (@C7 HD s_0 f):=⟨by unfold C7;exact ly lx⟩
instance:MF @I9:=⟨λ_ _=>by unfold I9;exact ly lx⟩
instance:MF @GH:=⟨λ_ _ _=>by unfold GH;exact ly lx⟩
instance:MF @KG:=⟨λ_ _ _=>by unfold KG;exact ly lx⟩
instance(N:Nat)(s_0:List Cy)(f' f:Cy->K1)[hf:∀y0,Mo (f' y0) (f y0)]:Mo (@DQ (eN N) s_0 f') (@DQ HD s_0 f):=⟨by unfold DQ;exact ly lx⟩
instance(N:Nat)(s_0:List Cy)(f' f:Cy->K1)[hf:∀y0,Mo (f' y0) (f y0)]:Mo (@Cd (eN N) s_0 f') (@Cd HD s_0 f):=⟨by unfold Cd;exact ly lx⟩
instance:MF @KE:=⟨λ_ _ _=>by unfold KE;exact ly lx⟩
instance:MF @Dy:=⟨λ_ _=>by unfold Dy;exact ly lx⟩
instance:MF @G5:=⟨λ_ _ _=>by unfold G5;exact ly lx⟩
instance:MF @EY:=⟨λ_ _ _=>by unfold EY;exact ly lx⟩
instance(N:Nat)(s_0:Fp)(f' f:Int->K1)[hf:∀y0,Mo (f' y0) (f y0)]:Mo (@Ef (eN N) s_0 f') (@Ef HD s_0 f):=⟨by unfold Ef;exact ly lx⟩
instance(N:Nat)(s_0:Fp)(f' f:Int->K1)[hf:∀y0,Mo (f' y0) (f y0)]:Mo (@BE (eN N) s_0 f') (@BE HD s_0 f):=⟨by unfold BE;exact ly lx⟩
instance:MF @Gs:=⟨λ_ _ _=>by unfold Gs;exact ly lx⟩
instance:MF @Ly:=⟨λ_ _ _=>by unfold Ly;exact ly lx⟩
instance:MF @KF:=⟨λ_ _ _ _=>by unfold KF;exact ly lx⟩
instance:MF @Hf:=⟨λ_ _ _ _ _=>by unfold Hf;exact ly lx⟩
instance:MF @FO:=⟨λ_ _ _=>by unfold FO;exact ly lx⟩
instance(N:Nat)(s_0:List B3)(f' f:B3->K1)[hf:∀y0,Mo (f' y0) (f y0)]:Mo (@EE (eN N) s_0 f') (@EE HD s_0 f):=⟨by unfold EE;exact ly lx⟩
instance(N:Nat)(s_0:List B3)(f' f:B3->K1)[hf:∀y0,Mo (f' y0) (f y0)]:Mo (@BV (eN N) s_0 f') (@BV HD s_0 f):=⟨by unfold BV;exact ly lx⟩
instance:MF @Dh:=⟨λ_ _=>by unfold Dh;exact ly lx⟩
instance:MF @FG:=⟨λ_ _ _=>by unfold FG;exact ly lx⟩
instance:MF @Ge:=⟨λ_ _ _ _=>by unfold Ge;exact ly lx⟩
instance:MF @Df:=⟨λ_ _ _=>by unfold Df;exact ly lx⟩
instance:MF @J7:=⟨λ_ _ _=>by unfold J7;exact ly lx⟩
instance(N:Nat)(s_0:List Dj)(f' f:Dj->K1)[hf:∀y0,Mo (f' y0) (f y0)]:Mo (@EF (eN N) s_0 f') (@EF HD s_0 f):=⟨by unfold EF;exact ly lx⟩
instance(N:Nat)(s_0:List Dj)(f' f:Dj->K1)[hf:∀y0,Mo (f' y0) (f y0)]:Mo (@Cp (eN N) s_0 f') (@Cp HD s_0 f):=⟨by unfold Cp;exact ly lx⟩
instance:MF @LQ:=⟨λ_ _ _ _=>by unfold LQ;exact ly lx⟩
instance:MF @J6:=⟨λ_ _ _=>by unfold J6;exact ly lx⟩
instance:MF @Dd:=⟨λ_ _ _ _=>by unfold Dd;exact ly lx⟩
instance:MF @Cn:=⟨λ_ _ _ _=>by unfold Cn;exact ly lx⟩
instance:MF @FY:=⟨λ_ _ _=>by unfold FY;exact ly lx⟩
instance:MF @ER:=⟨λ_ _ _=>by unfold ER;exact ly lx⟩
instance:MF @LP:=⟨λ_ _=>by unfold LP;exact ly lx⟩
instance:MF @Hl:=⟨λ_ _ _ _=>by unfold Hl;exact ly lx⟩
instance:MF @H7:=⟨λ_ _ _ _ _=>by unfold H7;exact ly lx⟩
instance(N:Nat)(s_0:List c8)(f' f:c8->K1)[hf:∀y0,Mo (f' y0) (f y0)]:Mo (@DF (eN N) s_0 f') (@DF HD s_0 f):=⟨by unfold DF;exact ly lx⟩
instance(N:Nat)(s_0:List c8)(f' f:c8->K1)[hf:∀y0,Mo (f' y0) (f y0)]:Mo (@CC (eN N) s_0 f') (@CC HD s_0 f):=⟨by unfold CC;exact ly lx⟩
theorem L4(N:Nat):∀n m:Nat,n<=m->Mo (@Bf (eN N) n) (@Bf HD m)/\Mo (@Bv (eN N) n) (@Bv HD m)
 |0,_,_=>⟨⟨λ_=>Le.none _⟩,⟨λ_=>Le.none _⟩⟩|n+1,0,h=>absurd h U|n+1,m+1,h=>by
  obtain ⟨i0,i1⟩:=L4 N n m U;refine⟨?_,?_⟩
  .exact⟨λ_=>by unfold Bf;exact ly lx⟩
  .exact⟨λ_=>by unfold Bv;exact ly lx⟩
theorem Qd(N n m:Nat)(h:n<=m):Mo (@Bf (eN N) n) (@Bf HD m):=(L4 N n m h).1
instance:MF @HZ:=⟨λN _=>LL N λn hn=>(Qd N N n hn).le _⟩
theorem NQ(N:Nat):∀n m:Nat,n<=m->Mo (@Cl (eN N) n) (@Cl HD m)
 |0,_,_=>⟨λ_=>Le.none _⟩|n+1,0,h=>absurd h U|n+1,m+1,h=>by
  have ih:=NQ N n m U;exact⟨λ_=>by unfold Cl;exact ly lx⟩
instance:MF @JB:=⟨λN _=>LL N λn hn=>(NQ N N n hn).le _⟩
instance:MF @F3:=⟨λ_ _=>by unfold F3;exact ly lx⟩
instance:MF @Eo:=⟨λ_ _ _ _=>by unfold Eo;exact ly lx⟩
theorem OB(N:Nat):∀n m:Nat,n<=m->Mo (@CP (eN N) n) (@CP HD m)
 |0,_,_=>⟨λ_ _ _=>Le.none _⟩|n+1,0,h=>absurd h U|n+1,m+1,h=>by
  have ih:=OB N n m U;exact⟨λ_ _ _=>by unfold CP;exact ly lx⟩
instance:MF @Mu:=⟨λN _ _ _=>LL N λn hn=>(OB N N n hn).le _ _ _⟩
instance:MF @Dg:=⟨λ_ _ _ _=>by unfold Dg;exact ly lx⟩
instance:MF @Is:=⟨λ_ _ _=>by unfold Is;exact ly lx⟩
instance:MF @FN:=⟨λ_ _ _ _=>by unfold FN;exact ly lx⟩
instance:MF @CY:=⟨λ_ _=>by unfold CY;exact ly lx⟩
instance:MF @K9:=⟨λ_ _ _ _=>by unfold K9;exact ly lx⟩
instance:MF @Ec:=⟨λ_ _ _=>by unfold Ec;exact ly lx⟩
instance:MF @Lv:=⟨λ_ _ _ _=>by unfold Lv;exact ly lx⟩
instance:MF @GM:=⟨λ_ _ _=>by unfold GM;exact ly lx⟩
instance:MF @FE:=⟨λ_ _ _ _=>by unfold FE;exact ly lx⟩
instance:MF @I8:=⟨λ_ _ _=>by unfold I8;exact ly lx⟩
instance:MF @G0:=⟨λ_ _=>by unfold G0;exact ly lx⟩
instance:MF @G2:=⟨λ_ _ _ _ _=>by unfold G2;exact ly lx⟩
instance:MF @GD:=⟨λ_ _ _ _ _ _=>by unfold GD;exact ly lx⟩
instance:MF @F1:=⟨λ_ _ _ _=>by unfold F1;exact ly lx⟩
instance:MF @Ew:=⟨λ_ _ _ _ _=>by unfold Ew;exact ly lx⟩
instance:MF @Jk:=⟨λ_ _ _ _ _=>by unfold Jk;exact ly lx⟩
instance:MF @GE:=⟨λ_ _ _ _ _=>by unfold GE;exact ly lx⟩
instance:MF @DO:=⟨λ_ _=>by unfold DO;exact ly lx⟩
instance:MF @HK:=⟨λ_ _ _ _ _=>by unfold HK;exact ly lx⟩
instance:MF @F2:=⟨λ_ _ _ _ _ _ _=>by unfold F2;exact ly lx⟩
theorem K4(N:Nat):∀n m:Nat,n<=m->Mo (@A8 (eN N) n) (@A8 HD m)
 |0,_,_=>⟨λ_=>Le.none _⟩|n+1,0,h=>absurd h U|n+1,m+1,h=>by
  have ih:=K4 N n m U;exact⟨λ_=>by unfold A8;exact ly lx⟩
instance:MF @G7:=⟨λN _=>LL N λn hn=>(K4 N N n hn).le _⟩
instance:MF @GF:=⟨λ_ _ _ _ _ _ _=>by unfold GF;exact ly lx⟩
instance:MF @It:=⟨λ_ _ _ _ _ _=>by unfold It;exact ly lx⟩
instance:MF @Hj:=⟨λ_ _ _=>by unfold Hj;exact ly lx⟩
instance:MF @HM:=⟨λ_ _ _ _ _ _=>by unfold HM;exact ly lx⟩
instance:MF @Cb:=⟨λ_ _ _ _=>by unfold Cb;exact ly lx⟩
theorem JQ(N:Nat):∀n m:Nat,n<=m->Mo (@A1 (eN N) n) (@A1 HD m)/\Mo (@Bc (eN N) n) (@Bc HD m)
 |0,_,_=>⟨⟨λ_ _ _=>Le.none _⟩,⟨λ_ _ _=>Le.none _⟩⟩|n+1,0,h=>absurd h U|n+1,m+1,h=>by
  obtain ⟨i0,i1⟩:=JQ N n m U;refine⟨?_,?_⟩
  .exact⟨λ_ _ _=>by unfold A1;exact ly lx⟩
  .exact⟨λ_ _ _=>by unfold Bc;exact ly lx⟩
theorem OH(N n m:Nat)(h:n<=m):Mo (@A1 (eN N) n) (@A1 HD m):=(JQ N n m h).1
instance:MF @Fg:=⟨λN _ _ _=>LL N λn hn=>(OH N N n hn).le _ _ _⟩
instance:MF @Em:=⟨λ_ _ _ _ _ _ _=>by unfold Em;exact ly lx⟩
instance:MF @D3:=⟨λ_ _ _ _ _ _ _=>by unfold D3;exact ly lx⟩
instance:MF @KC:=⟨λ_ _ _=>by unfold KC;exact ly lx⟩
instance:MF @Iv:=⟨λ_ _ _ _=>by unfold Iv;exact ly lx⟩
instance:MF @Og:=⟨λ_ _ _ _ _=>by unfold Og;exact ly lx⟩
instance:MF @Oh:=⟨λ_ _ _ _=>by unfold Oh;exact ly lx⟩
instance:MF @LU:=⟨λ_ _ _=>by unfold LU;exact ly lx⟩
instance:MF @Lu:=⟨λ_ _ _ _ _=>by unfold Lu;exact ly lx⟩
instance:MF @KB:=⟨λ_ _ _ _ _=>by unfold KB;exact ly lx⟩
instance:MF @GG:=⟨λ_ _ _ _ _=>by unfold GG;exact ly lx⟩
instance:MF @D5:=⟨λ_ _ _ _=>by unfold D5;exact ly lx⟩
instance:MF @DK:=⟨λ_ _ _ _ _=>by unfold DK;exact ly lx⟩
instance:MF @B4:=⟨λ_ _ _ _=>by unfold B4;exact ly lx⟩
instance:MF @J8:=⟨λ_ _ _ _ _=>by unfold J8;exact ly lx⟩
theorem JP(N:Nat):∀n m:Nat,n<=m->Mo (@A9 (eN N) n) (@A9 HD m)/\Mo (@Ba (eN N) n) (@Ba HD m)
 |0,_,_=>⟨⟨λ_ _=>Le.none _⟩,⟨λ_ _ _ _=>Le.none _⟩⟩|n+1,0,h=>absurd h U|n+1,m+1,h=>by
  obtain ⟨i0,i1⟩:=JP N n m U;refine⟨?_,?_⟩
  .exact⟨λ_ _=>by unfold A9;exact ly lx⟩
  .exact⟨λ_ _ _ _=>by unfold Ba;exact ly lx⟩
theorem OG(N n m:Nat)(h:n<=m):Mo (@A9 (eN N) n) (@A9 HD m):=(JP N n m h).1
instance:MF @Ff:=⟨λN _ _=>LL N λn hn=>(OG N N n hn).le _ _⟩
instance:MF @B5:=⟨λ_ _ _ _=>by unfold B5;exact ly lx⟩
instance:MF @DX:=⟨λ_ _ _ _ _=>by unfold DX;exact ly lx⟩
instance:MF @LH:=⟨λ_ _ _ _=>by unfold LH;exact ly lx⟩
instance:MF @H0:=⟨λ_ _ _=>by unfold H0;exact ly lx⟩
instance:MF @LG:=⟨λ_ _ _=>by unfold LG;exact ly lx⟩
instance:MF @Kb:=⟨λ_ _=>by unfold Kb;exact ly lx⟩
instance:MF @EP:=⟨λ_ _=>by unfold EP;exact ly lx⟩
theorem ST(N:Nat):∀n m:Nat,n<=m->Mo (@EQ (eN N) n) (@EQ HD m)
 |0,_,_=>⟨λ_ _=>Le.none _⟩|n+1,0,h=>absurd h U|n+1,m+1,h=>by
  have ih:=ST N n m U;exact⟨λ_ _=>by unfold EQ;exact ly lx⟩
instance:MF @MI:=⟨λN _ _=>LL N λn hn=>(ST N N n hn).le _ _⟩
instance:MF @I2:=⟨λ_ _=>by unfold I2;exact ly lx⟩
instance:MF @F9:=⟨λ_ _=>by unfold F9;exact ly lx⟩
instance:MF @J3:=⟨λ_ _ _=>by unfold J3;exact ly lx⟩
instance:MF @J2:=⟨λ_ _ _=>by unfold J2;exact ly lx⟩
instance:MF @EW:=⟨λ_ _=>by unfold EW;exact ly lx⟩
instance:MF @Hh:=⟨λ_ _ _ _=>by unfold Hh;exact ly lx⟩
theorem RB(N:Nat):∀n m:Nat,n<=m->Mo (@Dt (eN N) n) (@Dt HD m)
 |0,_,_=>⟨λ_ _ _=>Le.none _⟩|n+1,0,h=>absurd h U|n+1,m+1,h=>by
  have ih:=RB N n m U;exact⟨λ_ _ _=>by unfold Dt;exact ly lx⟩
instance:MF @H4:=⟨λN _ _ _=>LL N λn hn=>(RB N N n hn).le _ _ _⟩
instance:MF @F8:=⟨λ_ _ _ _ _=>by unfold F8;exact ly lx⟩
instance:MF @Fr:=⟨λ_ _ _=>by unfold Fr;exact ly lx⟩
instance:MF @Nn:=⟨λ_ _ _=>by unfold Nn;exact ly lx⟩
instance:MF @Lq:=⟨λ_ _=>by unfold Lq;exact ly lx⟩
instance:MF @J5:=⟨λ_=>by unfold J5;exact ly lx⟩
instance:MF @Dx:=⟨λ_=>by unfold Dx;exact ly lx⟩
end Go.Sf.Sc
namespace Go.Sf.Sc
open Go Go.Sf
theorem rD:@Dx (eN 40)=some true:=b!
theorem Wg:Dx=some true:=
 LO (MF.le (f:=@Dx) 40) _ rD
end Go.Sf.Sc
