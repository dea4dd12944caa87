/- Lemmas. -/
import Derived.Test.YtmbomnkcdolalaaGreatFns
import Derived.Test.YtmbomnkcdolalaaGreatSfPl
set_option linter.all false
set_option maxRecDepth 100000
namespace Go.Sf.Sc
open Go Go.Sf
instance(N:Nat)(s_0:ByteArray)(ok' ok:Int->K1)[hok:∀y0,Mo (ok' y0) (ok y0)]:Mo (@GV (eN N) s_0 ok') (@GV BF s_0 ok):=⟨by unfold GV;exact lx⟩
instance(N:Nat)(s_0:ByteArray):Mo (@Fh (eN N) s_0) (@Fh BF s_0):=⟨by unfold Fh;exact lx⟩
instance(N:Nat)(s_0:ByteArray):Mo (@Hj (eN N) s_0) (@Hj BF s_0):=⟨by unfold Hj;exact lx⟩
instance(N:Nat)(t:EH):Mo (@Hy (eN N) t) (@Hy BF t):=⟨by unfold Hy;exact lx⟩
instance(N:Nat)(s_0:ByteArray):Mo (@C8 (eN N) s_0) (@C8 BF s_0):=⟨by unfold C8;exact lx⟩
instance(N:Nat)(s_0:List B0)(f' f:B0->K1)[hf:∀y0,Mo (f' y0) (f y0)]:Mo (@Cm (eN N) s_0 f') (@Cm BF s_0 f):=⟨by unfold Cm;exact lx⟩
instance(N:Nat)(s_0:List B0)(f' f:B0->K1)[hf:∀y0,Mo (f' y0) (f y0)]:Mo (@B5 (eN N) s_0 f') (@B5 BF s_0 f):=⟨by unfold B5;exact lx⟩
theorem P4(N:Nat):∀n m:Nat,n<=m->(∀(a0:AC)(a1:Int),Mo (@Cz (eN N) n a0 a1) (@Cz BF m a0 a1))
 |0,_,_=>fun _ _=>⟨Le.none _⟩|n+1,0,h=>absurd h (by omega)|n+1,m+1,h=>by
  have ih:=P4 N n m (by omega);exact fun _ _=>⟨by unfold Cz;exact lx⟩
instance(N:Nat)(t:AC)(a:Int):Mo (@JU (eN N) t a) (@JU BF t a):=⟨LL N fun n hn=>(P4 N N n hn _ _).le⟩
instance(N:Nat)(s_0:List kp)(f' f:kp->K1)[hf:∀y0,Mo (f' y0) (f y0)]:Mo (@DQ (eN N) s_0 f') (@DQ BF s_0 f):=⟨by unfold DQ;exact lx⟩
instance(N:Nat)(s_0:List kp)(f' f:kp->K1)[hf:∀y0,Mo (f' y0) (f y0)]:Mo (@CR (eN N) s_0 f') (@CR BF s_0 f):=⟨by unfold CR;exact lx⟩
instance(N:Nat)(l:List ByteArray):Mo (@GX (eN N) l) (@GX BF l):=⟨by unfold GX;exact lx⟩
instance(N:Nat)(x_0:kp)(before:List kp):Mo (@D4 (eN N) x_0 before) (@D4 BF x_0 before):=⟨by unfold D4;exact lx⟩
instance(N:Nat)(t:AC)(i_1:Int):Mo (@Hl (eN N) t i_1) (@Hl BF t i_1):=⟨by unfold Hl;exact lx⟩
instance(N:Nat)(s_0:List B9)(f' f:B9->K1)[hf:∀y0,Mo (f' y0) (f y0)]:Mo (@Cl (eN N) s_0 f') (@Cl BF s_0 f):=⟨by unfold Cl;exact lx⟩
instance(N:Nat)(s_0:List B9)(f' f:B9->K1)[hf:∀y0,Mo (f' y0) (f y0)]:Mo (@B4 (eN N) s_0 f') (@B4 BF s_0 f):=⟨by unfold B4;exact lx⟩
instance(N:Nat)(t:AC)(i_1:Int):Mo (@Hk (eN N) t i_1) (@Hk BF t i_1):=⟨by unfold Hk;exact lx⟩
instance(N:Nat)(t:AC):Mo (@C1 (eN N) t) (@C1 BF t):=⟨by unfold C1;exact lx⟩
instance(N:Nat)(s_0:Fp)(f' f:Int->K1)[hf:∀y0,Mo (f' y0) (f y0)]:Mo (@Dn (eN N) s_0 f') (@Dn BF s_0 f):=⟨by unfold Dn;exact lx⟩
instance(N:Nat)(s_0:Fp)(f' f:Int->K1)[hf:∀y0,Mo (f' y0) (f y0)]:Mo (@Az (eN N) s_0 f') (@Az BF s_0 f):=⟨by unfold Az;exact lx⟩
instance(N:Nat)(s_0:List Bf)(f' f:Bf->K1)[hf:∀y0,Mo (f' y0) (f y0)]:Mo (@DR (eN N) s_0 f') (@DR BF s_0 f):=⟨by unfold DR;exact lx⟩
instance(N:Nat)(s_0:List Bf)(f' f:Bf->K1)[hf:∀y0,Mo (f' y0) (f y0)]:Mo (@BN (eN N) s_0 f') (@BN BF s_0 f):=⟨by unfold BN;exact lx⟩
instance(N:Nat)(g:d4):Mo (@CU (eN N) g) (@CU BF g):=⟨by unfold CU;exact lx⟩
instance(N:Nat)(t:AC)(l:Fp):Mo (@El (eN N) t l) (@El BF t l):=⟨by unfold El;exact lx⟩
instance(N:Nat)(t:AC)(a:Int):Mo (@Dh (eN N) t a) (@Dh BF t a):=⟨by unfold Dh;exact lx⟩
instance(N:Nat)(t:AC)(kind:Int)(A1:Fp):Mo (@IW (eN N) t kind A1) (@IW BF t kind A1):=⟨by unfold IW;exact lx⟩
instance(N:Nat)(t:AC)(a:Int):Mo (@I1 (eN N) t a) (@I1 BF t a):=⟨by unfold I1;exact lx⟩
instance(N:Nat)(t:AC)(a:Int)(b:Int):Mo (@H0 (eN N) t a b) (@H0 BF t a b):=⟨by unfold H0;exact lx⟩
instance(N:Nat)(t:AC)(edge:Int)(from':Int)(to':Int):Mo (@GN (eN N) t edge from' to') (@GN BF t edge from' to'):=⟨by unfold GN;exact lx⟩
instance(N:Nat)(t:AC)(h_1:AG):Mo (@EK (eN N) t h_1) (@EK BF t h_1):=⟨by unfold EK;exact lx⟩
instance(N:Nat)(t:AC)(h_1:AG):Mo (@DM (eN N) t h_1) (@DM BF t h_1):=⟨by unfold DM;exact lx⟩
instance(N:Nat)(t:AC)(p:ea)(s_2:CT):Mo (@EW (eN N) t p s_2) (@EW BF t p s_2):=⟨by unfold EW;exact lx⟩
instance(N:Nat)(t:AC)(p:ea):Mo (@Cc (eN N) t p) (@Cc BF t p):=⟨by unfold Cc;exact lx⟩
instance(N:Nat)(t:AC)(g:d4):Mo (@Hg (eN N) t g) (@Hg BF t g):=⟨by unfold Hg;exact lx⟩
instance(N:Nat)(s_0:List CT)(f' f:CT->K1)[hf:∀y0,Mo (f' y0) (f y0)]:Mo (@DT (eN N) s_0 f') (@DT BF s_0 f):=⟨by unfold DT;exact lx⟩
instance(N:Nat)(s_0:List CT)(f' f:CT->K1)[hf:∀y0,Mo (f' y0) (f y0)]:Mo (@CC (eN N) s_0 f') (@CC BF s_0 f):=⟨by unfold CC;exact lx⟩
instance(N:Nat)(t:AC)(r_1:gp)(i_2:Int):Mo (@Ie (eN N) t r_1 i_2) (@Ie BF t r_1 i_2):=⟨by unfold Ie;exact lx⟩
instance(N:Nat)(t:AC)(r_1:gp):Mo (@Hf (eN N) t r_1) (@Hf BF t r_1):=⟨by unfold Hf;exact lx⟩
instance(N:Nat)(g:d4)(p:BA):Mo (@Do (eN N) g p) (@Do BF g p):=⟨by unfold Do;exact lx⟩
instance(N:Nat)(g:d4)(p:BA):Mo (@Dc (eN N) g p) (@Dc BF g p):=⟨by unfold Dc;exact lx⟩
instance(N:Nat)(a:d4)(b:d4)(m:d5):Mo (@Cx (eN N) a b m) (@Cx BF a b m):=⟨by unfold Cx;exact lx⟩
instance(N:Nat)(a:d4)(b:d4)(m:d5):Mo (@Cg (eN N) a b m) (@Cg BF a b m):=⟨by unfold Cg;exact lx⟩
instance(N:Nat)(r_0:gp):Mo (@Ic (eN N) r_0) (@Ic BF r_0):=⟨by unfold Ic;exact lx⟩
instance(N:Nat)(i_0:Int)(c0:d4)(c1:AC):Mo (@FJ (eN N) i_0 c0 c1) (@FJ BF i_0 c0 c1):=⟨by unfold FJ;exact lx⟩
instance(N:Nat)(t:AC)(g:d4)(ec:Fp)(ek:Fp):Mo (@Fe (eN N) t g ec ek) (@Fe BF t g ec ek):=⟨by unfold Fe;exact lx⟩
instance(N:Nat)(s_0:List d6)(f' f:d6->K1)[hf:∀y0,Mo (f' y0) (f y0)]:Mo (@Ca (eN N) s_0 f') (@Ca BF s_0 f):=⟨by unfold Ca;exact lx⟩
instance(N:Nat)(s_0:List d6)(f' f:d6->K1)[hf:∀y0,Mo (f' y0) (f y0)]:Mo (@Bh (eN N) s_0 f') (@Bh BF s_0 f):=⟨by unfold Bh;exact lx⟩
theorem KT(N:Nat):∀n m:Nat,n<=m->(∀(a0:d6),Mo (@BL (eN N) n a0) (@BL BF m a0))/\(∀(a0:d6),Mo (@BV (eN N) n a0) (@BV BF m a0))
 |0,_,_=>⟨fun _=>⟨Le.none _⟩,fun _=>⟨Le.none _⟩⟩|n+1,0,h=>absurd h (by omega)|n+1,m+1,h=>by
  obtain ⟨i0,i1⟩:=KT N n m (by omega);refine⟨?_,?_⟩
  .exact fun _=>⟨by unfold BL;exact lx⟩
  .exact fun _=>⟨by unfold BV;exact lx⟩
theorem Oy(N n m:Nat)(h:n<=m)(a0:d6):Mo (@BL (eN N) n a0) (@BL BF m a0):=(KT N n m h).1 a0
instance(N:Nat)(c:d6):Mo (@Es (eN N) c) (@Es BF c):=⟨LL N fun n hn=>(Oy N N n hn _).le⟩
theorem Ls(N:Nat):∀n m:Nat,n<=m->(∀(a0:d6),Mo (@CA (eN N) n a0) (@CA BF m a0))
 |0,_,_=>fun _=>⟨Le.none _⟩|n+1,0,h=>absurd h (by omega)|n+1,m+1,h=>by
  have ih:=Ls N n m (by omega);exact fun _=>⟨by unfold CA;exact lx⟩
instance(N:Nat)(c:d6):Mo (@F8 (eN N) c) (@F8 BF c):=⟨LL N fun n hn=>(Ls N N n hn _).le⟩
instance(N:Nat)(c:d6):Mo (@D0 (eN N) c) (@D0 BF c):=⟨by unfold D0;exact lx⟩
instance(N:Nat)(t:AC)(q:ea)(outer:Int):Mo (@DE (eN N) t q outer) (@DE BF t q outer):=⟨by unfold DE;exact lx⟩
theorem Md(N:Nat):∀n m:Nat,n<=m->(∀(a0:AC)(a1:ea)(a2:d6),Mo (@Bv (eN N) n a0 a1 a2) (@Bv BF m a0 a1 a2))
 |0,_,_=>fun _ _ _=>⟨Le.none _⟩|n+1,0,h=>absurd h (by omega)|n+1,m+1,h=>by
  have ih:=Md N n m (by omega);exact fun _ _ _=>⟨by unfold Bv;exact lx⟩
instance(N:Nat)(t:AC)(p:ea)(c:d6):Mo (@Io (eN N) t p c) (@Io BF t p c):=⟨LL N fun n hn=>(Md N N n hn _ _ _).le⟩
instance(N:Nat)(t:AC)(p:ea)(c:d6):Mo (@Cf (eN N) t p c) (@Cf BF t p c):=⟨by unfold Cf;exact lx⟩
instance(N:Nat)(t:AC)(r_1:gp):Mo (@GJ (eN N) t r_1) (@GJ BF t r_1):=⟨by unfold GJ;exact lx⟩
instance(N:Nat)(t:AC)(rules:List gp)(h_2:AG):Mo (@DY (eN N) t rules h_2) (@DY BF t rules h_2):=⟨by unfold DY;exact lx⟩
instance(N:Nat)(t:AC)(r_1:gp)(h_2:AG):Mo (@Iz (eN N) t r_1 h_2) (@Iz BF t r_1 h_2):=⟨by unfold Iz;exact lx⟩
instance(N:Nat)(t:AC)(g:d4):Mo (@EN (eN N) t g) (@EN BF t g):=⟨by unfold EN;exact lx⟩
instance(N:Nat)(t:AC)(p:d4)(g:d4):Mo (@EG (eN N) t p g) (@EG BF t p g):=⟨by unfold EG;exact lx⟩
instance(N:Nat)(t:AC)(a:Int):Mo (@GW (eN N) t a) (@GW BF t a):=⟨by unfold GW;exact lx⟩
instance(N:Nat)(t:AC):Mo (@Ew (eN N) t) (@Ew BF t):=⟨by unfold Ew;exact lx⟩
instance(N:Nat)(t:AC)(p:d4)(g:d4)(m:d5):Mo (@Ex (eN N) t p g m) (@Ex BF t p g m):=⟨by unfold Ex;exact lx⟩
instance(N:Nat)(t:AC)(p:d4)(g:d4)(m:d5)(ei:Bool):Mo (@EF (eN N) t p g m ei) (@EF BF t p g m ei):=⟨by unfold EF;exact lx⟩
instance(N:Nat)(t:AC)(p:ea)(h_2:AG):Mo (@Dw (eN N) t p h_2) (@Dw BF t p h_2):=⟨by unfold Dw;exact lx⟩
instance(N:Nat)(t:AC)(p:ea)(h_2:AG)(m:d5):Mo (@DJ (eN N) t p h_2 m) (@DJ BF t p h_2 m):=⟨by unfold DJ;exact lx⟩
instance(N:Nat)(t:AC)(r_1:gp)(h_2:AG)(m:AL):Mo (@Gs (eN N) t r_1 h_2 m) (@Gs BF t r_1 h_2 m):=⟨by unfold Gs;exact lx⟩
instance(N:Nat)(t:AC)(p:d4)(g:d4)(m:d5):Mo (@D2 (eN N) t p g m) (@D2 BF t p g m):=⟨by unfold D2;exact lx⟩
instance(N:Nat)(x_0:Ba):Mo (@CN (eN N) x_0) (@CN BF x_0):=⟨by unfold CN;exact lx⟩
instance(N:Nat)(l:d4)(g:d4)(hT:BA)(m:d5):Mo (@E2 (eN N) l g hT m) (@E2 BF l g hT m):=⟨by unfold E2;exact lx⟩
instance(N:Nat)(t:AC)(p:ea)(c:d6)(h_3:AG)(m:AL)(ei:Bool):Mo (@Dz (eN N) t p c h_3 m ei) (@Dz BF t p c h_3 m ei):=⟨by unfold Dz;exact lx⟩
instance(N:Nat)(l:Fp)(n:Int):Mo (@FU (eN N) l n) (@FU BF l n):=⟨by unfold FU;exact lx⟩
theorem Jm(N:Nat):∀n m:Nat,n<=m->(∀(a0:AH),Mo (@At (eN N) n a0) (@At BF m a0))
 |0,_,_=>fun _=>⟨Le.none _⟩|n+1,0,h=>absurd h (by omega)|n+1,m+1,h=>by
  have ih:=Jm N n m (by omega);exact fun _=>⟨by unfold At;exact lx⟩
instance(N:Nat)(f:AH):Mo (@ET (eN N) f) (@ET BF f):=⟨LL N fun n hn=>(Jm N N n hn _).le⟩
instance(N:Nat)(t:AC)(p:d4)(g:d4)(f0:d5)(ei:Bool)(tn:Int):Mo (@Ff (eN N) t p g f0 ei tn) (@Ff BF t p g f0 ei tn):=⟨by unfold Ff;exact lx⟩
instance(N:Nat)(t:AC)(p:d4)(g:d4)(f0:d5)(ei:Bool):Mo (@Iw (eN N) t p g f0 ei) (@Iw BF t p g f0 ei):=⟨by unfold Iw;exact lx⟩
instance(N:Nat)(t:AC)(p:d4)(g:d4)(f0:d5)(ei:Bool):Mo (@E8 (eN N) t p g f0 ei) (@E8 BF t p g f0 ei):=⟨by unfold E8;exact lx⟩
instance(N:Nat)(s_0:Al)(c:d6)(m:AL):Mo (@Bm (eN N) s_0 c m) (@Bm BF s_0 c m):=⟨by unfold Bm;exact lx⟩
theorem IC(N:Nat):∀n m:Nat,n<=m->(∀(a0:Al)(a1:d6)(a2:AL),Mo (@Aj (eN N) n a0 a1 a2) (@Aj BF m a0 a1 a2))/\(∀(a0:Al)(a1:d6)(a2:AL),Mo (@BH (eN N) n a0 a1 a2) (@BH BF m a0 a1 a2))
 |0,_,_=>⟨fun _ _ _=>⟨Le.none _⟩,fun _ _ _=>⟨Le.none _⟩⟩|n+1,0,h=>absurd h (by omega)|n+1,m+1,h=>by
  obtain ⟨i0,i1⟩:=IC N n m (by omega);refine⟨?_,?_⟩
  .exact fun _ _ _=>⟨by unfold Aj;exact lx⟩
  .exact fun _ _ _=>⟨by unfold BH;exact lx⟩
theorem Mg(N n m:Nat)(h:n<=m)(a0:Al)(a1:d6)(a2:AL):Mo (@Aj (eN N) n a0 a1 a2) (@Aj BF m a0 a1 a2):=(IC N n m h).1 a0 a1 a2
instance(N:Nat)(s_0:Al)(c:d6)(m:AL):Mo (@DI (eN N) s_0 c m) (@DI BF s_0 c m):=⟨LL N fun n hn=>(Mg N N n hn _ _ _).le⟩
instance(N:Nat)(t:AC)(p:ea)(c:d6)(h_3:AG)(m:AL)(ei:Bool):Mo (@DD (eN N) t p c h_3 m ei) (@DD BF t p c h_3 m ei):=⟨by unfold DD;exact lx⟩
instance(N:Nat)(t:AC)(p:ea)(c:d6)(h_3:AG)(m:AL)(ei:Bool):Mo (@Co (eN N) t p c h_3 m ei) (@Co BF t p c h_3 m ei):=⟨by unfold Co;exact lx⟩
instance(N:Nat)(t:AC)(kind:Int):Mo (@Hi (eN N) t kind) (@Hi BF t kind):=⟨by unfold Hi;exact lx⟩
instance(N:Nat)(t:AC)(s_1:Ar)(d:BA):Mo (@GL (eN N) t s_1 d) (@GL BF t s_1 d):=⟨by unfold GL;exact lx⟩
instance(N:Nat)(t:AC)(s:Ar)(V:List Fp)(p:(Int×Int)×Int):Mo (@Lx (eN N) t s V p) (@Lx BF t s V p):=⟨by unfold Lx;exact lx⟩
instance(N:Nat)(t:AC)(s:Ar)(p:(Int×Int)×Int):Mo (@Ly (eN N) t s p) (@Ly BF t s p):=⟨by unfold Ly;exact lx⟩
instance(N:Nat)(t:AC)(s:Ar):Mo (@Ig (eN N) t s) (@Ig BF t s):=⟨by unfold Ig;exact lx⟩
instance(N:Nat)(t:AC)(r_1:gp)(h_2:AG)(m:AL):Mo (@Iy (eN N) t r_1 h_2 m) (@Iy BF t r_1 h_2 m):=⟨by unfold Iy;exact lx⟩
instance(N:Nat)(t:AC)(r_1:gp)(h_2:AG)(m:AL):Mo (@Hh (eN N) t r_1 h_2 m) (@Hh BF t r_1 h_2 m):=⟨by unfold Hh;exact lx⟩
instance(N:Nat)(t:AC)(rules:List gp)(h_2:AG)(m:zt):Mo (@C4 (eN N) t rules h_2 m) (@C4 BF t rules h_2 m):=⟨by unfold C4;exact lx⟩
instance(N:Nat)(t:AC)(rules:List gp)(d:AW):Mo (@Cq (eN N) t rules d) (@Cq BF t rules d):=⟨by unfold Cq;exact lx⟩
instance(N:Nat)(t:AC)(rules:List gp)(s_2:AU):Mo (@CX (eN N) t rules s_2) (@CX BF t rules s_2):=⟨by unfold CX;exact lx⟩
instance(N:Nat)(t:AC)(rules:List gp)(s_2:AU):Mo (@Dp (eN N) t rules s_2) (@Dp BF t rules s_2):=⟨by unfold Dp;exact lx⟩
instance(N:Nat)(g:d4):Mo (@E1 (eN N) g) (@E1 BF g):=⟨by unfold E1;exact lx⟩
instance(N:Nat)(g:d4):Mo (@D5 (eN N) g) (@D5 BF g):=⟨by unfold D5;exact lx⟩
instance(N:Nat)(t:AC)(rules:List gp)(d:AW):Mo (@FD (eN N) t rules d) (@FD BF t rules d):=⟨by unfold FD;exact lx⟩
instance(N:Nat)(t:AC)(rules:List gp)(d:AW)(m:zt):Mo (@E0 (eN N) t rules d m) (@E0 BF t rules d m):=⟨by unfold E0;exact lx⟩
instance(N:Nat)(t:AC)(rules:List gp)(s_2:AU)(m:zt):Mo (@Gd (eN N) t rules s_2 m) (@Gd BF t rules s_2 m):=⟨by unfold Gd;exact lx⟩
instance(N:Nat)(t:AC)(rules:List gp)(s_2:AU)(a:H8):Mo (@Fx (eN N) t rules s_2 a) (@Fx BF t rules s_2 a):=⟨by unfold Fx;exact lx⟩
instance(N:Nat)(t:AC)(rules:List gp)(s_2:AU)(l:List H8):Mo (@Fw (eN N) t rules s_2 l) (@Fw BF t rules s_2 l):=⟨by unfold Fw;exact lx⟩
instance(N:Nat):Mo (@EA (eN N)) (@EA BF):=⟨by unfold EA;exact lx⟩
end Go.Sf.Sc
namespace Go.Sf.Sc
open Go Go.Sf
theorem ij:@EA (eN 40)=some true:=by decide +kernel
theorem dw:EA=some true:=
 have h:Mo (@EA (eN 40)) (@EA BF):=inferInstance
 h.le _ ij
end Go.Sf.Sc
