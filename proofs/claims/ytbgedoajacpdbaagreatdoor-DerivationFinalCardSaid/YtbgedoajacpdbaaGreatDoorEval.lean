/- Lemmas. -/
import Derived.Test.YtbgedoajacpdbaaGreatDoorFns
import Derived.Test.YtbgedoajacpdbaaGreatDoorSfPl
set_option linter.all false
set_option maxRecDepth 100000
namespace Go.Sf.Sc
open Go Go.Sf
instance(N:Nat)(s_0:ByteArray)(ok' ok:Int->K1)[hok:∀y0,Mo (ok' y0) (ok y0)]:Mo (@GZ (eN N) s_0 ok') (@GZ BF s_0 ok):=⟨by unfold GZ;exact lx⟩
instance(N:Nat)(s_0:ByteArray):Mo (@Fg (eN N) s_0) (@Fg BF s_0):=⟨by unfold Fg;exact lx⟩
instance(N:Nat)(s_0:ByteArray):Mo (@Hk (eN N) s_0) (@Hk BF s_0):=⟨by unfold Hk;exact lx⟩
instance(N:Nat)(t:EG):Mo (@H0 (eN N) t) (@H0 BF t):=⟨by unfold H0;exact lx⟩
instance(N:Nat)(s_0:ByteArray):Mo (@DC (eN N) s_0) (@DC BF s_0):=⟨by unfold DC;exact lx⟩
instance(N:Nat)(s_0:List Bz)(f' f:Bz->K1)[hf:∀y0,Mo (f' y0) (f y0)]:Mo (@Co (eN N) s_0 f') (@Co BF s_0 f):=⟨by unfold Co;exact lx⟩
instance(N:Nat)(s_0:List Bz)(f' f:Bz->K1)[hf:∀y0,Mo (f' y0) (f y0)]:Mo (@B5 (eN N) s_0 f') (@B5 BF s_0 f):=⟨by unfold B5;exact lx⟩
theorem Py(N:Nat):∀n m:Nat,n<=m->(∀(a0:AC)(a1:Int),Mo (@C0 (eN N) n a0 a1) (@C0 BF m a0 a1))
 |0,_,_=>fun _ _=>⟨Le.none _⟩|n+1,0,h=>absurd h (by omega)|n+1,m+1,h=>by
  have ih:=Py N n m (by omega);exact fun _ _=>⟨by unfold C0;exact lx⟩
instance(N:Nat)(t:AC)(a:Int):Mo (@JQ (eN N) t a) (@JQ BF t a):=⟨LL N fun n hn=>(Py N N n hn _ _).le⟩
instance(N:Nat)(s_0:List kq)(f' f:kq->K1)[hf:∀y0,Mo (f' y0) (f y0)]:Mo (@DX (eN N) s_0 f') (@DX BF s_0 f):=⟨by unfold DX;exact lx⟩
instance(N:Nat)(s_0:List kq)(f' f:kq->K1)[hf:∀y0,Mo (f' y0) (f y0)]:Mo (@CQ (eN N) s_0 f') (@CQ BF s_0 f):=⟨by unfold CQ;exact lx⟩
instance(N:Nat)(l:List ByteArray):Mo (@Gb (eN N) l) (@Gb BF l):=⟨by unfold Gb;exact lx⟩
instance(N:Nat)(x_0:kq)(before:List kq):Mo (@D5 (eN N) x_0 before) (@D5 BF x_0 before):=⟨by unfold D5;exact lx⟩
instance(N:Nat)(t:AC)(i_1:Int):Mo (@Hm (eN N) t i_1) (@Hm BF t i_1):=⟨by unfold Hm;exact lx⟩
instance(N:Nat)(s_0:List B9)(f' f:B9->K1)[hf:∀y0,Mo (f' y0) (f y0)]:Mo (@Cn (eN N) s_0 f') (@Cn BF s_0 f):=⟨by unfold Cn;exact lx⟩
instance(N:Nat)(s_0:List B9)(f' f:B9->K1)[hf:∀y0,Mo (f' y0) (f y0)]:Mo (@B4 (eN N) s_0 f') (@B4 BF s_0 f):=⟨by unfold B4;exact lx⟩
instance(N:Nat)(t:AC)(i_1:Int):Mo (@Hl (eN N) t i_1) (@Hl BF t i_1):=⟨by unfold Hl;exact lx⟩
instance(N:Nat)(t:AC):Mo (@C3 (eN N) t) (@C3 BF t):=⟨by unfold C3;exact lx⟩
instance(N:Nat)(s_0:Fp)(f' f:Int->K1)[hf:∀y0,Mo (f' y0) (f y0)]:Mo (@Ci (eN N) s_0 f') (@Ci BF s_0 f):=⟨by unfold Ci;exact lx⟩
instance(N:Nat)(s_0:Fp)(f' f:Int->K1)[hf:∀y0,Mo (f' y0) (f y0)]:Mo (@Ak (eN N) s_0 f') (@Ak BF s_0 f):=⟨by unfold Ak;exact lx⟩
instance(N:Nat)(s_0:List Bf)(f' f:Bf->K1)[hf:∀y0,Mo (f' y0) (f y0)]:Mo (@DY (eN N) s_0 f') (@DY BF s_0 f):=⟨by unfold DY;exact lx⟩
instance(N:Nat)(s_0:List Bf)(f' f:Bf->K1)[hf:∀y0,Mo (f' y0) (f y0)]:Mo (@BJ (eN N) s_0 f') (@BJ BF s_0 f):=⟨by unfold BJ;exact lx⟩
instance(N:Nat)(g:d5):Mo (@CW (eN N) g) (@CW BF g):=⟨by unfold CW;exact lx⟩
instance(N:Nat)(t:AC)(l:Fp):Mo (@El (eN N) t l) (@El BF t l):=⟨by unfold El;exact lx⟩
instance(N:Nat)(t:AC)(a:Int):Mo (@Dl (eN N) t a) (@Dl BF t a):=⟨by unfold Dl;exact lx⟩
instance(N:Nat)(t:AC)(kind:Int)(A0:Fp):Mo (@IX (eN N) t kind A0) (@IX BF t kind A0):=⟨by unfold IX;exact lx⟩
instance(N:Nat)(t:AC)(a:Int):Mo (@Iw (eN N) t a) (@Iw BF t a):=⟨by unfold Iw;exact lx⟩
instance(N:Nat)(t:AC)(a:Int)(b:Int):Mo (@H2 (eN N) t a b) (@H2 BF t a b):=⟨by unfold H2;exact lx⟩
instance(N:Nat)(t:AC)(edge:Int)(from':Int)(to':Int):Mo (@GP (eN N) t edge from' to') (@GP BF t edge from' to'):=⟨by unfold GP;exact lx⟩
instance(N:Nat)(t:AC)(h_1:AG):Mo (@Et (eN N) t h_1) (@Et BF t h_1):=⟨by unfold Et;exact lx⟩
instance(N:Nat)(t:AC)(p:ec)(s_2:CU):Mo (@ET (eN N) t p s_2) (@ET BF t p s_2):=⟨by unfold ET;exact lx⟩
instance(N:Nat)(t:AC)(p:ec):Mo (@Cd (eN N) t p) (@Cd BF t p):=⟨by unfold Cd;exact lx⟩
instance(N:Nat)(t:AC)(g:d5):Mo (@He (eN N) t g) (@He BF t g):=⟨by unfold He;exact lx⟩
instance(N:Nat)(s_0:List CU)(f' f:CU->K1)[hf:∀y0,Mo (f' y0) (f y0)]:Mo (@DZ (eN N) s_0 f') (@DZ BF s_0 f):=⟨by unfold DZ;exact lx⟩
instance(N:Nat)(s_0:List CU)(f' f:CU->K1)[hf:∀y0,Mo (f' y0) (f y0)]:Mo (@CC (eN N) s_0 f') (@CC BF s_0 f):=⟨by unfold CC;exact lx⟩
instance(N:Nat)(t:AC)(r_1:hT)(i_2:Int):Mo (@Ie (eN N) t r_1 i_2) (@Ie BF t r_1 i_2):=⟨by unfold Ie;exact lx⟩
instance(N:Nat)(t:AC)(r_1:hT):Mo (@Hd (eN N) t r_1) (@Hd BF t r_1):=⟨by unfold Hd;exact lx⟩
instance(N:Nat)(a:d5)(b:d5)(m:d6):Mo (@Cy (eN N) a b m) (@Cy BF a b m):=⟨by unfold Cy;exact lx⟩
instance(N:Nat)(a:d5)(b:d5)(m:d6):Mo (@Ch (eN N) a b m) (@Ch BF a b m):=⟨by unfold Ch;exact lx⟩
instance(N:Nat)(g:d5)(p:BB):Mo (@Ds (eN N) g p) (@Ds BF g p):=⟨by unfold Ds;exact lx⟩
instance(N:Nat)(g:d5)(p:BB):Mo (@Dh (eN N) g p) (@Dh BF g p):=⟨by unfold Dh;exact lx⟩
instance(N:Nat)(r_0:hT):Mo (@Ic (eN N) r_0) (@Ic BF r_0):=⟨by unfold Ic;exact lx⟩
instance(N:Nat)(i_0:Int)(c0:d5)(c1:AC):Mo (@FM (eN N) i_0 c0 c1) (@FM BF i_0 c0 c1):=⟨by unfold FM;exact lx⟩
instance(N:Nat)(t:AC)(g:d5)(ei:Fp)(em:Fp):Mo (@Fd (eN N) t g ei em) (@Fd BF t g ei em):=⟨by unfold Fd;exact lx⟩
instance(N:Nat)(s_0:List d7)(f' f:d7->K1)[hf:∀y0,Mo (f' y0) (f y0)]:Mo (@Cb (eN N) s_0 f') (@Cb BF s_0 f):=⟨by unfold Cb;exact lx⟩
instance(N:Nat)(s_0:List d7)(f' f:d7->K1)[hf:∀y0,Mo (f' y0) (f y0)]:Mo (@Bg (eN N) s_0 f') (@Bg BF s_0 f):=⟨by unfold Bg;exact lx⟩
theorem KQ(N:Nat):∀n m:Nat,n<=m->(∀(a0:d7),Mo (@BI (eN N) n a0) (@BI BF m a0))/\(∀(a0:d7),Mo (@BT (eN N) n a0) (@BT BF m a0))
 |0,_,_=>⟨fun _=>⟨Le.none _⟩,fun _=>⟨Le.none _⟩⟩|n+1,0,h=>absurd h (by omega)|n+1,m+1,h=>by
  obtain ⟨i0,i1⟩:=KQ N n m (by omega);refine⟨?_,?_⟩
  .exact fun _=>⟨by unfold BI;exact lx⟩
  .exact fun _=>⟨by unfold BT;exact lx⟩
theorem Ou(N n m:Nat)(h:n<=m)(a0:d7):Mo (@BI (eN N) n a0) (@BI BF m a0):=(KQ N n m h).1 a0
instance(N:Nat)(c:d7):Mo (@Es (eN N) c) (@Es BF c):=⟨LL N fun n hn=>(Ou N N n hn _).le⟩
theorem Ln(N:Nat):∀n m:Nat,n<=m->(∀(a0:d7),Mo (@CA (eN N) n a0) (@CA BF m a0))
 |0,_,_=>fun _=>⟨Le.none _⟩|n+1,0,h=>absurd h (by omega)|n+1,m+1,h=>by
  have ih:=Ln N n m (by omega);exact fun _=>⟨by unfold CA;exact lx⟩
instance(N:Nat)(c:d7):Mo (@GA (eN N) c) (@GA BF c):=⟨LL N fun n hn=>(Ln N N n hn _).le⟩
instance(N:Nat)(c:d7):Mo (@D1 (eN N) c) (@D1 BF c):=⟨by unfold D1;exact lx⟩
instance(N:Nat)(t:AC)(q:ec)(outer:Int):Mo (@DH (eN N) t q outer) (@DH BF t q outer):=⟨by unfold DH;exact lx⟩
theorem MY(N:Nat):∀n m:Nat,n<=m->(∀(a0:AC)(a1:ec)(a2:d7),Mo (@Bu (eN N) n a0 a1 a2) (@Bu BF m a0 a1 a2))
 |0,_,_=>fun _ _ _=>⟨Le.none _⟩|n+1,0,h=>absurd h (by omega)|n+1,m+1,h=>by
  have ih:=MY N n m (by omega);exact fun _ _ _=>⟨by unfold Bu;exact lx⟩
instance(N:Nat)(t:AC)(p:ec)(c:d7):Mo (@Io (eN N) t p c) (@Io BF t p c):=⟨LL N fun n hn=>(MY N N n hn _ _ _).le⟩
instance(N:Nat)(t:AC)(p:ec)(c:d7):Mo (@Cf (eN N) t p c) (@Cf BF t p c):=⟨by unfold Cf;exact lx⟩
instance(N:Nat)(t:AC)(r_1:hT):Mo (@GM (eN N) t r_1) (@GM BF t r_1):=⟨by unfold GM;exact lx⟩
instance(N:Nat)(t:AC)(rules:List hT)(h_2:AG):Mo (@C9 (eN N) t rules h_2) (@C9 BF t rules h_2):=⟨by unfold C9;exact lx⟩
instance(N:Nat)(t:AC)(r_1:hT)(h_2:AG):Mo (@Hi (eN N) t r_1 h_2) (@Hi BF t r_1 h_2):=⟨by unfold Hi;exact lx⟩
instance(N:Nat)(t:AC)(g:d5):Mo (@EL (eN N) t g) (@EL BF t g):=⟨by unfold EL;exact lx⟩
instance(N:Nat)(t:AC)(p:d5)(g:d5):Mo (@Dg (eN N) t p g) (@Dg BF t p g):=⟨by unfold Dg;exact lx⟩
instance(N:Nat)(t:AC)(a:Int):Mo (@Ga (eN N) t a) (@Ga BF t a):=⟨by unfold Ga;exact lx⟩
instance(N:Nat)(t:AC):Mo (@Ew (eN N) t) (@Ew BF t):=⟨by unfold Ew;exact lx⟩
instance(N:Nat)(t:AC)(p:d5)(g:d5)(m:d6):Mo (@Ex (eN N) t p g m) (@Ex BF t p g m):=⟨by unfold Ex;exact lx⟩
instance(N:Nat)(t:AC)(p:d5)(g:d5)(m:d6)(ej:Bool):Mo (@EF (eN N) t p g m ej) (@EF BF t p g m ej):=⟨by unfold EF;exact lx⟩
instance(N:Nat)(t:AC)(p:ec)(h_2:AG):Mo (@DQ (eN N) t p h_2) (@DQ BF t p h_2):=⟨by unfold DQ;exact lx⟩
instance(N:Nat)(t:AC)(p:ec)(h_2:AG)(m:d6):Mo (@DP (eN N) t p h_2 m) (@DP BF t p h_2 m):=⟨by unfold DP;exact lx⟩
instance(N:Nat)(t:AC)(r_1:hT)(h_2:AG)(m:AM):Mo (@Gt (eN N) t r_1 h_2 m) (@Gt BF t r_1 h_2 m):=⟨by unfold Gt;exact lx⟩
instance(N:Nat)(t:AC)(p:d5)(g:d5)(m:d6):Mo (@D3 (eN N) t p g m) (@D3 BF t p g m):=⟨by unfold D3;exact lx⟩
instance(N:Nat)(x_0:Ba):Mo (@CL (eN N) x_0) (@CL BF x_0):=⟨by unfold CL;exact lx⟩
instance(N:Nat)(l:d5)(g:d5)(jj:BB)(m:d6):Mo (@E3 (eN N) l g jj m) (@E3 BF l g jj m):=⟨by unfold E3;exact lx⟩
instance(N:Nat)(t:AC)(p:ec)(c:d7)(h_3:AG)(m:AM)(ej:Bool):Mo (@D0 (eN N) t p c h_3 m ej) (@D0 BF t p c h_3 m ej):=⟨by unfold D0;exact lx⟩
theorem Ji(N:Nat):∀n m:Nat,n<=m->(∀(a0:AI),Mo (@Aw (eN N) n a0) (@Aw BF m a0))
 |0,_,_=>fun _=>⟨Le.none _⟩|n+1,0,h=>absurd h (by omega)|n+1,m+1,h=>by
  have ih:=Ji N n m (by omega);exact fun _=>⟨by unfold Aw;exact lx⟩
instance(N:Nat)(f:AI):Mo (@ER (eN N) f) (@ER BF f):=⟨LL N fun n hn=>(Ji N N n hn _).le⟩
instance(N:Nat)(t:AC)(p:d5)(g:d5)(gp:Mb)(ej:Bool)(up:Int):Mo (@Fe (eN N) t p g gp ej up) (@Fe BF t p g gp ej up):=⟨by unfold Fe;exact lx⟩
instance(N:Nat)(t:AC)(p:d5)(g:d5)(gp:Mb)(ej:Bool):Mo (@Hf (eN N) t p g gp ej) (@Hf BF t p g gp ej):=⟨by unfold Hf;exact lx⟩
instance(N:Nat)(l:Fp)(n:Int):Mo (@FU (eN N) l n) (@FU BF l n):=⟨by unfold FU;exact lx⟩
instance(N:Nat)(t:AC)(p:d5)(g:d5)(gp:d6)(ej:Bool):Mo (@E9 (eN N) t p g gp ej) (@E9 BF t p g gp ej):=⟨by unfold E9;exact lx⟩
instance(N:Nat)(s_0:Al)(c:d7)(m:AM):Mo (@Bm (eN N) s_0 c m) (@Bm BF s_0 c m):=⟨by unfold Bm;exact lx⟩
theorem IE(N:Nat):∀n m:Nat,n<=m->(∀(a0:Al)(a1:d7)(a2:AM),Mo (@Ai (eN N) n a0 a1 a2) (@Ai BF m a0 a1 a2))/\(∀(a0:Al)(a1:d7)(a2:AM),Mo (@BE (eN N) n a0 a1 a2) (@BE BF m a0 a1 a2))
 |0,_,_=>⟨fun _ _ _=>⟨Le.none _⟩,fun _ _ _=>⟨Le.none _⟩⟩|n+1,0,h=>absurd h (by omega)|n+1,m+1,h=>by
  obtain ⟨i0,i1⟩:=IE N n m (by omega);refine⟨?_,?_⟩
  .exact fun _ _ _=>⟨by unfold Ai;exact lx⟩
  .exact fun _ _ _=>⟨by unfold BE;exact lx⟩
theorem Mc(N n m:Nat)(h:n<=m)(a0:Al)(a1:d7)(a2:AM):Mo (@Ai (eN N) n a0 a1 a2) (@Ai BF m a0 a1 a2):=(IE N n m h).1 a0 a1 a2
instance(N:Nat)(s_0:Al)(c:d7)(m:AM):Mo (@DO (eN N) s_0 c m) (@DO BF s_0 c m):=⟨LL N fun n hn=>(Mc N N n hn _ _ _).le⟩
instance(N:Nat)(t:AC)(p:ec)(c:d7)(h_3:AG)(m:AM)(ej:Bool):Mo (@DG (eN N) t p c h_3 m ej) (@DG BF t p c h_3 m ej):=⟨by unfold DG;exact lx⟩
instance(N:Nat)(t:AC)(p:ec)(c:d7)(h_3:AG)(m:AM)(ej:Bool):Mo (@Cr (eN N) t p c h_3 m ej) (@Cr BF t p c h_3 m ej):=⟨by unfold Cr;exact lx⟩
instance(N:Nat)(t:AC)(kind:Int):Mo (@Hj (eN N) t kind) (@Hj BF t kind):=⟨by unfold Hj;exact lx⟩
instance(N:Nat)(t:AC)(s_1:Ar)(d:BB):Mo (@GO (eN N) t s_1 d) (@GO BF t s_1 d):=⟨by unfold GO;exact lx⟩
instance(N:Nat)(t:AC)(s:Ar)(V:List Fp)(p:(Int×Int)×Int):Mo (@Lt (eN N) t s V p) (@Lt BF t s V p):=⟨by unfold Lt;exact lx⟩
instance(N:Nat)(t:AC)(s:Ar)(p:(Int×Int)×Int):Mo (@Lu (eN N) t s p) (@Lu BF t s p):=⟨by unfold Lu;exact lx⟩
instance(N:Nat)(t:AC)(s:Ar):Mo (@If (eN N) t s) (@If BF t s):=⟨by unfold If;exact lx⟩
instance(N:Nat)(t:AC)(r_1:hT)(h_2:AG)(m:AM):Mo (@Hh (eN N) t r_1 h_2 m) (@Hh BF t r_1 h_2 m):=⟨by unfold Hh;exact lx⟩
instance(N:Nat)(t:AC)(r_1:hT)(h_2:AG)(m:AM):Mo (@Hg (eN N) t r_1 h_2 m) (@Hg BF t r_1 h_2 m):=⟨by unfold Hg;exact lx⟩
instance(N:Nat)(t:AC)(rules:List hT)(h_2:AG)(m:C4):Mo (@C8 (eN N) t rules h_2 m) (@C8 BF t rules h_2 m):=⟨by unfold C8;exact lx⟩
instance(N:Nat)(t:AC)(rules:List hT)(d:AY):Mo (@DI (eN N) t rules d) (@DI BF t rules d):=⟨by unfold DI;exact lx⟩
instance(N:Nat)(g:d5):Mo (@Dw (eN N) g) (@Dw BF g):=⟨by unfold Dw;exact lx⟩
instance(N:Nat)(g:d5):Mo (@Cs (eN N) g) (@Cs BF g):=⟨by unfold Cs;exact lx⟩
instance(N:Nat)(t:AC)(rules:List hT)(d:AY):Mo (@C7 (eN N) t rules d) (@C7 BF t rules d):=⟨by unfold C7;exact lx⟩
instance(N:Nat)(t:AC)(p:d5)(g:d5)(ej:Bool):Mo (@KM (eN N) t p g ej) (@KM BF t p g ej):=⟨by unfold KM;exact lx⟩
instance(N:Nat)(t:AC)(p:ec)(h_2:AG)(ej:Bool):Mo (@E0 (eN N) t p h_2 ej) (@E0 BF t p h_2 ej):=⟨by unfold E0;exact lx⟩
instance(N:Nat)(t:AC)(r_1:hT)(h_2:AG):Mo (@Fy (eN N) t r_1 h_2) (@Fy BF t r_1 h_2):=⟨by unfold Fy;exact lx⟩
instance(N:Nat)(t:AC)(rules:List hT)(h_2:AG):Mo (@D6 (eN N) t rules h_2) (@D6 BF t rules h_2):=⟨by unfold D6;exact lx⟩
instance(N:Nat)(t:AC)(rules:List hT)(h_2:AG)(choices:Fp):Mo (@E1 (eN N) t rules h_2 choices) (@E1 BF t rules h_2 choices):=⟨by unfold E1;exact lx⟩
instance(N:Nat):Mo (@EB (eN N)) (@EB BF):=⟨by unfold EB;exact lx⟩
end Go.Sf.Sc
namespace Go.Sf.Sc
open Go Go.Sf
theorem jc:@EB (eN 40)=some true:=by decide +kernel
theorem eo:EB=some true:=
 have h:Mo (@EB (eN 40)) (@EB BF):=inferInstance
 h.le _ jc
end Go.Sf.Sc
