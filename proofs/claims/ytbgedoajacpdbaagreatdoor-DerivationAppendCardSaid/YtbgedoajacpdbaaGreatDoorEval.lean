/- Lemmas. -/
import Derived.Test.YtbgedoajacpdbaaGreatDoorFns
import Derived.Test.YtbgedoajacpdbaaGreatDoorSfPl
set_option linter.all false
set_option maxRecDepth 100000
namespace Go.Sf.Sc
open Go Go.Sf
instance(N:Nat)(s_0:ByteArray)(ok' ok:Int->K1)[hok:∀y0,Mo (ok' y0) (ok y0)]:Mo (@Ge (eN N) s_0 ok') (@Ge BG s_0 ok):=⟨by unfold Ge;exact lx⟩
instance(N:Nat)(s_0:ByteArray):Mo (@Fr (eN N) s_0) (@Fr BG s_0):=⟨by unfold Fr;exact lx⟩
instance(N:Nat)(s_0:ByteArray):Mo (@Hp (eN N) s_0) (@Hp BG s_0):=⟨by unfold Hp;exact lx⟩
instance(N:Nat)(t:EK):Mo (@H6 (eN N) t) (@H6 BG t):=⟨by unfold H6;exact lx⟩
instance(N:Nat)(s_0:ByteArray):Mo (@DD (eN N) s_0) (@DD BG s_0):=⟨by unfold DD;exact lx⟩
instance(N:Nat)(s_0:List B1)(f' f:B1->K1)[hf:∀y0,Mo (f' y0) (f y0)]:Mo (@Cr (eN N) s_0 f') (@Cr BG s_0 f):=⟨by unfold Cr;exact lx⟩
instance(N:Nat)(s_0:List B1)(f' f:B1->K1)[hf:∀y0,Mo (f' y0) (f y0)]:Mo (@B7 (eN N) s_0 f') (@B7 BG s_0 f):=⟨by unfold B7;exact lx⟩
theorem QG(N:Nat):∀n m:Nat,n<=m->(∀(a0:AC)(a1:Int),Mo (@C3 (eN N) n a0 a1) (@C3 BG m a0 a1))
 |0,_,_=>fun _ _=>⟨Le.none _⟩|n+1,0,h=>absurd h (by omega)|n+1,m+1,h=>by
  have ih:=QG N n m (by omega);exact fun _ _=>⟨by unfold C3;exact lx⟩
instance(N:Nat)(t:AC)(a:Int):Mo (@JX (eN N) t a) (@JX BG t a):=⟨LL N fun n hn=>(QG N N n hn _ _).le⟩
instance(N:Nat)(s_0:List mo)(f' f:mo->K1)[hf:∀y0,Mo (f' y0) (f y0)]:Mo (@DY (eN N) s_0 f') (@DY BG s_0 f):=⟨by unfold DY;exact lx⟩
instance(N:Nat)(s_0:List mo)(f' f:mo->K1)[hf:∀y0,Mo (f' y0) (f y0)]:Mo (@CS (eN N) s_0 f') (@CS BG s_0 f):=⟨by unfold CS;exact lx⟩
instance(N:Nat)(l:List ByteArray):Mo (@Gg (eN N) l) (@Gg BG l):=⟨by unfold Gg;exact lx⟩
instance(N:Nat)(x_0:mo)(before:List mo):Mo (@D9 (eN N) x_0 before) (@D9 BG x_0 before):=⟨by unfold D9;exact lx⟩
instance(N:Nat)(t:AC)(i_1:Int):Mo (@Hr (eN N) t i_1) (@Hr BG t i_1):=⟨by unfold Hr;exact lx⟩
instance(N:Nat)(s_0:List CB)(f' f:CB->K1)[hf:∀y0,Mo (f' y0) (f y0)]:Mo (@Cq (eN N) s_0 f') (@Cq BG s_0 f):=⟨by unfold Cq;exact lx⟩
instance(N:Nat)(s_0:List CB)(f' f:CB->K1)[hf:∀y0,Mo (f' y0) (f y0)]:Mo (@B6 (eN N) s_0 f') (@B6 BG s_0 f):=⟨by unfold B6;exact lx⟩
instance(N:Nat)(t:AC)(i_1:Int):Mo (@Hq (eN N) t i_1) (@Hq BG t i_1):=⟨by unfold Hq;exact lx⟩
instance(N:Nat)(t:AC):Mo (@C5 (eN N) t) (@C5 BG t):=⟨by unfold C5;exact lx⟩
instance(N:Nat)(s_0:Fp)(f' f:Int->K1)[hf:∀y0,Mo (f' y0) (f y0)]:Mo (@Ck (eN N) s_0 f') (@Ck BG s_0 f):=⟨by unfold Ck;exact lx⟩
instance(N:Nat)(s_0:Fp)(f' f:Int->K1)[hf:∀y0,Mo (f' y0) (f y0)]:Mo (@Ak (eN N) s_0 f') (@Ak BG s_0 f):=⟨by unfold Ak;exact lx⟩
instance(N:Nat)(s_0:List Bl)(f' f:Bl->K1)[hf:∀y0,Mo (f' y0) (f y0)]:Mo (@DZ (eN N) s_0 f') (@DZ BG s_0 f):=⟨by unfold DZ;exact lx⟩
instance(N:Nat)(s_0:List Bl)(f' f:Bl->K1)[hf:∀y0,Mo (f' y0) (f y0)]:Mo (@BM (eN N) s_0 f') (@BM BG s_0 f):=⟨by unfold BM;exact lx⟩
instance(N:Nat)(g:d4):Mo (@CY (eN N) g) (@CY BG g):=⟨by unfold CY;exact lx⟩
instance(N:Nat)(t:AC)(l:Fp):Mo (@Ep (eN N) t l) (@Ep BG t l):=⟨by unfold Ep;exact lx⟩
instance(N:Nat)(t:AC)(a:Int):Mo (@Dn (eN N) t a) (@Dn BG t a):=⟨by unfold Dn;exact lx⟩
instance(N:Nat)(t:AC)(kind:Int)(A0:Fp):Mo (@Ig (eN N) t kind A0) (@Ig BG t kind A0):=⟨by unfold Ig;exact lx⟩
instance(N:Nat)(t:AC)(a:Int):Mo (@I4 (eN N) t a) (@I4 BG t a):=⟨by unfold I4;exact lx⟩
instance(N:Nat)(t:AC)(a:Int)(b:Int):Mo (@H8 (eN N) t a b) (@H8 BG t a b):=⟨by unfold H8;exact lx⟩
instance(N:Nat)(t:AC)(edge:Int)(from':Int)(to':Int):Mo (@GV (eN N) t edge from' to') (@GV BG t edge from' to'):=⟨by unfold GV;exact lx⟩
instance(N:Nat)(t:AC)(h_1:AG):Mo (@Ex (eN N) t h_1) (@Ex BG t h_1):=⟨by unfold Ex;exact lx⟩
instance(N:Nat)(t:AC)(p:ec)(s_2:CX):Mo (@EY (eN N) t p s_2) (@EY BG t p s_2):=⟨by unfold EY;exact lx⟩
instance(N:Nat)(t:AC)(p:ec):Mo (@Cf (eN N) t p) (@Cf BG t p):=⟨by unfold Cf;exact lx⟩
instance(N:Nat)(t:AC)(g:d4):Mo (@Hj (eN N) t g) (@Hj BG t g):=⟨by unfold Hj;exact lx⟩
instance(N:Nat)(s_0:List CX)(f' f:CX->K1)[hf:∀y0,Mo (f' y0) (f y0)]:Mo (@Da (eN N) s_0 f') (@Da BG s_0 f):=⟨by unfold Da;exact lx⟩
instance(N:Nat)(s_0:List CX)(f' f:CX->K1)[hf:∀y0,Mo (f' y0) (f y0)]:Mo (@CE (eN N) s_0 f') (@CE BG s_0 f):=⟨by unfold CE;exact lx⟩
instance(N:Nat)(t:AC)(r_1:gp)(i_2:Int):Mo (@Im (eN N) t r_1 i_2) (@Im BG t r_1 i_2):=⟨by unfold Im;exact lx⟩
instance(N:Nat)(t:AC)(r_1:gp):Mo (@Hi (eN N) t r_1) (@Hi BG t r_1):=⟨by unfold Hi;exact lx⟩
instance(N:Nat)(a:d4)(b:d4)(m:d6):Mo (@C1 (eN N) a b m) (@C1 BG a b m):=⟨by unfold C1;exact lx⟩
instance(N:Nat)(a:d4)(b:d4)(m:d6):Mo (@Cj (eN N) a b m) (@Cj BG a b m):=⟨by unfold Cj;exact lx⟩
instance(N:Nat)(g:d4)(p:BB):Mo (@Dv (eN N) g p) (@Dv BG g p):=⟨by unfold Dv;exact lx⟩
instance(N:Nat)(g:d4)(p:BB):Mo (@Dj (eN N) g p) (@Dj BG g p):=⟨by unfold Dj;exact lx⟩
instance(N:Nat)(r_0:gp):Mo (@Il (eN N) r_0) (@Il BG r_0):=⟨by unfold Il;exact lx⟩
instance(N:Nat)(i_0:Int)(c0:d4)(c1:AC):Mo (@FQ (eN N) i_0 c0 c1) (@FQ BG i_0 c0 c1):=⟨by unfold FQ;exact lx⟩
instance(N:Nat)(t:AC)(g:d4)(ei:Fp)(em:Fp):Mo (@Fk (eN N) t g ei em) (@Fk BG t g ei em):=⟨by unfold Fk;exact lx⟩
instance(N:Nat)(s_0:List d7)(f' f:d7->K1)[hf:∀y0,Mo (f' y0) (f y0)]:Mo (@Cd (eN N) s_0 f') (@Cd BG s_0 f):=⟨by unfold Cd;exact lx⟩
instance(N:Nat)(s_0:List d7)(f' f:d7->K1)[hf:∀y0,Mo (f' y0) (f y0)]:Mo (@Bg (eN N) s_0 f') (@Bg BG s_0 f):=⟨by unfold Bg;exact lx⟩
theorem KX(N:Nat):∀n m:Nat,n<=m->(∀(a0:d7),Mo (@BJ (eN N) n a0) (@BJ BG m a0))/\(∀(a0:d7),Mo (@BT (eN N) n a0) (@BT BG m a0))
 |0,_,_=>⟨fun _=>⟨Le.none _⟩,fun _=>⟨Le.none _⟩⟩|n+1,0,h=>absurd h (by omega)|n+1,m+1,h=>by
  obtain ⟨i0,i1⟩:=KX N n m (by omega);refine⟨?_,?_⟩
  .exact fun _=>⟨by unfold BJ;exact lx⟩
  .exact fun _=>⟨by unfold BT;exact lx⟩
theorem O1(N n m:Nat)(h:n<=m)(a0:d7):Mo (@BJ (eN N) n a0) (@BJ BG m a0):=(KX N n m h).1 a0
instance(N:Nat)(c:d7):Mo (@Ew (eN N) c) (@Ew BG c):=⟨LL N fun n hn=>(O1 N N n hn _).le⟩
theorem Lu(N:Nat):∀n m:Nat,n<=m->(∀(a0:d7),Mo (@CC (eN N) n a0) (@CC BG m a0))
 |0,_,_=>fun _=>⟨Le.none _⟩|n+1,0,h=>absurd h (by omega)|n+1,m+1,h=>by
  have ih:=Lu N n m (by omega);exact fun _=>⟨by unfold CC;exact lx⟩
instance(N:Nat)(c:d7):Mo (@GF (eN N) c) (@GF BG c):=⟨LL N fun n hn=>(Lu N N n hn _).le⟩
instance(N:Nat)(c:d7):Mo (@D5 (eN N) c) (@D5 BG c):=⟨by unfold D5;exact lx⟩
instance(N:Nat)(t:AC)(q:ec)(outer:Int):Mo (@DI (eN N) t q outer) (@DI BG t q outer):=⟨by unfold DI;exact lx⟩
theorem Md(N:Nat):∀n m:Nat,n<=m->(∀(a0:AC)(a1:ec)(a2:d7),Mo (@Bv (eN N) n a0 a1 a2) (@Bv BG m a0 a1 a2))
 |0,_,_=>fun _ _ _=>⟨Le.none _⟩|n+1,0,h=>absurd h (by omega)|n+1,m+1,h=>by
  have ih:=Md N n m (by omega);exact fun _ _ _=>⟨by unfold Bv;exact lx⟩
instance(N:Nat)(t:AC)(p:ec)(c:d7):Mo (@Ix (eN N) t p c) (@Ix BG t p c):=⟨LL N fun n hn=>(Md N N n hn _ _ _).le⟩
instance(N:Nat)(t:AC)(p:ec)(c:d7):Mo (@Ch (eN N) t p c) (@Ch BG t p c):=⟨by unfold Ch;exact lx⟩
instance(N:Nat)(t:AC)(r_1:gp):Mo (@GR (eN N) t r_1) (@GR BG t r_1):=⟨by unfold GR;exact lx⟩
instance(N:Nat)(t:AC)(rules:List gp)(h_2:AG):Mo (@C9 (eN N) t rules h_2) (@C9 BG t rules h_2):=⟨by unfold C9;exact lx⟩
instance(N:Nat)(t:AC)(r_1:gp)(h_2:AG):Mo (@Hn (eN N) t r_1 h_2) (@Hn BG t r_1 h_2):=⟨by unfold Hn;exact lx⟩
instance(N:Nat)(t:AC)(g:d4):Mo (@EP (eN N) t g) (@EP BG t g):=⟨by unfold EP;exact lx⟩
instance(N:Nat)(t:AC)(p:d4)(g:d4):Mo (@Di (eN N) t p g) (@Di BG t p g):=⟨by unfold Di;exact lx⟩
instance(N:Nat)(t:AC)(a:Int):Mo (@Gf (eN N) t a) (@Gf BG t a):=⟨by unfold Gf;exact lx⟩
instance(N:Nat)(t:AC):Mo (@Ez (eN N) t) (@Ez BG t):=⟨by unfold Ez;exact lx⟩
instance(N:Nat)(t:AC)(p:d4)(g:d4)(m:d6):Mo (@E0 (eN N) t p g m) (@E0 BG t p g m):=⟨by unfold E0;exact lx⟩
instance(N:Nat)(t:AC)(p:d4)(g:d4)(m:d6)(ej:Bool):Mo (@EJ (eN N) t p g m ej) (@EJ BG t p g m ej):=⟨by unfold EJ;exact lx⟩
instance(N:Nat)(t:AC)(p:ec)(h_2:AG):Mo (@DR (eN N) t p h_2) (@DR BG t p h_2):=⟨by unfold DR;exact lx⟩
instance(N:Nat)(t:AC)(p:ec)(h_2:AG)(m:d6):Mo (@DQ (eN N) t p h_2 m) (@DQ BG t p h_2 m):=⟨by unfold DQ;exact lx⟩
instance(N:Nat)(t:AC)(r_1:gp)(h_2:AG)(m:AL):Mo (@Gx (eN N) t r_1 h_2 m) (@Gx BG t r_1 h_2 m):=⟨by unfold Gx;exact lx⟩
instance(N:Nat)(t:AC)(p:d4)(g:d4)(m:d6):Mo (@D7 (eN N) t p g m) (@D7 BG t p g m):=⟨by unfold D7;exact lx⟩
instance(N:Nat)(x_0:Ba):Mo (@CN (eN N) x_0) (@CN BG x_0):=⟨by unfold CN;exact lx⟩
instance(N:Nat)(l:d4)(g:d4)(jj:BB)(m:d6):Mo (@E5 (eN N) l g jj m) (@E5 BG l g jj m):=⟨by unfold E5;exact lx⟩
instance(N:Nat)(t:AC)(p:ec)(c:d7)(h_3:AG)(m:AL)(ej:Bool):Mo (@D4 (eN N) t p c h_3 m ej) (@D4 BG t p c h_3 m ej):=⟨by unfold D4;exact lx⟩
theorem Jo(N:Nat):∀n m:Nat,n<=m->(∀(a0:AI),Mo (@Aw (eN N) n a0) (@Aw BG m a0))
 |0,_,_=>fun _=>⟨Le.none _⟩|n+1,0,h=>absurd h (by omega)|n+1,m+1,h=>by
  have ih:=Jo N n m (by omega);exact fun _=>⟨by unfold Aw;exact lx⟩
instance(N:Nat)(f:AI):Mo (@EW (eN N) f) (@EW BG f):=⟨LL N fun n hn=>(Jo N N n hn _).le⟩
instance(N:Nat)(t:AC)(p:d4)(g:d4)(gt:Mg)(ej:Bool)(tl:Int):Mo (@Fm (eN N) t p g gt ej tl) (@Fm BG t p g gt ej tl):=⟨by unfold Fm;exact lx⟩
instance(N:Nat)(t:AC)(p:d4)(g:d4)(gt:Mg)(ej:Bool):Mo (@Hk (eN N) t p g gt ej) (@Hk BG t p g gt ej):=⟨by unfold Hk;exact lx⟩
instance(N:Nat)(l:Fp)(n:Int):Mo (@FZ (eN N) l n) (@FZ BG l n):=⟨by unfold FZ;exact lx⟩
instance(N:Nat)(t:AC)(p:d4)(g:d4)(gt:d6)(ej:Bool):Mo (@FB (eN N) t p g gt ej) (@FB BG t p g gt ej):=⟨by unfold FB;exact lx⟩
instance(N:Nat)(s_0:Al)(c:d7)(m:AL):Mo (@Bm (eN N) s_0 c m) (@Bm BG s_0 c m):=⟨by unfold Bm;exact lx⟩
theorem IK(N:Nat):∀n m:Nat,n<=m->(∀(a0:Al)(a1:d7)(a2:AL),Mo (@Ai (eN N) n a0 a1 a2) (@Ai BG m a0 a1 a2))/\(∀(a0:Al)(a1:d7)(a2:AL),Mo (@BF (eN N) n a0 a1 a2) (@BF BG m a0 a1 a2))
 |0,_,_=>⟨fun _ _ _=>⟨Le.none _⟩,fun _ _ _=>⟨Le.none _⟩⟩|n+1,0,h=>absurd h (by omega)|n+1,m+1,h=>by
  obtain ⟨i0,i1⟩:=IK N n m (by omega);refine⟨?_,?_⟩
  .exact fun _ _ _=>⟨by unfold Ai;exact lx⟩
  .exact fun _ _ _=>⟨by unfold BF;exact lx⟩
theorem Mh(N n m:Nat)(h:n<=m)(a0:Al)(a1:d7)(a2:AL):Mo (@Ai (eN N) n a0 a1 a2) (@Ai BG m a0 a1 a2):=(IK N n m h).1 a0 a1 a2
instance(N:Nat)(s_0:Al)(c:d7)(m:AL):Mo (@DP (eN N) s_0 c m) (@DP BG s_0 c m):=⟨LL N fun n hn=>(Mh N N n hn _ _ _).le⟩
instance(N:Nat)(t:AC)(p:ec)(c:d7)(h_3:AG)(m:AL)(ej:Bool):Mo (@DH (eN N) t p c h_3 m ej) (@DH BG t p c h_3 m ej):=⟨by unfold DH;exact lx⟩
instance(N:Nat)(t:AC)(p:ec)(c:d7)(h_3:AG)(m:AL)(ej:Bool):Mo (@Cv (eN N) t p c h_3 m ej) (@Cv BG t p c h_3 m ej):=⟨by unfold Cv;exact lx⟩
instance(N:Nat)(t:AC)(kind:Int):Mo (@Ho (eN N) t kind) (@Ho BG t kind):=⟨by unfold Ho;exact lx⟩
instance(N:Nat)(t:AC)(s_1:Ar)(d:BB):Mo (@GU (eN N) t s_1 d) (@GU BG t s_1 d):=⟨by unfold GU;exact lx⟩
instance(N:Nat)(t:AC)(s:Ar)(V:List Fp)(p:(Int×Int)×Int):Mo (@Lz (eN N) t s V p) (@Lz BG t s V p):=⟨by unfold Lz;exact lx⟩
instance(N:Nat)(t:AC)(s:Ar)(p:(Int×Int)×Int):Mo (@L0 (eN N) t s p) (@L0 BG t s p):=⟨by unfold L0;exact lx⟩
instance(N:Nat)(t:AC)(s:Ar):Mo (@Io (eN N) t s) (@Io BG t s):=⟨by unfold Io;exact lx⟩
instance(N:Nat)(t:AC)(r_1:gp)(h_2:AG)(m:AL):Mo (@Hm (eN N) t r_1 h_2 m) (@Hm BG t r_1 h_2 m):=⟨by unfold Hm;exact lx⟩
instance(N:Nat)(t:AC)(r_1:gp)(h_2:AG)(m:AL):Mo (@Hl (eN N) t r_1 h_2 m) (@Hl BG t r_1 h_2 m):=⟨by unfold Hl;exact lx⟩
instance(N:Nat)(t:AC)(rules:List gp)(h_2:AG)(m:Bq):Mo (@Cn (eN N) t rules h_2 m) (@Cn BG t rules h_2 m):=⟨by unfold Cn;exact lx⟩
instance(N:Nat)(t:AC)(rules:List gp)(d:AO):Mo (@DJ (eN N) t rules d) (@DJ BG t rules d):=⟨by unfold DJ;exact lx⟩
instance(N:Nat)(g:d4):Mo (@D0 (eN N) g) (@D0 BG g):=⟨by unfold D0;exact lx⟩
instance(N:Nat)(g:d4):Mo (@Cw (eN N) g) (@Cw BG g):=⟨by unfold Cw;exact lx⟩
instance(N:Nat)(t:AC)(rules:List gp)(d:AO):Mo (@C8 (eN N) t rules d) (@C8 BG t rules d):=⟨by unfold C8;exact lx⟩
instance(N:Nat)(t:AC)(p:d4)(g:d4)(ej:Bool):Mo (@KT (eN N) t p g ej) (@KT BG t p g ej):=⟨by unfold KT;exact lx⟩
instance(N:Nat)(t:AC)(p:ec)(h_2:AG)(ej:Bool):Mo (@E3 (eN N) t p h_2 ej) (@E3 BG t p h_2 ej):=⟨by unfold E3;exact lx⟩
instance(N:Nat)(t:AC)(r_1:gp)(h_2:AG):Mo (@F3 (eN N) t r_1 h_2) (@F3 BG t r_1 h_2):=⟨by unfold F3;exact lx⟩
instance(N:Nat)(t:AC)(rules:List gp)(h_2:AG):Mo (@EA (eN N) t rules h_2) (@EA BG t rules h_2):=⟨by unfold EA;exact lx⟩
instance(N:Nat)(t:AC)(rules:List gp)(h_2:AG)(choices:Fp):Mo (@E4 (eN N) t rules h_2 choices) (@E4 BG t rules h_2 choices):=⟨by unfold E4;exact lx⟩
instance(N:Nat):Mo (@EF (eN N)) (@EF BG):=⟨by unfold EF;exact lx⟩
end Go.Sf.Sc
namespace Go.Sf.Sc
open Go Go.Sf
theorem jw:@EF (eN 40)=some true:=by decide +kernel
theorem fI:EF=some true:=
 have h:Mo (@EF (eN 40)) (@EF BG):=inferInstance
 h.le _ jw
end Go.Sf.Sc
