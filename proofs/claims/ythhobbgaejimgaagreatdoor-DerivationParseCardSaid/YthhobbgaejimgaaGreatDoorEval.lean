/- Lemmas. -/
import Derived.Test.YthhobbgaejimgaaGreatDoorFns
import Derived.Test.YthhobbgaejimgaaGreatDoorSfPl
set_option linter.all false
set_option maxRecDepth 100000
namespace Go.Sf.Sc
open Go Go.Sf
instance(N:Nat)(s_0:D1)(f' f:Int->Fp)[hf:∀y0,Mo (f' y0) (f y0)]:Mo (@CE (eN N) s_0 f') (@CE A1 s_0 f):=⟨by unfold CE;exact lx⟩
instance(N:Nat)(s_0:D1)(f' f:Int->Fp)[hf:∀y0,Mo (f' y0) (f y0)]:Mo (@Ag (eN N) s_0 f') (@Ag A1 s_0 f):=⟨by unfold Ag;exact lx⟩
instance(N:Nat)(s_0:ByteArray)(ok' ok:Int->Fp)[hok:∀y0,Mo (ok' y0) (ok y0)]:Mo (@Du (eN N) s_0 ok') (@Du A1 s_0 ok):=⟨by unfold Du;exact lx⟩
instance(N:Nat)(s_0:ByteArray):Mo (@DD (eN N) s_0) (@DD A1 s_0):=⟨by unfold DD;exact lx⟩
instance(N:Nat)(s_0:ByteArray):Mo (@DF (eN N) s_0) (@DF A1 s_0):=⟨by unfold DF;exact lx⟩
instance(N:Nat)(t:Ap):Mo (@DX (eN N) t) (@DX A1 t):=⟨by unfold DX;exact lx⟩
instance(N:Nat)(s_0:ByteArray):Mo (@CY (eN N) s_0) (@CY A1 s_0):=⟨by unfold CY;exact lx⟩
instance(N:Nat)(s_0:List Ba)(f' f:Ba->Fp)[hf:∀y0,Mo (f' y0) (f y0)]:Mo (@CO (eN N) s_0 f') (@CO A1 s_0 f):=⟨by unfold CO;exact lx⟩
instance(N:Nat)(s_0:List Ba)(f' f:Ba->Fp)[hf:∀y0,Mo (f' y0) (f y0)]:Mo (@Be (eN N) s_0 f') (@Be A1 s_0 f):=⟨by unfold Be;exact lx⟩
theorem Ly(N:Nat):∀n m:Nat,n<=m->(∀(a0:AB)(a1:Int),Mo (@CS (eN N) n a0 a1) (@CS A1 m a0 a1))
 |0,_,_=>fun _ _=>⟨Le.none _⟩|n+1,0,h=>absurd h (by omega)|n+1,m+1,h=>by
  have ih:=Ly N n m (by omega);exact fun _ _=>⟨by unfold CS;exact lx⟩
instance(N:Nat)(t:AB)(a:Int):Mo (@G6 (eN N) t a) (@G6 A1 t a):=⟨LL N fun n hn=>(Ly N N n hn _ _).le⟩
instance(N:Nat)(s_0:List o3)(f' f:o3->Fp)[hf:∀y0,Mo (f' y0) (f y0)]:Mo (@Cj (eN N) s_0 f') (@Cj A1 s_0 f):=⟨by unfold Cj;exact lx⟩
instance(N:Nat)(s_0:List o3)(f' f:o3->Fp)[hf:∀y0,Mo (f' y0) (f y0)]:Mo (@B1 (eN N) s_0 f') (@B1 A1 s_0 f):=⟨by unfold B1;exact lx⟩
instance(N:Nat)(l:List ByteArray):Mo (@Em (eN N) l) (@Em A1 l):=⟨by unfold Em;exact lx⟩
instance(N:Nat)(x_0:o3)(before:List o3):Mo (@C5 (eN N) x_0 before) (@C5 A1 x_0 before):=⟨by unfold C5;exact lx⟩
instance(N:Nat)(t:AB)(i_1:Int):Mo (@Ff (eN N) t i_1) (@Ff A1 t i_1):=⟨by unfold Ff;exact lx⟩
instance(N:Nat)(s_0:List Bl)(f' f:Bl->Fp)[hf:∀y0,Mo (f' y0) (f y0)]:Mo (@CN (eN N) s_0 f') (@CN A1 s_0 f):=⟨by unfold CN;exact lx⟩
instance(N:Nat)(s_0:List Bl)(f' f:Bl->Fp)[hf:∀y0,Mo (f' y0) (f y0)]:Mo (@Bc (eN N) s_0 f') (@Bc A1 s_0 f):=⟨by unfold Bc;exact lx⟩
instance(N:Nat)(t:AB)(i_1:Int):Mo (@Fe (eN N) t i_1) (@Fe A1 t i_1):=⟨by unfold Fe;exact lx⟩
instance(N:Nat)(t:AB):Mo (@B5 (eN N) t) (@B5 A1 t):=⟨by unfold B5;exact lx⟩
instance(N:Nat)(s_0:List Bv)(f' f:Bv->Fp)[hf:∀y0,Mo (f' y0) (f y0)]:Mo (@Ck (eN N) s_0 f') (@Ck A1 s_0 f):=⟨by unfold Ck;exact lx⟩
instance(N:Nat)(s_0:List Bv)(f' f:Bv->Fp)[hf:∀y0,Mo (f' y0) (f y0)]:Mo (@BM (eN N) s_0 f') (@BM A1 s_0 f):=⟨by unfold BM;exact lx⟩
instance(N:Nat)(g:d3):Mo (@CG (eN N) g) (@CG A1 g):=⟨by unfold CG;exact lx⟩
instance(N:Nat)(t:AB)(l:D1):Mo (@DY (eN N) t l) (@DY A1 t l):=⟨by unfold DY;exact lx⟩
instance(N:Nat)(t:AB)(a:Int):Mo (@Cv (eN N) t a) (@Cv A1 t a):=⟨by unfold Cv;exact lx⟩
instance(N:Nat)(t:AB)(kind:Int)(BS:D1):Mo (@GJ (eN N) t kind BS) (@GJ A1 t kind BS):=⟨by unfold GJ;exact lx⟩
instance(N:Nat)(t:AB)(a:Int):Mo (@Gm (eN N) t a) (@Gm A1 t a):=⟨by unfold Gm;exact lx⟩
instance(N:Nat)(t:AB)(a:Int)(b:Int):Mo (@Fu (eN N) t a b) (@Fu A1 t a b):=⟨by unfold Fu;exact lx⟩
instance(N:Nat)(t:AB)(edge:Int)(from':Int)(to':Int):Mo (@Ei (eN N) t edge from' to') (@Ei A1 t edge from' to'):=⟨by unfold Ei;exact lx⟩
instance(N:Nat)(t:AB)(h_1:AL):Mo (@Cx (eN N) t h_1) (@Cx A1 t h_1):=⟨by unfold Cx;exact lx⟩
instance(N:Nat)(t:AB)(p:ff)(s_2:CT):Mo (@Eo (eN N) t p s_2) (@Eo A1 t p s_2):=⟨by unfold Eo;exact lx⟩
instance(N:Nat)(t:AB)(p:ff):Mo (@Ce (eN N) t p) (@Ce A1 t p):=⟨by unfold Ce;exact lx⟩
instance(N:Nat)(t:AB)(g:d3):Mo (@Hn (eN N) t g) (@Hn A1 t g):=⟨by unfold Hn;exact lx⟩
instance(N:Nat)(s_0:List CT)(f' f:CT->Fp)[hf:∀y0,Mo (f' y0) (f y0)]:Mo (@Cl (eN N) s_0 f') (@Cl A1 s_0 f):=⟨by unfold Cl;exact lx⟩
instance(N:Nat)(s_0:List CT)(f' f:CT->Fp)[hf:∀y0,Mo (f' y0) (f y0)]:Mo (@B2 (eN N) s_0 f') (@B2 A1 s_0 f):=⟨by unfold B2;exact lx⟩
instance(N:Nat)(t:AB)(r_1:jj)(i_2:Int):Mo (@IV (eN N) t r_1 i_2) (@IV A1 t r_1 i_2):=⟨by unfold IV;exact lx⟩
instance(N:Nat)(t:AB)(r_1:jj):Mo (@Hm (eN N) t r_1) (@Hm A1 t r_1):=⟨by unfold Hm;exact lx⟩
instance(N:Nat)(g:d3)(p:B3):Mo (@D7 (eN N) g p) (@D7 A1 g p):=⟨by unfold D7;exact lx⟩
instance(N:Nat)(g:d3)(p:B3):Mo (@D6 (eN N) g p) (@D6 A1 g p):=⟨by unfold D6;exact lx⟩
instance(N:Nat)(a:d3)(b:d3)(m:ec):Mo (@Cz (eN N) a b m) (@Cz A1 a b m):=⟨by unfold Cz;exact lx⟩
instance(N:Nat)(a:d3)(b:d3)(m:ec):Mo (@Cr (eN N) a b m) (@Cr A1 a b m):=⟨by unfold Cr;exact lx⟩
instance(N:Nat)(r_0:jj):Mo (@IU (eN N) r_0) (@IU A1 r_0):=⟨by unfold IU;exact lx⟩
instance(N:Nat)(i_0:Int)(c0:d3)(c1:AB):Mo (@Er (eN N) i_0 c0 c1) (@Er A1 i_0 c0 c1):=⟨by unfold Er;exact lx⟩
instance(N:Nat)(t:AB)(g:d3)(k7:D1)(qr:D1):Mo (@GD (eN N) t g k7 qr) (@GD A1 t g k7 qr):=⟨by unfold GD;exact lx⟩
instance(N:Nat)(s_0:List fd)(f' f:fd->Fp)[hf:∀y0,Mo (f' y0) (f y0)]:Mo (@B8 (eN N) s_0 f') (@B8 A1 s_0 f):=⟨by unfold B8;exact lx⟩
instance(N:Nat)(s_0:List fd)(f' f:fd->Fp)[hf:∀y0,Mo (f' y0) (f y0)]:Mo (@Bt (eN N) s_0 f') (@Bt A1 s_0 f):=⟨by unfold Bt;exact lx⟩
theorem Hu(N:Nat):∀n m:Nat,n<=m->(∀(a0:fd),Mo (@BI (eN N) n a0) (@BI A1 m a0))/\(∀(a0:fd),Mo (@BP (eN N) n a0) (@BP A1 m a0))
 |0,_,_=>⟨fun _=>⟨Le.none _⟩,fun _=>⟨Le.none _⟩⟩|n+1,0,h=>absurd h (by omega)|n+1,m+1,h=>by
  obtain ⟨i0,i1⟩:=Hu N n m (by omega);refine⟨?_,?_⟩
  .exact fun _=>⟨by unfold BI;exact lx⟩
  .exact fun _=>⟨by unfold BP;exact lx⟩
theorem K4(N n m:Nat)(h:n<=m)(a0:fd):Mo (@BI (eN N) n a0) (@BI A1 m a0):=(Hu N n m h).1 a0
instance(N:Nat)(c:fd):Mo (@Ed (eN N) c) (@Ed A1 c):=⟨LL N fun n hn=>(K4 N N n hn _).le⟩
theorem Ii(N:Nat):∀n m:Nat,n<=m->(∀(a0:fd),Mo (@CA (eN N) n a0) (@CA A1 m a0))
 |0,_,_=>fun _=>⟨Le.none _⟩|n+1,0,h=>absurd h (by omega)|n+1,m+1,h=>by
  have ih:=Ii N n m (by omega);exact fun _=>⟨by unfold CA;exact lx⟩
instance(N:Nat)(c:fd):Mo (@Fv (eN N) c) (@Fv A1 c):=⟨LL N fun n hn=>(Ii N N n hn _).le⟩
instance(N:Nat)(c:fd):Mo (@EN (eN N) c) (@EN A1 c):=⟨by unfold EN;exact lx⟩
instance(N:Nat)(t:AB)(q:ff)(outer:Int):Mo (@Dl (eN N) t q outer) (@Dl A1 t q outer):=⟨by unfold Dl;exact lx⟩
theorem JJ(N:Nat):∀n m:Nat,n<=m->(∀(a0:AB)(a1:ff)(a2:fd),Mo (@B4 (eN N) n a0 a1 a2) (@B4 A1 m a0 a1 a2))
 |0,_,_=>fun _ _ _=>⟨Le.none _⟩|n+1,0,h=>absurd h (by omega)|n+1,m+1,h=>by
  have ih:=JJ N n m (by omega);exact fun _ _ _=>⟨by unfold B4;exact lx⟩
instance(N:Nat)(t:AB)(p:ff)(c:fd):Mo (@GT (eN N) t p c) (@GT A1 t p c):=⟨LL N fun n hn=>(JJ N N n hn _ _ _).le⟩
instance(N:Nat)(t:AB)(p:ff)(c:fd):Mo (@Dg (eN N) t p c) (@Dg A1 t p c):=⟨by unfold Dg;exact lx⟩
instance(N:Nat)(t:AB)(r_1:jj):Mo (@Gf (eN N) t r_1) (@Gf A1 t r_1):=⟨by unfold Gf;exact lx⟩
instance(N:Nat)(t:AB)(rules:List jj)(h_2:AL):Mo (@DI (eN N) t rules h_2) (@DI A1 t rules h_2):=⟨by unfold DI;exact lx⟩
instance(N:Nat)(t:AB)(r_1:jj)(h_2:AL):Mo (@Gk (eN N) t r_1 h_2) (@Gk A1 t r_1 h_2):=⟨by unfold Gk;exact lx⟩
instance(N:Nat)(t:AB)(p:ff)(h_2:AL):Mo (@De (eN N) t p h_2) (@De A1 t p h_2):=⟨by unfold De;exact lx⟩
instance(N:Nat)(t:AB)(g:d3):Mo (@EY (eN N) t g) (@EY A1 t g):=⟨by unfold EY;exact lx⟩
instance(N:Nat)(t:AB)(p:d3)(g:d3):Mo (@Di (eN N) t p g) (@Di A1 t p g):=⟨by unfold Di;exact lx⟩
instance(N:Nat)(t:AB)(a:Int):Mo (@G5 (eN N) t a) (@G5 A1 t a):=⟨by unfold G5;exact lx⟩
instance(N:Nat)(t:AB):Mo (@E5 (eN N) t) (@E5 A1 t):=⟨by unfold E5;exact lx⟩
theorem HQ(N:Nat):∀n m:Nat,n<=m->(∀(a0:AU),Mo (@BT (eN N) n a0) (@BT A1 m a0))
 |0,_,_=>fun _=>⟨Le.none _⟩|n+1,0,h=>absurd h (by omega)|n+1,m+1,h=>by
  have ih:=HQ N n m (by omega);exact fun _=>⟨by unfold BT;exact lx⟩
instance(N:Nat)(f:AU):Mo (@EK (eN N) f) (@EK A1 f):=⟨LL N fun n hn=>(HQ N N n hn _).le⟩
instance(N:Nat)(t:AB)(p:d3)(g:d3)(qf:JM)(j0:Bool)(qn:Int):Mo (@GE (eN N) t p g qf j0 qn) (@GE A1 t p g qf j0 qn):=⟨by unfold GE;exact lx⟩
instance(N:Nat)(t:AB)(p:d3)(g:d3)(qf:JM)(j0:Bool):Mo (@Gg (eN N) t p g qf j0) (@Gg A1 t p g qf j0):=⟨by unfold Gg;exact lx⟩
instance(N:Nat)(t:AB)(p:d3)(g:d3)(j0:Bool):Mo (@Ho (eN N) t p g j0) (@Ho A1 t p g j0):=⟨by unfold Ho;exact lx⟩
instance(N:Nat)(t:AB)(p:ff)(h_2:AL)(j0:Bool):Mo (@Dj (eN N) t p h_2 j0) (@Dj A1 t p h_2 j0):=⟨by unfold Dj;exact lx⟩
instance(N:Nat)(t:AB)(p:d3)(g:d3)(m:ec):Mo (@E6 (eN N) t p g m) (@E6 A1 t p g m):=⟨by unfold E6;exact lx⟩
instance(N:Nat)(t:AB)(p:d3)(g:d3)(m:ec)(j0:Bool):Mo (@EJ (eN N) t p g m j0) (@EJ A1 t p g m j0):=⟨by unfold EJ;exact lx⟩
instance(N:Nat)(t:AB)(p:ff)(h_2:AL)(m:ec):Mo (@Dd (eN N) t p h_2 m) (@Dd A1 t p h_2 m):=⟨by unfold Dd;exact lx⟩
instance(N:Nat)(t:AB)(r_1:jj)(h_2:AL)(m:AR):Mo (@GF (eN N) t r_1 h_2 m) (@GF A1 t r_1 h_2 m):=⟨by unfold GF;exact lx⟩
instance(N:Nat)(t:AB)(p:d3)(g:d3)(m:ec):Mo (@ET (eN N) t p g m) (@ET A1 t p g m):=⟨by unfold ET;exact lx⟩
instance(N:Nat)(x_0:BX):Mo (@CJ (eN N) x_0) (@CJ A1 x_0):=⟨by unfold CJ;exact lx⟩
instance(N:Nat)(l:d3)(g:d3)(kq:B3)(m:ec):Mo (@FJ (eN N) l g kq m) (@FJ A1 l g kq m):=⟨by unfold FJ;exact lx⟩
instance(N:Nat)(t:AB)(p:ff)(c:fd)(h_3:AL)(m:AR)(j0:Bool):Mo (@EM (eN N) t p c h_3 m j0) (@EM A1 t p c h_3 m j0):=⟨by unfold EM;exact lx⟩
instance(N:Nat)(l:D1)(n:Int):Mo (@Ft (eN N) l n) (@Ft A1 l n):=⟨by unfold Ft;exact lx⟩
instance(N:Nat)(t:AB)(p:d3)(g:d3)(qf:ec)(j0:Bool):Mo (@FL (eN N) t p g qf j0) (@FL A1 t p g qf j0):=⟨by unfold FL;exact lx⟩
instance(N:Nat)(s_0:Ar)(c:fd)(m:AR):Mo (@Bx (eN N) s_0 c m) (@Bx A1 s_0 c m):=⟨by unfold Bx;exact lx⟩
theorem F5(N:Nat):∀n m:Nat,n<=m->(∀(a0:Ar)(a1:fd)(a2:AR),Mo (@Ao (eN N) n a0 a1 a2) (@Ao A1 m a0 a1 a2))/\(∀(a0:Ar)(a1:fd)(a2:AR),Mo (@BB (eN N) n a0 a1 a2) (@BB A1 m a0 a1 a2))
 |0,_,_=>⟨fun _ _ _=>⟨Le.none _⟩,fun _ _ _=>⟨Le.none _⟩⟩|n+1,0,h=>absurd h (by omega)|n+1,m+1,h=>by
  obtain ⟨i0,i1⟩:=F5 N n m (by omega);refine⟨?_,?_⟩
  .exact fun _ _ _=>⟨by unfold Ao;exact lx⟩
  .exact fun _ _ _=>⟨by unfold BB;exact lx⟩
theorem JN(N n m:Nat)(h:n<=m)(a0:Ar)(a1:fd)(a2:AR):Mo (@Ao (eN N) n a0 a1 a2) (@Ao A1 m a0 a1 a2):=(F5 N n m h).1 a0 a1 a2
instance(N:Nat)(s_0:Ar)(c:fd)(m:AR):Mo (@DU (eN N) s_0 c m) (@DU A1 s_0 c m):=⟨LL N fun n hn=>(JN N N n hn _ _ _).le⟩
instance(N:Nat)(t:AB)(p:ff)(c:fd)(h_3:AL)(m:AR)(j0:Bool):Mo (@Dk (eN N) t p c h_3 m j0) (@Dk A1 t p c h_3 m j0):=⟨by unfold Dk;exact lx⟩
instance(N:Nat)(t:AB)(p:ff)(c:fd)(h_3:AL)(m:AR)(j0:Bool):Mo (@C6 (eN N) t p c h_3 m j0) (@C6 A1 t p c h_3 m j0):=⟨by unfold C6;exact lx⟩
instance(N:Nat)(t:AB)(kind:Int):Mo (@Hr (eN N) t kind) (@Hr A1 t kind):=⟨by unfold Hr;exact lx⟩
instance(N:Nat)(t:AB)(s_1:BD)(d:B3):Mo (@Hq (eN N) t s_1 d) (@Hq A1 t s_1 d):=⟨by unfold Hq;exact lx⟩
instance(N:Nat)(t:AB)(s:BD)(V:List D1)(p:(Int×Int)×Int):Mo (@Jh (eN N) t s V p) (@Jh A1 t s V p):=⟨by unfold Jh;exact lx⟩
instance(N:Nat)(t:AB)(s:BD)(p:(Int×Int)×Int):Mo (@LC (eN N) t s p) (@LC A1 t s p):=⟨by unfold LC;exact lx⟩
instance(N:Nat)(t:AB)(s:BD):Mo (@IX (eN N) t s) (@IX A1 t s):=⟨by unfold IX;exact lx⟩
instance(N:Nat)(t:AB)(r_1:jj)(h_2:AL)(m:AR):Mo (@Gi (eN N) t r_1 h_2 m) (@Gi A1 t r_1 h_2 m):=⟨by unfold Gi;exact lx⟩
instance(N:Nat)(t:AB)(r_1:jj)(h_2:AL):Mo (@EU (eN N) t r_1 h_2) (@EU A1 t r_1 h_2):=⟨by unfold EU;exact lx⟩
instance(N:Nat)(t:AB)(rules:List jj)(h_2:AL):Mo (@C8 (eN N) t rules h_2) (@C8 A1 t rules h_2):=⟨by unfold C8;exact lx⟩
instance(N:Nat)(t:AB)(r_1:jj)(h_2:AL)(m:AR):Mo (@Hp (eN N) t r_1 h_2 m) (@Hp A1 t r_1 h_2 m):=⟨by unfold Hp;exact lx⟩
instance(N:Nat)(t:AB)(rules:List jj)(h_2:AL)(m:CQ):Mo (@DH (eN N) t rules h_2 m) (@DH A1 t rules h_2 m):=⟨by unfold DH;exact lx⟩
instance(N:Nat)(t:AB)(rules:List jj)(h_2:AL)(choices:D1):Mo (@Dm (eN N) t rules h_2 choices) (@Dm A1 t rules h_2 choices):=⟨by unfold Dm;exact lx⟩
instance(N:Nat)(t:AB)(rules:List jj)(d:AN):Mo (@Dn (eN N) t rules d) (@Dn A1 t rules d):=⟨by unfold Dn;exact lx⟩
instance(N:Nat)(g:d3):Mo (@Do (eN N) g) (@Do A1 g):=⟨by unfold Do;exact lx⟩
instance(N:Nat)(g:d3):Mo (@C7 (eN N) g) (@C7 A1 g):=⟨by unfold C7;exact lx⟩
instance(N:Nat)(t:AB)(rules:List jj)(d:AN):Mo (@D0 (eN N) t rules d) (@D0 A1 t rules d):=⟨by unfold D0;exact lx⟩
instance(N:Nat):Mo (@DA (eN N)) (@DA A1):=⟨by unfold DA;exact lx⟩
end Go.Sf.Sc
namespace Go.Sf.Sc
open Go Go.Sf
theorem Zw:@DA (eN 40)=some true:=by decide +kernel
theorem XM:DA=some true:=
 have h:Mo (@DA (eN 40)) (@DA A1):=inferInstance
 h.le _ Zw
end Go.Sf.Sc
