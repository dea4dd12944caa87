/- Lemmas. -/
import Derived.Test.YtbgedoajacpdbaaGreatDoorFns
import Derived.Test.YtbgedoajacpdbaaGreatDoorSfPl
set_option linter.all false
set_option maxRecDepth 100000
namespace Go.Sf.Sc
open Go Go.Sf
instance(N:Nat)(s_0:ByteArray)(ok' ok:Int->K1)[hok:∀y0,Mo (ok' y0) (ok y0)]:Mo (@Ge (eN N) s_0 ok') (@Ge BG s_0 ok):=⟨by unfold Ge;exact lx⟩
instance(N:Nat)(s_0:ByteArray):Mo (@Fx (eN N) s_0) (@Fx BG s_0):=⟨by unfold Fx;exact lx⟩
instance(N:Nat)(s_0:ByteArray):Mo (@Hq (eN N) s_0) (@Hq BG s_0):=⟨by unfold Hq;exact lx⟩
instance(N:Nat)(t:EL):Mo (@H5 (eN N) t) (@H5 BG t):=⟨by unfold H5;exact lx⟩
instance(N:Nat)(s_0:ByteArray):Mo (@DB (eN N) s_0) (@DB BG s_0):=⟨by unfold DB;exact lx⟩
instance(N:Nat)(s_0:List B0)(f' f:B0->K1)[hf:∀y0,Mo (f' y0) (f y0)]:Mo (@Cm (eN N) s_0 f') (@Cm BG s_0 f):=⟨by unfold Cm;exact lx⟩
instance(N:Nat)(s_0:List B0)(f' f:B0->K1)[hf:∀y0,Mo (f' y0) (f y0)]:Mo (@B5 (eN N) s_0 f') (@B5 BG s_0 f):=⟨by unfold B5;exact lx⟩
theorem QD(N:Nat):∀n m:Nat,n<=m->(∀(a0:AC)(a1:Int),Mo (@C0 (eN N) n a0 a1) (@C0 BG m a0 a1))
 |0,_,_=>fun _ _=>⟨Le.none _⟩|n+1,0,h=>absurd h (by omega)|n+1,m+1,h=>by
  have ih:=QD N n m (by omega);exact fun _ _=>⟨by unfold C0;exact lx⟩
instance(N:Nat)(t:AC)(a:Int):Mo (@JX (eN N) t a) (@JX BG t a):=⟨LL N fun n hn=>(QD N N n hn _ _).le⟩
instance(N:Nat)(s_0:List kl)(f' f:kl->K1)[hf:∀y0,Mo (f' y0) (f y0)]:Mo (@DZ (eN N) s_0 f') (@DZ BG s_0 f):=⟨by unfold DZ;exact lx⟩
instance(N:Nat)(s_0:List kl)(f' f:kl->K1)[hf:∀y0,Mo (f' y0) (f y0)]:Mo (@CP (eN N) s_0 f') (@CP BG s_0 f):=⟨by unfold CP;exact lx⟩
instance(N:Nat)(l:List ByteArray):Mo (@Gg (eN N) l) (@Gg BG l):=⟨by unfold Gg;exact lx⟩
instance(N:Nat)(x_0:kl)(before:List kl):Mo (@D9 (eN N) x_0 before) (@D9 BG x_0 before):=⟨by unfold D9;exact lx⟩
instance(N:Nat)(t:AC)(i_1:Int):Mo (@Hs (eN N) t i_1) (@Hs BG t i_1):=⟨by unfold Hs;exact lx⟩
instance(N:Nat)(s_0:List B9)(f' f:B9->K1)[hf:∀y0,Mo (f' y0) (f y0)]:Mo (@Cl (eN N) s_0 f') (@Cl BG s_0 f):=⟨by unfold Cl;exact lx⟩
instance(N:Nat)(s_0:List B9)(f' f:B9->K1)[hf:∀y0,Mo (f' y0) (f y0)]:Mo (@B4 (eN N) s_0 f') (@B4 BG s_0 f):=⟨by unfold B4;exact lx⟩
instance(N:Nat)(t:AC)(i_1:Int):Mo (@Hr (eN N) t i_1) (@Hr BG t i_1):=⟨by unfold Hr;exact lx⟩
instance(N:Nat)(t:AC):Mo (@C2 (eN N) t) (@C2 BG t):=⟨by unfold C2;exact lx⟩
instance(N:Nat)(s_0:Fp)(f' f:Int->K1)[hf:∀y0,Mo (f' y0) (f y0)]:Mo (@Ch (eN N) s_0 f') (@Ch BG s_0 f):=⟨by unfold Ch;exact lx⟩
instance(N:Nat)(s_0:Fp)(f' f:Int->K1)[hf:∀y0,Mo (f' y0) (f y0)]:Mo (@Al (eN N) s_0 f') (@Al BG s_0 f):=⟨by unfold Al;exact lx⟩
instance(N:Nat)(s_0:List Bj)(f' f:Bj->K1)[hf:∀y0,Mo (f' y0) (f y0)]:Mo (@Da (eN N) s_0 f') (@Da BG s_0 f):=⟨by unfold Da;exact lx⟩
instance(N:Nat)(s_0:List Bj)(f' f:Bj->K1)[hf:∀y0,Mo (f' y0) (f y0)]:Mo (@BL (eN N) s_0 f') (@BL BG s_0 f):=⟨by unfold BL;exact lx⟩
instance(N:Nat)(g:d5):Mo (@CU (eN N) g) (@CU BG g):=⟨by unfold CU;exact lx⟩
instance(N:Nat)(t:AC)(l:Fp):Mo (@Et (eN N) t l) (@Et BG t l):=⟨by unfold Et;exact lx⟩
instance(N:Nat)(t:AC)(a:Int):Mo (@Dn (eN N) t a) (@Dn BG t a):=⟨by unfold Dn;exact lx⟩
instance(N:Nat)(t:AC)(kind:Int)(Az:Fp):Mo (@Ie (eN N) t kind Az) (@Ie BG t kind Az):=⟨by unfold Ie;exact lx⟩
instance(N:Nat)(t:AC)(a:Int):Mo (@I4 (eN N) t a) (@I4 BG t a):=⟨by unfold I4;exact lx⟩
instance(N:Nat)(t:AC)(a:Int)(b:Int):Mo (@H7 (eN N) t a b) (@H7 BG t a b):=⟨by unfold H7;exact lx⟩
instance(N:Nat)(t:AC)(edge:Int)(from':Int)(to':Int):Mo (@GU (eN N) t edge from' to') (@GU BG t edge from' to'):=⟨by unfold GU;exact lx⟩
instance(N:Nat)(t:AC)(h_1:AG):Mo (@E1 (eN N) t h_1) (@E1 BG t h_1):=⟨by unfold E1;exact lx⟩
instance(N:Nat)(t:AC)(p:ec)(s_2:CT):Mo (@EY (eN N) t p s_2) (@EY BG t p s_2):=⟨by unfold EY;exact lx⟩
instance(N:Nat)(t:AC)(p:ec):Mo (@Cc (eN N) t p) (@Cc BG t p):=⟨by unfold Cc;exact lx⟩
instance(N:Nat)(t:AC)(g:d5):Mo (@Hn (eN N) t g) (@Hn BG t g):=⟨by unfold Hn;exact lx⟩
instance(N:Nat)(s_0:List CT)(f' f:CT->K1)[hf:∀y0,Mo (f' y0) (f y0)]:Mo (@Db (eN N) s_0 f') (@Db BG s_0 f):=⟨by unfold Db;exact lx⟩
instance(N:Nat)(s_0:List CT)(f' f:CT->K1)[hf:∀y0,Mo (f' y0) (f y0)]:Mo (@CC (eN N) s_0 f') (@CC BG s_0 f):=⟨by unfold CC;exact lx⟩
instance(N:Nat)(t:AC)(r_1:gt)(i_2:Int):Mo (@Ik (eN N) t r_1 i_2) (@Ik BG t r_1 i_2):=⟨by unfold Ik;exact lx⟩
instance(N:Nat)(t:AC)(r_1:gt):Mo (@Hm (eN N) t r_1) (@Hm BG t r_1):=⟨by unfold Hm;exact lx⟩
instance(N:Nat)(a:d5)(b:d5)(m:d6):Mo (@Cx (eN N) a b m) (@Cx BG a b m):=⟨by unfold Cx;exact lx⟩
instance(N:Nat)(a:d5)(b:d5)(m:d6):Mo (@Cg (eN N) a b m) (@Cg BG a b m):=⟨by unfold Cg;exact lx⟩
instance(N:Nat)(g:d5)(p:BA):Mo (@Du (eN N) g p) (@Du BG g p):=⟨by unfold Du;exact lx⟩
instance(N:Nat)(g:d5)(p:BA):Mo (@Dj (eN N) g p) (@Dj BG g p):=⟨by unfold Dj;exact lx⟩
instance(N:Nat)(r_0:gt):Mo (@Ij (eN N) r_0) (@Ij BG r_0):=⟨by unfold Ij;exact lx⟩
instance(N:Nat)(i_0:Int)(c0:d5)(c1:AC):Mo (@FW (eN N) i_0 c0 c1) (@FW BG i_0 c0 c1):=⟨by unfold FW;exact lx⟩
instance(N:Nat)(t:AC)(g:d5)(ei:Fp)(em:Fp):Mo (@Fv (eN N) t g ei em) (@Fv BG t g ei em):=⟨by unfold Fv;exact lx⟩
instance(N:Nat)(s_0:List d7)(f' f:d7->K1)[hf:∀y0,Mo (f' y0) (f y0)]:Mo (@Ca (eN N) s_0 f') (@Ca BG s_0 f):=⟨by unfold Ca;exact lx⟩
instance(N:Nat)(s_0:List d7)(f' f:d7->K1)[hf:∀y0,Mo (f' y0) (f y0)]:Mo (@Bh (eN N) s_0 f') (@Bh BG s_0 f):=⟨by unfold Bh;exact lx⟩
theorem KZ(N:Nat):∀n m:Nat,n<=m->(∀(a0:d7),Mo (@BI (eN N) n a0) (@BI BG m a0))/\(∀(a0:d7),Mo (@BS (eN N) n a0) (@BS BG m a0))
 |0,_,_=>⟨fun _=>⟨Le.none _⟩,fun _=>⟨Le.none _⟩⟩|n+1,0,h=>absurd h (by omega)|n+1,m+1,h=>by
  obtain ⟨i0,i1⟩:=KZ N n m (by omega);refine⟨?_,?_⟩
  .exact fun _=>⟨by unfold BI;exact lx⟩
  .exact fun _=>⟨by unfold BS;exact lx⟩
theorem O5(N n m:Nat)(h:n<=m)(a0:d7):Mo (@BI (eN N) n a0) (@BI BG m a0):=(KZ N n m h).1 a0
instance(N:Nat)(c:d7):Mo (@E0 (eN N) c) (@E0 BG c):=⟨LL N fun n hn=>(O5 N N n hn _).le⟩
theorem L0(N:Nat):∀n m:Nat,n<=m->(∀(a0:d7),Mo (@CA (eN N) n a0) (@CA BG m a0))
 |0,_,_=>fun _=>⟨Le.none _⟩|n+1,0,h=>absurd h (by omega)|n+1,m+1,h=>by
  have ih:=L0 N n m (by omega);exact fun _=>⟨by unfold CA;exact lx⟩
instance(N:Nat)(c:d7):Mo (@GE (eN N) c) (@GE BG c):=⟨LL N fun n hn=>(L0 N N n hn _).le⟩
instance(N:Nat)(c:d7):Mo (@D3 (eN N) c) (@D3 BG c):=⟨by unfold D3;exact lx⟩
instance(N:Nat)(t:AC)(q:ec)(outer:Int):Mo (@DI (eN N) t q outer) (@DI BG t q outer):=⟨by unfold DI;exact lx⟩
theorem Mj(N:Nat):∀n m:Nat,n<=m->(∀(a0:AC)(a1:ec)(a2:d7),Mo (@Bw (eN N) n a0 a1 a2) (@Bw BG m a0 a1 a2))
 |0,_,_=>fun _ _ _=>⟨Le.none _⟩|n+1,0,h=>absurd h (by omega)|n+1,m+1,h=>by
  have ih:=Mj N n m (by omega);exact fun _ _ _=>⟨by unfold Bw;exact lx⟩
instance(N:Nat)(t:AC)(p:ec)(c:d7):Mo (@Iu (eN N) t p c) (@Iu BG t p c):=⟨LL N fun n hn=>(Mj N N n hn _ _ _).le⟩
instance(N:Nat)(t:AC)(p:ec)(c:d7):Mo (@Ce (eN N) t p c) (@Ce BG t p c):=⟨by unfold Ce;exact lx⟩
instance(N:Nat)(t:AC)(r_1:gt):Mo (@GO (eN N) t r_1) (@GO BG t r_1):=⟨by unfold GO;exact lx⟩
instance(N:Nat)(t:AC)(rules:List gt)(h_2:AG):Mo (@C6 (eN N) t rules h_2) (@C6 BG t rules h_2):=⟨by unfold C6;exact lx⟩
instance(N:Nat)(t:AC)(r_1:gt)(h_2:AG):Mo (@Fg (eN N) t r_1 h_2) (@Fg BG t r_1 h_2):=⟨by unfold Fg;exact lx⟩
instance(N:Nat)(t:AC)(g:d5):Mo (@ER (eN N) t g) (@ER BG t g):=⟨by unfold ER;exact lx⟩
instance(N:Nat)(t:AC)(p:d5)(g:d5):Mo (@Di (eN N) t p g) (@Di BG t p g):=⟨by unfold Di;exact lx⟩
instance(N:Nat)(t:AC)(a:Int):Mo (@Gf (eN N) t a) (@Gf BG t a):=⟨by unfold Gf;exact lx⟩
instance(N:Nat)(t:AC):Mo (@E3 (eN N) t) (@E3 BG t):=⟨by unfold E3;exact lx⟩
instance(N:Nat)(t:AC)(p:d5)(g:d5)(m:d6):Mo (@E4 (eN N) t p g m) (@E4 BG t p g m):=⟨by unfold E4;exact lx⟩
instance(N:Nat)(t:AC)(p:d5)(g:d5)(m:d6)(ej:Bool):Mo (@EJ (eN N) t p g m ej) (@EJ BG t p g m ej):=⟨by unfold EJ;exact lx⟩
instance(N:Nat)(t:AC)(p:ec)(h_2:AG):Mo (@DQ (eN N) t p h_2) (@DQ BG t p h_2):=⟨by unfold DQ;exact lx⟩
instance(N:Nat)(t:AC)(p:ec)(h_2:AG)(m:d6):Mo (@DP (eN N) t p h_2 m) (@DP BG t p h_2 m):=⟨by unfold DP;exact lx⟩
instance(N:Nat)(t:AC)(r_1:gt)(h_2:AG)(m:AL):Mo (@Gz (eN N) t r_1 h_2 m) (@Gz BG t r_1 h_2 m):=⟨by unfold Gz;exact lx⟩
instance(N:Nat)(t:AC)(p:d5)(g:d5)(m:d6):Mo (@D6 (eN N) t p g m) (@D6 BG t p g m):=⟨by unfold D6;exact lx⟩
instance(N:Nat)(x_0:Bc):Mo (@CJ (eN N) x_0) (@CJ BG x_0):=⟨by unfold CJ;exact lx⟩
instance(N:Nat)(l:d5)(g:d5)(hV:BA)(m:d6):Mo (@FB (eN N) l g hV m) (@FB BG l g hV m):=⟨by unfold FB;exact lx⟩
instance(N:Nat)(t:AC)(p:ec)(c:d7)(h_3:AG)(m:AL)(ej:Bool):Mo (@D2 (eN N) t p c h_3 m ej) (@D2 BG t p c h_3 m ej):=⟨by unfold D2;exact lx⟩
theorem Jq(N:Nat):∀n m:Nat,n<=m->(∀(a0:AH),Mo (@Av (eN N) n a0) (@Av BG m a0))
 |0,_,_=>fun _=>⟨Le.none _⟩|n+1,0,h=>absurd h (by omega)|n+1,m+1,h=>by
  have ih:=Jq N n m (by omega);exact fun _=>⟨by unfold Av;exact lx⟩
instance(N:Nat)(f:AH):Mo (@EW (eN N) f) (@EW BG f):=⟨LL N fun n hn=>(Jq N N n hn _).le⟩
instance(N:Nat)(t:AC)(p:d5)(g:d5)(fu:Ka)(ej:Bool)(tc:Int):Mo (@EK (eN N) t p g fu ej tc) (@EK BG t p g fu ej tc):=⟨by unfold EK;exact lx⟩
instance(N:Nat)(t:AC)(p:d5)(g:d5)(fu:Ka)(ej:Bool):Mo (@GQ (eN N) t p g fu ej) (@GQ BG t p g fu ej):=⟨by unfold GQ;exact lx⟩
instance(N:Nat)(l:Fp)(n:Int):Mo (@Fe (eN N) l n) (@Fe BG l n):=⟨by unfold Fe;exact lx⟩
instance(N:Nat)(t:AC)(p:d5)(g:d5)(fu:d6)(ej:Bool):Mo (@FI (eN N) t p g fu ej) (@FI BG t p g fu ej):=⟨by unfold FI;exact lx⟩
instance(N:Nat)(s_0:An)(c:d7)(m:AL):Mo (@Bl (eN N) s_0 c m) (@Bl BG s_0 c m):=⟨by unfold Bl;exact lx⟩
theorem II(N:Nat):∀n m:Nat,n<=m->(∀(a0:An)(a1:d7)(a2:AL),Mo (@Ai (eN N) n a0 a1 a2) (@Ai BG m a0 a1 a2))/\(∀(a0:An)(a1:d7)(a2:AL),Mo (@BF (eN N) n a0 a1 a2) (@BF BG m a0 a1 a2))
 |0,_,_=>⟨fun _ _ _=>⟨Le.none _⟩,fun _ _ _=>⟨Le.none _⟩⟩|n+1,0,h=>absurd h (by omega)|n+1,m+1,h=>by
  obtain ⟨i0,i1⟩:=II N n m (by omega);refine⟨?_,?_⟩
  .exact fun _ _ _=>⟨by unfold Ai;exact lx⟩
  .exact fun _ _ _=>⟨by unfold BF;exact lx⟩
theorem Mn(N n m:Nat)(h:n<=m)(a0:An)(a1:d7)(a2:AL):Mo (@Ai (eN N) n a0 a1 a2) (@Ai BG m a0 a1 a2):=(II N n m h).1 a0 a1 a2
instance(N:Nat)(s_0:An)(c:d7)(m:AL):Mo (@DO (eN N) s_0 c m) (@DO BG s_0 c m):=⟨LL N fun n hn=>(Mn N N n hn _ _ _).le⟩
instance(N:Nat)(t:AC)(p:ec)(c:d7)(h_3:AG)(m:AL)(ej:Bool):Mo (@DH (eN N) t p c h_3 m ej) (@DH BG t p c h_3 m ej):=⟨by unfold DH;exact lx⟩
instance(N:Nat)(t:AC)(p:ec)(c:d7)(h_3:AG)(m:AL)(ej:Bool):Mo (@Cp (eN N) t p c h_3 m ej) (@Cp BG t p c h_3 m ej):=⟨by unfold Cp;exact lx⟩
instance(N:Nat)(t:AC)(kind:Int):Mo (@Hp (eN N) t kind) (@Hp BG t kind):=⟨by unfold Hp;exact lx⟩
instance(N:Nat)(t:AC)(s_1:A2)(d:BA):Mo (@GT (eN N) t s_1 d) (@GT BG t s_1 d):=⟨by unfold GT;exact lx⟩
instance(N:Nat)(t:AC)(s:A2)(V:List Fp)(p:(Int×Int)×Int):Mo (@L6 (eN N) t s V p) (@L6 BG t s V p):=⟨by unfold L6;exact lx⟩
instance(N:Nat)(t:AC)(s:A2)(p:(Int×Int)×Int):Mo (@L7 (eN N) t s p) (@L7 BG t s p):=⟨by unfold L7;exact lx⟩
instance(N:Nat)(t:AC)(s:A2):Mo (@Im (eN N) t s) (@Im BG t s):=⟨by unfold Im;exact lx⟩
instance(N:Nat)(t:AC)(r_1:gt)(h_2:AG)(m:AL):Mo (@Ff (eN N) t r_1 h_2 m) (@Ff BG t r_1 h_2 m):=⟨by unfold Ff;exact lx⟩
instance(N:Nat)(t:AC)(r_1:gt)(h_2:AG)(m:AL):Mo (@GR (eN N) t r_1 h_2 m) (@GR BG t r_1 h_2 m):=⟨by unfold GR;exact lx⟩
instance(N:Nat)(t:AC)(rules:List gt)(h_2:AG)(m:Bq):Mo (@C5 (eN N) t rules h_2 m) (@C5 BG t rules h_2 m):=⟨by unfold C5;exact lx⟩
instance(N:Nat)(t:AC)(rules:List gt)(d:AZ):Mo (@E8 (eN N) t rules d) (@E8 BG t rules d):=⟨by unfold E8;exact lx⟩
instance(N:Nat)(g:d5):Mo (@FA (eN N) g) (@FA BG g):=⟨by unfold FA;exact lx⟩
instance(N:Nat)(g:d5):Mo (@EB (eN N) g) (@EB BG g):=⟨by unfold EB;exact lx⟩
instance(N:Nat)(t:AC)(rules:List gt)(d:AZ):Mo (@FQ (eN N) t rules d) (@FQ BG t rules d):=⟨by unfold FQ;exact lx⟩
instance(N:Nat)(t:AC)(p:d5)(g:d5)(ej:Bool):Mo (@Ho (eN N) t p g ej) (@Ho BG t p g ej):=⟨by unfold Ho;exact lx⟩
instance(N:Nat)(t:AC)(p:ec)(h_2:AG)(ej:Bool):Mo (@DG (eN N) t p h_2 ej) (@DG BG t p h_2 ej):=⟨by unfold DG;exact lx⟩
instance(N:Nat)(t:AC)(r_1:gt)(h_2:AG):Mo (@D8 (eN N) t r_1 h_2) (@D8 BG t r_1 h_2):=⟨by unfold D8;exact lx⟩
instance(N:Nat)(t:AC)(rules:List gt)(h_2:AG):Mo (@Cq (eN N) t rules h_2) (@Cq BG t rules h_2):=⟨by unfold Cq;exact lx⟩
instance(N:Nat)(t:AC)(rules:List gt)(h_2:AG)(choices:Fp):Mo (@Cs (eN N) t rules h_2 choices) (@Cs BG t rules h_2 choices):=⟨by unfold Cs;exact lx⟩
instance(N:Nat):Mo (@EF (eN N)) (@EF BG):=⟨by unfold EF;exact lx⟩
end Go.Sf.Sc
namespace Go.Sf.Sc
open Go Go.Sf
theorem jt:@EF (eN 40)=some true:=by decide +kernel
theorem ez:EF=some true:=
 have h:Mo (@EF (eN 40)) (@EF BG):=inferInstance
 h.le _ jt
end Go.Sf.Sc
