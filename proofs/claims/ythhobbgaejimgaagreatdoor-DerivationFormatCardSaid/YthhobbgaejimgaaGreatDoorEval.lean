/- Lemmas. -/
import Derived.Test.YthhobbgaejimgaaGreatDoorFns
import Derived.Test.YthhobbgaejimgaaGreatDoorSfPl
set_option linter.all false
set_option maxRecDepth 100000
namespace Go.Sf.Sc
open Go Go.Sf
instance(N:Nat)(s_0:Fp)(f' f:Int->K1)[hf:∀y0,Mo (f' y0) (f y0)]:Mo (@CQ (eN N) s_0 f') (@CQ Ax s_0 f):=⟨by unfold CQ;exact lx⟩
instance(N:Nat)(s_0:Fp)(f' f:Int->K1)[hf:∀y0,Mo (f' y0) (f y0)]:Mo (@Aq (eN N) s_0 f') (@Aq Ax s_0 f):=⟨by unfold Aq;exact lx⟩
instance(N:Nat)(s_0:ByteArray)(ok' ok:Int->K1)[hok:∀y0,Mo (ok' y0) (ok y0)]:Mo (@Dn (eN N) s_0 ok') (@Dn Ax s_0 ok):=⟨by unfold Dn;exact lx⟩
instance(N:Nat)(s_0:ByteArray):Mo (@EH (eN N) s_0) (@EH Ax s_0):=⟨by unfold EH;exact lx⟩
instance(N:Nat)(s_0:ByteArray):Mo (@D9 (eN N) s_0) (@D9 Ax s_0):=⟨by unfold D9;exact lx⟩
instance(N:Nat)(t:AY):Mo (@DB (eN N) t) (@DB Ax t):=⟨by unfold DB;exact lx⟩
instance(N:Nat)(s_0:ByteArray):Mo (@DA (eN N) s_0) (@DA Ax s_0):=⟨by unfold DA;exact lx⟩
instance(N:Nat)(s_0:List BO)(f' f:BO->K1)[hf:∀y0,Mo (f' y0) (f y0)]:Mo (@CE (eN N) s_0 f') (@CE Ax s_0 f):=⟨by unfold CE;exact lx⟩
instance(N:Nat)(s_0:List BO)(f' f:BO->K1)[hf:∀y0,Mo (f' y0) (f y0)]:Mo (@Bt (eN N) s_0 f') (@Bt Ax s_0 f):=⟨by unfold Bt;exact lx⟩
theorem L0(N:Nat):∀n m:Nat,n<=m->(∀(a0:AB)(a1:Int),Mo (@Dd (eN N) n a0 a1) (@Dd Ax m a0 a1))
 |0,_,_=>fun _ _=>⟨Le.none _⟩|n+1,0,h=>absurd h (by omega)|n+1,m+1,h=>by
  have ih:=L0 N n m (by omega);exact fun _ _=>⟨by unfold Dd;exact lx⟩
instance(N:Nat)(t:AB)(a:Int):Mo (@Hz (eN N) t a) (@Hz Ax t a):=⟨LL N fun n hn=>(L0 N N n hn _ _).le⟩
instance(N:Nat)(s_0:List rc)(f' f:rc->K1)[hf:∀y0,Mo (f' y0) (f y0)]:Mo (@Cf (eN N) s_0 f') (@Cf Ax s_0 f):=⟨by unfold Cf;exact lx⟩
instance(N:Nat)(s_0:List rc)(f' f:rc->K1)[hf:∀y0,Mo (f' y0) (f y0)]:Mo (@CL (eN N) s_0 f') (@CL Ax s_0 f):=⟨by unfold CL;exact lx⟩
instance(N:Nat)(l:List ByteArray):Mo (@Gn (eN N) l) (@Gn Ax l):=⟨by unfold Gn;exact lx⟩
instance(N:Nat)(x_0:rc)(before:List rc):Mo (@ES (eN N) x_0 before) (@ES Ax x_0 before):=⟨by unfold ES;exact lx⟩
instance(N:Nat)(t:AB)(i_1:Int):Mo (@Hh (eN N) t i_1) (@Hh Ax t i_1):=⟨by unfold Hh;exact lx⟩
instance(N:Nat)(s_0:List Bg)(f' f:Bg->K1)[hf:∀y0,Mo (f' y0) (f y0)]:Mo (@CD (eN N) s_0 f') (@CD Ax s_0 f):=⟨by unfold CD;exact lx⟩
instance(N:Nat)(s_0:List Bg)(f' f:Bg->K1)[hf:∀y0,Mo (f' y0) (f y0)]:Mo (@Bs (eN N) s_0 f') (@Bs Ax s_0 f):=⟨by unfold Bs;exact lx⟩
instance(N:Nat)(t:AB)(i_1:Int):Mo (@Hf (eN N) t i_1) (@Hf Ax t i_1):=⟨by unfold Hf;exact lx⟩
instance(N:Nat)(t:AB):Mo (@Bp (eN N) t) (@Bp Ax t):=⟨by unfold Bp;exact lx⟩
instance(N:Nat)(s_0:List B0)(f' f:B0->K1)[hf:∀y0,Mo (f' y0) (f y0)]:Mo (@Cg (eN N) s_0 f') (@Cg Ax s_0 f):=⟨by unfold Cg;exact lx⟩
instance(N:Nat)(s_0:List B0)(f' f:B0->K1)[hf:∀y0,Mo (f' y0) (f y0)]:Mo (@BT (eN N) s_0 f') (@BT Ax s_0 f):=⟨by unfold BT;exact lx⟩
instance(N:Nat)(g:hT):Mo (@CX (eN N) g) (@CX Ax g):=⟨by unfold CX;exact lx⟩
instance(N:Nat)(t:AB)(l:Fp):Mo (@Em (eN N) t l) (@Em Ax t l):=⟨by unfold Em;exact lx⟩
instance(N:Nat)(t:AB)(a:Int):Mo (@DP (eN N) t a) (@DP Ax t a):=⟨by unfold DP;exact lx⟩
instance(N:Nat)(t:AB)(kind:Int)(BQ:Fp):Mo (@IF (eN N) t kind BQ) (@IF Ax t kind BQ):=⟨by unfold IF;exact lx⟩
instance(N:Nat)(t:AB)(a:Int):Mo (@Hg (eN N) t a) (@Hg Ax t a):=⟨by unfold Hg;exact lx⟩
instance(N:Nat)(t:AB)(a:Int)(b:Int):Mo (@HN (eN N) t a b) (@HN Ax t a b):=⟨by unfold HN;exact lx⟩
instance(N:Nat)(t:AB)(edge:Int)(from':Int)(to':Int):Mo (@GZ (eN N) t edge from' to') (@GZ Ax t edge from' to'):=⟨by unfold GZ;exact lx⟩
instance(N:Nat)(t:AB)(h_1:AM):Mo (@Cd (eN N) t h_1) (@Cd Ax t h_1):=⟨by unfold Cd;exact lx⟩
instance(N:Nat)(t:AB)(p:j4)(s_2:CO):Mo (@Eo (eN N) t p s_2) (@Eo Ax t p s_2):=⟨by unfold Eo;exact lx⟩
instance(N:Nat)(t:AB)(p:j4):Mo (@Cc (eN N) t p) (@Cc Ax t p):=⟨by unfold Cc;exact lx⟩
instance(N:Nat)(t:AB)(g:hT):Mo (@HZ (eN N) t g) (@HZ Ax t g):=⟨by unfold HZ;exact lx⟩
instance(N:Nat)(s_0:List CO)(f' f:CO->K1)[hf:∀y0,Mo (f' y0) (f y0)]:Mo (@Ch (eN N) s_0 f') (@Ch Ax s_0 f):=⟨by unfold Ch;exact lx⟩
instance(N:Nat)(s_0:List CO)(f' f:CO->K1)[hf:∀y0,Mo (f' y0) (f y0)]:Mo (@Bv (eN N) s_0 f') (@Bv Ax s_0 f):=⟨by unfold Bv;exact lx⟩
instance(N:Nat)(t:AB)(r_1:ns)(i_2:Int):Mo (@IN (eN N) t r_1 i_2) (@IN Ax t r_1 i_2):=⟨by unfold IN;exact lx⟩
instance(N:Nat)(t:AB)(r_1:ns):Mo (@HV (eN N) t r_1) (@HV Ax t r_1):=⟨by unfold HV;exact lx⟩
instance(N:Nat)(g:hT)(p:Bw):Mo (@D2 (eN N) g p) (@D2 Ax g p):=⟨by unfold D2;exact lx⟩
instance(N:Nat)(g:hT)(p:Bw):Mo (@D1 (eN N) g p) (@D1 Ax g p):=⟨by unfold D1;exact lx⟩
instance(N:Nat)(a:hT)(b:hT)(m:gt):Mo (@Cw (eN N) a b m) (@Cw Ax a b m):=⟨by unfold Cw;exact lx⟩
instance(N:Nat)(a:hT)(b:hT)(m:gt):Mo (@Cm (eN N) a b m) (@Cm Ax a b m):=⟨by unfold Cm;exact lx⟩
instance(N:Nat)(r_0:ns):Mo (@IM (eN N) r_0) (@IM Ax r_0):=⟨by unfold IM;exact lx⟩
instance(N:Nat)(i_0:Int)(c0:hT)(c1:AB):Mo (@Et (eN N) i_0 c0 c1) (@Et Ax i_0 c0 c1):=⟨by unfold Et;exact lx⟩
instance(N:Nat)(t:AB)(g:hT)(qz:Fp)(rg:Fp):Mo (@Fy (eN N) t g qz rg) (@Fy Ax t g qz rg):=⟨by unfold Fy;exact lx⟩
instance(N:Nat)(s_0:List j0)(f' f:j0->K1)[hf:∀y0,Mo (f' y0) (f y0)]:Mo (@B3 (eN N) s_0 f') (@B3 Ax s_0 f):=⟨by unfold B3;exact lx⟩
instance(N:Nat)(s_0:List j0)(f' f:j0->K1)[hf:∀y0,Mo (f' y0) (f y0)]:Mo (@Bm (eN N) s_0 f') (@Bm Ax s_0 f):=⟨by unfold Bm;exact lx⟩
theorem Hk(N:Nat):∀n m:Nat,n<=m->(∀(a0:j0),Mo (@BD (eN N) n a0) (@BD Ax m a0))/\(∀(a0:j0),Mo (@BJ (eN N) n a0) (@BJ Ax m a0))
 |0,_,_=>⟨fun _=>⟨Le.none _⟩,fun _=>⟨Le.none _⟩⟩|n+1,0,h=>absurd h (by omega)|n+1,m+1,h=>by
  obtain ⟨i0,i1⟩:=Hk N n m (by omega);refine⟨?_,?_⟩
  .exact fun _=>⟨by unfold BD;exact lx⟩
  .exact fun _=>⟨by unfold BJ;exact lx⟩
theorem Km(N n m:Nat)(h:n<=m)(a0:j0):Mo (@BD (eN N) n a0) (@BD Ax m a0):=(Hk N n m h).1 a0
instance(N:Nat)(c:j0):Mo (@Eg (eN N) c) (@Eg Ax c):=⟨LL N fun n hn=>(Km N N n hn _).le⟩
theorem IW(N:Nat):∀n m:Nat,n<=m->(∀(a0:j0),Mo (@B8 (eN N) n a0) (@B8 Ax m a0))
 |0,_,_=>fun _=>⟨Le.none _⟩|n+1,0,h=>absurd h (by omega)|n+1,m+1,h=>by
  have ih:=IW N n m (by omega);exact fun _=>⟨by unfold B8;exact lx⟩
instance(N:Nat)(c:j0):Mo (@Fc (eN N) c) (@Fc Ax c):=⟨LL N fun n hn=>(IW N N n hn _).le⟩
instance(N:Nat)(c:j0):Mo (@EL (eN N) c) (@EL Ax c):=⟨by unfold EL;exact lx⟩
instance(N:Nat)(t:AB)(q:j4)(outer:Int):Mo (@Dg (eN N) t q outer) (@Dg Ax t q outer):=⟨by unfold Dg;exact lx⟩
theorem Iw(N:Nat):∀n m:Nat,n<=m->(∀(a0:AB)(a1:j4)(a2:j0),Mo (@By (eN N) n a0 a1 a2) (@By Ax m a0 a1 a2))
 |0,_,_=>fun _ _ _=>⟨Le.none _⟩|n+1,0,h=>absurd h (by omega)|n+1,m+1,h=>by
  have ih:=Iw N n m (by omega);exact fun _ _ _=>⟨by unfold By;exact lx⟩
instance(N:Nat)(t:AB)(p:j4)(c:j0):Mo (@GH (eN N) t p c) (@GH Ax t p c):=⟨LL N fun n hn=>(Iw N N n hn _ _ _).le⟩
instance(N:Nat)(t:AB)(p:j4)(c:j0):Mo (@DX (eN N) t p c) (@DX Ax t p c):=⟨by unfold DX;exact lx⟩
instance(N:Nat)(t:AB)(r_1:ns):Mo (@GT (eN N) t r_1) (@GT Ax t r_1):=⟨by unfold GT;exact lx⟩
instance(N:Nat)(t:AB)(rules:List ns)(h_2:AM):Mo (@DF (eN N) t rules h_2) (@DF Ax t rules h_2):=⟨by unfold DF;exact lx⟩
instance(N:Nat)(t:AB)(r_1:ns)(h_2:AM):Mo (@GX (eN N) t r_1 h_2) (@GX Ax t r_1 h_2):=⟨by unfold GX;exact lx⟩
instance(N:Nat)(t:AB)(p:j4)(h_2:AM):Mo (@DV (eN N) t p h_2) (@DV Ax t p h_2):=⟨by unfold DV;exact lx⟩
instance(N:Nat)(t:AB)(g:hT):Mo (@EX (eN N) t g) (@EX Ax t g):=⟨by unfold EX;exact lx⟩
instance(N:Nat)(t:AB)(p:hT)(g:hT):Mo (@Db (eN N) t p g) (@Db Ax t p g):=⟨by unfold Db;exact lx⟩
instance(N:Nat)(t:AB)(a:Int):Mo (@Gm (eN N) t a) (@Gm Ax t a):=⟨by unfold Gm;exact lx⟩
instance(N:Nat)(t:AB):Mo (@E2 (eN N) t) (@E2 Ax t):=⟨by unfold E2;exact lx⟩
theorem G7(N:Nat):∀n m:Nat,n<=m->(∀(a0:AT),Mo (@BR (eN N) n a0) (@BR Ax m a0))
 |0,_,_=>fun _=>⟨Le.none _⟩|n+1,0,h=>absurd h (by omega)|n+1,m+1,h=>by
  have ih:=G7 N n m (by omega);exact fun _=>⟨by unfold BR;exact lx⟩
instance(N:Nat)(f:AT):Mo (@EI (eN N) f) (@EI Ax f):=⟨LL N fun n hn=>(G7 N N n hn _).le⟩
instance(N:Nat)(t:AB)(p:hT)(g:hT)(rd:Iz)(pc:Bool)(rJ:Int):Mo (@F1 (eN N) t p g rd pc rJ) (@F1 Ax t p g rd pc rJ):=⟨by unfold F1;exact lx⟩
instance(N:Nat)(t:AB)(p:hT)(g:hT)(rd:Iz)(pc:Bool):Mo (@GU (eN N) t p g rd pc) (@GU Ax t p g rd pc):=⟨by unfold GU;exact lx⟩
instance(N:Nat)(t:AB)(p:hT)(g:hT)(pc:Bool):Mo (@Ha (eN N) t p g pc) (@Ha Ax t p g pc):=⟨by unfold Ha;exact lx⟩
instance(N:Nat)(t:AB)(p:j4)(h_2:AM)(pc:Bool):Mo (@De (eN N) t p h_2 pc) (@De Ax t p h_2 pc):=⟨by unfold De;exact lx⟩
instance(N:Nat)(t:AB)(p:hT)(g:hT)(m:gt):Mo (@E3 (eN N) t p g m) (@E3 Ax t p g m):=⟨by unfold E3;exact lx⟩
instance(N:Nat)(t:AB)(p:hT)(g:hT)(m:gt)(pc:Bool):Mo (@EG (eN N) t p g m pc) (@EG Ax t p g m pc):=⟨by unfold EG;exact lx⟩
instance(N:Nat)(t:AB)(p:j4)(h_2:AM)(m:gt):Mo (@DU (eN N) t p h_2 m) (@DU Ax t p h_2 m):=⟨by unfold DU;exact lx⟩
instance(N:Nat)(t:AB)(r_1:ns)(h_2:AM)(m:AP):Mo (@F2 (eN N) t r_1 h_2 m) (@F2 Ax t r_1 h_2 m):=⟨by unfold F2;exact lx⟩
instance(N:Nat)(t:AB)(p:hT)(g:hT)(m:gt):Mo (@EQ (eN N) t p g m) (@EQ Ax t p g m):=⟨by unfold EQ;exact lx⟩
instance(N:Nat)(x_0:BV):Mo (@CC (eN N) x_0) (@CC Ax x_0):=⟨by unfold CC;exact lx⟩
instance(N:Nat)(l:hT)(g:hT)(pr:Bw)(m:gt):Mo (@FC (eN N) l g pr m) (@FC Ax l g pr m):=⟨by unfold FC;exact lx⟩
instance(N:Nat)(t:AB)(p:j4)(c:j0)(h_3:AM)(m:AP)(pc:Bool):Mo (@EK (eN N) t p c h_3 m pc) (@EK Ax t p c h_3 m pc):=⟨by unfold EK;exact lx⟩
instance(N:Nat)(l:Fp)(n:Int):Mo (@Fa (eN N) l n) (@Fa Ax l n):=⟨by unfold Fa;exact lx⟩
instance(N:Nat)(t:AB)(p:hT)(g:hT)(rd:gt)(pc:Bool):Mo (@FG (eN N) t p g rd pc) (@FG Ax t p g rd pc):=⟨by unfold FG;exact lx⟩
instance(N:Nat)(s_0:An)(c:j0)(m:AP):Mo (@Bq (eN N) s_0 c m) (@Bq Ax s_0 c m):=⟨by unfold Bq;exact lx⟩
theorem Fg(N:Nat):∀n m:Nat,n<=m->(∀(a0:An)(a1:j0)(a2:AP),Mo (@Al (eN N) n a0 a1 a2) (@Al Ax m a0 a1 a2))/\(∀(a0:An)(a1:j0)(a2:AP),Mo (@A9 (eN N) n a0 a1 a2) (@A9 Ax m a0 a1 a2))
 |0,_,_=>⟨fun _ _ _=>⟨Le.none _⟩,fun _ _ _=>⟨Le.none _⟩⟩|n+1,0,h=>absurd h (by omega)|n+1,m+1,h=>by
  obtain ⟨i0,i1⟩:=Fg N n m (by omega);refine⟨?_,?_⟩
  .exact fun _ _ _=>⟨by unfold Al;exact lx⟩
  .exact fun _ _ _=>⟨by unfold A9;exact lx⟩
theorem I0(N n m:Nat)(h:n<=m)(a0:An)(a1:j0)(a2:AP):Mo (@Al (eN N) n a0 a1 a2) (@Al Ax m a0 a1 a2):=(Fg N n m h).1 a0 a1 a2
instance(N:Nat)(s_0:An)(c:j0)(m:AP):Mo (@DL (eN N) s_0 c m) (@DL Ax s_0 c m):=⟨LL N fun n hn=>(I0 N N n hn _ _ _).le⟩
instance(N:Nat)(t:AB)(p:j4)(c:j0)(h_3:AM)(m:AP)(pc:Bool):Mo (@Df (eN N) t p c h_3 m pc) (@Df Ax t p c h_3 m pc):=⟨by unfold Df;exact lx⟩
instance(N:Nat)(t:AB)(p:j4)(c:j0)(h_3:AM)(m:AP)(pc:Bool):Mo (@C4 (eN N) t p c h_3 m pc) (@C4 Ax t p c h_3 m pc):=⟨by unfold C4;exact lx⟩
instance(N:Nat)(t:AB)(kind:Int):Mo (@Hd (eN N) t kind) (@Hd Ax t kind):=⟨by unfold Hd;exact lx⟩
instance(N:Nat)(t:AB)(s_1:BB)(d:Bw):Mo (@Hc (eN N) t s_1 d) (@Hc Ax t s_1 d):=⟨by unfold Hc;exact lx⟩
instance(N:Nat)(t:AB)(s:BB)(V:List Fp)(p:(Int×Int)×Int):Mo (@JI (eN N) t s V p) (@JI Ax t s V p):=⟨by unfold JI;exact lx⟩
instance(N:Nat)(t:AB)(s:BB)(p:(Int×Int)×Int):Mo (@Kv (eN N) t s p) (@Kv Ax t s p):=⟨by unfold Kv;exact lx⟩
instance(N:Nat)(t:AB)(s:BB):Mo (@IR (eN N) t s) (@IR Ax t s):=⟨by unfold IR;exact lx⟩
instance(N:Nat)(t:AB)(r_1:ns)(h_2:AM)(m:AP):Mo (@GW (eN N) t r_1 h_2 m) (@GW Ax t r_1 h_2 m):=⟨by unfold GW;exact lx⟩
instance(N:Nat)(t:AB)(r_1:ns)(h_2:AM):Mo (@ER (eN N) t r_1 h_2) (@ER Ax t r_1 h_2):=⟨by unfold ER;exact lx⟩
instance(N:Nat)(t:AB)(rules:List ns)(h_2:AM):Mo (@C6 (eN N) t rules h_2) (@C6 Ax t rules h_2):=⟨by unfold C6;exact lx⟩
instance(N:Nat)(t:AB)(r_1:ns)(h_2:AM)(m:AP):Mo (@Hb (eN N) t r_1 h_2 m) (@Hb Ax t r_1 h_2 m):=⟨by unfold Hb;exact lx⟩
instance(N:Nat)(t:AB)(rules:List ns)(h_2:AM)(m:BW):Mo (@DE (eN N) t rules h_2 m) (@DE Ax t rules h_2 m):=⟨by unfold DE;exact lx⟩
instance(N:Nat)(t:AB)(rules:List ns)(h_2:AM)(choices:Fp):Mo (@Dh (eN N) t rules h_2 choices) (@Dh Ax t rules h_2 choices):=⟨by unfold Dh;exact lx⟩
instance(N:Nat)(t:AB)(rules:List ns)(d:AL):Mo (@Di (eN N) t rules d) (@Di Ax t rules d):=⟨by unfold Di;exact lx⟩
instance(N:Nat)(g:hT):Mo (@Dj (eN N) g) (@Dj Ax g):=⟨by unfold Dj;exact lx⟩
instance(N:Nat)(g:hT):Mo (@C5 (eN N) g) (@C5 Ax g):=⟨by unfold C5;exact lx⟩
instance(N:Nat)(t:AB)(rules:List ns)(d:AL):Mo (@Du (eN N) t rules d) (@Du Ax t rules d):=⟨by unfold Du;exact lx⟩
instance(N:Nat):Mo (@CY (eN N)) (@CY Ax):=⟨by unfold CY;exact lx⟩
end Go.Sf.Sc
namespace Go.Sf.Sc
open Go Go.Sf
theorem aN:@CY (eN 40)=some true:=by decide +kernel
theorem Xl:CY=some true:=
 have h:Mo (@CY (eN 40)) (@CY Ax):=inferInstance
 h.le _ aN
end Go.Sf.Sc
