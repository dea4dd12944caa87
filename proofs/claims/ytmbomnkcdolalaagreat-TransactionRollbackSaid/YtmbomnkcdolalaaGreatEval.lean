/- Lemmas. -/
import Derived.Test.YtmbomnkcdolalaaGreatFns
import Derived.Test.YtmbomnkcdolalaaGreatSfPl
set_option linter.all false
set_option maxRecDepth 100000
namespace Go.Sf.Sc
open Go Go.Sf
instance(N:Nat)(s_0:ByteArray)(ok' ok:Int->K1)[hok:∀y0,Mo (ok' y0) (ok y0)]:Mo (@Gu (eN N) s_0 ok') (@Gu BN s_0 ok):=⟨by unfold Gu;exact lx⟩
instance(N:Nat)(s_0:ByteArray):Mo (@GD (eN N) s_0) (@GD BN s_0):=⟨by unfold GD;exact lx⟩
instance(N:Nat)(s_0:ByteArray):Mo (@IA (eN N) s_0) (@IA BN s_0):=⟨by unfold IA;exact lx⟩
instance(N:Nat)(t:Ee):Mo (@IU (eN N) t) (@IU BN t):=⟨by unfold IU;exact lx⟩
instance(N:Nat)(s_0:ByteArray):Mo (@DQ (eN N) s_0) (@DQ BN s_0):=⟨by unfold DQ;exact lx⟩
instance(N:Nat)(s_0:List B8)(f' f:B8->K1)[hf:∀y0,Mo (f' y0) (f y0)]:Mo (@C4 (eN N) s_0 f') (@C4 BN s_0 f):=⟨by unfold C4;exact lx⟩
instance(N:Nat)(s_0:List B8)(f' f:B8->K1)[hf:∀y0,Mo (f' y0) (f y0)]:Mo (@CB (eN N) s_0 f') (@CB BN s_0 f):=⟨by unfold CB;exact lx⟩
theorem RR(N:Nat):∀n m:Nat,n<=m->(∀(a0:AC)(a1:Int),Mo (@DF (eN N) n a0 a1) (@DF BN m a0 a1))
 |0,_,_=>fun _ _=>⟨Le.none _⟩|n+1,0,h=>absurd h (by omega)|n+1,m+1,h=>by
  have ih:=RR N n m (by omega);exact fun _ _=>⟨by unfold DF;exact lx⟩
instance(N:Nat)(t:AC)(a:Int):Mo (@J2 (eN N) t a) (@J2 BN t a):=⟨LL N fun n hn=>(RR N N n hn _ _).le⟩
instance(N:Nat)(s_0:List ns)(f' f:ns->K1)[hf:∀y0,Mo (f' y0) (f y0)]:Mo (@Dl (eN N) s_0 f') (@Dl BN s_0 f):=⟨by unfold Dl;exact lx⟩
instance(N:Nat)(s_0:List ns)(f' f:ns->K1)[hf:∀y0,Mo (f' y0) (f y0)]:Mo (@Cc (eN N) s_0 f') (@Cc BN s_0 f):=⟨by unfold Cc;exact lx⟩
instance(N:Nat)(l:List ByteArray):Mo (@Gw (eN N) l) (@Gw BN l):=⟨by unfold Gw;exact lx⟩
instance(N:Nat)(x_0:ns)(before:List ns):Mo (@ES (eN N) x_0 before) (@ES BN x_0 before):=⟨by unfold ES;exact lx⟩
instance(N:Nat)(t:AC)(i_1:Int):Mo (@IC (eN N) t i_1) (@IC BN t i_1):=⟨by unfold IC;exact lx⟩
instance(N:Nat)(s_0:List CG)(f' f:CG->K1)[hf:∀y0,Mo (f' y0) (f y0)]:Mo (@C3 (eN N) s_0 f') (@C3 BN s_0 f):=⟨by unfold C3;exact lx⟩
instance(N:Nat)(s_0:List CG)(f' f:CG->K1)[hf:∀y0,Mo (f' y0) (f y0)]:Mo (@CA (eN N) s_0 f') (@CA BN s_0 f):=⟨by unfold CA;exact lx⟩
instance(N:Nat)(t:AC)(i_1:Int):Mo (@IB (eN N) t i_1) (@IB BN t i_1):=⟨by unfold IB;exact lx⟩
instance(N:Nat)(t:AC):Mo (@DH (eN N) t) (@DH BN t):=⟨by unfold DH;exact lx⟩
instance(N:Nat)(s_0:Fp)(f' f:Int->K1)[hf:∀y0,Mo (f' y0) (f y0)]:Mo (@D8 (eN N) s_0 f') (@D8 BN s_0 f):=⟨by unfold D8;exact lx⟩
instance(N:Nat)(s_0:Fp)(f' f:Int->K1)[hf:∀y0,Mo (f' y0) (f y0)]:Mo (@A5 (eN N) s_0 f') (@A5 BN s_0 f):=⟨by unfold A5;exact lx⟩
instance(N:Nat)(s_0:List Bo)(f' f:Bo->K1)[hf:∀y0,Mo (f' y0) (f y0)]:Mo (@Dm (eN N) s_0 f') (@Dm BN s_0 f):=⟨by unfold Dm;exact lx⟩
instance(N:Nat)(s_0:List Bo)(f' f:Bo->K1)[hf:∀y0,Mo (f' y0) (f y0)]:Mo (@BT (eN N) s_0 f') (@BT BN s_0 f):=⟨by unfold BT;exact lx⟩
instance(N:Nat)(g:d4):Mo (@Ci (eN N) g) (@Ci BN g):=⟨by unfold Ci;exact lx⟩
instance(N:Nat)(t:AC)(l:Fp):Mo (@FB (eN N) t l) (@FB BN t l):=⟨by unfold FB;exact lx⟩
instance(N:Nat)(t:AC)(a:Int):Mo (@D2 (eN N) t a) (@D2 BN t a):=⟨by unfold D2;exact lx⟩
instance(N:Nat)(t:AC)(kind:Int)(A7:Fp):Mo (@I9 (eN N) t kind A7) (@I9 BN t kind A7):=⟨by unfold I9;exact lx⟩
instance(N:Nat)(t:AC)(a:Int):Mo (@Ja (eN N) t a) (@Ja BN t a):=⟨by unfold Ja;exact lx⟩
instance(N:Nat)(t:AC)(a:Int)(b:Int):Mo (@IW (eN N) t a b) (@IW BN t a b):=⟨by unfold IW;exact lx⟩
instance(N:Nat)(t:AC)(edge:Int)(from':Int)(to':Int):Mo (@Gl (eN N) t edge from' to') (@Gl BN t edge from' to'):=⟨by unfold Gl;exact lx⟩
instance(N:Nat)(t:AC)(h_1:AH):Mo (@Ei (eN N) t h_1) (@Ei BN t h_1):=⟨by unfold Ei;exact lx⟩
instance(N:Nat)(t:AC)(h_1:AH):Mo (@GN (eN N) t h_1) (@GN BN t h_1):=⟨by unfold GN;exact lx⟩
instance(N:Nat)(t:AC)(p:ec)(s_2:Cf):Mo (@Ew (eN N) t p s_2) (@Ew BN t p s_2):=⟨by unfold Ew;exact lx⟩
instance(N:Nat)(t:AC)(p:ec):Mo (@Cq (eN N) t p) (@Cq BN t p):=⟨by unfold Cq;exact lx⟩
instance(N:Nat)(t:AC)(g:d4):Mo (@H7 (eN N) t g) (@H7 BN t g):=⟨by unfold H7;exact lx⟩
instance(N:Nat)(s_0:List Cf)(f' f:Cf->K1)[hf:∀y0,Mo (f' y0) (f y0)]:Mo (@Dn (eN N) s_0 f') (@Dn BN s_0 f):=⟨by unfold Dn;exact lx⟩
instance(N:Nat)(s_0:List Cf)(f' f:Cf->K1)[hf:∀y0,Mo (f' y0) (f y0)]:Mo (@CJ (eN N) s_0 f') (@CJ BN s_0 f):=⟨by unfold CJ;exact lx⟩
instance(N:Nat)(t:AC)(r_1:f0)(i_2:Int):Mo (@JG (eN N) t r_1 i_2) (@JG BN t r_1 i_2):=⟨by unfold JG;exact lx⟩
instance(N:Nat)(t:AC)(r_1:f0):Mo (@H6 (eN N) t r_1) (@H6 BN t r_1):=⟨by unfold H6;exact lx⟩
instance(N:Nat)(g:d4)(p:BH):Mo (@D9 (eN N) g p) (@D9 BN g p):=⟨by unfold D9;exact lx⟩
instance(N:Nat)(g:d4)(p:BH):Mo (@Dz (eN N) g p) (@Dz BN g p):=⟨by unfold Dz;exact lx⟩
instance(N:Nat)(a:d4)(b:d4)(m:d6):Mo (@DD (eN N) a b m) (@DD BN a b m):=⟨by unfold DD;exact lx⟩
instance(N:Nat)(a:d4)(b:d4)(m:d6):Mo (@Cv (eN N) a b m) (@Cv BN a b m):=⟨by unfold Cv;exact lx⟩
instance(N:Nat)(r_0:f0):Mo (@JF (eN N) r_0) (@JF BN r_0):=⟨by unfold JF;exact lx⟩
instance(N:Nat)(i_0:Int)(c0:d4)(c1:AC):Mo (@Fm (eN N) i_0 c0 c1) (@Fm BN i_0 c0 c1):=⟨by unfold Fm;exact lx⟩
instance(N:Nat)(t:AC)(g:d4)(ei:Fp)(ek:Fp):Mo (@F9 (eN N) t g ei ek) (@F9 BN t g ei ek):=⟨by unfold F9;exact lx⟩
instance(N:Nat)(s_0:List d7)(f' f:d7->K1)[hf:∀y0,Mo (f' y0) (f y0)]:Mo (@Co (eN N) s_0 f') (@Co BN s_0 f):=⟨by unfold Co;exact lx⟩
instance(N:Nat)(s_0:List d7)(f' f:d7->K1)[hf:∀y0,Mo (f' y0) (f y0)]:Mo (@Bq (eN N) s_0 f') (@Bq BN s_0 f):=⟨by unfold Bq;exact lx⟩
theorem K5(N:Nat):∀n m:Nat,n<=m->(∀(a0:d7),Mo (@BR (eN N) n a0) (@BR BN m a0))/\(∀(a0:d7),Mo (@Bb (eN N) n a0) (@Bb BN m a0))
 |0,_,_=>⟨fun _=>⟨Le.none _⟩,fun _=>⟨Le.none _⟩⟩|n+1,0,h=>absurd h (by omega)|n+1,m+1,h=>by
  obtain ⟨i0,i1⟩:=K5 N n m (by omega);refine⟨?_,?_⟩
  .exact fun _=>⟨by unfold BR;exact lx⟩
  .exact fun _=>⟨by unfold Bb;exact lx⟩
theorem Pw(N n m:Nat)(h:n<=m)(a0:d7):Mo (@BR (eN N) n a0) (@BR BN m a0):=(K5 N n m h).1 a0
instance(N:Nat)(c:d7):Mo (@FH (eN N) c) (@FH BN c):=⟨LL N fun n hn=>(Pw N N n hn _).le⟩
theorem MR(N:Nat):∀n m:Nat,n<=m->(∀(a0:d7),Mo (@CH (eN N) n a0) (@CH BN m a0))
 |0,_,_=>fun _=>⟨Le.none _⟩|n+1,0,h=>absurd h (by omega)|n+1,m+1,h=>by
  have ih:=MR N n m (by omega);exact fun _=>⟨by unfold CH;exact lx⟩
instance(N:Nat)(c:d7):Mo (@GY (eN N) c) (@GY BN c):=⟨LL N fun n hn=>(MR N N n hn _).le⟩
instance(N:Nat)(c:d7):Mo (@EN (eN N) c) (@EN BN c):=⟨by unfold EN;exact lx⟩
instance(N:Nat)(t:AC)(q:ec)(outer:Int):Mo (@DX (eN N) t q outer) (@DX BN t q outer):=⟨by unfold DX;exact lx⟩
theorem NE(N:Nat):∀n m:Nat,n<=m->(∀(a0:AC)(a1:ec)(a2:d7),Mo (@B3 (eN N) n a0 a1 a2) (@B3 BN m a0 a1 a2))
 |0,_,_=>fun _ _ _=>⟨Le.none _⟩|n+1,0,h=>absurd h (by omega)|n+1,m+1,h=>by
  have ih:=NE N n m (by omega);exact fun _ _ _=>⟨by unfold B3;exact lx⟩
instance(N:Nat)(t:AC)(p:ec)(c:d7):Mo (@JP (eN N) t p c) (@JP BN t p c):=⟨LL N fun n hn=>(NE N N n hn _ _ _).le⟩
instance(N:Nat)(t:AC)(p:ec)(c:d7):Mo (@Cu (eN N) t p c) (@Cu BN t p c):=⟨by unfold Cu;exact lx⟩
instance(N:Nat)(t:AC)(r_1:f0):Mo (@Gh (eN N) t r_1) (@Gh BN t r_1):=⟨by unfold Gh;exact lx⟩
instance(N:Nat)(t:AC)(rules:List f0)(h_2:AH):Mo (@Dt (eN N) t rules h_2) (@Dt BN t rules h_2):=⟨by unfold Dt;exact lx⟩
instance(N:Nat)(t:AC)(r_1:f0)(h_2:AH):Mo (@JY (eN N) t r_1 h_2) (@JY BN t r_1 h_2):=⟨by unfold JY;exact lx⟩
instance(N:Nat)(t:AC)(g:d4):Mo (@El (eN N) t g) (@El BN t g):=⟨by unfold El;exact lx⟩
instance(N:Nat)(t:AC)(p:d4)(g:d4):Mo (@Ed (eN N) t p g) (@Ed BN t p g):=⟨by unfold Ed;exact lx⟩
instance(N:Nat)(t:AC)(a:Int):Mo (@Gv (eN N) t a) (@Gv BN t a):=⟨by unfold Gv;exact lx⟩
instance(N:Nat)(t:AC):Mo (@FL (eN N) t) (@FL BN t):=⟨by unfold FL;exact lx⟩
instance(N:Nat)(t:AC)(p:d4)(g:d4)(m:d6):Mo (@FM (eN N) t p g m) (@FM BN t p g m):=⟨by unfold FM;exact lx⟩
instance(N:Nat)(t:AC)(p:d4)(g:d4)(m:d6)(ej:Bool):Mo (@Ec (eN N) t p g m ej) (@Ec BN t p g m ej):=⟨by unfold Ec;exact lx⟩
instance(N:Nat)(t:AC)(p:ec)(h_2:AH):Mo (@EJ (eN N) t p h_2) (@EJ BN t p h_2):=⟨by unfold EJ;exact lx⟩
instance(N:Nat)(t:AC)(p:ec)(h_2:AH)(m:d6):Mo (@De (eN N) t p h_2 m) (@De BN t p h_2 m):=⟨by unfold De;exact lx⟩
instance(N:Nat)(t:AC)(r_1:f0)(h_2:AH)(m:AO):Mo (@HK (eN N) t r_1 h_2 m) (@HK BN t r_1 h_2 m):=⟨by unfold HK;exact lx⟩
instance(N:Nat)(t:AC)(p:d4)(g:d4)(m:d6):Mo (@EP (eN N) t p g m) (@EP BN t p g m):=⟨by unfold EP;exact lx⟩
instance(N:Nat)(x_0:Bj):Mo (@CU (eN N) x_0) (@CU BN x_0):=⟨by unfold CU;exact lx⟩
instance(N:Nat)(l:d4)(g:d4)(jj:BH)(m:d6):Mo (@FQ (eN N) l g jj m) (@FQ BN l g jj m):=⟨by unfold FQ;exact lx⟩
instance(N:Nat)(t:AC)(p:ec)(c:d7)(h_3:AH)(m:AO)(ej:Bool):Mo (@EM (eN N) t p c h_3 m ej) (@EM BN t p c h_3 m ej):=⟨by unfold EM;exact lx⟩
instance(N:Nat)(l:Fp)(n:Int):Mo (@Fx (eN N) l n) (@Fx BN l n):=⟨by unfold Fx;exact lx⟩
theorem KJ(N:Nat):∀n m:Nat,n<=m->(∀(a0:AL),Mo (@Az (eN N) n a0) (@Az BN m a0))
 |0,_,_=>fun _=>⟨Le.none _⟩|n+1,0,h=>absurd h (by omega)|n+1,m+1,h=>by
  have ih:=KJ N n m (by omega);exact fun _=>⟨by unfold Az;exact lx⟩
instance(N:Nat)(f:AL):Mo (@Et (eN N) f) (@Et BN f):=⟨LL N fun n hn=>(KJ N N n hn _).le⟩
instance(N:Nat)(t:AC)(p:d4)(g:d4)(gt:d6)(ej:Bool)(up:Int):Mo (@GA (eN N) t p g gt ej up) (@GA BN t p g gt ej up):=⟨by unfold GA;exact lx⟩
instance(N:Nat)(t:AC)(p:d4)(g:d4)(gt:d6)(ej:Bool):Mo (@JV (eN N) t p g gt ej) (@JV BN t p g gt ej):=⟨by unfold JV;exact lx⟩
instance(N:Nat)(t:AC)(p:d4)(g:d4)(gt:d6)(ej:Bool):Mo (@FW (eN N) t p g gt ej) (@FW BN t p g gt ej):=⟨by unfold FW;exact lx⟩
instance(N:Nat)(s_0:As)(c:d7)(m:AO):Mo (@Bw (eN N) s_0 c m) (@Bw BN s_0 c m):=⟨by unfold Bw;exact lx⟩
theorem Ik(N:Nat):∀n m:Nat,n<=m->(∀(a0:As)(a1:d7)(a2:AO),Mo (@Ao (eN N) n a0 a1 a2) (@Ao BN m a0 a1 a2))/\(∀(a0:As)(a1:d7)(a2:AO),Mo (@BO (eN N) n a0 a1 a2) (@BO BN m a0 a1 a2))
 |0,_,_=>⟨fun _ _ _=>⟨Le.none _⟩,fun _ _ _=>⟨Le.none _⟩⟩|n+1,0,h=>absurd h (by omega)|n+1,m+1,h=>by
  obtain ⟨i0,i1⟩:=Ik N n m (by omega);refine⟨?_,?_⟩
  .exact fun _ _ _=>⟨by unfold Ao;exact lx⟩
  .exact fun _ _ _=>⟨by unfold BO;exact lx⟩
theorem NJ(N n m:Nat)(h:n<=m)(a0:As)(a1:d7)(a2:AO):Mo (@Ao (eN N) n a0 a1 a2) (@Ao BN m a0 a1 a2):=(Ik N n m h).1 a0 a1 a2
instance(N:Nat)(s_0:As)(c:d7)(m:AO):Mo (@Dd (eN N) s_0 c m) (@Dd BN s_0 c m):=⟨LL N fun n hn=>(NJ N N n hn _ _ _).le⟩
instance(N:Nat)(t:AC)(p:ec)(c:d7)(h_3:AH)(m:AO)(ej:Bool):Mo (@DW (eN N) t p c h_3 m ej) (@DW BN t p c h_3 m ej):=⟨by unfold DW;exact lx⟩
instance(N:Nat)(t:AC)(p:ec)(c:d7)(h_3:AH)(m:AO)(ej:Bool):Mo (@C6 (eN N) t p c h_3 m ej) (@C6 BN t p c h_3 m ej):=⟨by unfold C6;exact lx⟩
instance(N:Nat)(t:AC)(kind:Int):Mo (@H9 (eN N) t kind) (@H9 BN t kind):=⟨by unfold H9;exact lx⟩
instance(N:Nat)(t:AC)(s_1:Ax)(d:BH):Mo (@Gk (eN N) t s_1 d) (@Gk BN t s_1 d):=⟨by unfold Gk;exact lx⟩
instance(N:Nat)(t:AC)(s:Ax)(V:List Fp)(p:(Int×Int)×Int):Mo (@MW (eN N) t s V p) (@MW BN t s V p):=⟨by unfold MW;exact lx⟩
instance(N:Nat)(t:AC)(s:Ax)(p:(Int×Int)×Int):Mo (@MY (eN N) t s p) (@MY BN t s p):=⟨by unfold MY;exact lx⟩
instance(N:Nat)(t:AC)(s:Ax):Mo (@JH (eN N) t s) (@JH BN t s):=⟨by unfold JH;exact lx⟩
instance(N:Nat)(t:AC)(r_1:f0)(h_2:AH)(m:AO):Mo (@JX (eN N) t r_1 h_2 m) (@JX BN t r_1 h_2 m):=⟨by unfold JX;exact lx⟩
instance(N:Nat)(t:AC)(r_1:f0)(h_2:AH)(m:AO):Mo (@H8 (eN N) t r_1 h_2 m) (@H8 BN t r_1 h_2 m):=⟨by unfold H8;exact lx⟩
instance(N:Nat)(t:AC)(rules:List f0)(h_2:AH)(m:tg):Mo (@DL (eN N) t rules h_2 m) (@DL BN t rules h_2 m):=⟨by unfold DL;exact lx⟩
instance(N:Nat)(t:AC)(rules:List f0)(d:AR):Mo (@C9 (eN N) t rules d) (@C9 BN t rules d):=⟨by unfold C9;exact lx⟩
instance(N:Nat)(t:AC)(rules:List f0)(s_2:AI):Mo (@Cl (eN N) t rules s_2) (@Cl BN t rules s_2):=⟨by unfold Cl;exact lx⟩
instance(N:Nat)(t:AC)(rules:List f0)(s_2:AI):Mo (@CX (eN N) t rules s_2) (@CX BN t rules s_2):=⟨by unfold CX;exact lx⟩
instance(N:Nat)(g:d4):Mo (@EF (eN N) g) (@EF BN g):=⟨by unfold EF;exact lx⟩
instance(N:Nat)(g:d4):Mo (@C7 (eN N) g) (@C7 BN g):=⟨by unfold C7;exact lx⟩
instance(N:Nat)(t:AC)(rules:List f0)(d:AR):Mo (@Ds (eN N) t rules d) (@Ds BN t rules d):=⟨by unfold Ds;exact lx⟩
instance(N:Nat)(t:AC)(rules:List f0)(d:AR)(m:tg):Mo (@DY (eN N) t rules d m) (@DY BN t rules d m):=⟨by unfold DY;exact lx⟩
instance(N:Nat)(t:AC)(rules:List f0)(s_2:AI)(m:tg):Mo (@EA (eN N) t rules s_2 m) (@EA BN t rules s_2 m):=⟨by unfold EA;exact lx⟩
instance(N:Nat)(t:AC)(rules:List f0)(s_2:AI)(a:BJ):Mo (@ER (eN N) t rules s_2 a) (@ER BN t rules s_2 a):=⟨by unfold ER;exact lx⟩
instance(N:Nat)(t:AC)(rules:List f0)(s_2:AI)(l:List BJ):Mo (@Dg (eN N) t rules s_2 l) (@Dg BN t rules s_2 l):=⟨by unfold Dg;exact lx⟩
instance(N:Nat):Mo (@C0 (eN N)) (@C0 BN):=⟨by unfold C0;exact lx⟩
end Go.Sf.Sc
namespace Go.Sf.Sc
open Go Go.Sf
theorem nP:@C0 (eN 40)=some true:=by decide +kernel
theorem VT:C0=some true:=
 have h:Mo (@C0 (eN 40)) (@C0 BN):=inferInstance
 h.le _ nP
end Go.Sf.Sc
