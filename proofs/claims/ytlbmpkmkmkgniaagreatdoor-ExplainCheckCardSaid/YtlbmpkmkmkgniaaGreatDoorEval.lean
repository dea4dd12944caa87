/- Lemmas. -/
import Derived.Test.YtlbmpkmkmkgniaaGreatDoorFns
import Derived.Test.YtlbmpkmkmkgniaaGreatDoorSfEval
set_option linter.all false
set_option maxRecDepth 100000
namespace Go.Sf.Sc
open Go Go.Sf
instance (N:Nat) (s_0:ByteArray) (ok' ok:Int->ca) [hok:∀ y0,Mo (ok' y0) (ok y0)]:Mo (@Ip (eN N) s_0 ok') (@Ip B8 s_0 ok):=⟨by unfold Ip; exact lx⟩
instance (N:Nat) (s_0:ByteArray):Mo (@IM (eN N) s_0) (@IM B8 s_0):=⟨by unfold IM; exact lx⟩
instance (N:Nat) (s_0:ByteArray):Mo (@Jc (eN N) s_0) (@Jc B8 s_0):=⟨by unfold Jc; exact lx⟩
instance (N:Nat) (t:GM):Mo (@Jo (eN N) t) (@Jo B8 t):=⟨by unfold Jo; exact lx⟩
instance (N:Nat) (s_0:ByteArray):Mo (@FL (eN N) s_0) (@FL B8 s_0):=⟨by unfold FL; exact lx⟩
instance (N:Nat) (s_0:List CW) (f' f:CW->ca) [hf:∀ y0,Mo (f' y0) (f y0)]:Mo (@EG (eN N) s_0 f') (@EG B8 s_0 f):=⟨by unfold EG; exact lx⟩
instance (N:Nat) (s_0:List CW) (f' f:CW->ca) [hf:∀ y0,Mo (f' y0) (f y0)]:Mo (@C9 (eN N) s_0 f') (@C9 B8 s_0 f):=⟨by unfold C9; exact lx⟩
theorem QF (N:Nat):∀ n m:Nat,n<=m->(∀ (a0:AC) (a1:Int),Mo (@EQ (eN N) n a0 a1) (@EQ B8 m a0 a1))
 | 0,_,_=>fun _ _=>⟨Le.none _⟩
 | n+1,0,h=>absurd h (by omega)
 | n+1,m+1,h=>by
  have ih:=QF N n m (by omega);exact fun _ _=>⟨by unfold EQ; exact lx⟩
instance (N:Nat) (t:AC) (a:Int):Mo (@Kw (eN N) t a) (@Kw B8 t a):=⟨LL N fun n hn=>(QF N N n hn _ _).le⟩
instance (N:Nat) (s_0:List Attr) (f' f:Attr->ca) [hf:∀ y0,Mo (f' y0) (f y0)]:Mo (@FA (eN N) s_0 f') (@FA B8 s_0 f):=⟨by unfold FA; exact lx⟩
instance (N:Nat) (s_0:List Attr) (f' f:Attr->ca) [hf:∀ y0,Mo (f' y0) (f y0)]:Mo (@D0 (eN N) s_0 f') (@D0 B8 s_0 f):=⟨by unfold D0; exact lx⟩
instance (N:Nat) (l:List ByteArray):Mo (@Ir (eN N) l) (@Ir B8 l):=⟨by unfold Ir; exact lx⟩
instance (N:Nat) (x_0:Attr) (before:List Attr):Mo (@F9 (eN N) x_0 before) (@F9 B8 x_0 before):=⟨by unfold F9; exact lx⟩
instance (N:Nat) (t:AC) (i_1:Int):Mo (@Jf (eN N) t i_1) (@Jf B8 t i_1):=⟨by unfold Jf; exact lx⟩
instance (N:Nat) (s_0:List DE) (f' f:DE->ca) [hf:∀ y0,Mo (f' y0) (f y0)]:Mo (@EF (eN N) s_0 f') (@EF B8 s_0 f):=⟨by unfold EF; exact lx⟩
instance (N:Nat) (s_0:List DE) (f' f:DE->ca) [hf:∀ y0,Mo (f' y0) (f y0)]:Mo (@C8 (eN N) s_0 f') (@C8 B8 s_0 f):=⟨by unfold C8; exact lx⟩
instance (N:Nat) (t:AC) (i_1:Int):Mo (@Je (eN N) t i_1) (@Je B8 t i_1):=⟨by unfold Je; exact lx⟩
instance (N:Nat) (t:AC):Mo (@GL (eN N) t) (@GL B8 t):=⟨by unfold GL; exact lx⟩
instance (N:Nat) (s_0:Ne) (f' f:Int->ca) [hf:∀ y0,Mo (f' y0) (f y0)]:Mo (@FR (eN N) s_0 f') (@FR B8 s_0 f):=⟨by unfold FR; exact lx⟩
instance (N:Nat) (s_0:Ne) (f' f:Int->ca) [hf:∀ y0,Mo (f' y0) (f y0)]:Mo (@B4 (eN N) s_0 f') (@B4 B8 s_0 f):=⟨by unfold B4; exact lx⟩
instance (N:Nat) (s_0:List DU) (f' f:DU->ca) [hf:∀ y0,Mo (f' y0) (f y0)]:Mo (@FB (eN N) s_0 f') (@FB B8 s_0 f):=⟨by unfold FB; exact lx⟩
instance (N:Nat) (s_0:List DU) (f' f:DU->ca) [hf:∀ y0,Mo (f' y0) (f y0)]:Mo (@CI (eN N) s_0 f') (@CI B8 s_0 f):=⟨by unfold CI; exact lx⟩
instance (N:Nat) (g:Graph):Mo (@EZ (eN N) g) (@EZ B8 g):=⟨by unfold EZ; exact lx⟩
instance (N:Nat) (t:AC) (l:Ne):Mo (@HI (eN N) t l) (@HI B8 t l):=⟨by unfold HI; exact lx⟩
instance (N:Nat) (t:AC) (a:Int):Mo (@IA (eN N) t a) (@IA B8 t a):=⟨by unfold IA; exact lx⟩
instance (N:Nat) (t:AC) (kind:Int) (BM:Ne):Mo (@KH (eN N) t kind BM) (@KH B8 t kind BM):=⟨by unfold KH; exact lx⟩
instance (N:Nat) (t:AC) (a:Int):Mo (@KX (eN N) t a) (@KX B8 t a):=⟨by unfold KX; exact lx⟩
instance (N:Nat) (t:AC) (a:Int) (b:Int):Mo (@Jp (eN N) t a b) (@Jp B8 t a b):=⟨by unfold Jp; exact lx⟩
instance (N:Nat) (t:AC) (edge:Int) (from':Int) (to':Int):Mo (@Jd (eN N) t edge from' to') (@Jd B8 t edge from' to'):=⟨by unfold Jd; exact lx⟩
instance (N:Nat) (t:AC) (h_1:AU):Mo (@H5 (eN N) t h_1) (@H5 B8 t h_1):=⟨by unfold H5; exact lx⟩
instance (N:Nat) (t:AC) (p:Pattern) (s_2:EJ):Mo (@G0 (eN N) t p s_2) (@G0 B8 t p s_2):=⟨by unfold G0; exact lx⟩
instance (N:Nat) (t:AC) (p:Pattern):Mo (@ER (eN N) t p) (@ER B8 t p):=⟨by unfold ER; exact lx⟩
instance (N:Nat) (s_0:List AA) (f' f:AA->ca) [hf:∀ y0,Mo (f' y0) (f y0)]:Mo (@EA (eN N) s_0 f') (@EA B8 s_0 f):=⟨by unfold EA; exact lx⟩
instance (N:Nat) (s_0:List AA) (f' f:AA->ca) [hf:∀ y0,Mo (f' y0) (f y0)]:Mo (@B6 (eN N) s_0 f') (@B6 B8 s_0 f):=⟨by unfold B6; exact lx⟩
theorem Lj (N:Nat):∀ n m:Nat,n<=m->(∀ (a0:AA),Mo (@B7 (eN N) n a0) (@B7 B8 m a0))∧(∀ (a0:AA),Mo (@CD (eN N) n a0) (@CD B8 m a0))
 | 0,_,_=>⟨fun _=>⟨Le.none _⟩,fun _=>⟨Le.none _⟩⟩
 | n+1,0,h=>absurd h (by omega)
 | n+1,m+1,h=>by
  obtain ⟨i0,i1⟩:=Lj N n m (by omega);refine ⟨?_,?_⟩
  ·exact fun _=>⟨by unfold B7; exact lx⟩
  ·exact fun _=>⟨by unfold CD; exact lx⟩
theorem PF (N n m:Nat) (h:n<=m) (a0:AA):Mo (@B7 (eN N) n a0) (@B7 B8 m a0):=(Lj N n m h).1 a0
instance (N:Nat) (c:AA):Mo (@HO (eN N) c) (@HO B8 c):=⟨LL N fun n hn=>(PF N N n hn _).le⟩
theorem Mx (N:Nat):∀ n m:Nat,n<=m->(∀ (a0:AA),Mo (@DF (eN N) n a0) (@DF B8 m a0))
 | 0,_,_=>fun _=>⟨Le.none _⟩
 | n+1,0,h=>absurd h (by omega)
 | n+1,m+1,h=>by
  have ih:=Mx N n m (by omega);exact fun _=>⟨by unfold DF; exact lx⟩
instance (N:Nat) (c:AA):Mo (@If (eN N) c) (@If B8 c):=⟨LL N fun n hn=>(Mx N N n hn _).le⟩
instance (N:Nat) (c:AA):Mo (@F3 (eN N) c) (@F3 B8 c):=⟨by unfold F3; exact lx⟩
instance (N:Nat) (s_0:List EJ) (f' f:EJ->ca) [hf:∀ y0,Mo (f' y0) (f y0)]:Mo (@FC (eN N) s_0 f') (@FC B8 s_0 f):=⟨by unfold FC; exact lx⟩
instance (N:Nat) (s_0:List EJ) (f' f:EJ->ca) [hf:∀ y0,Mo (f' y0) (f y0)]:Mo (@D1 (eN N) s_0 f') (@D1 B8 s_0 f):=⟨by unfold D1; exact lx⟩
instance (N:Nat) (t:AC) (q:Pattern) (outer:Int):Mo (@E2 (eN N) t q outer) (@E2 B8 t q outer):=⟨by unfold E2; exact lx⟩
instance (N:Nat) (a:Graph) (b:Graph) (m:Morphism):Mo (@FN (eN N) a b m) (@FN B8 a b m):=⟨by unfold FN; exact lx⟩
instance (N:Nat) (a:Graph) (b:Graph) (m:Morphism):Mo (@EU (eN N) a b m) (@EU B8 a b m):=⟨by unfold EU; exact lx⟩
theorem NR (N:Nat):∀ n m:Nat,n<=m->(∀ (a0:AC) (a1:Pattern) (a2:AA),Mo (@C0 (eN N) n a0 a1 a2) (@C0 B8 m a0 a1 a2))
 | 0,_,_=>fun _ _ _=>⟨Le.none _⟩
 | n+1,0,h=>absurd h (by omega)
 | n+1,m+1,h=>by
  have ih:=NR N n m (by omega);exact fun _ _ _=>⟨by unfold C0; exact lx⟩
instance (N:Nat) (t:AC) (p:Pattern) (c:AA):Mo (@KQ (eN N) t p c) (@KQ B8 t p c):=⟨LL N fun n hn=>(NR N N n hn _ _ _).le⟩
instance (N:Nat) (t:AC) (p:Pattern) (c:AA):Mo (@ES (eN N) t p c) (@ES B8 t p c):=⟨by unfold ES; exact lx⟩
instance (N:Nat) (t:AC) (g:Graph):Mo (@GT (eN N) t g) (@GT B8 t g):=⟨by unfold GT; exact lx⟩
instance (N:Nat) (t:AC) (p:Graph) (g:Graph):Mo (@HY (eN N) t p g) (@HY B8 t p g):=⟨by unfold HY; exact lx⟩
instance (N:Nat) (t:AC) (a:Int):Mo (@Iq (eN N) t a) (@Iq B8 t a):=⟨by unfold Iq; exact lx⟩
instance (N:Nat) (t:AC):Mo (@HV (eN N) t) (@HV B8 t):=⟨by unfold HV; exact lx⟩
instance (N:Nat) (t:AC) (p:Graph) (g:Graph) (m:Morphism):Mo (@IL (eN N) t p g m) (@IL B8 t p g m):=⟨by unfold IL; exact lx⟩
instance (N:Nat) (t:AC) (p:Graph) (g:Graph) (m:Morphism) (injective:Bool):Mo (@HU (eN N) t p g m injective) (@HU B8 t p g m injective):=⟨by unfold HU; exact lx⟩
instance (N:Nat) (t:AC) (p:Pattern) (h_2:AU):Mo (@FY (eN N) t p h_2) (@FY B8 t p h_2):=⟨by unfold FY; exact lx⟩
instance (N:Nat) (t:AC) (p:Pattern) (h_2:AU) (m:Morphism):Mo (@FX (eN N) t p h_2 m) (@FX B8 t p h_2 m):=⟨by unfold FX; exact lx⟩
instance (N:Nat) (t:AC) (p:Pattern) (c:AA) (h_3:AU) (m:AF) (injective:Bool):Mo (@F2 (eN N) t p c h_3 m injective) (@F2 B8 t p c h_3 m injective):=⟨by unfold F2; exact lx⟩
instance (N:Nat) (l:Ne) (n:Int):Mo (@H8 (eN N) l n) (@H8 B8 l n):=⟨by unfold H8; exact lx⟩
theorem K6 (N:Nat):∀ n m:Nat,n<=m->(∀ (a0:AN),Mo (@BD (eN N) n a0) (@BD B8 m a0))
 | 0,_,_=>fun _=>⟨Le.none _⟩
 | n+1,0,h=>absurd h (by omega)
 | n+1,m+1,h=>by
  have ih:=K6 N n m (by omega);exact fun _=>⟨by unfold BD; exact lx⟩
instance (N:Nat) (f:AN):Mo (@GZ (eN N) f) (@GZ B8 f):=⟨LL N fun n hn=>(K6 N N n hn _).le⟩
instance (N:Nat) (t:AC) (p:Graph) (g:Graph) (partial_:Morphism) (injective:Bool) (most:Int):Mo (@IK (eN N) t p g partial_ injective most) (@IK B8 t p g partial_ injective most):=⟨by unfold IK; exact lx⟩
instance (N:Nat) (t:AC) (p:Graph) (g:Graph) (partial_:Morphism) (injective:Bool):Mo (@KW (eN N) t p g partial_ injective) (@KW B8 t p g partial_ injective):=⟨by unfold KW; exact lx⟩
instance (N:Nat) (t:AC) (p:Graph) (g:Graph) (partial_:Morphism) (injective:Bool):Mo (@GR (eN N) t p g partial_ injective) (@GR B8 t p g partial_ injective):=⟨by unfold GR; exact lx⟩
instance (N:Nat) (s_0:A8) (c:AA) (m:AF):Mo (@CT (eN N) s_0 c m) (@CT B8 s_0 c m):=⟨by unfold CT; exact lx⟩
theorem Jz (N:Nat):∀ n m:Nat,n<=m->(∀ (a0:A8) (a1:AA) (a2:AF),Mo (@A5 (eN N) n a0 a1 a2) (@A5 B8 m a0 a1 a2))∧(∀ (a0:A8) (a1:AA) (a2:AF),Mo (@B3 (eN N) n a0 a1 a2) (@B3 B8 m a0 a1 a2))
 | 0,_,_=>⟨fun _ _ _=>⟨Le.none _⟩,fun _ _ _=>⟨Le.none _⟩⟩
 | n+1,0,h=>absurd h (by omega)
 | n+1,m+1,h=>by
  obtain ⟨i0,i1⟩:=Jz N n m (by omega);refine ⟨?_,?_⟩
  ·exact fun _ _ _=>⟨by unfold A5; exact lx⟩
  ·exact fun _ _ _=>⟨by unfold B3; exact lx⟩
theorem NV (N n m:Nat) (h:n<=m) (a0:A8) (a1:AA) (a2:AF):Mo (@A5 (eN N) n a0 a1 a2) (@A5 B8 m a0 a1 a2):=(Jz N n m h).1 a0 a1 a2
instance (N:Nat) (s_0:A8) (c:AA) (m:AF):Mo (@E5 (eN N) s_0 c m) (@E5 B8 s_0 c m):=⟨LL N fun n hn=>(NV N N n hn _ _ _).le⟩
instance (N:Nat) (t:AC) (p:Pattern) (c:AA) (h_3:AU) (m:AF) (injective:Bool):Mo (@E1 (eN N) t p c h_3 m injective) (@E1 B8 t p c h_3 m injective):=⟨by unfold E1; exact lx⟩
instance (N:Nat) (t:AC) (p:Pattern) (c:AA) (h_3:AU) (m:AF) (injective:Bool):Mo (@C4 (eN N) t p c h_3 m injective) (@C4 B8 t p c h_3 m injective):=⟨by unfold C4; exact lx⟩
instance (N:Nat) (s_0:AG) (c:AA) (m:AF):Mo (@CJ (eN N) s_0 c m) (@CJ B8 s_0 c m):=⟨by unfold CJ; exact lx⟩
instance (N:Nat) (k:AA) (c0' c0:AA->ca) [hc0:∀ y0,Mo (c0' y0) (c0 y0)]:Mo (@D8 (eN N) k c0') (@D8 B8 k c0):=⟨by unfold D8; exact lx⟩
instance (N:Nat) (s_0:List AF) (f' f:AF->ca) [hf:∀ y0,Mo (f' y0) (f y0)]:Mo (@E0 (eN N) s_0 f') (@E0 B8 s_0 f):=⟨by unfold E0; exact lx⟩
instance (N:Nat) (s_0:List AF) (f' f:AF->ca) [hf:∀ y0,Mo (f' y0) (f y0)]:Mo (@DQ (eN N) s_0 f') (@DQ B8 s_0 f):=⟨by unfold DQ; exact lx⟩
theorem K7 (N:Nat):∀ n m:Nat,n<=m->(∀ (a0:AG) (a1:AA) (a2:AF),Mo (@BO (eN N) n a0 a1 a2) (@BO B8 m a0 a1 a2))∧(∀ (a0:AA) (a1:AG) (a2:AF),Mo (@BH (eN N) n a0 a1 a2) (@BH B8 m a0 a1 a2))∧(∀ (a0:AF) (a1:AG) (a2:AA),Mo (@B9 (eN N) n a0 a1 a2) (@B9 B8 m a0 a1 a2))
 | 0,_,_=>⟨fun _ _ _=>⟨Le.none _⟩,fun _ _ _=>⟨Le.none _⟩,fun _ _ _=>⟨Le.none _⟩⟩
 | n+1,0,h=>absurd h (by omega)
 | n+1,m+1,h=>by
  obtain ⟨i0,i1,i2⟩:=K7 N n m (by omega);refine ⟨?_,?_,?_⟩
  ·exact fun _ _ _=>⟨by unfold BO; exact lx⟩
  ·exact fun _ _ _=>⟨by unfold BH; exact lx⟩
  ·exact fun _ _ _=>⟨by unfold B9; exact lx⟩
theorem Ot (N n m:Nat) (h:n<=m) (a0:AG) (a1:AA) (a2:AF):Mo (@BO (eN N) n a0 a1 a2) (@BO B8 m a0 a1 a2):=(K7 N n m h).1 a0 a1 a2
instance (N:Nat) (s_0:AG) (c:AA) (m:AF):Mo (@_explain_scene__holds (eN N) s_0 c m) (@_explain_scene__holds B8 s_0 c m):=⟨LL N fun n hn=>(Ot N N n hn _ _ _).le⟩
theorem Lp (N:Nat):∀ n m:Nat,n<=m->(∀ (a0:AG) (a1:AA) (a2:AF) (a3:Ne) (a4:Bool),Mo (@BS (eN N) n a0 a1 a2 a3 a4) (@BS B8 m a0 a1 a2 a3 a4))∧(∀ (a0:AG) (a1:AA) (a2:AF) (a3:Ne) (a4:Bool),Mo (@CE (eN N) n a0 a1 a2 a3 a4) (@CE B8 m a0 a1 a2 a3 a4))∧(∀ (a0:AG) (a1:AA) (a2:AF) (a3:Ne) (a4:Bool),Mo (@CM (eN N) n a0 a1 a2 a3 a4) (@CM B8 m a0 a1 a2 a3 a4))
 | 0,_,_=>⟨fun _ _ _ _ _=>⟨Le.none _⟩,fun _ _ _ _ _=>⟨Le.none _⟩,fun _ _ _ _ _=>⟨Le.none _⟩⟩
 | n+1,0,h=>absurd h (by omega)
 | n+1,m+1,h=>by
  obtain ⟨i0,i1,i2⟩:=Lp N n m (by omega);refine ⟨?_,?_,?_⟩
  ·exact fun _ _ _ _ _=>⟨by unfold BS; exact lx⟩
  ·exact fun _ _ _ _ _=>⟨by unfold CE; exact lx⟩
  ·exact fun _ _ _ _ _=>⟨by unfold CM; exact lx⟩
theorem Pq (N n m:Nat) (h:n<=m) (a0:AG) (a1:AA) (a2:AF) (a3:Ne) (a4:Bool):Mo (@BS (eN N) n a0 a1 a2 a3 a4) (@BS B8 m a0 a1 a2 a3 a4):=(Lp N n m h).1 a0 a1 a2 a3 a4
instance (N:Nat) (s_0:AG) (c:AA) (m:AF) (path:Ne) (good:Bool):Mo (@JA (eN N) s_0 c m path good) (@JA B8 s_0 c m path good):=⟨LL N fun n hn=>(Pq N N n hn _ _ _ _ _).le⟩
instance (N:Nat) (t:AC) (p:Pattern) (c:AA) (h_3:AU) (m:AF) (injective:Bool):Mo (@IR (eN N) t p c h_3 m injective) (@IR B8 t p c h_3 m injective):=⟨by unfold IR; exact lx⟩
instance (N:Nat) (starts:Ne) (more' more:Int->Option Ne) [hmore:∀ y0,Mo (more' y0) (more y0)]:Mo (@EM (eN N) starts more') (@EM B8 starts more):=⟨by unfold EM; exact lx⟩
theorem Kc (N:Nat):∀ n m:Nat,n<=m->(∀ (a0:AG) (a1:(List AH)) (a2:AA) (a3:AF) (a4:Ne) (a5:Bool),Mo (@A0 (eN N) n a0 a1 a2 a3 a4 a5) (@A0 B8 m a0 a1 a2 a3 a4 a5))∧(∀ (a0:AG) (a1:(List AH)) (a2:AA) (a3:AF) (a4:Ne) (a5:Bool),Mo (@BI (eN N) n a0 a1 a2 a3 a4 a5) (@BI B8 m a0 a1 a2 a3 a4 a5))∧(∀ (a0:Int) (a1:AG) (a2:(List AH)) (a3:AA) (a4:AF) (a5:Ne) (a6:Int) (a7:Bool),Mo (@BE (eN N) n a0 a1 a2 a3 a4 a5 a6 a7) (@BE B8 m a0 a1 a2 a3 a4 a5 a6 a7))∧(∀ (a0:Int) (a1:(List AH)) (a2:Ne) (a3:AF) (a4:AG) (a5:AA),Mo (@BB (eN N) n a0 a1 a2 a3 a4 a5) (@BB B8 m a0 a1 a2 a3 a4 a5))∧(∀ (a0:Int) (a1:AG) (a2:(List AH)) (a3:Int) (a4:AA) (a5:AF) (a6:Ne),Mo (@A6 (eN N) n a0 a1 a2 a3 a4 a5 a6) (@A6 B8 m a0 a1 a2 a3 a4 a5 a6))∧(∀ (a0:Int) (a1:AG) (a2:(List AH)) (a3:AA) (a4:AF) (a5:Ne),Mo (@BC (eN N) n a0 a1 a2 a3 a4 a5) (@BC B8 m a0 a1 a2 a3 a4 a5))
 | 0,_,_=>⟨fun _ _ _ _ _ _=>⟨Le.none _⟩,fun _ _ _ _ _ _=>⟨Le.none _⟩,fun _ _ _ _ _ _ _ _=>⟨Le.none _⟩,fun _ _ _ _ _ _=>⟨Le.none _⟩,fun _ _ _ _ _ _ _=>⟨Le.none _⟩,fun _ _ _ _ _ _=>⟨Le.none _⟩⟩
 | n+1,0,h=>absurd h (by omega)
 | n+1,m+1,h=>by
  obtain ⟨i0,i1,i2,i3,i4,i5⟩:=Kc N n m (by omega);refine ⟨?_,?_,?_,?_,?_,?_⟩
  ·exact fun _ _ _ _ _ _=>⟨by unfold A0; exact lx⟩
  ·exact fun _ _ _ _ _ _=>⟨by unfold BI; exact lx⟩
  ·exact fun _ _ _ _ _ _ _ _=>⟨by unfold BE; exact lx⟩
  ·exact fun _ _ _ _ _ _=>⟨by unfold BB; exact lx⟩
  ·exact fun _ _ _ _ _ _ _=>⟨by unfold A6; exact lx⟩
  ·exact fun _ _ _ _ _ _=>⟨by unfold BC; exact lx⟩
theorem OG (N n m:Nat) (h:n<=m) (a0:AG) (a1:(List AH)) (a2:AA) (a3:AF) (a4:Ne) (a5:Bool):Mo (@A0 (eN N) n a0 a1 a2 a3 a4 a5) (@A0 B8 m a0 a1 a2 a3 a4 a5):=(Kc N n m h).1 a0 a1 a2 a3 a4 a5
instance (N:Nat) (s_0:AG) (l:List AH) (c:AA) (m:AF) (path:Ne) (good:Bool):Mo (@FT (eN N) s_0 l c m path good) (@FT B8 s_0 l c m path good):=⟨LL N fun n hn=>(OG N N n hn _ _ _ _ _ _).le⟩
instance (N:Nat) (t:AC) (p:Pattern) (c:AA) (h_3:AU) (m:AF) (injective:Bool) (l:List AH):Mo (@GN (eN N) t p c h_3 m injective l) (@GN B8 t p c h_3 m injective l):=⟨by unfold GN; exact lx⟩
theorem PQ (N:Nat):∀ n m:Nat,n<=m->(∀ (a0:Ne) (a1:Int),Mo (@GO (eN N) n a0 a1) (@GO B8 m a0 a1))
 | 0,_,_=>fun _ _=>⟨Le.none _⟩
 | n+1,0,h=>absurd h (by omega)
 | n+1,m+1,h=>by
  have ih:=PQ N n m (by omega);exact fun _ _=>⟨by unfold GO; exact lx⟩
instance (N:Nat) (l:Ne) (n_1:Int):Mo (@Mz (eN N) l n_1) (@Mz B8 l n_1):=⟨LL N fun n hn=>(PQ N N n hn _ _).le⟩
instance (N:Nat) (t:AC) (p:Pattern) (c:AA) (h_3:AU) (m:AF):Mo (@Iu (eN N) t p c h_3 m) (@Iu B8 t p c h_3 m):=⟨by unfold Iu; exact lx⟩
instance (N:Nat) (t:AC) (h_1:AU) (l:List AH):Mo (@J3 (eN N) t h_1 l) (@J3 B8 t h_1 l):=⟨by unfold J3; exact lx⟩
instance (N:Nat) :Mo (@GG (eN N)) (@GG B8):=⟨by unfold GG; exact lx⟩
end Go.Sf.Sc
namespace Go.Sf.Sc
open Go Go.Sf
theorem fL:@GG (eN 40)=some true:=by decide +kernel
theorem cF:GG=some true:=
 have h:Mo (@GG (eN 40)) (@GG B8):=inferInstance
 h.le _ fL
end Go.Sf.Sc
