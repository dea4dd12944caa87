/- Lemmas. -/
import Derived.Test.YtlbmpkmkmkgniaaGreatDoorFns
import Derived.Test.YtlbmpkmkmkgniaaGreatDoorSfEval
set_option linter.all false
set_option maxRecDepth 100000
namespace Go.Sf.Sc
open Go Go.Sf
instance (N:Nat) (s_0:ByteArray) (ok' ok:Int->ca) [hok:∀ y0,Mo (ok' y0) (ok y0)]:Mo (@Ib (eN N) s_0 ok') (@Ib B5 s_0 ok):=⟨by unfold Ib; exact lx⟩
instance (N:Nat) (s_0:ByteArray):Mo (@H8 (eN N) s_0) (@H8 B5 s_0):=⟨by unfold H8; exact lx⟩
instance (N:Nat) (s_0:ByteArray):Mo (@JS (eN N) s_0) (@JS B5 s_0):=⟨by unfold JS; exact lx⟩
instance (N:Nat) (t:GK):Mo (@Jd (eN N) t) (@Jd B5 t):=⟨by unfold Jd; exact lx⟩
instance (N:Nat) (s_0:ByteArray):Mo (@FK (eN N) s_0) (@FK B5 s_0):=⟨by unfold FK; exact lx⟩
instance (N:Nat) (s_0:List CU) (f' f:CU->ca) [hf:∀ y0,Mo (f' y0) (f y0)]:Mo (@EA (eN N) s_0 f') (@EA B5 s_0 f):=⟨by unfold EA; exact lx⟩
instance (N:Nat) (s_0:List CU) (f' f:CU->ca) [hf:∀ y0,Mo (f' y0) (f y0)]:Mo (@DA (eN N) s_0 f') (@DA B5 s_0 f):=⟨by unfold DA; exact lx⟩
theorem Po (N:Nat):∀ n m:Nat,n<=m->(∀ (a0:AC) (a1:Int),Mo (@EI (eN N) n a0 a1) (@EI B5 m a0 a1))
 | 0,_,_=>fun _ _=>⟨Le.none _⟩
 | n+1,0,h=>absurd h (by omega)
 | n+1,m+1,h=>by
  have ih:=Po N n m (by omega);exact fun _ _=>⟨by unfold EI; exact lx⟩
instance (N:Nat) (t:AC) (a:Int):Mo (@Kl (eN N) t a) (@Kl B5 t a):=⟨LL N fun n hn=>(Po N N n hn _ _).le⟩
instance (N:Nat) (s_0:List Attr) (f' f:Attr->ca) [hf:∀ y0,Mo (f' y0) (f y0)]:Mo (@FA (eN N) s_0 f') (@FA B5 s_0 f):=⟨by unfold FA; exact lx⟩
instance (N:Nat) (s_0:List Attr) (f' f:Attr->ca) [hf:∀ y0,Mo (f' y0) (f y0)]:Mo (@DX (eN N) s_0 f') (@DX B5 s_0 f):=⟨by unfold DX; exact lx⟩
instance (N:Nat) (l:List ByteArray):Mo (@Ie (eN N) l) (@Ie B5 l):=⟨by unfold Ie; exact lx⟩
instance (N:Nat) (x_0:Attr) (before:List Attr):Mo (@GB (eN N) x_0 before) (@GB B5 x_0 before):=⟨by unfold GB; exact lx⟩
instance (N:Nat) (t:AC) (i_1:Int):Mo (@JV (eN N) t i_1) (@JV B5 t i_1):=⟨by unfold JV; exact lx⟩
instance (N:Nat) (s_0:List DD) (f' f:DD->ca) [hf:∀ y0,Mo (f' y0) (f y0)]:Mo (@D9 (eN N) s_0 f') (@D9 B5 s_0 f):=⟨by unfold D9; exact lx⟩
instance (N:Nat) (s_0:List DD) (f' f:DD->ca) [hf:∀ y0,Mo (f' y0) (f y0)]:Mo (@C9 (eN N) s_0 f') (@C9 B5 s_0 f):=⟨by unfold C9; exact lx⟩
instance (N:Nat) (t:AC) (i_1:Int):Mo (@JU (eN N) t i_1) (@JU B5 t i_1):=⟨by unfold JU; exact lx⟩
instance (N:Nat) (t:AC):Mo (@GJ (eN N) t) (@GJ B5 t):=⟨by unfold GJ; exact lx⟩
instance (N:Nat) (s_0:Ne) (f' f:Int->ca) [hf:∀ y0,Mo (f' y0) (f y0)]:Mo (@FT (eN N) s_0 f') (@FT B5 s_0 f):=⟨by unfold FT; exact lx⟩
instance (N:Nat) (s_0:Ne) (f' f:Int->ca) [hf:∀ y0,Mo (f' y0) (f y0)]:Mo (@B0 (eN N) s_0 f') (@B0 B5 s_0 f):=⟨by unfold B0; exact lx⟩
instance (N:Nat) (s_0:List DK) (f' f:DK->ca) [hf:∀ y0,Mo (f' y0) (f y0)]:Mo (@FB (eN N) s_0 f') (@FB B5 s_0 f):=⟨by unfold FB; exact lx⟩
instance (N:Nat) (s_0:List DK) (f' f:DK->ca) [hf:∀ y0,Mo (f' y0) (f y0)]:Mo (@CD (eN N) s_0 f') (@CD B5 s_0 f):=⟨by unfold CD; exact lx⟩
instance (N:Nat) (g:Graph):Mo (@EU (eN N) g) (@EU B5 g):=⟨by unfold EU; exact lx⟩
instance (N:Nat) (t:AC) (l:Ne):Mo (@G6 (eN N) t l) (@G6 B5 t l):=⟨by unfold G6; exact lx⟩
instance (N:Nat) (t:AC) (a:Int):Mo (@Hx (eN N) t a) (@Hx B5 t a):=⟨by unfold Hx; exact lx⟩
instance (N:Nat) (t:AC) (kind:Int) (BJ:Ne):Mo (@J6 (eN N) t kind BJ) (@J6 B5 t kind BJ):=⟨by unfold J6; exact lx⟩
instance (N:Nat) (t:AC) (a:Int):Mo (@KN (eN N) t a) (@KN B5 t a):=⟨by unfold KN; exact lx⟩
instance (N:Nat) (t:AC) (a:Int) (b:Int):Mo (@Je (eN N) t a b) (@Je B5 t a b):=⟨by unfold Je; exact lx⟩
instance (N:Nat) (t:AC) (edge:Int) (from':Int) (to':Int):Mo (@JT (eN N) t edge from' to') (@JT B5 t edge from' to'):=⟨by unfold JT; exact lx⟩
instance (N:Nat) (t:AC) (h_1:AQ):Mo (@Hs (eN N) t h_1) (@Hs B5 t h_1):=⟨by unfold Hs; exact lx⟩
instance (N:Nat) (t:AC) (p:Pattern) (s_2:EG):Mo (@GV (eN N) t p s_2) (@GV B5 t p s_2):=⟨by unfold GV; exact lx⟩
instance (N:Nat) (t:AC) (p:Pattern):Mo (@EJ (eN N) t p) (@EJ B5 t p):=⟨by unfold EJ; exact lx⟩
instance (N:Nat) (s_0:List AA) (f' f:AA->ca) [hf:∀ y0,Mo (f' y0) (f y0)]:Mo (@D1 (eN N) s_0 f') (@D1 B5 s_0 f):=⟨by unfold D1; exact lx⟩
instance (N:Nat) (s_0:List AA) (f' f:AA->ca) [hf:∀ y0,Mo (f' y0) (f y0)]:Mo (@B1 (eN N) s_0 f') (@B1 B5 s_0 f):=⟨by unfold B1; exact lx⟩
theorem Li (N:Nat):∀ n m:Nat,n<=m->(∀ (a0:AA),Mo (@B3 (eN N) n a0) (@B3 B5 m a0))∧(∀ (a0:AA),Mo (@B9 (eN N) n a0) (@B9 B5 m a0))
 | 0,_,_=>⟨fun _=>⟨Le.none _⟩,fun _=>⟨Le.none _⟩⟩
 | n+1,0,h=>absurd h (by omega)
 | n+1,m+1,h=>by
  obtain ⟨i0,i1⟩:=Li N n m (by omega);refine ⟨?_,?_⟩
  ·exact fun _=>⟨by unfold B3; exact lx⟩
  ·exact fun _=>⟨by unfold B9; exact lx⟩
theorem Ot (N n m:Nat) (h:n<=m) (a0:AA):Mo (@B3 (eN N) n a0) (@B3 B5 m a0):=(Li N n m h).1 a0
instance (N:Nat) (c:AA):Mo (@HD (eN N) c) (@HD B5 c):=⟨LL N fun n hn=>(Ot N N n hn _).le⟩
theorem Mq (N:Nat):∀ n m:Nat,n<=m->(∀ (a0:AA),Mo (@DE (eN N) n a0) (@DE B5 m a0))
 | 0,_,_=>fun _=>⟨Le.none _⟩
 | n+1,0,h=>absurd h (by omega)
 | n+1,m+1,h=>by
  have ih:=Mq N n m (by omega);exact fun _=>⟨by unfold DE; exact lx⟩
instance (N:Nat) (c:AA):Mo (@IS (eN N) c) (@IS B5 c):=⟨LL N fun n hn=>(Mq N N n hn _).le⟩
instance (N:Nat) (c:AA):Mo (@F6 (eN N) c) (@F6 B5 c):=⟨by unfold F6; exact lx⟩
instance (N:Nat) (s_0:List EG) (f' f:EG->ca) [hf:∀ y0,Mo (f' y0) (f y0)]:Mo (@FC (eN N) s_0 f') (@FC B5 s_0 f):=⟨by unfold FC; exact lx⟩
instance (N:Nat) (s_0:List EG) (f' f:EG->ca) [hf:∀ y0,Mo (f' y0) (f y0)]:Mo (@DY (eN N) s_0 f') (@DY B5 s_0 f):=⟨by unfold DY; exact lx⟩
instance (N:Nat) (t:AC) (q:Pattern) (outer:Int):Mo (@EZ (eN N) t q outer) (@EZ B5 t q outer):=⟨by unfold EZ; exact lx⟩
instance (N:Nat) (a:Graph) (b:Graph) (m:Morphism):Mo (@FN (eN N) a b m) (@FN B5 a b m):=⟨by unfold FN; exact lx⟩
instance (N:Nat) (a:Graph) (b:Graph) (m:Morphism):Mo (@EN (eN N) a b m) (@EN B5 a b m):=⟨by unfold EN; exact lx⟩
theorem NA (N:Nat):∀ n m:Nat,n<=m->(∀ (a0:AC) (a1:Pattern) (a2:AA),Mo (@C1 (eN N) n a0 a1 a2) (@C1 B5 m a0 a1 a2))
 | 0,_,_=>fun _ _ _=>⟨Le.none _⟩
 | n+1,0,h=>absurd h (by omega)
 | n+1,m+1,h=>by
  have ih:=NA N n m (by omega);exact fun _ _ _=>⟨by unfold C1; exact lx⟩
instance (N:Nat) (t:AC) (p:Pattern) (c:AA):Mo (@KF (eN N) t p c) (@KF B5 t p c):=⟨LL N fun n hn=>(NA N N n hn _ _ _).le⟩
instance (N:Nat) (t:AC) (p:Pattern) (c:AA):Mo (@EK (eN N) t p c) (@EK B5 t p c):=⟨by unfold EK; exact lx⟩
instance (N:Nat) (t:AC) (g:Graph):Mo (@GO (eN N) t g) (@GO B5 t g):=⟨by unfold GO; exact lx⟩
instance (N:Nat) (t:AC) (p:Graph) (g:Graph):Mo (@HI (eN N) t p g) (@HI B5 t p g):=⟨by unfold HI; exact lx⟩
instance (N:Nat) (t:AC) (a:Int):Mo (@Ic (eN N) t a) (@Ic B5 t a):=⟨by unfold Ic; exact lx⟩
instance (N:Nat) (t:AC):Mo (@HH (eN N) t) (@HH B5 t):=⟨by unfold HH; exact lx⟩
instance (N:Nat) (t:AC) (p:Graph) (g:Graph) (m:Morphism):Mo (@H7 (eN N) t p g m) (@H7 B5 t p g m):=⟨by unfold H7; exact lx⟩
instance (N:Nat) (t:AC) (p:Graph) (g:Graph) (m:Morphism) (injective:Bool):Mo (@HF (eN N) t p g m injective) (@HF B5 t p g m injective):=⟨by unfold HF; exact lx⟩
instance (N:Nat) (t:AC) (p:Pattern) (h_2:AQ):Mo (@F2 (eN N) t p h_2) (@F2 B5 t p h_2):=⟨by unfold F2; exact lx⟩
instance (N:Nat) (t:AC) (p:Pattern) (h_2:AQ) (m:Morphism):Mo (@F1 (eN N) t p h_2 m) (@F1 B5 t p h_2 m):=⟨by unfold F1; exact lx⟩
instance (N:Nat) (t:AC) (p:Pattern) (c:AA) (h_3:AQ) (m:AE) (injective:Bool):Mo (@F5 (eN N) t p c h_3 m injective) (@F5 B5 t p c h_3 m injective):=⟨by unfold F5; exact lx⟩
instance (N:Nat) (l:Ne) (n:Int):Mo (@Hv (eN N) l n) (@Hv B5 l n):=⟨by unfold Hv; exact lx⟩
theorem Kz (N:Nat):∀ n m:Nat,n<=m->(∀ (a0:AM),Mo (@BB (eN N) n a0) (@BB B5 m a0))
 | 0,_,_=>fun _=>⟨Le.none _⟩
 | n+1,0,h=>absurd h (by omega)
 | n+1,m+1,h=>by
  have ih:=Kz N n m (by omega);exact fun _=>⟨by unfold BB; exact lx⟩
instance (N:Nat) (f:AM):Mo (@GU (eN N) f) (@GU B5 f):=⟨LL N fun n hn=>(Kz N N n hn _).le⟩
instance (N:Nat) (t:AC) (p:Graph) (g:Graph) (partial_:Morphism) (injective:Bool) (most:Int):Mo (@H6 (eN N) t p g partial_ injective most) (@H6 B5 t p g partial_ injective most):=⟨by unfold H6; exact lx⟩
instance (N:Nat) (t:AC) (p:Graph) (g:Graph) (partial_:Morphism) (injective:Bool):Mo (@KL (eN N) t p g partial_ injective) (@KL B5 t p g partial_ injective):=⟨by unfold KL; exact lx⟩
instance (N:Nat) (t:AC) (p:Graph) (g:Graph) (partial_:Morphism) (injective:Bool):Mo (@GN (eN N) t p g partial_ injective) (@GN B5 t p g partial_ injective):=⟨by unfold GN; exact lx⟩
instance (N:Nat) (s_0:A7) (c:AA) (m:AE):Mo (@CR (eN N) s_0 c m) (@CR B5 s_0 c m):=⟨by unfold CR; exact lx⟩
theorem Jn (N:Nat):∀ n m:Nat,n<=m->(∀ (a0:A7) (a1:AA) (a2:AE),Mo (@A4 (eN N) n a0 a1 a2) (@A4 B5 m a0 a1 a2))∧(∀ (a0:A7) (a1:AA) (a2:AE),Mo (@BZ (eN N) n a0 a1 a2) (@BZ B5 m a0 a1 a2))
 | 0,_,_=>⟨fun _ _ _=>⟨Le.none _⟩,fun _ _ _=>⟨Le.none _⟩⟩
 | n+1,0,h=>absurd h (by omega)
 | n+1,m+1,h=>by
  obtain ⟨i0,i1⟩:=Jn N n m (by omega);refine ⟨?_,?_⟩
  ·exact fun _ _ _=>⟨by unfold A4; exact lx⟩
  ·exact fun _ _ _=>⟨by unfold BZ; exact lx⟩
theorem NE (N n m:Nat) (h:n<=m) (a0:A7) (a1:AA) (a2:AE):Mo (@A4 (eN N) n a0 a1 a2) (@A4 B5 m a0 a1 a2):=(Jn N n m h).1 a0 a1 a2
instance (N:Nat) (s_0:A7) (c:AA) (m:AE):Mo (@E1 (eN N) s_0 c m) (@E1 B5 s_0 c m):=⟨LL N fun n hn=>(NE N N n hn _ _ _).le⟩
instance (N:Nat) (t:AC) (p:Pattern) (c:AA) (h_3:AQ) (m:AE) (injective:Bool):Mo (@EY (eN N) t p c h_3 m injective) (@EY B5 t p c h_3 m injective):=⟨by unfold EY; exact lx⟩
instance (N:Nat) (t:AC) (p:Pattern) (c:AA) (h_3:AQ) (m:AE) (injective:Bool):Mo (@CX (eN N) t p c h_3 m injective) (@CX B5 t p c h_3 m injective):=⟨by unfold CX; exact lx⟩
instance (N:Nat) (s_0:AG) (c:AA) (m:AE):Mo (@C4 (eN N) s_0 c m) (@C4 B5 s_0 c m):=⟨by unfold C4; exact lx⟩
instance (N:Nat) (k:AA) (c0' c0:AA->ca) [hc0:∀ y0,Mo (c0' y0) (c0 y0)]:Mo (@EP (eN N) k c0') (@EP B5 k c0):=⟨by unfold EP; exact lx⟩
instance (N:Nat) (s_0:List AE) (f' f:AE->ca) [hf:∀ y0,Mo (f' y0) (f y0)]:Mo (@EX (eN N) s_0 f') (@EX B5 s_0 f):=⟨by unfold EX; exact lx⟩
instance (N:Nat) (s_0:List AE) (f' f:AE->ca) [hf:∀ y0,Mo (f' y0) (f y0)]:Mo (@D8 (eN N) s_0 f') (@D8 B5 s_0 f):=⟨by unfold D8; exact lx⟩
theorem K0 (N:Nat):∀ n m:Nat,n<=m->(∀ (a0:AG) (a1:AA) (a2:AE),Mo (@BV (eN N) n a0 a1 a2) (@BV B5 m a0 a1 a2))∧(∀ (a0:AA) (a1:AG) (a2:AE),Mo (@BT (eN N) n a0 a1 a2) (@BT B5 m a0 a1 a2))∧(∀ (a0:AE) (a1:AG) (a2:AA),Mo (@CA (eN N) n a0 a1 a2) (@CA B5 m a0 a1 a2))
 | 0,_,_=>⟨fun _ _ _=>⟨Le.none _⟩,fun _ _ _=>⟨Le.none _⟩,fun _ _ _=>⟨Le.none _⟩⟩
 | n+1,0,h=>absurd h (by omega)
 | n+1,m+1,h=>by
  obtain ⟨i0,i1,i2⟩:=K0 N n m (by omega);refine ⟨?_,?_,?_⟩
  ·exact fun _ _ _=>⟨by unfold BV; exact lx⟩
  ·exact fun _ _ _=>⟨by unfold BT; exact lx⟩
  ·exact fun _ _ _=>⟨by unfold CA; exact lx⟩
theorem OV (N n m:Nat) (h:n<=m) (a0:AG) (a1:AA) (a2:AE):Mo (@BV (eN N) n a0 a1 a2) (@BV B5 m a0 a1 a2):=(K0 N n m h).1 a0 a1 a2
instance (N:Nat) (s_0:AG) (c:AA) (m:AE):Mo (@_explain_scene__holds (eN N) s_0 c m) (@_explain_scene__holds B5 s_0 c m):=⟨LL N fun n hn=>(OV N N n hn _ _ _).le⟩
theorem Lr (N:Nat):∀ n m:Nat,n<=m->(∀ (a0:AG) (a1:AA) (a2:AE) (a3:Ne) (a4:Bool),Mo (@BP (eN N) n a0 a1 a2 a3 a4) (@BP B5 m a0 a1 a2 a3 a4))∧(∀ (a0:AG) (a1:AA) (a2:AE) (a3:Ne) (a4:Bool),Mo (@CB (eN N) n a0 a1 a2 a3 a4) (@CB B5 m a0 a1 a2 a3 a4))∧(∀ (a0:AG) (a1:AA) (a2:AE) (a3:Ne) (a4:Bool),Mo (@CF (eN N) n a0 a1 a2 a3 a4) (@CF B5 m a0 a1 a2 a3 a4))
 | 0,_,_=>⟨fun _ _ _ _ _=>⟨Le.none _⟩,fun _ _ _ _ _=>⟨Le.none _⟩,fun _ _ _ _ _=>⟨Le.none _⟩⟩
 | n+1,0,h=>absurd h (by omega)
 | n+1,m+1,h=>by
  obtain ⟨i0,i1,i2⟩:=Lr N n m (by omega);refine ⟨?_,?_,?_⟩
  ·exact fun _ _ _ _ _=>⟨by unfold BP; exact lx⟩
  ·exact fun _ _ _ _ _=>⟨by unfold CB; exact lx⟩
  ·exact fun _ _ _ _ _=>⟨by unfold CF; exact lx⟩
theorem PS (N n m:Nat) (h:n<=m) (a0:AG) (a1:AA) (a2:AE) (a3:Ne) (a4:Bool):Mo (@BP (eN N) n a0 a1 a2 a3 a4) (@BP B5 m a0 a1 a2 a3 a4):=(Lr N n m h).1 a0 a1 a2 a3 a4
instance (N:Nat) (s_0:AG) (c:AA) (m:AE) (path:Ne) (good:Bool):Mo (@Ix (eN N) s_0 c m path good) (@Ix B5 s_0 c m path good):=⟨LL N fun n hn=>(PS N N n hn _ _ _ _ _).le⟩
instance (N:Nat) (t:AC) (p:Pattern) (c:AA) (h_3:AQ) (m:AE) (injective:Bool):Mo (@IC (eN N) t p c h_3 m injective) (@IC B5 t p c h_3 m injective):=⟨by unfold IC; exact lx⟩
instance (N:Nat) (starts:Ne) (more' more:Int->Option Ne) [hmore:∀ y0,Mo (more' y0) (more y0)]:Mo (@GL (eN N) starts more') (@GL B5 starts more):=⟨by unfold GL; exact lx⟩
theorem KT (N:Nat):∀ n m:Nat,n<=m->(∀ (a0:AG) (a1:(List AO)) (a2:AA) (a3:AE) (a4:Ne) (a5:Bool),Mo (@A2 (eN N) n a0 a1 a2 a3 a4 a5) (@A2 B5 m a0 a1 a2 a3 a4 a5))∧(∀ (a0:AG) (a1:(List AO)) (a2:AA) (a3:AE) (a4:Ne) (a5:Bool),Mo (@BL (eN N) n a0 a1 a2 a3 a4 a5) (@BL B5 m a0 a1 a2 a3 a4 a5))∧(∀ (a0:Int) (a1:AG) (a2:(List AO)) (a3:AA) (a4:AE) (a5:Ne) (a6:Int) (a7:Bool),Mo (@BH (eN N) n a0 a1 a2 a3 a4 a5 a6 a7) (@BH B5 m a0 a1 a2 a3 a4 a5 a6 a7))∧(∀ (a0:Int) (a1:(List AO)) (a2:Ne) (a3:AE) (a4:AG) (a5:AA),Mo (@BD (eN N) n a0 a1 a2 a3 a4 a5) (@BD B5 m a0 a1 a2 a3 a4 a5))∧(∀ (a0:Int) (a1:AG) (a2:(List AO)) (a3:Int) (a4:AA) (a5:AE) (a6:Ne),Mo (@BA (eN N) n a0 a1 a2 a3 a4 a5 a6) (@BA B5 m a0 a1 a2 a3 a4 a5 a6))∧(∀ (a0:Int) (a1:AG) (a2:(List AO)) (a3:AA) (a4:AE) (a5:Ne),Mo (@BE (eN N) n a0 a1 a2 a3 a4 a5) (@BE B5 m a0 a1 a2 a3 a4 a5))
 | 0,_,_=>⟨fun _ _ _ _ _ _=>⟨Le.none _⟩,fun _ _ _ _ _ _=>⟨Le.none _⟩,fun _ _ _ _ _ _ _ _=>⟨Le.none _⟩,fun _ _ _ _ _ _=>⟨Le.none _⟩,fun _ _ _ _ _ _ _=>⟨Le.none _⟩,fun _ _ _ _ _ _=>⟨Le.none _⟩⟩
 | n+1,0,h=>absurd h (by omega)
 | n+1,m+1,h=>by
  obtain ⟨i0,i1,i2,i3,i4,i5⟩:=KT N n m (by omega);refine ⟨?_,?_,?_,?_,?_,?_⟩
  ·exact fun _ _ _ _ _ _=>⟨by unfold A2; exact lx⟩
  ·exact fun _ _ _ _ _ _=>⟨by unfold BL; exact lx⟩
  ·exact fun _ _ _ _ _ _ _ _=>⟨by unfold BH; exact lx⟩
  ·exact fun _ _ _ _ _ _=>⟨by unfold BD; exact lx⟩
  ·exact fun _ _ _ _ _ _ _=>⟨by unfold BA; exact lx⟩
  ·exact fun _ _ _ _ _ _=>⟨by unfold BE; exact lx⟩
theorem Nz (N n m:Nat) (h:n<=m) (a0:AG) (a1:(List AO)) (a2:AA) (a3:AE) (a4:Ne) (a5:Bool):Mo (@A2 (eN N) n a0 a1 a2 a3 a4 a5) (@A2 B5 m a0 a1 a2 a3 a4 a5):=(KT N n m h).1 a0 a1 a2 a3 a4 a5
instance (N:Nat) (s_0:AG) (l:List AO) (c:AA) (m:AE) (path:Ne) (good:Bool):Mo (@HQ (eN N) s_0 l c m path good) (@HQ B5 s_0 l c m path good):=⟨LL N fun n hn=>(Nz N N n hn _ _ _ _ _ _).le⟩
instance (N:Nat) (t:AC) (p:Pattern) (c:AA) (h_3:AQ) (m:AE) (injective:Bool) (l:List AO):Mo (@I7 (eN N) t p c h_3 m injective l) (@I7 B5 t p c h_3 m injective l):=⟨by unfold I7; exact lx⟩
theorem O2 (N:Nat):∀ n m:Nat,n<=m->(∀ (a0:Ne) (a1:Int),Mo (@EE (eN N) n a0 a1) (@EE B5 m a0 a1))
 | 0,_,_=>fun _ _=>⟨Le.none _⟩
 | n+1,0,h=>absurd h (by omega)
 | n+1,m+1,h=>by
  have ih:=O2 N n m (by omega);exact fun _ _=>⟨by unfold EE; exact lx⟩
instance (N:Nat) (l:Ne) (n_1:Int):Mo (@K4 (eN N) l n_1) (@K4 B5 l n_1):=⟨LL N fun n hn=>(O2 N N n hn _ _).le⟩
instance (N:Nat) (t:AC) (p:Pattern) (c:AA) (h_3:AQ) (m:AE):Mo (@FM (eN N) t p c h_3 m) (@FM B5 t p c h_3 m):=⟨by unfold FM; exact lx⟩
instance (N:Nat) (t:AC) (h_1:AQ) (l:List AO):Mo (@Js (eN N) t h_1 l) (@Js B5 t h_1 l):=⟨by unfold Js; exact lx⟩
instance (N:Nat) :Mo (@GF (eN N)) (@GF B5):=⟨by unfold GF; exact lx⟩
end Go.Sf.Sc
namespace Go.Sf.Sc
open Go Go.Sf
theorem ey:@GF (eN 40)=some true:=by decide +kernel
theorem be:GF=some true:=
 have h:Mo (@GF (eN 40)) (@GF B5):=inferInstance
 h.le _ ey
end Go.Sf.Sc
