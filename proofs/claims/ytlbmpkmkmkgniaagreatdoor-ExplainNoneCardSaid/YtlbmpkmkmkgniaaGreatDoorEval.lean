/- Lemmas. -/
import Derived.Test.YtlbmpkmkmkgniaaGreatDoorFns
import Derived.Test.YtlbmpkmkmkgniaaGreatDoorSfEval
set_option maxRecDepth 100000
namespace Go.Sf.Sc
open Go Go.Sf
instance (N:Nat) (s_0:ByteArray) (ok' ok:Int->Option Bool) [hok:∀ y0,Mo (ok' y0) (ok y0)]:Mo (@Hr (eN N) s_0 ok') (@Hr BX s_0 ok):=⟨by unfold Hr; exact lx⟩
instance (N:Nat) (s_0:ByteArray):Mo (@HT (eN N) s_0) (@HT BX s_0):=⟨by unfold HT; exact lx⟩
instance (N:Nat) (s_0:ByteArray):Mo (@Ib (eN N) s_0) (@Ib BX s_0):=⟨by unfold Ib; exact lx⟩
instance (N:Nat) (t:FT):Mo (@Il (eN N) t) (@Il BX t):=⟨by unfold Il; exact lx⟩
instance (N:Nat) (s_0:ByteArray):Mo (@EZ (eN N) s_0) (@EZ BX s_0):=⟨by unfold EZ; exact lx⟩
instance (N:Nat) (s_0:List CL) (f' f:CL->Option Bool) [hf:∀ y0,Mo (f' y0) (f y0)]:Mo (@D3 (eN N) s_0 f') (@D3 BX s_0 f):=⟨by unfold D3; exact lx⟩
instance (N:Nat) (s_0:List CL) (f' f:CL->Option Bool) [hf:∀ y0,Mo (f' y0) (f y0)]:Mo (@CW (eN N) s_0 f') (@CW BX s_0 f):=⟨by unfold CW; exact lx⟩
theorem OJ (N:Nat):∀ n m:Nat,n<=m->(∀ (a0:AD) (a1:Int),Mo (@D9 (eN N) n a0 a1) (@D9 BX m a0 a1))
 | 0,_,_=>fun _ _=>⟨Le.none _⟩
 | n+1,0,h=>absurd h (by omega)
 | n+1,m+1,h=>by
  have ih:=OJ N n m (by omega)
  exact fun _ _=>⟨by unfold D9; exact lx⟩
instance (N:Nat) (t:AD) (a:Int):Mo (@Ji (eN N) t a) (@Ji BX t a):=⟨LL N fun n hn=>(OJ N N n hn _ _).le⟩
instance (N:Nat) (s_0:List Attr) (f' f:Attr->Option Bool) [hf:∀ y0,Mo (f' y0) (f y0)]:Mo (@EN (eN N) s_0 f') (@EN BX s_0 f):=⟨by unfold EN; exact lx⟩
instance (N:Nat) (s_0:List Attr) (f' f:Attr->Option Bool) [hf:∀ y0,Mo (f' y0) (f y0)]:Mo (@DQ (eN N) s_0 f') (@DQ BX s_0 f):=⟨by unfold DQ; exact lx⟩
instance (N:Nat) (l:List ByteArray):Mo (@Ht (eN N) l) (@Ht BX l):=⟨by unfold Ht; exact lx⟩
instance (N:Nat) (x_0:Attr) (before:List Attr):Mo (@FK (eN N) x_0 before) (@FK BX x_0 before):=⟨by unfold FK; exact lx⟩
instance (N:Nat) (t:AD) (i_1:Int):Mo (@If (eN N) t i_1) (@If BX t i_1):=⟨by unfold If; exact lx⟩
instance (N:Nat) (s_0:List CZ) (f' f:CZ->Option Bool) [hf:∀ y0,Mo (f' y0) (f y0)]:Mo (@D2 (eN N) s_0 f') (@D2 BX s_0 f):=⟨by unfold D2; exact lx⟩
instance (N:Nat) (s_0:List CZ) (f' f:CZ->Option Bool) [hf:∀ y0,Mo (f' y0) (f y0)]:Mo (@CU (eN N) s_0 f') (@CU BX s_0 f):=⟨by unfold CU; exact lx⟩
instance (N:Nat) (t:AD) (i_1:Int):Mo (@Ie (eN N) t i_1) (@Ie BX t i_1):=⟨by unfold Ie; exact lx⟩
instance (N:Nat) (t:AD):Mo (@FS (eN N) t) (@FS BX t):=⟨by unfold FS; exact lx⟩
instance (N:Nat) (s_0:List Int) (f' f:Int->Option Bool) [hf:∀ y0,Mo (f' y0) (f y0)]:Mo (@E5 (eN N) s_0 f') (@E5 BX s_0 f):=⟨by unfold E5; exact lx⟩
instance (N:Nat) (s_0:List Int) (f' f:Int->Option Bool) [hf:∀ y0,Mo (f' y0) (f y0)]:Mo (@BU (eN N) s_0 f') (@BU BX s_0 f):=⟨by unfold BU; exact lx⟩
instance (N:Nat) (s_0:List DS) (f' f:DS->Option Bool) [hf:∀ y0,Mo (f' y0) (f y0)]:Mo (@EO (eN N) s_0 f') (@EO BX s_0 f):=⟨by unfold EO; exact lx⟩
instance (N:Nat) (s_0:List DS) (f' f:DS->Option Bool) [hf:∀ y0,Mo (f' y0) (f y0)]:Mo (@B7 (eN N) s_0 f') (@B7 BX s_0 f):=⟨by unfold B7; exact lx⟩
instance (N:Nat) (g:Graph):Mo (@EE (eN N) g) (@EE BX g):=⟨by unfold EE; exact lx⟩
instance (N:Nat) (t:AD) (l:List Int):Mo (@GF (eN N) t l) (@GF BX t l):=⟨by unfold GF; exact lx⟩
instance (N:Nat) (t:AD) (a:Int):Mo (@HE (eN N) t a) (@HE BX t a):=⟨by unfold HE; exact lx⟩
instance (N:Nat) (t:AD) (kind:Int) (DD:List Int):Mo (@I8 (eN N) t kind DD) (@I8 BX t kind DD):=⟨by unfold I8; exact lx⟩
instance (N:Nat) (t:AD) (a:Int):Mo (@JQ (eN N) t a) (@JQ BX t a):=⟨by unfold JQ; exact lx⟩
instance (N:Nat) (t:AD) (a:Int) (b:Int):Mo (@Im (eN N) t a b) (@Im BX t a b):=⟨by unfold Im; exact lx⟩
instance (N:Nat) (t:AD) (edge:Int) (from':Int) (to':Int):Mo (@Ic (eN N) t edge from' to') (@Ic BX t edge from' to'):=⟨by unfold Ic; exact lx⟩
instance (N:Nat) (t:AD) (h_1:A2):Mo (@G6 (eN N) t h_1) (@G6 BX t h_1):=⟨by unfold G6; exact lx⟩
instance (N:Nat) (t:AD) (p:Pattern) (s_2:D8):Mo (@F5 (eN N) t p s_2) (@F5 BX t p s_2):=⟨by unfold F5; exact lx⟩
instance (N:Nat) (t:AD) (p:Pattern):Mo (@EA (eN N) t p) (@EA BX t p):=⟨by unfold EA; exact lx⟩
instance (N:Nat) (s_0:List AA) (f' f:AA->Option Bool) [hf:∀ y0,Mo (f' y0) (f y0)]:Mo (@DX (eN N) s_0 f') (@DX BX s_0 f):=⟨by unfold DX; exact lx⟩
instance (N:Nat) (s_0:List AA) (f' f:AA->Option Bool) [hf:∀ y0,Mo (f' y0) (f y0)]:Mo (@BV (eN N) s_0 f') (@BV BX s_0 f):=⟨by unfold BV; exact lx⟩
theorem KM (N:Nat):∀ n m:Nat,n<=m->(∀ (a0:AA),Mo (@BW (eN N) n a0) (@BW BX m a0))∧(∀ (a0:AA),Mo (@B6 (eN N) n a0) (@B6 BX m a0))
 | 0,_,_=>⟨fun _=>⟨Le.none _⟩,fun _=>⟨Le.none _⟩⟩
 | n+1,0,h=>absurd h (by omega)
 | n+1,m+1,h=>by
  obtain ⟨i0,i1⟩:=KM N n m (by omega)
  refine ⟨?_,?_⟩
  ·exact fun _=>⟨by unfold BW; exact lx⟩
  ·exact fun _=>⟨by unfold B6; exact lx⟩
theorem NS (N n m:Nat) (h:n<=m) (a0:AA):Mo (@BW (eN N) n a0) (@BW BX m a0):=(KM N n m h).1 a0
instance (N:Nat) (c:AA):Mo (@GK (eN N) c) (@GK BX c):=⟨LL N fun n hn=>(NS N N n hn _).le⟩
theorem LK (N:Nat):∀ n m:Nat,n<=m->(∀ (a0:AA),Mo (@C0 (eN N) n a0) (@C0 BX m a0))
 | 0,_,_=>fun _=>⟨Le.none _⟩
 | n+1,0,h=>absurd h (by omega)
 | n+1,m+1,h=>by
  have ih:=LK N n m (by omega)
  exact fun _=>⟨by unfold C0; exact lx⟩
instance (N:Nat) (c:AA):Mo (@Hi (eN N) c) (@Hi BX c):=⟨LL N fun n hn=>(LK N N n hn _).le⟩
instance (N:Nat) (c:AA):Mo (@FG (eN N) c) (@FG BX c):=⟨by unfold FG; exact lx⟩
instance (N:Nat) (s_0:List D8) (f' f:D8->Option Bool) [hf:∀ y0,Mo (f' y0) (f y0)]:Mo (@EP (eN N) s_0 f') (@EP BX s_0 f):=⟨by unfold EP; exact lx⟩
instance (N:Nat) (s_0:List D8) (f' f:D8->Option Bool) [hf:∀ y0,Mo (f' y0) (f y0)]:Mo (@DR (eN N) s_0 f') (@DR BX s_0 f):=⟨by unfold DR; exact lx⟩
instance (N:Nat) (t:AD) (q:Pattern) (outer:Int):Mo (@EH (eN N) t q outer) (@EH BX t q outer):=⟨by unfold EH; exact lx⟩
instance (N:Nat) (a:Graph) (b:Graph) (m:Morphism):Mo (@E1 (eN N) a b m) (@E1 BX a b m):=⟨by unfold E1; exact lx⟩
instance (N:Nat) (a:Graph) (b:Graph) (m:Morphism):Mo (@EC (eN N) a b m) (@EC BX a b m):=⟨by unfold EC; exact lx⟩
theorem Ln (N:Nat):∀ n m:Nat,n<=m->(∀ (a0:AD) (a1:Pattern) (a2:AA),Mo (@CP (eN N) n a0 a1 a2) (@CP BX m a0 a1 a2))
 | 0,_,_=>fun _ _ _=>⟨Le.none _⟩
 | n+1,0,h=>absurd h (by omega)
 | n+1,m+1,h=>by
  have ih:=Ln N n m (by omega)
  exact fun _ _ _=>⟨by unfold CP; exact lx⟩
instance (N:Nat) (t:AD) (p:Pattern) (c:AA):Mo (@JJ (eN N) t p c) (@JJ BX t p c):=⟨LL N fun n hn=>(Ln N N n hn _ _ _).le⟩
instance (N:Nat) (t:AD) (p:Pattern) (c:AA):Mo (@EB (eN N) t p c) (@EB BX t p c):=⟨by unfold EB; exact lx⟩
instance (N:Nat) (t:AD) (g:Graph):Mo (@FY (eN N) t g) (@FY BX t g):=⟨by unfold FY; exact lx⟩
instance (N:Nat) (t:AD) (p:Graph) (g:Graph):Mo (@GO (eN N) t p g) (@GO BX t p g):=⟨by unfold GO; exact lx⟩
instance (N:Nat) (t:AD) (a:Int):Mo (@Hs (eN N) t a) (@Hs BX t a):=⟨by unfold Hs; exact lx⟩
instance (N:Nat) (t:AD):Mo (@GN (eN N) t) (@GN BX t):=⟨by unfold GN; exact lx⟩
instance (N:Nat) (t:AD) (p:Graph) (g:Graph) (m:Morphism):Mo (@HQ (eN N) t p g m) (@HQ BX t p g m):=⟨by unfold HQ; exact lx⟩
instance (N:Nat) (t:AD) (p:Graph) (g:Graph) (m:Morphism) (injective:Bool):Mo (@GM (eN N) t p g m injective) (@GM BX t p g m injective):=⟨by unfold GM; exact lx⟩
instance (N:Nat) (t:AD) (p:Pattern) (h_2:A2):Mo (@FB (eN N) t p h_2) (@FB BX t p h_2):=⟨by unfold FB; exact lx⟩
instance (N:Nat) (t:AD) (p:Pattern) (h_2:A2) (m:Morphism):Mo (@FA (eN N) t p h_2 m) (@FA BX t p h_2 m):=⟨by unfold FA; exact lx⟩
instance (N:Nat) (t:AD) (p:Pattern) (c:AA) (h_3:A2) (m:AG) (injective:Bool):Mo (@FE (eN N) t p c h_3 m injective) (@FE BX t p c h_3 m injective):=⟨by unfold FE; exact lx⟩
instance (N:Nat) (l:List Int) (n:Int):Mo (@HC (eN N) l n) (@HC BX l n):=⟨by unfold HC; exact lx⟩
theorem Js (N:Nat):∀ n m:Nat,n<=m->(∀ (a0:AK),Mo (@A9 (eN N) n a0) (@A9 BX m a0))
 | 0,_,_=>fun _=>⟨Le.none _⟩
 | n+1,0,h=>absurd h (by omega)
 | n+1,m+1,h=>by
  have ih:=Js N n m (by omega)
  exact fun _=>⟨by unfold A9; exact lx⟩
instance (N:Nat) (f:AK):Mo (@F4 (eN N) f) (@F4 BX f):=⟨LL N fun n hn=>(Js N N n hn _).le⟩
instance (N:Nat) (t:AD) (p:Graph) (g:Graph) (partial_:Morphism) (injective:Bool) (most:Int):Mo (@HP (eN N) t p g partial_ injective most) (@HP BX t p g partial_ injective most):=⟨by unfold HP; exact lx⟩
instance (N:Nat) (t:AD) (p:Graph) (g:Graph) (partial_:Morphism) (injective:Bool):Mo (@JP (eN N) t p g partial_ injective) (@JP BX t p g partial_ injective):=⟨by unfold JP; exact lx⟩
instance (N:Nat) (t:AD) (p:Graph) (g:Graph) (partial_:Morphism) (injective:Bool):Mo (@FX (eN N) t p g partial_ injective) (@FX BX t p g partial_ injective):=⟨by unfold FX; exact lx⟩
instance (N:Nat) (s_0:A3) (c:AA) (m:AG):Mo (@CI (eN N) s_0 c m) (@CI BX s_0 c m):=⟨by unfold CI; exact lx⟩
theorem Iy (N:Nat):∀ n m:Nat,n<=m->(∀ (a0:A3) (a1:AA) (a2:AG),Mo (@A0 (eN N) n a0 a1 a2) (@A0 BX m a0 a1 a2))∧(∀ (a0:A3) (a1:AA) (a2:AG),Mo (@BT (eN N) n a0 a1 a2) (@BT BX m a0 a1 a2))
 | 0,_,_=>⟨fun _ _ _=>⟨Le.none _⟩,fun _ _ _=>⟨Le.none _⟩⟩
 | n+1,0,h=>absurd h (by omega)
 | n+1,m+1,h=>by
  obtain ⟨i0,i1⟩:=Iy N n m (by omega)
  refine ⟨?_,?_⟩
  ·exact fun _ _ _=>⟨by unfold A0; exact lx⟩
  ·exact fun _ _ _=>⟨by unfold BT; exact lx⟩
theorem Lt (N n m:Nat) (h:n<=m) (a0:A3) (a1:AA) (a2:AG):Mo (@A0 (eN N) n a0 a1 a2) (@A0 BX m a0 a1 a2):=(Iy N n m h).1 a0 a1 a2
instance (N:Nat) (s_0:A3) (c:AA) (m:AG):Mo (@EI (eN N) s_0 c m) (@EI BX s_0 c m):=⟨LL N fun n hn=>(Lt N N n hn _ _ _).le⟩
instance (N:Nat) (t:AD) (p:Pattern) (c:AA) (h_3:A2) (m:AG) (injective:Bool):Mo (@EG (eN N) t p c h_3 m injective) (@EG BX t p c h_3 m injective):=⟨by unfold EG; exact lx⟩
instance (N:Nat) (t:AD) (p:Pattern) (c:AA) (h_3:A2) (m:AG) (injective:Bool):Mo (@CM (eN N) t p c h_3 m injective) (@CM BX t p c h_3 m injective):=⟨by unfold CM; exact lx⟩
instance (N:Nat) (s_0:AE) (c:AA) (m:AG):Mo (@B8 (eN N) s_0 c m) (@B8 BX s_0 c m):=⟨by unfold B8; exact lx⟩
instance (N:Nat) (k:AA) (c0' c0:AA->Option Bool) [hc0:∀ y0,Mo (c0' y0) (c0 y0)]:Mo (@DV (eN N) k c0') (@DV BX k c0):=⟨by unfold DV; exact lx⟩
instance (N:Nat) (s_0:List AG) (f' f:AG->Option Bool) [hf:∀ y0,Mo (f' y0) (f y0)]:Mo (@EF (eN N) s_0 f') (@EF BX s_0 f):=⟨by unfold EF; exact lx⟩
instance (N:Nat) (s_0:List AG) (f' f:AG->Option Bool) [hf:∀ y0,Mo (f' y0) (f y0)]:Mo (@DG (eN N) s_0 f') (@DG BX s_0 f):=⟨by unfold DG; exact lx⟩
theorem Jt (N:Nat):∀ n m:Nat,n<=m->(∀ (a0:AE) (a1:AA) (a2:AG),Mo (@BH (eN N) n a0 a1 a2) (@BH BX m a0 a1 a2))∧(∀ (a0:AA) (a1:AE) (a2:AG),Mo (@BA (eN N) n a0 a1 a2) (@BA BX m a0 a1 a2))∧(∀ (a0:AG) (a1:AE) (a2:AA),Mo (@BY (eN N) n a0 a1 a2) (@BY BX m a0 a1 a2))
 | 0,_,_=>⟨fun _ _ _=>⟨Le.none _⟩,fun _ _ _=>⟨Le.none _⟩,fun _ _ _=>⟨Le.none _⟩⟩
 | n+1,0,h=>absurd h (by omega)
 | n+1,m+1,h=>by
  obtain ⟨i0,i1,i2⟩:=Jt N n m (by omega)
  refine ⟨?_,?_,?_⟩
  ·exact fun _ _ _=>⟨by unfold BH; exact lx⟩
  ·exact fun _ _ _=>⟨by unfold BA; exact lx⟩
  ·exact fun _ _ _=>⟨by unfold BY; exact lx⟩
theorem M7 (N n m:Nat) (h:n<=m) (a0:AE) (a1:AA) (a2:AG):Mo (@BH (eN N) n a0 a1 a2) (@BH BX m a0 a1 a2):=(Jt N n m h).1 a0 a1 a2
instance (N:Nat) (s_0:AE) (c:AA) (m:AG):Mo (@_explain_scene__holds (eN N) s_0 c m) (@_explain_scene__holds BX s_0 c m):=⟨LL N fun n hn=>(M7 N N n hn _ _ _).le⟩
theorem KQ (N:Nat):∀ n m:Nat,n<=m->(∀ (a0:AE) (a1:AA) (a2:AG) (a3:(List Int)) (a4:Bool),Mo (@A5 (eN N) n a0 a1 a2 a3 a4) (@A5 BX m a0 a1 a2 a3 a4))∧(∀ (a0:AE) (a1:AA) (a2:AG) (a3:(List Int)) (a4:Bool),Mo (@BZ (eN N) n a0 a1 a2 a3 a4) (@BZ BX m a0 a1 a2 a3 a4))∧(∀ (a0:AE) (a1:AA) (a2:AG) (a3:(List Int)) (a4:Bool),Mo (@B5 (eN N) n a0 a1 a2 a3 a4) (@B5 BX m a0 a1 a2 a3 a4))
 | 0,_,_=>⟨fun _ _ _ _ _=>⟨Le.none _⟩,fun _ _ _ _ _=>⟨Le.none _⟩,fun _ _ _ _ _=>⟨Le.none _⟩⟩
 | n+1,0,h=>absurd h (by omega)
 | n+1,m+1,h=>by
  obtain ⟨i0,i1,i2⟩:=KQ N n m (by omega)
  refine ⟨?_,?_,?_⟩
  ·exact fun _ _ _ _ _=>⟨by unfold A5; exact lx⟩
  ·exact fun _ _ _ _ _=>⟨by unfold BZ; exact lx⟩
  ·exact fun _ _ _ _ _=>⟨by unfold B5; exact lx⟩
theorem Ny (N n m:Nat) (h:n<=m) (a0:AE) (a1:AA) (a2:AG) (a3:(List Int)) (a4:Bool):Mo (@A5 (eN N) n a0 a1 a2 a3 a4) (@A5 BX m a0 a1 a2 a3 a4):=(KQ N n m h).1 a0 a1 a2 a3 a4
instance (N:Nat) (s_0:AE) (c:AA) (m:AG) (path:List Int) (good:Bool):Mo (@FL (eN N) s_0 c m path good) (@FL BX s_0 c m path good):=⟨LL N fun n hn=>(Ny N N n hn _ _ _ _ _).le⟩
instance (N:Nat) (t:AD) (p:Pattern) (c:AA) (h_3:A2) (m:AG) (injective:Bool):Mo (@C3 (eN N) t p c h_3 m injective) (@C3 BX t p c h_3 m injective):=⟨by unfold C3; exact lx⟩
instance (N:Nat) (starts:List Int) (more' more:Int->Option (List Int)) [hmore:∀ y0,Mo (more' y0) (more y0)]:Mo (@FU (eN N) starts more') (@FU BX starts more):=⟨by unfold FU; exact lx⟩
theorem JV (N:Nat):∀ n m:Nat,n<=m->(∀ (a0:AE) (a1:(List AN)) (a2:AA) (a3:AG) (a4:(List Int)) (a5:Bool),Mo (@AZ (eN N) n a0 a1 a2 a3 a4 a5) (@AZ BX m a0 a1 a2 a3 a4 a5))∧(∀ (a0:AE) (a1:(List AN)) (a2:AA) (a3:AG) (a4:(List Int)) (a5:Bool),Mo (@BG (eN N) n a0 a1 a2 a3 a4 a5) (@BG BX m a0 a1 a2 a3 a4 a5))∧(∀ (a0:Int) (a1:AE) (a2:(List AN)) (a3:AA) (a4:AG) (a5:(List Int)) (a6:Int) (a7:Bool),Mo (@BE (eN N) n a0 a1 a2 a3 a4 a5 a6 a7) (@BE BX m a0 a1 a2 a3 a4 a5 a6 a7))∧(∀ (a0:Int) (a1:(List AN)) (a2:(List Int)) (a3:AG) (a4:AE) (a5:AA),Mo (@BB (eN N) n a0 a1 a2 a3 a4 a5) (@BB BX m a0 a1 a2 a3 a4 a5))∧(∀ (a0:Int) (a1:AE) (a2:(List AN)) (a3:Int) (a4:AA) (a5:AG) (a6:(List Int)),Mo (@A7 (eN N) n a0 a1 a2 a3 a4 a5 a6) (@A7 BX m a0 a1 a2 a3 a4 a5 a6))∧(∀ (a0:Int) (a1:AE) (a2:(List AN)) (a3:AA) (a4:AG) (a5:(List Int)),Mo (@BC (eN N) n a0 a1 a2 a3 a4 a5) (@BC BX m a0 a1 a2 a3 a4 a5))
 | 0,_,_=>⟨fun _ _ _ _ _ _=>⟨Le.none _⟩,fun _ _ _ _ _ _=>⟨Le.none _⟩,fun _ _ _ _ _ _ _ _=>⟨Le.none _⟩,fun _ _ _ _ _ _=>⟨Le.none _⟩,fun _ _ _ _ _ _ _=>⟨Le.none _⟩,fun _ _ _ _ _ _=>⟨Le.none _⟩⟩
 | n+1,0,h=>absurd h (by omega)
 | n+1,m+1,h=>by
  obtain ⟨i0,i1,i2,i3,i4,i5⟩:=JV N n m (by omega)
  refine ⟨?_,?_,?_,?_,?_,?_⟩
  ·exact fun _ _ _ _ _ _=>⟨by unfold AZ; exact lx⟩
  ·exact fun _ _ _ _ _ _=>⟨by unfold BG; exact lx⟩
  ·exact fun _ _ _ _ _ _ _ _=>⟨by unfold BE; exact lx⟩
  ·exact fun _ _ _ _ _ _=>⟨by unfold BB; exact lx⟩
  ·exact fun _ _ _ _ _ _ _=>⟨by unfold A7; exact lx⟩
  ·exact fun _ _ _ _ _ _=>⟨by unfold BC; exact lx⟩
theorem MV (N n m:Nat) (h:n<=m) (a0:AE) (a1:(List AN)) (a2:AA) (a3:AG) (a4:(List Int)) (a5:Bool):Mo (@AZ (eN N) n a0 a1 a2 a3 a4 a5) (@AZ BX m a0 a1 a2 a3 a4 a5):=(JV N n m h).1 a0 a1 a2 a3 a4 a5
instance (N:Nat) (s_0:AE) (l:List AN) (c:AA) (m:AG) (path:List Int) (good:Bool):Mo (@GW (eN N) s_0 l c m path good) (@GW BX s_0 l c m path good):=⟨LL N fun n hn=>(MV N N n hn _ _ _ _ _ _).le⟩
instance (N:Nat) (t:AD) (p:Pattern) (c:AA) (h_3:A2) (m:AG) (injective:Bool) (l:List AN):Mo (@IG (eN N) t p c h_3 m injective l) (@IG BX t p c h_3 m injective l):=⟨by unfold IG; exact lx⟩
theorem Na (N:Nat):∀ n m:Nat,n<=m->(∀ (a0:(List Int)) (a1:Int),Mo (@FV (eN N) n a0 a1) (@FV BX m a0 a1))
 | 0,_,_=>fun _ _=>⟨Le.none _⟩
 | n+1,0,h=>absurd h (by omega)
 | n+1,m+1,h=>by
  have ih:=Na N n m (by omega)
  exact fun _ _=>⟨by unfold FV; exact lx⟩
instance (N:Nat) (l:List Int) (n_1:Int):Mo (@LO (eN N) l n_1) (@LO BX l n_1):=⟨LL N fun n hn=>(Na N N n hn _ _).le⟩
instance (N:Nat) (t:AD) (p:Pattern) (c:AA) (h_3:A2) (m:AG):Mo (@Hv (eN N) t p c h_3 m) (@Hv BX t p c h_3 m):=⟨by unfold Hv; exact lx⟩
instance (N:Nat) (t:AD) (h_1:A2) (l:List AN):Mo (@I1 (eN N) t h_1 l) (@I1 BX t h_1 l):=⟨by unfold I1; exact lx⟩
instance (N:Nat) :Mo (@FO (eN N)) (@FO BX):=⟨by unfold FO; exact lx⟩
end Go.Sf.Sc
namespace Go.Sf.Sc
open Go Go.Sf
theorem bc:@FO (eN 40)=some true:=by decide +kernel
theorem Y5:FO=some true:=
 have h:Mo (@FO (eN 40)) (@FO BX):=inferInstance
 h.le _ bc
end Go.Sf.Sc
