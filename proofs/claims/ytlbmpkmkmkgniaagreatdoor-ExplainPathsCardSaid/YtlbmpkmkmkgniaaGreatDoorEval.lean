/- Lemmas. -/
import Derived.Test.YtlbmpkmkmkgniaaGreatDoorFns
import Derived.Test.YtlbmpkmkmkgniaaGreatDoorSfEval
set_option maxRecDepth 100000
namespace Go.Sf.Sc
open Go Go.Sf
instance (N:Nat) (s_0:ByteArray) (ok' ok:Int->Option Bool) [hok:∀ y0,Mo (ok' y0) (ok y0)]:Mo (@Ht (eN N) s_0 ok') (@Ht BX s_0 ok):=⟨by unfold Ht; exact lx⟩
instance (N:Nat) (s_0:ByteArray):Mo (@HQ (eN N) s_0) (@HQ BX s_0):=⟨by unfold HQ; exact lx⟩
instance (N:Nat) (s_0:ByteArray):Mo (@Ie (eN N) s_0) (@Ie BX s_0):=⟨by unfold Ie; exact lx⟩
instance (N:Nat) (t:FS):Mo (@Io (eN N) t) (@Io BX t):=⟨by unfold Io; exact lx⟩
instance (N:Nat) (s_0:ByteArray):Mo (@EX (eN N) s_0) (@EX BX s_0):=⟨by unfold EX; exact lx⟩
instance (N:Nat) (s_0:List CJ) (f' f:CJ->Option Bool) [hf:∀ y0,Mo (f' y0) (f y0)]:Mo (@D0 (eN N) s_0 f') (@D0 BX s_0 f):=⟨by unfold D0; exact lx⟩
instance (N:Nat) (s_0:List CJ) (f' f:CJ->Option Bool) [hf:∀ y0,Mo (f' y0) (f y0)]:Mo (@CW (eN N) s_0 f') (@CW BX s_0 f):=⟨by unfold CW; exact lx⟩
theorem OO (N:Nat):∀ n m:Nat,n<=m->(∀ (a0:AD) (a1:Int),Mo (@D5 (eN N) n a0 a1) (@D5 BX m a0 a1))
 | 0,_,_=>fun _ _=>⟨Le.none _⟩
 | n+1,0,h=>absurd h (by omega)
 | n+1,m+1,h=>by
  have ih:=OO N n m (by omega)
  exact fun _ _=>⟨by unfold D5; exact lx⟩
instance (N:Nat) (t:AD) (a:Int):Mo (@Jj (eN N) t a) (@Jj BX t a):=⟨LL N fun n hn=>(OO N N n hn _ _).le⟩
instance (N:Nat) (s_0:List Attr) (f' f:Attr->Option Bool) [hf:∀ y0,Mo (f' y0) (f y0)]:Mo (@EN (eN N) s_0 f') (@EN BX s_0 f):=⟨by unfold EN; exact lx⟩
instance (N:Nat) (s_0:List Attr) (f' f:Attr->Option Bool) [hf:∀ y0,Mo (f' y0) (f y0)]:Mo (@DO (eN N) s_0 f') (@DO BX s_0 f):=⟨by unfold DO; exact lx⟩
instance (N:Nat) (l:List ByteArray):Mo (@Hv (eN N) l) (@Hv BX l):=⟨by unfold Hv; exact lx⟩
instance (N:Nat) (x_0:Attr) (before:List Attr):Mo (@FJ (eN N) x_0 before) (@FJ BX x_0 before):=⟨by unfold FJ; exact lx⟩
instance (N:Nat) (t:AD) (i_1:Int):Mo (@Ih (eN N) t i_1) (@Ih BX t i_1):=⟨by unfold Ih; exact lx⟩
instance (N:Nat) (s_0:List CZ) (f' f:CZ->Option Bool) [hf:∀ y0,Mo (f' y0) (f y0)]:Mo (@DZ (eN N) s_0 f') (@DZ BX s_0 f):=⟨by unfold DZ; exact lx⟩
instance (N:Nat) (s_0:List CZ) (f' f:CZ->Option Bool) [hf:∀ y0,Mo (f' y0) (f y0)]:Mo (@CU (eN N) s_0 f') (@CU BX s_0 f):=⟨by unfold CU; exact lx⟩
instance (N:Nat) (t:AD) (i_1:Int):Mo (@Ig (eN N) t i_1) (@Ig BX t i_1):=⟨by unfold Ig; exact lx⟩
instance (N:Nat) (t:AD):Mo (@FR (eN N) t) (@FR BX t):=⟨by unfold FR; exact lx⟩
instance (N:Nat) (s_0:List Int) (f' f:Int->Option Bool) [hf:∀ y0,Mo (f' y0) (f y0)]:Mo (@E4 (eN N) s_0 f') (@E4 BX s_0 f):=⟨by unfold E4; exact lx⟩
instance (N:Nat) (s_0:List Int) (f' f:Int->Option Bool) [hf:∀ y0,Mo (f' y0) (f y0)]:Mo (@BN (eN N) s_0 f') (@BN BX s_0 f):=⟨by unfold BN; exact lx⟩
instance (N:Nat) (s_0:List DQ) (f' f:DQ->Option Bool) [hf:∀ y0,Mo (f' y0) (f y0)]:Mo (@EO (eN N) s_0 f') (@EO BX s_0 f):=⟨by unfold EO; exact lx⟩
instance (N:Nat) (s_0:List DQ) (f' f:DQ->Option Bool) [hf:∀ y0,Mo (f' y0) (f y0)]:Mo (@B7 (eN N) s_0 f') (@B7 BX s_0 f):=⟨by unfold B7; exact lx⟩
instance (N:Nat) (g:Graph):Mo (@EE (eN N) g) (@EE BX g):=⟨by unfold EE; exact lx⟩
instance (N:Nat) (t:AD) (l:List Int):Mo (@GF (eN N) t l) (@GF BX t l):=⟨by unfold GF; exact lx⟩
instance (N:Nat) (t:AD) (a:Int):Mo (@HC (eN N) t a) (@HC BX t a):=⟨by unfold HC; exact lx⟩
instance (N:Nat) (t:AD) (kind:Int) (DC:List Int):Mo (@JA (eN N) t kind DC) (@JA BX t kind DC):=⟨by unfold JA; exact lx⟩
instance (N:Nat) (t:AD) (a:Int):Mo (@JR (eN N) t a) (@JR BX t a):=⟨by unfold JR; exact lx⟩
instance (N:Nat) (t:AD) (a:Int) (b:Int):Mo (@Ip (eN N) t a b) (@Ip BX t a b):=⟨by unfold Ip; exact lx⟩
instance (N:Nat) (t:AD) (edge:Int) (from':Int) (to':Int):Mo (@If (eN N) t edge from' to') (@If BX t edge from' to'):=⟨by unfold If; exact lx⟩
instance (N:Nat) (t:AD) (h_1:A0):Mo (@G4 (eN N) t h_1) (@G4 BX t h_1):=⟨by unfold G4; exact lx⟩
instance (N:Nat) (t:AD) (p:Pattern) (s_2:D4):Mo (@F4 (eN N) t p s_2) (@F4 BX t p s_2):=⟨by unfold F4; exact lx⟩
instance (N:Nat) (t:AD) (p:Pattern):Mo (@D6 (eN N) t p) (@D6 BX t p):=⟨by unfold D6; exact lx⟩
instance (N:Nat) (s_0:List AA) (f' f:AA->Option Bool) [hf:∀ y0,Mo (f' y0) (f y0)]:Mo (@DT (eN N) s_0 f') (@DT BX s_0 f):=⟨by unfold DT; exact lx⟩
instance (N:Nat) (s_0:List AA) (f' f:AA->Option Bool) [hf:∀ y0,Mo (f' y0) (f y0)]:Mo (@BV (eN N) s_0 f') (@BV BX s_0 f):=⟨by unfold BV; exact lx⟩
theorem KL (N:Nat):∀ n m:Nat,n<=m->(∀ (a0:AA),Mo (@BW (eN N) n a0) (@BW BX m a0))∧(∀ (a0:AA),Mo (@B6 (eN N) n a0) (@B6 BX m a0))
 | 0,_,_=>⟨fun _=>⟨Le.none _⟩,fun _=>⟨Le.none _⟩⟩
 | n+1,0,h=>absurd h (by omega)
 | n+1,m+1,h=>by
  obtain ⟨i0,i1⟩:=KL N n m (by omega)
  refine ⟨?_,?_⟩
  ·exact fun _=>⟨by unfold BW; exact lx⟩
  ·exact fun _=>⟨by unfold B6; exact lx⟩
theorem NV (N n m:Nat) (h:n<=m) (a0:AA):Mo (@BW (eN N) n a0) (@BW BX m a0):=(KL N n m h).1 a0
instance (N:Nat) (c:AA):Mo (@GJ (eN N) c) (@GJ BX c):=⟨LL N fun n hn=>(NV N N n hn _).le⟩
theorem LN (N:Nat):∀ n m:Nat,n<=m->(∀ (a0:AA),Mo (@C0 (eN N) n a0) (@C0 BX m a0))
 | 0,_,_=>fun _=>⟨Le.none _⟩
 | n+1,0,h=>absurd h (by omega)
 | n+1,m+1,h=>by
  have ih:=LN N n m (by omega)
  exact fun _=>⟨by unfold C0; exact lx⟩
instance (N:Nat) (c:AA):Mo (@Hj (eN N) c) (@Hj BX c):=⟨LL N fun n hn=>(LN N N n hn _).le⟩
instance (N:Nat) (c:AA):Mo (@FE (eN N) c) (@FE BX c):=⟨by unfold FE; exact lx⟩
instance (N:Nat) (s_0:List D4) (f' f:D4->Option Bool) [hf:∀ y0,Mo (f' y0) (f y0)]:Mo (@EP (eN N) s_0 f') (@EP BX s_0 f):=⟨by unfold EP; exact lx⟩
instance (N:Nat) (s_0:List D4) (f' f:D4->Option Bool) [hf:∀ y0,Mo (f' y0) (f y0)]:Mo (@DP (eN N) s_0 f') (@DP BX s_0 f):=⟨by unfold DP; exact lx⟩
instance (N:Nat) (t:AD) (q:Pattern) (outer:Int):Mo (@EH (eN N) t q outer) (@EH BX t q outer):=⟨by unfold EH; exact lx⟩
instance (N:Nat) (a:Graph) (b:Graph) (m:Morphism):Mo (@E0 (eN N) a b m) (@E0 BX a b m):=⟨by unfold E0; exact lx⟩
instance (N:Nat) (a:Graph) (b:Graph) (m:Morphism):Mo (@D9 (eN N) a b m) (@D9 BX a b m):=⟨by unfold D9; exact lx⟩
theorem Lq (N:Nat):∀ n m:Nat,n<=m->(∀ (a0:AD) (a1:Pattern) (a2:AA),Mo (@CN (eN N) n a0 a1 a2) (@CN BX m a0 a1 a2))
 | 0,_,_=>fun _ _ _=>⟨Le.none _⟩
 | n+1,0,h=>absurd h (by omega)
 | n+1,m+1,h=>by
  have ih:=Lq N n m (by omega)
  exact fun _ _ _=>⟨by unfold CN; exact lx⟩
instance (N:Nat) (t:AD) (p:Pattern) (c:AA):Mo (@JL (eN N) t p c) (@JL BX t p c):=⟨LL N fun n hn=>(Lq N N n hn _ _ _).le⟩
instance (N:Nat) (t:AD) (p:Pattern) (c:AA):Mo (@D7 (eN N) t p c) (@D7 BX t p c):=⟨by unfold D7; exact lx⟩
instance (N:Nat) (t:AD) (g:Graph):Mo (@FX (eN N) t g) (@FX BX t g):=⟨by unfold FX; exact lx⟩
instance (N:Nat) (t:AD) (p:Graph) (g:Graph):Mo (@GN (eN N) t p g) (@GN BX t p g):=⟨by unfold GN; exact lx⟩
instance (N:Nat) (t:AD) (a:Int):Mo (@Hu (eN N) t a) (@Hu BX t a):=⟨by unfold Hu; exact lx⟩
instance (N:Nat) (t:AD):Mo (@GM (eN N) t) (@GM BX t):=⟨by unfold GM; exact lx⟩
instance (N:Nat) (t:AD) (p:Graph) (g:Graph) (m:Morphism):Mo (@HO (eN N) t p g m) (@HO BX t p g m):=⟨by unfold HO; exact lx⟩
instance (N:Nat) (t:AD) (p:Graph) (g:Graph) (m:Morphism) (injective:Bool):Mo (@GL (eN N) t p g m injective) (@GL BX t p g m injective):=⟨by unfold GL; exact lx⟩
instance (N:Nat) (t:AD) (p:Pattern) (h_2:A0):Mo (@FA (eN N) t p h_2) (@FA BX t p h_2):=⟨by unfold FA; exact lx⟩
instance (N:Nat) (t:AD) (p:Pattern) (h_2:A0) (m:Morphism):Mo (@E9 (eN N) t p h_2 m) (@E9 BX t p h_2 m):=⟨by unfold E9; exact lx⟩
instance (N:Nat) (t:AD) (p:Pattern) (c:AA) (h_3:A0) (m:AG) (injective:Bool):Mo (@FD (eN N) t p c h_3 m injective) (@FD BX t p c h_3 m injective):=⟨by unfold FD; exact lx⟩
instance (N:Nat) (l:List Int) (n:Int):Mo (@G8 (eN N) l n) (@G8 BX l n):=⟨by unfold G8; exact lx⟩
theorem Jt (N:Nat):∀ n m:Nat,n<=m->(∀ (a0:AK),Mo (@A9 (eN N) n a0) (@A9 BX m a0))
 | 0,_,_=>fun _=>⟨Le.none _⟩
 | n+1,0,h=>absurd h (by omega)
 | n+1,m+1,h=>by
  have ih:=Jt N n m (by omega)
  exact fun _=>⟨by unfold A9; exact lx⟩
instance (N:Nat) (f:AK):Mo (@F3 (eN N) f) (@F3 BX f):=⟨LL N fun n hn=>(Jt N N n hn _).le⟩
instance (N:Nat) (t:AD) (p:Graph) (g:Graph) (partial_:Morphism) (injective:Bool) (most:Int):Mo (@HN (eN N) t p g partial_ injective most) (@HN BX t p g partial_ injective most):=⟨by unfold HN; exact lx⟩
instance (N:Nat) (t:AD) (p:Graph) (g:Graph) (partial_:Morphism) (injective:Bool):Mo (@JQ (eN N) t p g partial_ injective) (@JQ BX t p g partial_ injective):=⟨by unfold JQ; exact lx⟩
instance (N:Nat) (t:AD) (p:Graph) (g:Graph) (partial_:Morphism) (injective:Bool):Mo (@FW (eN N) t p g partial_ injective) (@FW BX t p g partial_ injective):=⟨by unfold FW; exact lx⟩
instance (N:Nat) (s_0:A3) (c:AA) (m:AG):Mo (@CH (eN N) s_0 c m) (@CH BX s_0 c m):=⟨by unfold CH; exact lx⟩
theorem Iz (N:Nat):∀ n m:Nat,n<=m->(∀ (a0:A3) (a1:AA) (a2:AG),Mo (@A1 (eN N) n a0 a1 a2) (@A1 BX m a0 a1 a2))∧(∀ (a0:A3) (a1:AA) (a2:AG),Mo (@BU (eN N) n a0 a1 a2) (@BU BX m a0 a1 a2))
 | 0,_,_=>⟨fun _ _ _=>⟨Le.none _⟩,fun _ _ _=>⟨Le.none _⟩⟩
 | n+1,0,h=>absurd h (by omega)
 | n+1,m+1,h=>by
  obtain ⟨i0,i1⟩:=Iz N n m (by omega)
  refine ⟨?_,?_⟩
  ·exact fun _ _ _=>⟨by unfold A1; exact lx⟩
  ·exact fun _ _ _=>⟨by unfold BU; exact lx⟩
theorem Lu (N n m:Nat) (h:n<=m) (a0:A3) (a1:AA) (a2:AG):Mo (@A1 (eN N) n a0 a1 a2) (@A1 BX m a0 a1 a2):=(Iz N n m h).1 a0 a1 a2
instance (N:Nat) (s_0:A3) (c:AA) (m:AG):Mo (@EI (eN N) s_0 c m) (@EI BX s_0 c m):=⟨LL N fun n hn=>(Lu N N n hn _ _ _).le⟩
instance (N:Nat) (t:AD) (p:Pattern) (c:AA) (h_3:A0) (m:AG) (injective:Bool):Mo (@EG (eN N) t p c h_3 m injective) (@EG BX t p c h_3 m injective):=⟨by unfold EG; exact lx⟩
instance (N:Nat) (t:AD) (p:Pattern) (c:AA) (h_3:A0) (m:AG) (injective:Bool):Mo (@CR (eN N) t p c h_3 m injective) (@CR BX t p c h_3 m injective):=⟨by unfold CR; exact lx⟩
instance (N:Nat) (s_0:AE) (c:AA) (m:AG):Mo (@B8 (eN N) s_0 c m) (@B8 BX s_0 c m):=⟨by unfold B8; exact lx⟩
instance (N:Nat) (k:AA) (c0' c0:AA->Option Bool) [hc0:∀ y0,Mo (c0' y0) (c0 y0)]:Mo (@DS (eN N) k c0') (@DS BX k c0):=⟨by unfold DS; exact lx⟩
instance (N:Nat) (s_0:List AG) (f' f:AG->Option Bool) [hf:∀ y0,Mo (f' y0) (f y0)]:Mo (@EF (eN N) s_0 f') (@EF BX s_0 f):=⟨by unfold EF; exact lx⟩
instance (N:Nat) (s_0:List AG) (f' f:AG->Option Bool) [hf:∀ y0,Mo (f' y0) (f y0)]:Mo (@DE (eN N) s_0 f') (@DE BX s_0 f):=⟨by unfold DE; exact lx⟩
theorem Ju (N:Nat):∀ n m:Nat,n<=m->(∀ (a0:AE) (a1:AA) (a2:AG),Mo (@BH (eN N) n a0 a1 a2) (@BH BX m a0 a1 a2))∧(∀ (a0:AA) (a1:AE) (a2:AG),Mo (@BA (eN N) n a0 a1 a2) (@BA BX m a0 a1 a2))∧(∀ (a0:AG) (a1:AE) (a2:AA),Mo (@BY (eN N) n a0 a1 a2) (@BY BX m a0 a1 a2))
 | 0,_,_=>⟨fun _ _ _=>⟨Le.none _⟩,fun _ _ _=>⟨Le.none _⟩,fun _ _ _=>⟨Le.none _⟩⟩
 | n+1,0,h=>absurd h (by omega)
 | n+1,m+1,h=>by
  obtain ⟨i0,i1,i2⟩:=Ju N n m (by omega)
  refine ⟨?_,?_,?_⟩
  ·exact fun _ _ _=>⟨by unfold BH; exact lx⟩
  ·exact fun _ _ _=>⟨by unfold BA; exact lx⟩
  ·exact fun _ _ _=>⟨by unfold BY; exact lx⟩
theorem NA (N n m:Nat) (h:n<=m) (a0:AE) (a1:AA) (a2:AG):Mo (@BH (eN N) n a0 a1 a2) (@BH BX m a0 a1 a2):=(Ju N n m h).1 a0 a1 a2
instance (N:Nat) (s_0:AE) (c:AA) (m:AG):Mo (@_explain_scene__holds (eN N) s_0 c m) (@_explain_scene__holds BX s_0 c m):=⟨LL N fun n hn=>(NA N N n hn _ _ _).le⟩
theorem KP (N:Nat):∀ n m:Nat,n<=m->(∀ (a0:AE) (a1:AA) (a2:AG) (a3:(List Int)) (a4:Bool),Mo (@A5 (eN N) n a0 a1 a2 a3 a4) (@A5 BX m a0 a1 a2 a3 a4))∧(∀ (a0:AE) (a1:AA) (a2:AG) (a3:(List Int)) (a4:Bool),Mo (@BZ (eN N) n a0 a1 a2 a3 a4) (@BZ BX m a0 a1 a2 a3 a4))∧(∀ (a0:AE) (a1:AA) (a2:AG) (a3:(List Int)) (a4:Bool),Mo (@B5 (eN N) n a0 a1 a2 a3 a4) (@B5 BX m a0 a1 a2 a3 a4))
 | 0,_,_=>⟨fun _ _ _ _ _=>⟨Le.none _⟩,fun _ _ _ _ _=>⟨Le.none _⟩,fun _ _ _ _ _=>⟨Le.none _⟩⟩
 | n+1,0,h=>absurd h (by omega)
 | n+1,m+1,h=>by
  obtain ⟨i0,i1,i2⟩:=KP N n m (by omega)
  refine ⟨?_,?_,?_⟩
  ·exact fun _ _ _ _ _=>⟨by unfold A5; exact lx⟩
  ·exact fun _ _ _ _ _=>⟨by unfold BZ; exact lx⟩
  ·exact fun _ _ _ _ _=>⟨by unfold B5; exact lx⟩
theorem N4 (N n m:Nat) (h:n<=m) (a0:AE) (a1:AA) (a2:AG) (a3:(List Int)) (a4:Bool):Mo (@A5 (eN N) n a0 a1 a2 a3 a4) (@A5 BX m a0 a1 a2 a3 a4):=(KP N n m h).1 a0 a1 a2 a3 a4
instance (N:Nat) (s_0:AE) (c:AA) (m:AG) (path:List Int) (good:Bool):Mo (@GV (eN N) s_0 c m path good) (@GV BX s_0 c m path good):=⟨LL N fun n hn=>(N4 N N n hn _ _ _ _ _).le⟩
instance (N:Nat) (t:AD) (p:Pattern) (c:AA) (h_3:A0) (m:AG) (injective:Bool):Mo (@EJ (eN N) t p c h_3 m injective) (@EJ BX t p c h_3 m injective):=⟨by unfold EJ; exact lx⟩
instance (N:Nat) (starts:List Int) (more' more:Int->Option (List Int)) [hmore:∀ y0,Mo (more' y0) (more y0)]:Mo (@FT (eN N) starts more') (@FT BX starts more):=⟨by unfold FT; exact lx⟩
theorem JW (N:Nat):∀ n m:Nat,n<=m->(∀ (a0:AE) (a1:(List AN)) (a2:AA) (a3:AG) (a4:(List Int)) (a5:Bool),Mo (@AZ (eN N) n a0 a1 a2 a3 a4 a5) (@AZ BX m a0 a1 a2 a3 a4 a5))∧(∀ (a0:AE) (a1:(List AN)) (a2:AA) (a3:AG) (a4:(List Int)) (a5:Bool),Mo (@BG (eN N) n a0 a1 a2 a3 a4 a5) (@BG BX m a0 a1 a2 a3 a4 a5))∧(∀ (a0:Int) (a1:AE) (a2:(List AN)) (a3:AA) (a4:AG) (a5:(List Int)) (a6:Int) (a7:Bool),Mo (@BE (eN N) n a0 a1 a2 a3 a4 a5 a6 a7) (@BE BX m a0 a1 a2 a3 a4 a5 a6 a7))∧(∀ (a0:Int) (a1:(List AN)) (a2:(List Int)) (a3:AG) (a4:AE) (a5:AA),Mo (@BB (eN N) n a0 a1 a2 a3 a4 a5) (@BB BX m a0 a1 a2 a3 a4 a5))∧(∀ (a0:Int) (a1:AE) (a2:(List AN)) (a3:Int) (a4:AA) (a5:AG) (a6:(List Int)),Mo (@A7 (eN N) n a0 a1 a2 a3 a4 a5 a6) (@A7 BX m a0 a1 a2 a3 a4 a5 a6))∧(∀ (a0:Int) (a1:AE) (a2:(List AN)) (a3:AA) (a4:AG) (a5:(List Int)),Mo (@BC (eN N) n a0 a1 a2 a3 a4 a5) (@BC BX m a0 a1 a2 a3 a4 a5))
 | 0,_,_=>⟨fun _ _ _ _ _ _=>⟨Le.none _⟩,fun _ _ _ _ _ _=>⟨Le.none _⟩,fun _ _ _ _ _ _ _ _=>⟨Le.none _⟩,fun _ _ _ _ _ _=>⟨Le.none _⟩,fun _ _ _ _ _ _ _=>⟨Le.none _⟩,fun _ _ _ _ _ _=>⟨Le.none _⟩⟩
 | n+1,0,h=>absurd h (by omega)
 | n+1,m+1,h=>by
  obtain ⟨i0,i1,i2,i3,i4,i5⟩:=JW N n m (by omega)
  refine ⟨?_,?_,?_,?_,?_,?_⟩
  ·exact fun _ _ _ _ _ _=>⟨by unfold AZ; exact lx⟩
  ·exact fun _ _ _ _ _ _=>⟨by unfold BG; exact lx⟩
  ·exact fun _ _ _ _ _ _ _ _=>⟨by unfold BE; exact lx⟩
  ·exact fun _ _ _ _ _ _=>⟨by unfold BB; exact lx⟩
  ·exact fun _ _ _ _ _ _ _=>⟨by unfold A7; exact lx⟩
  ·exact fun _ _ _ _ _ _=>⟨by unfold BC; exact lx⟩
theorem MV (N n m:Nat) (h:n<=m) (a0:AE) (a1:(List AN)) (a2:AA) (a3:AG) (a4:(List Int)) (a5:Bool):Mo (@AZ (eN N) n a0 a1 a2 a3 a4 a5) (@AZ BX m a0 a1 a2 a3 a4 a5):=(JW N n m h).1 a0 a1 a2 a3 a4 a5
instance (N:Nat) (s_0:AE) (l:List AN) (c:AA) (m:AG) (path:List Int) (good:Bool):Mo (@GU (eN N) s_0 l c m path good) (@GU BX s_0 l c m path good):=⟨LL N fun n hn=>(MV N N n hn _ _ _ _ _ _).le⟩
instance (N:Nat) (t:AD) (p:Pattern) (c:AA) (h_3:A0) (m:AG) (injective:Bool) (l:List AN):Mo (@II (eN N) t p c h_3 m injective l) (@II BX t p c h_3 m injective l):=⟨by unfold II; exact lx⟩
theorem Ng (N:Nat):∀ n m:Nat,n<=m->(∀ (a0:(List Int)) (a1:Int),Mo (@FU (eN N) n a0 a1) (@FU BX m a0 a1))
 | 0,_,_=>fun _ _=>⟨Le.none _⟩
 | n+1,0,h=>absurd h (by omega)
 | n+1,m+1,h=>by
  have ih:=Ng N n m (by omega)
  exact fun _ _=>⟨by unfold FU; exact lx⟩
instance (N:Nat) (l:List Int) (n_1:Int):Mo (@LQ (eN N) l n_1) (@LQ BX l n_1):=⟨LL N fun n hn=>(Ng N N n hn _ _).le⟩
instance (N:Nat) (t:AD) (p:Pattern) (c:AA) (h_3:A0) (m:AG):Mo (@Hx (eN N) t p c h_3 m) (@Hx BX t p c h_3 m):=⟨by unfold Hx; exact lx⟩
instance (N:Nat) (t:AD) (h_1:A0) (l:List AN):Mo (@I2 (eN N) t h_1 l) (@I2 BX t h_1 l):=⟨by unfold I2; exact lx⟩
instance (N:Nat) :Mo (@FN (eN N)) (@FN BX):=⟨by unfold FN; exact lx⟩
end Go.Sf.Sc
namespace Go.Sf.Sc
open Go Go.Sf
theorem bc:@FN (eN 40)=some true:=by decide +kernel
theorem Y6:FN=some true:=
 have h:Mo (@FN (eN 40)) (@FN BX):=inferInstance
 h.le _ bc
end Go.Sf.Sc
