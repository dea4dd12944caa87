/- Lemmas. -/
import Derived.Test.YtlbmpkmkmkgniaaGreatDoorFns
import Derived.Test.YtlbmpkmkmkgniaaGreatDoorSfEval
set_option linter.all false
set_option maxRecDepth 100000
namespace Go.Sf.Sc
open Go Go.Sf
instance (N:Nat) (s_0:ByteArray) (ok' ok:Int->ca) [hok:∀ y0,Mo (ok' y0) (ok y0)]:Mo (@II (eN N) s_0 ok') (@II B0 s_0 ok):=⟨by unfold II; exact lx⟩
instance (N:Nat) (s_0:ByteArray):Mo (@Hv (eN N) s_0) (@Hv B0 s_0):=⟨by unfold Hv; exact lx⟩
instance (N:Nat) (s_0:ByteArray):Mo (@I6 (eN N) s_0) (@I6 B0 s_0):=⟨by unfold I6; exact lx⟩
instance (N:Nat) (t:F3):Mo (@JH (eN N) t) (@JH B0 t):=⟨by unfold JH; exact lx⟩
instance (N:Nat) (s_0:ByteArray):Mo (@E6 (eN N) s_0) (@E6 B0 s_0):=⟨by unfold E6; exact lx⟩
instance (N:Nat) (s_0:List CP) (f' f:CP->ca) [hf:∀ y0,Mo (f' y0) (f y0)]:Mo (@D4 (eN N) s_0 f') (@D4 B0 s_0 f):=⟨by unfold D4; exact lx⟩
instance (N:Nat) (s_0:List CP) (f' f:CP->ca) [hf:∀ y0,Mo (f' y0) (f y0)]:Mo (@C6 (eN N) s_0 f') (@C6 B0 s_0 f):=⟨by unfold C6; exact lx⟩
theorem O4 (N:Nat):∀ n m:Nat,n<=m->(∀ (a0:AD) (a1:Int),Mo (@EC (eN N) n a0 a1) (@EC B0 m a0 a1))
 | 0,_,_=>fun _ _=>⟨Le.none _⟩
 | n+1,0,h=>absurd h (by omega)
 | n+1,m+1,h=>by
  have ih:=O4 N n m (by omega);exact fun _ _=>⟨by unfold EC; exact lx⟩
instance (N:Nat) (t:AD) (a:Int):Mo (@KI (eN N) t a) (@KI B0 t a):=⟨LL N fun n hn=>(O4 N N n hn _ _).le⟩
instance (N:Nat) (s_0:List Attr) (f' f:Attr->ca) [hf:∀ y0,Mo (f' y0) (f y0)]:Mo (@EZ (eN N) s_0 f') (@EZ B0 s_0 f):=⟨by unfold EZ; exact lx⟩
instance (N:Nat) (s_0:List Attr) (f' f:Attr->ca) [hf:∀ y0,Mo (f' y0) (f y0)]:Mo (@DV (eN N) s_0 f') (@DV B0 s_0 f):=⟨by unfold DV; exact lx⟩
instance (N:Nat) (l:List ByteArray):Mo (@IK (eN N) l) (@IK B0 l):=⟨by unfold IK; exact lx⟩
instance (N:Nat) (x_0:Attr) (before:List Attr):Mo (@FX (eN N) x_0 before) (@FX B0 x_0 before):=⟨by unfold FX; exact lx⟩
instance (N:Nat) (t:AD) (i_1:Int):Mo (@I9 (eN N) t i_1) (@I9 B0 t i_1):=⟨by unfold I9; exact lx⟩
instance (N:Nat) (s_0:List DA) (f' f:DA->ca) [hf:∀ y0,Mo (f' y0) (f y0)]:Mo (@D3 (eN N) s_0 f') (@D3 B0 s_0 f):=⟨by unfold D3; exact lx⟩
instance (N:Nat) (s_0:List DA) (f' f:DA->ca) [hf:∀ y0,Mo (f' y0) (f y0)]:Mo (@C5 (eN N) s_0 f') (@C5 B0 s_0 f):=⟨by unfold C5; exact lx⟩
instance (N:Nat) (t:AD) (i_1:Int):Mo (@I8 (eN N) t i_1) (@I8 B0 t i_1):=⟨by unfold I8; exact lx⟩
instance (N:Nat) (t:AD):Mo (@F2 (eN N) t) (@F2 B0 t):=⟨by unfold F2; exact lx⟩
instance (N:Nat) (s_0:Ne) (f' f:Int->ca) [hf:∀ y0,Mo (f' y0) (f y0)]:Mo (@FH (eN N) s_0 f') (@FH B0 s_0 f):=⟨by unfold FH; exact lx⟩
instance (N:Nat) (s_0:Ne) (f' f:Int->ca) [hf:∀ y0,Mo (f' y0) (f y0)]:Mo (@BW (eN N) s_0 f') (@BW B0 s_0 f):=⟨by unfold BW; exact lx⟩
instance (N:Nat) (s_0:List DG) (f' f:DG->ca) [hf:∀ y0,Mo (f' y0) (f y0)]:Mo (@E0 (eN N) s_0 f') (@E0 B0 s_0 f):=⟨by unfold E0; exact lx⟩
instance (N:Nat) (s_0:List DG) (f' f:DG->ca) [hf:∀ y0,Mo (f' y0) (f y0)]:Mo (@B8 (eN N) s_0 f') (@B8 B0 s_0 f):=⟨by unfold B8; exact lx⟩
instance (N:Nat) (g:Graph):Mo (@EM (eN N) g) (@EM B0 g):=⟨by unfold EM; exact lx⟩
instance (N:Nat) (t:AD) (l:Ne):Mo (@GU (eN N) t l) (@GU B0 t l):=⟨by unfold GU; exact lx⟩
instance (N:Nat) (t:AD) (a:Int):Mo (@HV (eN N) t a) (@HV B0 t a):=⟨by unfold HV; exact lx⟩
instance (N:Nat) (t:AD) (kind:Int) (DO:Ne):Mo (@Ji (eN N) t kind DO) (@Ji B0 t kind DO):=⟨by unfold Ji; exact lx⟩
instance (N:Nat) (t:AD) (a:Int):Mo (@Jy (eN N) t a) (@Jy B0 t a):=⟨by unfold Jy; exact lx⟩
instance (N:Nat) (t:AD) (a:Int) (b:Int):Mo (@JI (eN N) t a b) (@JI B0 t a b):=⟨by unfold JI; exact lx⟩
instance (N:Nat) (t:AD) (edge:Int) (from':Int) (to':Int):Mo (@I7 (eN N) t edge from' to') (@I7 B0 t edge from' to'):=⟨by unfold I7; exact lx⟩
instance (N:Nat) (t:AD) (h_1:A0):Mo (@HO (eN N) t h_1) (@HO B0 t h_1):=⟨by unfold HO; exact lx⟩
instance (N:Nat) (t:AD) (p:Pattern) (s_2:EG):Mo (@GE (eN N) t p s_2) (@GE B0 t p s_2):=⟨by unfold GE; exact lx⟩
instance (N:Nat) (t:AD) (p:Pattern):Mo (@ED (eN N) t p) (@ED B0 t p):=⟨by unfold ED; exact lx⟩
instance (N:Nat) (s_0:List AA) (f' f:AA->ca) [hf:∀ y0,Mo (f' y0) (f y0)]:Mo (@DY (eN N) s_0 f') (@DY B0 s_0 f):=⟨by unfold DY; exact lx⟩
instance (N:Nat) (s_0:List AA) (f' f:AA->ca) [hf:∀ y0,Mo (f' y0) (f y0)]:Mo (@BX (eN N) s_0 f') (@BX B0 s_0 f):=⟨by unfold BX; exact lx⟩
theorem K4 (N:Nat):∀ n m:Nat,n<=m->(∀ (a0:AA),Mo (@BZ (eN N) n a0) (@BZ B0 m a0))∧(∀ (a0:AA),Mo (@B5 (eN N) n a0) (@B5 B0 m a0))
 | 0,_,_=>⟨fun _=>⟨Le.none _⟩,fun _=>⟨Le.none _⟩⟩
 | n+1,0,h=>absurd h (by omega)
 | n+1,m+1,h=>by
  obtain ⟨i0,i1⟩:=K4 N n m (by omega);refine ⟨?_,?_⟩
  ·exact fun _=>⟨by unfold BZ; exact lx⟩
  ·exact fun _=>⟨by unfold B5; exact lx⟩
theorem OA (N n m:Nat) (h:n<=m) (a0:AA):Mo (@BZ (eN N) n a0) (@BZ B0 m a0):=(K4 N n m h).1 a0
instance (N:Nat) (c:AA):Mo (@GZ (eN N) c) (@GZ B0 c):=⟨LL N fun n hn=>(OA N N n hn _).le⟩
theorem L8 (N:Nat):∀ n m:Nat,n<=m->(∀ (a0:AA),Mo (@DB (eN N) n a0) (@DB B0 m a0))
 | 0,_,_=>fun _=>⟨Le.none _⟩
 | n+1,0,h=>absurd h (by omega)
 | n+1,m+1,h=>by
  have ih:=L8 N n m (by omega);exact fun _=>⟨by unfold DB; exact lx⟩
instance (N:Nat) (c:AA):Mo (@IA (eN N) c) (@IA B0 c):=⟨LL N fun n hn=>(L8 N N n hn _).le⟩
instance (N:Nat) (c:AA):Mo (@FT (eN N) c) (@FT B0 c):=⟨by unfold FT; exact lx⟩
instance (N:Nat) (s_0:List EG) (f' f:EG->ca) [hf:∀ y0,Mo (f' y0) (f y0)]:Mo (@E1 (eN N) s_0 f') (@E1 B0 s_0 f):=⟨by unfold E1; exact lx⟩
instance (N:Nat) (s_0:List EG) (f' f:EG->ca) [hf:∀ y0,Mo (f' y0) (f y0)]:Mo (@DW (eN N) s_0 f') (@DW B0 s_0 f):=⟨by unfold DW; exact lx⟩
instance (N:Nat) (t:AD) (q:Pattern) (outer:Int):Mo (@EP (eN N) t q outer) (@EP B0 t q outer):=⟨by unfold EP; exact lx⟩
instance (N:Nat) (a:Graph) (b:Graph) (m:Morphism):Mo (@FB (eN N) a b m) (@FB B0 a b m):=⟨by unfold FB; exact lx⟩
instance (N:Nat) (a:Graph) (b:Graph) (m:Morphism):Mo (@EH (eN N) a b m) (@EH B0 a b m):=⟨by unfold EH; exact lx⟩
theorem MY (N:Nat):∀ n m:Nat,n<=m->(∀ (a0:AD) (a1:Pattern) (a2:AA),Mo (@CT (eN N) n a0 a1 a2) (@CT B0 m a0 a1 a2))
 | 0,_,_=>fun _ _ _=>⟨Le.none _⟩
 | n+1,0,h=>absurd h (by omega)
 | n+1,m+1,h=>by
  have ih:=MY N n m (by omega);exact fun _ _ _=>⟨by unfold CT; exact lx⟩
instance (N:Nat) (t:AD) (p:Pattern) (c:AA):Mo (@Jq (eN N) t p c) (@Jq B0 t p c):=⟨LL N fun n hn=>(MY N N n hn _ _ _).le⟩
instance (N:Nat) (t:AD) (p:Pattern) (c:AA):Mo (@EE (eN N) t p c) (@EE B0 t p c):=⟨by unfold EE; exact lx⟩
instance (N:Nat) (t:AD) (g:Graph):Mo (@F7 (eN N) t g) (@F7 B0 t g):=⟨by unfold F7; exact lx⟩
instance (N:Nat) (t:AD) (p:Graph) (g:Graph):Mo (@G4 (eN N) t p g) (@G4 B0 t p g):=⟨by unfold G4; exact lx⟩
instance (N:Nat) (t:AD) (a:Int):Mo (@IJ (eN N) t a) (@IJ B0 t a):=⟨by unfold IJ; exact lx⟩
instance (N:Nat) (t:AD):Mo (@G3 (eN N) t) (@G3 B0 t):=⟨by unfold G3; exact lx⟩
instance (N:Nat) (t:AD) (p:Graph) (g:Graph) (m:Morphism):Mo (@Hu (eN N) t p g m) (@Hu B0 t p g m):=⟨by unfold Hu; exact lx⟩
instance (N:Nat) (t:AD) (p:Graph) (g:Graph) (m:Morphism) (injective:Bool):Mo (@G2 (eN N) t p g m injective) (@G2 B0 t p g m injective):=⟨by unfold G2; exact lx⟩
instance (N:Nat) (t:AD) (p:Pattern) (h_2:A0):Mo (@FO (eN N) t p h_2) (@FO B0 t p h_2):=⟨by unfold FO; exact lx⟩
instance (N:Nat) (t:AD) (p:Pattern) (h_2:A0) (m:Morphism):Mo (@FN (eN N) t p h_2 m) (@FN B0 t p h_2 m):=⟨by unfold FN; exact lx⟩
instance (N:Nat) (t:AD) (p:Pattern) (c:AA) (h_3:A0) (m:AG) (injective:Bool):Mo (@FR (eN N) t p c h_3 m injective) (@FR B0 t p c h_3 m injective):=⟨by unfold FR; exact lx⟩
instance (N:Nat) (l:Ne) (n:Int):Mo (@HT (eN N) l n) (@HT B0 l n):=⟨by unfold HT; exact lx⟩
theorem KW (N:Nat):∀ n m:Nat,n<=m->(∀ (a0:AM),Mo (@BA (eN N) n a0) (@BA B0 m a0))
 | 0,_,_=>fun _=>⟨Le.none _⟩
 | n+1,0,h=>absurd h (by omega)
 | n+1,m+1,h=>by
  have ih:=KW N n m (by omega);exact fun _=>⟨by unfold BA; exact lx⟩
instance (N:Nat) (f:AM):Mo (@GD (eN N) f) (@GD B0 f):=⟨LL N fun n hn=>(KW N N n hn _).le⟩
instance (N:Nat) (t:AD) (p:Graph) (g:Graph) (partial_:Morphism) (injective:Bool) (most:Int):Mo (@Ht (eN N) t p g partial_ injective most) (@Ht B0 t p g partial_ injective most):=⟨by unfold Ht; exact lx⟩
instance (N:Nat) (t:AD) (p:Graph) (g:Graph) (partial_:Morphism) (injective:Bool):Mo (@Jw (eN N) t p g partial_ injective) (@Jw B0 t p g partial_ injective):=⟨by unfold Jw; exact lx⟩
instance (N:Nat) (t:AD) (p:Graph) (g:Graph) (partial_:Morphism) (injective:Bool):Mo (@F6 (eN N) t p g partial_ injective) (@F6 B0 t p g partial_ injective):=⟨by unfold F6; exact lx⟩
instance (N:Nat) (s_0:A4) (c:AA) (m:AG):Mo (@CN (eN N) s_0 c m) (@CN B0 s_0 c m):=⟨by unfold CN; exact lx⟩
theorem JU (N:Nat):∀ n m:Nat,n<=m->(∀ (a0:A4) (a1:AA) (a2:AG),Mo (@A2 (eN N) n a0 a1 a2) (@A2 B0 m a0 a1 a2))∧(∀ (a0:A4) (a1:AA) (a2:AG),Mo (@BV (eN N) n a0 a1 a2) (@BV B0 m a0 a1 a2))
 | 0,_,_=>⟨fun _ _ _=>⟨Le.none _⟩,fun _ _ _=>⟨Le.none _⟩⟩
 | n+1,0,h=>absurd h (by omega)
 | n+1,m+1,h=>by
  obtain ⟨i0,i1⟩:=JU N n m (by omega);refine ⟨?_,?_⟩
  ·exact fun _ _ _=>⟨by unfold A2; exact lx⟩
  ·exact fun _ _ _=>⟨by unfold BV; exact lx⟩
theorem Mc (N n m:Nat) (h:n<=m) (a0:A4) (a1:AA) (a2:AG):Mo (@A2 (eN N) n a0 a1 a2) (@A2 B0 m a0 a1 a2):=(JU N n m h).1 a0 a1 a2
instance (N:Nat) (s_0:A4) (c:AA) (m:AG):Mo (@ER (eN N) s_0 c m) (@ER B0 s_0 c m):=⟨LL N fun n hn=>(Mc N N n hn _ _ _).le⟩
instance (N:Nat) (t:AD) (p:Pattern) (c:AA) (h_3:A0) (m:AG) (injective:Bool):Mo (@EO (eN N) t p c h_3 m injective) (@EO B0 t p c h_3 m injective):=⟨by unfold EO; exact lx⟩
instance (N:Nat) (t:AD) (p:Pattern) (c:AA) (h_3:A0) (m:AG) (injective:Bool):Mo (@C1 (eN N) t p c h_3 m injective) (@C1 B0 t p c h_3 m injective):=⟨by unfold C1; exact lx⟩
instance (N:Nat) (s_0:AE) (c:AA) (m:AG):Mo (@CX (eN N) s_0 c m) (@CX B0 s_0 c m):=⟨by unfold CX; exact lx⟩
instance (N:Nat) (k:AA) (c0' c0:AA->ca) [hc0:∀ y0,Mo (c0' y0) (c0 y0)]:Mo (@EJ (eN N) k c0') (@EJ B0 k c0):=⟨by unfold EJ; exact lx⟩
instance (N:Nat) (s_0:List AG) (f' f:AG->ca) [hf:∀ y0,Mo (f' y0) (f y0)]:Mo (@EN (eN N) s_0 f') (@EN B0 s_0 f):=⟨by unfold EN; exact lx⟩
instance (N:Nat) (s_0:List AG) (f' f:AG->ca) [hf:∀ y0,Mo (f' y0) (f y0)]:Mo (@D2 (eN N) s_0 f') (@D2 B0 s_0 f):=⟨by unfold D2; exact lx⟩
theorem KX (N:Nat):∀ n m:Nat,n<=m->(∀ (a0:AE) (a1:AA) (a2:AG),Mo (@BR (eN N) n a0 a1 a2) (@BR B0 m a0 a1 a2))∧(∀ (a0:AA) (a1:AE) (a2:AG),Mo (@BO (eN N) n a0 a1 a2) (@BO B0 m a0 a1 a2))∧(∀ (a0:AG) (a1:AE) (a2:AA),Mo (@B6 (eN N) n a0 a1 a2) (@B6 B0 m a0 a1 a2))
 | 0,_,_=>⟨fun _ _ _=>⟨Le.none _⟩,fun _ _ _=>⟨Le.none _⟩,fun _ _ _=>⟨Le.none _⟩⟩
 | n+1,0,h=>absurd h (by omega)
 | n+1,m+1,h=>by
  obtain ⟨i0,i1,i2⟩:=KX N n m (by omega);refine ⟨?_,?_,?_⟩
  ·exact fun _ _ _=>⟨by unfold BR; exact lx⟩
  ·exact fun _ _ _=>⟨by unfold BO; exact lx⟩
  ·exact fun _ _ _=>⟨by unfold B6; exact lx⟩
theorem Ns (N n m:Nat) (h:n<=m) (a0:AE) (a1:AA) (a2:AG):Mo (@BR (eN N) n a0 a1 a2) (@BR B0 m a0 a1 a2):=(KX N n m h).1 a0 a1 a2
instance (N:Nat) (s_0:AE) (c:AA) (m:AG):Mo (@_explain_scene__holds (eN N) s_0 c m) (@_explain_scene__holds B0 s_0 c m):=⟨LL N fun n hn=>(Ns N N n hn _ _ _).le⟩
theorem K8 (N:Nat):∀ n m:Nat,n<=m->(∀ (a0:AE) (a1:AA) (a2:AG) (a3:Ne) (a4:Bool),Mo (@BL (eN N) n a0 a1 a2 a3 a4) (@BL B0 m a0 a1 a2 a3 a4))∧(∀ (a0:AE) (a1:AA) (a2:AG) (a3:Ne) (a4:Bool),Mo (@B7 (eN N) n a0 a1 a2 a3 a4) (@B7 B0 m a0 a1 a2 a3 a4))∧(∀ (a0:AE) (a1:AA) (a2:AG) (a3:Ne) (a4:Bool),Mo (@CA (eN N) n a0 a1 a2 a3 a4) (@CA B0 m a0 a1 a2 a3 a4))
 | 0,_,_=>⟨fun _ _ _ _ _=>⟨Le.none _⟩,fun _ _ _ _ _=>⟨Le.none _⟩,fun _ _ _ _ _=>⟨Le.none _⟩⟩
 | n+1,0,h=>absurd h (by omega)
 | n+1,m+1,h=>by
  obtain ⟨i0,i1,i2⟩:=K8 N n m (by omega);refine ⟨?_,?_,?_⟩
  ·exact fun _ _ _ _ _=>⟨by unfold BL; exact lx⟩
  ·exact fun _ _ _ _ _=>⟨by unfold B7; exact lx⟩
  ·exact fun _ _ _ _ _=>⟨by unfold CA; exact lx⟩
theorem Od (N n m:Nat) (h:n<=m) (a0:AE) (a1:AA) (a2:AG) (a3:Ne) (a4:Bool):Mo (@BL (eN N) n a0 a1 a2 a3 a4) (@BL B0 m a0 a1 a2 a3 a4):=(K8 N n m h).1 a0 a1 a2 a3 a4
instance (N:Nat) (s_0:AE) (c:AA) (m:AG) (path:Ne) (good:Bool):Mo (@Ia (eN N) s_0 c m path good) (@Ia B0 s_0 c m path good):=⟨LL N fun n hn=>(Od N N n hn _ _ _ _ _).le⟩
instance (N:Nat) (t:AD) (p:Pattern) (c:AA) (h_3:A0) (m:AG) (injective:Bool):Mo (@Hz (eN N) t p c h_3 m injective) (@Hz B0 t p c h_3 m injective):=⟨by unfold Hz; exact lx⟩
instance (N:Nat) (starts:Ne) (more' more:Int->Option Ne) [hmore:∀ y0,Mo (more' y0) (more y0)]:Mo (@F4 (eN N) starts more') (@F4 B0 starts more):=⟨by unfold F4; exact lx⟩
theorem J3 (N:Nat):∀ n m:Nat,n<=m->(∀ (a0:AE) (a1:(List AO)) (a2:AA) (a3:AG) (a4:Ne) (a5:Bool),Mo (@A1 (eN N) n a0 a1 a2 a3 a4 a5) (@A1 B0 m a0 a1 a2 a3 a4 a5))∧(∀ (a0:AE) (a1:(List AO)) (a2:AA) (a3:AG) (a4:Ne) (a5:Bool),Mo (@BH (eN N) n a0 a1 a2 a3 a4 a5) (@BH B0 m a0 a1 a2 a3 a4 a5))∧(∀ (a0:Int) (a1:AE) (a2:(List AO)) (a3:AA) (a4:AG) (a5:Ne) (a6:Int) (a7:Bool),Mo (@BF (eN N) n a0 a1 a2 a3 a4 a5 a6 a7) (@BF B0 m a0 a1 a2 a3 a4 a5 a6 a7))∧(∀ (a0:Int) (a1:(List AO)) (a2:Ne) (a3:AG) (a4:AE) (a5:AA),Mo (@BB (eN N) n a0 a1 a2 a3 a4 a5) (@BB B0 m a0 a1 a2 a3 a4 a5))∧(∀ (a0:Int) (a1:AE) (a2:(List AO)) (a3:Int) (a4:AA) (a5:AG) (a6:Ne),Mo (@A8 (eN N) n a0 a1 a2 a3 a4 a5 a6) (@A8 B0 m a0 a1 a2 a3 a4 a5 a6))∧(∀ (a0:Int) (a1:AE) (a2:(List AO)) (a3:AA) (a4:AG) (a5:Ne),Mo (@BC (eN N) n a0 a1 a2 a3 a4 a5) (@BC B0 m a0 a1 a2 a3 a4 a5))
 | 0,_,_=>⟨fun _ _ _ _ _ _=>⟨Le.none _⟩,fun _ _ _ _ _ _=>⟨Le.none _⟩,fun _ _ _ _ _ _ _ _=>⟨Le.none _⟩,fun _ _ _ _ _ _=>⟨Le.none _⟩,fun _ _ _ _ _ _ _=>⟨Le.none _⟩,fun _ _ _ _ _ _=>⟨Le.none _⟩⟩
 | n+1,0,h=>absurd h (by omega)
 | n+1,m+1,h=>by
  obtain ⟨i0,i1,i2,i3,i4,i5⟩:=J3 N n m (by omega);refine ⟨?_,?_,?_,?_,?_,?_⟩
  ·exact fun _ _ _ _ _ _=>⟨by unfold A1; exact lx⟩
  ·exact fun _ _ _ _ _ _=>⟨by unfold BH; exact lx⟩
  ·exact fun _ _ _ _ _ _ _ _=>⟨by unfold BF; exact lx⟩
  ·exact fun _ _ _ _ _ _=>⟨by unfold BB; exact lx⟩
  ·exact fun _ _ _ _ _ _ _=>⟨by unfold A8; exact lx⟩
  ·exact fun _ _ _ _ _ _=>⟨by unfold BC; exact lx⟩
theorem NI (N n m:Nat) (h:n<=m) (a0:AE) (a1:(List AO)) (a2:AA) (a3:AG) (a4:Ne) (a5:Bool):Mo (@A1 (eN N) n a0 a1 a2 a3 a4 a5) (@A1 B0 m a0 a1 a2 a3 a4 a5):=(J3 N n m h).1 a0 a1 a2 a3 a4 a5
instance (N:Nat) (s_0:AE) (l:List AO) (c:AA) (m:AG) (path:Ne) (good:Bool):Mo (@HD (eN N) s_0 l c m path good) (@HD B0 s_0 l c m path good):=⟨LL N fun n hn=>(NI N N n hn _ _ _ _ _ _).le⟩
instance (N:Nat) (t:AD) (p:Pattern) (c:AA) (h_3:A0) (m:AG) (injective:Bool) (l:List AO):Mo (@Ih (eN N) t p c h_3 m injective l) (@Ih B0 t p c h_3 m injective l):=⟨by unfold Ih; exact lx⟩
theorem OJ (N:Nat):∀ n m:Nat,n<=m->(∀ (a0:Ne) (a1:Int),Mo (@D9 (eN N) n a0 a1) (@D9 B0 m a0 a1))
 | 0,_,_=>fun _ _=>⟨Le.none _⟩
 | n+1,0,h=>absurd h (by omega)
 | n+1,m+1,h=>by
  have ih:=OJ N n m (by omega);exact fun _ _=>⟨by unfold D9; exact lx⟩
instance (N:Nat) (l:Ne) (n_1:Int):Mo (@KZ (eN N) l n_1) (@KZ B0 l n_1):=⟨LL N fun n hn=>(OJ N N n hn _ _).le⟩
instance (N:Nat) (t:AD) (p:Pattern) (c:AA) (h_3:A0) (m:AG):Mo (@E9 (eN N) t p c h_3 m) (@E9 B0 t p c h_3 m):=⟨by unfold E9; exact lx⟩
instance (N:Nat) (t:AD) (h_1:A0) (l:List AO):Mo (@JX (eN N) t h_1 l) (@JX B0 t h_1 l):=⟨by unfold JX; exact lx⟩
instance (N:Nat) :Mo (@FY (eN N)) (@FY B0):=⟨by unfold FY; exact lx⟩
end Go.Sf.Sc
namespace Go.Sf.Sc
open Go Go.Sf
theorem dN:@FY (eN 40)=some true:=by decide +kernel
theorem aF:FY=some true:=
 have h:Mo (@FY (eN 40)) (@FY B0):=inferInstance
 h.le _ dN
end Go.Sf.Sc
