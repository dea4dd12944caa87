/- Lemmas. -/
import Derived.Test.YtlbmpkmkmkgniaaGreatDoorFns
import Derived.Test.YtlbmpkmkmkgniaaGreatDoorSfEval
set_option linter.all false
set_option maxRecDepth 100000
namespace Go.Sf.Sc
open Go Go.Sf
instance (N:Nat) (s_0:ByteArray) (ok' ok:Int->ca) [hok:∀ y0,Mo (ok' y0) (ok y0)]:Mo (@Io (eN N) s_0 ok') (@Io B9 s_0 ok):=⟨by unfold Io; exact lx⟩
instance (N:Nat) (s_0:ByteArray):Mo (@IM (eN N) s_0) (@IM B9 s_0):=⟨by unfold IM; exact lx⟩
instance (N:Nat) (s_0:ByteArray):Mo (@JY (eN N) s_0) (@JY B9 s_0):=⟨by unfold JY; exact lx⟩
instance (N:Nat) (t:GN):Mo (@Jl (eN N) t) (@Jl B9 t):=⟨by unfold Jl; exact lx⟩
instance (N:Nat) (s_0:ByteArray):Mo (@FN (eN N) s_0) (@FN B9 s_0):=⟨by unfold FN; exact lx⟩
instance (N:Nat) (s_0:List CX) (f' f:CX->ca) [hf:∀ y0,Mo (f' y0) (f y0)]:Mo (@EH (eN N) s_0 f') (@EH B9 s_0 f):=⟨by unfold EH; exact lx⟩
instance (N:Nat) (s_0:List CX) (f' f:CX->ca) [hf:∀ y0,Mo (f' y0) (f y0)]:Mo (@DC (eN N) s_0 f') (@DC B9 s_0 f):=⟨by unfold DC; exact lx⟩
theorem P4 (N:Nat):∀ n m:Nat,n<=m->(∀ (a0:AC) (a1:Int),Mo (@EO (eN N) n a0 a1) (@EO B9 m a0 a1))
 | 0,_,_=>fun _ _=>⟨Le.none _⟩
 | n+1,0,h=>absurd h (by omega)
 | n+1,m+1,h=>by
  have ih:=P4 N n m (by omega);exact fun _ _=>⟨by unfold EO; exact lx⟩
instance (N:Nat) (t:AC) (a:Int):Mo (@Kw (eN N) t a) (@Kw B9 t a):=⟨LL N fun n hn=>(P4 N N n hn _ _).le⟩
instance (N:Nat) (s_0:List Attr) (f' f:Attr->ca) [hf:∀ y0,Mo (f' y0) (f y0)]:Mo (@FD (eN N) s_0 f') (@FD B9 s_0 f):=⟨by unfold FD; exact lx⟩
instance (N:Nat) (s_0:List Attr) (f' f:Attr->ca) [hf:∀ y0,Mo (f' y0) (f y0)]:Mo (@D3 (eN N) s_0 f') (@D3 B9 s_0 f):=⟨by unfold D3; exact lx⟩
instance (N:Nat) (l:List ByteArray):Mo (@Iq (eN N) l) (@Iq B9 l):=⟨by unfold Iq; exact lx⟩
instance (N:Nat) (x_0:Attr) (before:List Attr):Mo (@GD (eN N) x_0 before) (@GD B9 x_0 before):=⟨by unfold GD; exact lx⟩
instance (N:Nat) (t:AC) (i_1:Int):Mo (@Jb (eN N) t i_1) (@Jb B9 t i_1):=⟨by unfold Jb; exact lx⟩
instance (N:Nat) (s_0:List DF) (f' f:DF->ca) [hf:∀ y0,Mo (f' y0) (f y0)]:Mo (@EG (eN N) s_0 f') (@EG B9 s_0 f):=⟨by unfold EG; exact lx⟩
instance (N:Nat) (s_0:List DF) (f' f:DF->ca) [hf:∀ y0,Mo (f' y0) (f y0)]:Mo (@DB (eN N) s_0 f') (@DB B9 s_0 f):=⟨by unfold DB; exact lx⟩
instance (N:Nat) (t:AC) (i_1:Int):Mo (@Ja (eN N) t i_1) (@Ja B9 t i_1):=⟨by unfold Ja; exact lx⟩
instance (N:Nat) (t:AC):Mo (@GM (eN N) t) (@GM B9 t):=⟨by unfold GM; exact lx⟩
instance (N:Nat) (s_0:Ne) (f' f:Int->ca) [hf:∀ y0,Mo (f' y0) (f y0)]:Mo (@FW (eN N) s_0 f') (@FW B9 s_0 f):=⟨by unfold FW; exact lx⟩
instance (N:Nat) (s_0:Ne) (f' f:Int->ca) [hf:∀ y0,Mo (f' y0) (f y0)]:Mo (@B5 (eN N) s_0 f') (@B5 B9 s_0 f):=⟨by unfold B5; exact lx⟩
instance (N:Nat) (s_0:List DY) (f' f:DY->ca) [hf:∀ y0,Mo (f' y0) (f y0)]:Mo (@FE (eN N) s_0 f') (@FE B9 s_0 f):=⟨by unfold FE; exact lx⟩
instance (N:Nat) (s_0:List DY) (f' f:DY->ca) [hf:∀ y0,Mo (f' y0) (f y0)]:Mo (@CL (eN N) s_0 f') (@CL B9 s_0 f):=⟨by unfold CL; exact lx⟩
instance (N:Nat) (g:Graph):Mo (@EZ (eN N) g) (@EZ B9 g):=⟨by unfold EZ; exact lx⟩
instance (N:Nat) (t:AC) (l:Ne):Mo (@HM (eN N) t l) (@HM B9 t l):=⟨by unfold HM; exact lx⟩
instance (N:Nat) (t:AC) (a:Int):Mo (@IC (eN N) t a) (@IC B9 t a):=⟨by unfold IC; exact lx⟩
instance (N:Nat) (t:AC) (kind:Int) (BQ:Ne):Mo (@KG (eN N) t kind BQ) (@KG B9 t kind BQ):=⟨by unfold KG; exact lx⟩
instance (N:Nat) (t:AC) (a:Int):Mo (@KV (eN N) t a) (@KV B9 t a):=⟨by unfold KV; exact lx⟩
instance (N:Nat) (t:AC) (a:Int) (b:Int):Mo (@Jm (eN N) t a b) (@Jm B9 t a b):=⟨by unfold Jm; exact lx⟩
instance (N:Nat) (t:AC) (edge:Int) (from':Int) (to':Int):Mo (@JZ (eN N) t edge from' to') (@JZ B9 t edge from' to'):=⟨by unfold JZ; exact lx⟩
instance (N:Nat) (t:AC) (h_1:AT):Mo (@H7 (eN N) t h_1) (@H7 B9 t h_1):=⟨by unfold H7; exact lx⟩
instance (N:Nat) (t:AC) (p:Pattern) (s_2:EI):Mo (@G2 (eN N) t p s_2) (@G2 B9 t p s_2):=⟨by unfold G2; exact lx⟩
instance (N:Nat) (t:AC) (p:Pattern):Mo (@EP (eN N) t p) (@EP B9 t p):=⟨by unfold EP; exact lx⟩
instance (N:Nat) (s_0:List AA) (f' f:AA->ca) [hf:∀ y0,Mo (f' y0) (f y0)]:Mo (@EA (eN N) s_0 f') (@EA B9 s_0 f):=⟨by unfold EA; exact lx⟩
instance (N:Nat) (s_0:List AA) (f' f:AA->ca) [hf:∀ y0,Mo (f' y0) (f y0)]:Mo (@B6 (eN N) s_0 f') (@B6 B9 s_0 f):=⟨by unfold B6; exact lx⟩
theorem Lj (N:Nat):∀ n m:Nat,n<=m->(∀ (a0:AA),Mo (@B8 (eN N) n a0) (@B8 B9 m a0))∧(∀ (a0:AA),Mo (@CJ (eN N) n a0) (@CJ B9 m a0))
 | 0,_,_=>⟨fun _=>⟨Le.none _⟩,fun _=>⟨Le.none _⟩⟩
 | n+1,0,h=>absurd h (by omega)
 | n+1,m+1,h=>by
  obtain ⟨i0,i1⟩:=Lj N n m (by omega);refine ⟨?_,?_⟩
  ·exact fun _=>⟨by unfold B8; exact lx⟩
  ·exact fun _=>⟨by unfold CJ; exact lx⟩
theorem O8 (N n m:Nat) (h:n<=m) (a0:AA):Mo (@B8 (eN N) n a0) (@B8 B9 m a0):=(Lj N n m h).1 a0
instance (N:Nat) (c:AA):Mo (@HT (eN N) c) (@HT B9 c):=⟨LL N fun n hn=>(O8 N N n hn _).le⟩
theorem Ms (N:Nat):∀ n m:Nat,n<=m->(∀ (a0:AA),Mo (@DG (eN N) n a0) (@DG B9 m a0))
 | 0,_,_=>fun _=>⟨Le.none _⟩
 | n+1,0,h=>absurd h (by omega)
 | n+1,m+1,h=>by
  have ih:=Ms N n m (by omega);exact fun _=>⟨by unfold DG; exact lx⟩
instance (N:Nat) (c:AA):Mo (@Ic (eN N) c) (@Ic B9 c):=⟨LL N fun n hn=>(Ms N N n hn _).le⟩
instance (N:Nat) (c:AA):Mo (@F7 (eN N) c) (@F7 B9 c):=⟨by unfold F7; exact lx⟩
instance (N:Nat) (s_0:List EI) (f' f:EI->ca) [hf:∀ y0,Mo (f' y0) (f y0)]:Mo (@FG (eN N) s_0 f') (@FG B9 s_0 f):=⟨by unfold FG; exact lx⟩
instance (N:Nat) (s_0:List EI) (f' f:EI->ca) [hf:∀ y0,Mo (f' y0) (f y0)]:Mo (@D4 (eN N) s_0 f') (@D4 B9 s_0 f):=⟨by unfold D4; exact lx⟩
instance (N:Nat) (t:AC) (q:Pattern) (outer:Int):Mo (@E3 (eN N) t q outer) (@E3 B9 t q outer):=⟨by unfold E3; exact lx⟩
instance (N:Nat) (a:Graph) (b:Graph) (m:Morphism):Mo (@FR (eN N) a b m) (@FR B9 a b m):=⟨by unfold FR; exact lx⟩
instance (N:Nat) (a:Graph) (b:Graph) (m:Morphism):Mo (@ES (eN N) a b m) (@ES B9 a b m):=⟨by unfold ES; exact lx⟩
theorem NM (N:Nat):∀ n m:Nat,n<=m->(∀ (a0:AC) (a1:Pattern) (a2:AA),Mo (@C2 (eN N) n a0 a1 a2) (@C2 B9 m a0 a1 a2))
 | 0,_,_=>fun _ _ _=>⟨Le.none _⟩
 | n+1,0,h=>absurd h (by omega)
 | n+1,m+1,h=>by
  have ih:=NM N n m (by omega);exact fun _ _ _=>⟨by unfold C2; exact lx⟩
instance (N:Nat) (t:AC) (p:Pattern) (c:AA):Mo (@KN (eN N) t p c) (@KN B9 t p c):=⟨LL N fun n hn=>(NM N N n hn _ _ _).le⟩
instance (N:Nat) (t:AC) (p:Pattern) (c:AA):Mo (@EQ (eN N) t p c) (@EQ B9 t p c):=⟨by unfold EQ; exact lx⟩
instance (N:Nat) (t:AC) (g:Graph):Mo (@GW (eN N) t g) (@GW B9 t g):=⟨by unfold GW; exact lx⟩
instance (N:Nat) (t:AC) (p:Graph) (g:Graph):Mo (@Hq (eN N) t p g) (@Hq B9 t p g):=⟨by unfold Hq; exact lx⟩
instance (N:Nat) (t:AC) (a:Int):Mo (@Ip (eN N) t a) (@Ip B9 t a):=⟨by unfold Ip; exact lx⟩
instance (N:Nat) (t:AC):Mo (@Hp (eN N) t) (@Hp B9 t):=⟨by unfold Hp; exact lx⟩
instance (N:Nat) (t:AC) (p:Graph) (g:Graph) (m:Morphism):Mo (@IL (eN N) t p g m) (@IL B9 t p g m):=⟨by unfold IL; exact lx⟩
instance (N:Nat) (t:AC) (p:Graph) (g:Graph) (m:Morphism) (injective:Bool):Mo (@Ho (eN N) t p g m injective) (@Ho B9 t p g m injective):=⟨by unfold Ho; exact lx⟩
instance (N:Nat) (t:AC) (p:Pattern) (h_2:AT):Mo (@F3 (eN N) t p h_2) (@F3 B9 t p h_2):=⟨by unfold F3; exact lx⟩
instance (N:Nat) (t:AC) (p:Pattern) (h_2:AT) (m:Morphism):Mo (@F2 (eN N) t p h_2 m) (@F2 B9 t p h_2 m):=⟨by unfold F2; exact lx⟩
instance (N:Nat) (t:AC) (p:Pattern) (c:AA) (h_3:AT) (m:AF) (injective:Bool):Mo (@F6 (eN N) t p c h_3 m injective) (@F6 B9 t p c h_3 m injective):=⟨by unfold F6; exact lx⟩
instance (N:Nat) (l:Ne) (n:Int):Mo (@IA (eN N) l n) (@IA B9 l n):=⟨by unfold IA; exact lx⟩
theorem K6 (N:Nat):∀ n m:Nat,n<=m->(∀ (a0:AN),Mo (@BF (eN N) n a0) (@BF B9 m a0))
 | 0,_,_=>fun _=>⟨Le.none _⟩
 | n+1,0,h=>absurd h (by omega)
 | n+1,m+1,h=>by
  have ih:=K6 N n m (by omega);exact fun _=>⟨by unfold BF; exact lx⟩
instance (N:Nat) (f:AN):Mo (@G1 (eN N) f) (@G1 B9 f):=⟨LL N fun n hn=>(K6 N N n hn _).le⟩
instance (N:Nat) (t:AC) (p:Graph) (g:Graph) (partial_:Morphism) (injective:Bool) (most:Int):Mo (@IK (eN N) t p g partial_ injective most) (@IK B9 t p g partial_ injective most):=⟨by unfold IK; exact lx⟩
instance (N:Nat) (t:AC) (p:Graph) (g:Graph) (partial_:Morphism) (injective:Bool):Mo (@KU (eN N) t p g partial_ injective) (@KU B9 t p g partial_ injective):=⟨by unfold KU; exact lx⟩
instance (N:Nat) (t:AC) (p:Graph) (g:Graph) (partial_:Morphism) (injective:Bool):Mo (@GV (eN N) t p g partial_ injective) (@GV B9 t p g partial_ injective):=⟨by unfold GV; exact lx⟩
instance (N:Nat) (s_0:A8) (c:AA) (m:AF):Mo (@CT (eN N) s_0 c m) (@CT B9 s_0 c m):=⟨by unfold CT; exact lx⟩
theorem Jw (N:Nat):∀ n m:Nat,n<=m->(∀ (a0:A8) (a1:AA) (a2:AF),Mo (@A5 (eN N) n a0 a1 a2) (@A5 B9 m a0 a1 a2))∧(∀ (a0:A8) (a1:AA) (a2:AF),Mo (@B4 (eN N) n a0 a1 a2) (@B4 B9 m a0 a1 a2))
 | 0,_,_=>⟨fun _ _ _=>⟨Le.none _⟩,fun _ _ _=>⟨Le.none _⟩⟩
 | n+1,0,h=>absurd h (by omega)
 | n+1,m+1,h=>by
  obtain ⟨i0,i1⟩:=Jw N n m (by omega);refine ⟨?_,?_⟩
  ·exact fun _ _ _=>⟨by unfold A5; exact lx⟩
  ·exact fun _ _ _=>⟨by unfold B4; exact lx⟩
theorem NR (N n m:Nat) (h:n<=m) (a0:A8) (a1:AA) (a2:AF):Mo (@A5 (eN N) n a0 a1 a2) (@A5 B9 m a0 a1 a2):=(Jw N n m h).1 a0 a1 a2
instance (N:Nat) (s_0:A8) (c:AA) (m:AF):Mo (@E7 (eN N) s_0 c m) (@E7 B9 s_0 c m):=⟨LL N fun n hn=>(NR N N n hn _ _ _).le⟩
instance (N:Nat) (t:AC) (p:Pattern) (c:AA) (h_3:AT) (m:AF) (injective:Bool):Mo (@E2 (eN N) t p c h_3 m injective) (@E2 B9 t p c h_3 m injective):=⟨by unfold E2; exact lx⟩
instance (N:Nat) (t:AC) (p:Pattern) (c:AA) (h_3:AT) (m:AF) (injective:Bool):Mo (@C7 (eN N) t p c h_3 m injective) (@C7 B9 t p c h_3 m injective):=⟨by unfold C7; exact lx⟩
instance (N:Nat) (s_0:AG) (c:AA) (m:AF):Mo (@CM (eN N) s_0 c m) (@CM B9 s_0 c m):=⟨by unfold CM; exact lx⟩
instance (N:Nat) (k:AA) (c0' c0:AA->ca) [hc0:∀ y0,Mo (c0' y0) (c0 y0)]:Mo (@D8 (eN N) k c0') (@D8 B9 k c0):=⟨by unfold D8; exact lx⟩
instance (N:Nat) (s_0:List AF) (f' f:AF->ca) [hf:∀ y0,Mo (f' y0) (f y0)]:Mo (@E1 (eN N) s_0 f') (@E1 B9 s_0 f):=⟨by unfold E1; exact lx⟩
instance (N:Nat) (s_0:List AF) (f' f:AF->ca) [hf:∀ y0,Mo (f' y0) (f y0)]:Mo (@DU (eN N) s_0 f') (@DU B9 s_0 f):=⟨by unfold DU; exact lx⟩
theorem K7 (N:Nat):∀ n m:Nat,n<=m->(∀ (a0:AG) (a1:AA) (a2:AF),Mo (@BR (eN N) n a0 a1 a2) (@BR B9 m a0 a1 a2))∧(∀ (a0:AA) (a1:AG) (a2:AF),Mo (@BH (eN N) n a0 a1 a2) (@BH B9 m a0 a1 a2))∧(∀ (a0:AF) (a1:AG) (a2:AA),Mo (@CA (eN N) n a0 a1 a2) (@CA B9 m a0 a1 a2))
 | 0,_,_=>⟨fun _ _ _=>⟨Le.none _⟩,fun _ _ _=>⟨Le.none _⟩,fun _ _ _=>⟨Le.none _⟩⟩
 | n+1,0,h=>absurd h (by omega)
 | n+1,m+1,h=>by
  obtain ⟨i0,i1,i2⟩:=K7 N n m (by omega);refine ⟨?_,?_,?_⟩
  ·exact fun _ _ _=>⟨by unfold BR; exact lx⟩
  ·exact fun _ _ _=>⟨by unfold BH; exact lx⟩
  ·exact fun _ _ _=>⟨by unfold CA; exact lx⟩
theorem On (N n m:Nat) (h:n<=m) (a0:AG) (a1:AA) (a2:AF):Mo (@BR (eN N) n a0 a1 a2) (@BR B9 m a0 a1 a2):=(K7 N n m h).1 a0 a1 a2
instance (N:Nat) (s_0:AG) (c:AA) (m:AF):Mo (@_explain_scene__holds (eN N) s_0 c m) (@_explain_scene__holds B9 s_0 c m):=⟨LL N fun n hn=>(On N N n hn _ _ _).le⟩
theorem Lq (N:Nat):∀ n m:Nat,n<=m->(∀ (a0:AG) (a1:AA) (a2:AF) (a3:Ne) (a4:Bool),Mo (@BA (eN N) n a0 a1 a2 a3 a4) (@BA B9 m a0 a1 a2 a3 a4))∧(∀ (a0:AG) (a1:AA) (a2:AF) (a3:Ne) (a4:Bool),Mo (@CB (eN N) n a0 a1 a2 a3 a4) (@CB B9 m a0 a1 a2 a3 a4))∧(∀ (a0:AG) (a1:AA) (a2:AF) (a3:Ne) (a4:Bool),Mo (@CI (eN N) n a0 a1 a2 a3 a4) (@CI B9 m a0 a1 a2 a3 a4))
 | 0,_,_=>⟨fun _ _ _ _ _=>⟨Le.none _⟩,fun _ _ _ _ _=>⟨Le.none _⟩,fun _ _ _ _ _=>⟨Le.none _⟩⟩
 | n+1,0,h=>absurd h (by omega)
 | n+1,m+1,h=>by
  obtain ⟨i0,i1,i2⟩:=Lq N n m (by omega);refine ⟨?_,?_,?_⟩
  ·exact fun _ _ _ _ _=>⟨by unfold BA; exact lx⟩
  ·exact fun _ _ _ _ _=>⟨by unfold CB; exact lx⟩
  ·exact fun _ _ _ _ _=>⟨by unfold CI; exact lx⟩
theorem Pf (N n m:Nat) (h:n<=m) (a0:AG) (a1:AA) (a2:AF) (a3:Ne) (a4:Bool):Mo (@BA (eN N) n a0 a1 a2 a3 a4) (@BA B9 m a0 a1 a2 a3 a4):=(Lq N n m h).1 a0 a1 a2 a3 a4
instance (N:Nat) (s_0:AG) (c:AA) (m:AF) (path:Ne) (good:Bool):Mo (@Hy (eN N) s_0 c m path good) (@Hy B9 s_0 c m path good):=⟨LL N fun n hn=>(Pf N N n hn _ _ _ _ _).le⟩
instance (N:Nat) (t:AC) (p:Pattern) (c:AA) (h_3:AT) (m:AF) (injective:Bool):Mo (@E8 (eN N) t p c h_3 m injective) (@E8 B9 t p c h_3 m injective):=⟨by unfold E8; exact lx⟩
instance (N:Nat) (starts:Ne) (more' more:Int->Option Ne) [hmore:∀ y0,Mo (more' y0) (more y0)]:Mo (@EM (eN N) starts more') (@EM B9 starts more):=⟨by unfold EM; exact lx⟩
theorem Ka (N:Nat):∀ n m:Nat,n<=m->(∀ (a0:AG) (a1:(List AH)) (a2:AA) (a3:AF) (a4:Ne) (a5:Bool),Mo (@AZ (eN N) n a0 a1 a2 a3 a4 a5) (@AZ B9 m a0 a1 a2 a3 a4 a5))∧(∀ (a0:AG) (a1:(List AH)) (a2:AA) (a3:AF) (a4:Ne) (a5:Bool),Mo (@BL (eN N) n a0 a1 a2 a3 a4 a5) (@BL B9 m a0 a1 a2 a3 a4 a5))∧(∀ (a0:Int) (a1:AG) (a2:(List AH)) (a3:AA) (a4:AF) (a5:Ne) (a6:Int) (a7:Bool),Mo (@BG (eN N) n a0 a1 a2 a3 a4 a5 a6 a7) (@BG B9 m a0 a1 a2 a3 a4 a5 a6 a7))∧(∀ (a0:Int) (a1:(List AH)) (a2:Ne) (a3:AF) (a4:AG) (a5:AA),Mo (@BC (eN N) n a0 a1 a2 a3 a4 a5) (@BC B9 m a0 a1 a2 a3 a4 a5))∧(∀ (a0:Int) (a1:AG) (a2:(List AH)) (a3:Int) (a4:AA) (a5:AF) (a6:Ne),Mo (@A6 (eN N) n a0 a1 a2 a3 a4 a5 a6) (@A6 B9 m a0 a1 a2 a3 a4 a5 a6))∧(∀ (a0:Int) (a1:AG) (a2:(List AH)) (a3:AA) (a4:AF) (a5:Ne),Mo (@BD (eN N) n a0 a1 a2 a3 a4 a5) (@BD B9 m a0 a1 a2 a3 a4 a5))
 | 0,_,_=>⟨fun _ _ _ _ _ _=>⟨Le.none _⟩,fun _ _ _ _ _ _=>⟨Le.none _⟩,fun _ _ _ _ _ _ _ _=>⟨Le.none _⟩,fun _ _ _ _ _ _=>⟨Le.none _⟩,fun _ _ _ _ _ _ _=>⟨Le.none _⟩,fun _ _ _ _ _ _=>⟨Le.none _⟩⟩
 | n+1,0,h=>absurd h (by omega)
 | n+1,m+1,h=>by
  obtain ⟨i0,i1,i2,i3,i4,i5⟩:=Ka N n m (by omega);refine ⟨?_,?_,?_,?_,?_,?_⟩
  ·exact fun _ _ _ _ _ _=>⟨by unfold AZ; exact lx⟩
  ·exact fun _ _ _ _ _ _=>⟨by unfold BL; exact lx⟩
  ·exact fun _ _ _ _ _ _ _ _=>⟨by unfold BG; exact lx⟩
  ·exact fun _ _ _ _ _ _=>⟨by unfold BC; exact lx⟩
  ·exact fun _ _ _ _ _ _ _=>⟨by unfold A6; exact lx⟩
  ·exact fun _ _ _ _ _ _=>⟨by unfold BD; exact lx⟩
theorem OF (N n m:Nat) (h:n<=m) (a0:AG) (a1:(List AH)) (a2:AA) (a3:AF) (a4:Ne) (a5:Bool):Mo (@AZ (eN N) n a0 a1 a2 a3 a4 a5) (@AZ B9 m a0 a1 a2 a3 a4 a5):=(Ka N n m h).1 a0 a1 a2 a3 a4 a5
instance (N:Nat) (s_0:AG) (l:List AH) (c:AA) (m:AF) (path:Ne) (good:Bool):Mo (@FX (eN N) s_0 l c m path good) (@FX B9 s_0 l c m path good):=⟨LL N fun n hn=>(OF N N n hn _ _ _ _ _ _).le⟩
instance (N:Nat) (t:AC) (p:Pattern) (c:AA) (h_3:AT) (m:AF) (injective:Bool) (l:List AH):Mo (@GO (eN N) t p c h_3 m injective l) (@GO B9 t p c h_3 m injective l):=⟨by unfold GO; exact lx⟩
theorem PJ (N:Nat):∀ n m:Nat,n<=m->(∀ (a0:Ne) (a1:Int),Mo (@GP (eN N) n a0 a1) (@GP B9 m a0 a1))
 | 0,_,_=>fun _ _=>⟨Le.none _⟩
 | n+1,0,h=>absurd h (by omega)
 | n+1,m+1,h=>by
  have ih:=PJ N n m (by omega);exact fun _ _=>⟨by unfold GP; exact lx⟩
instance (N:Nat) (l:Ne) (n_1:Int):Mo (@Mu (eN N) l n_1) (@Mu B9 l n_1):=⟨LL N fun n hn=>(PJ N N n hn _ _).le⟩
instance (N:Nat) (t:AC) (p:Pattern) (c:AA) (h_3:AT) (m:AF):Mo (@Is (eN N) t p c h_3 m) (@Is B9 t p c h_3 m):=⟨by unfold Is; exact lx⟩
instance (N:Nat) (t:AC) (h_1:AT) (l:List AH):Mo (@J1 (eN N) t h_1 l) (@J1 B9 t h_1 l):=⟨by unfold J1; exact lx⟩
instance (N:Nat) :Mo (@GJ (eN N)) (@GJ B9):=⟨by unfold GJ; exact lx⟩
end Go.Sf.Sc
namespace Go.Sf.Sc
open Go Go.Sf
theorem fF:@GJ (eN 40)=some true:=by decide +kernel
theorem b8:GJ=some true:=
 have h:Mo (@GJ (eN 40)) (@GJ B9):=inferInstance
 h.le _ fF
end Go.Sf.Sc
