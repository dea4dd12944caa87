/- Lemmas. -/
import Derived.Test.YtmaobfbhdkafkaaGreatFns
import Derived.Test.YtmaobfbhdkafkaaGreatSfEval
set_option maxRecDepth 100000
namespace Go.Sf.Sc
open Go Go.Sf
instance (N:Nat) (s_0:ByteArray) (ok' ok:Int->Option Bool) [hok:∀ y0,Mo (ok' y0) (ok y0)]:Mo (@Hy (eN N) s_0 ok') (@Hy CA s_0 ok):=⟨by unfold Hy; exact lx⟩
instance (N:Nat) (s_0:ByteArray):Mo (@HI (eN N) s_0) (@HI CA s_0):=⟨by unfold HI; exact lx⟩
instance (N:Nat) (s_0:ByteArray):Mo (@Ii (eN N) s_0) (@Ii CA s_0):=⟨by unfold Ii; exact lx⟩
instance (N:Nat) (t:E8):Mo (@Iv (eN N) t) (@Iv CA t):=⟨by unfold Iv; exact lx⟩
instance (N:Nat) (s_0:ByteArray):Mo (@EH (eN N) s_0) (@EH CA s_0):=⟨by unfold EH; exact lx⟩
instance (N:Nat) (s_0:List BF) (f' f:BF->Option Bool) [hf:∀ y0,Mo (f' y0) (f y0)]:Mo (@DP (eN N) s_0 f') (@DP CA s_0 f):=⟨by unfold DP; exact lx⟩
instance (N:Nat) (s_0:List BF) (f' f:BF->Option Bool) [hf:∀ y0,Mo (f' y0) (f y0)]:Mo (@CM (eN N) s_0 f') (@CM CA s_0 f):=⟨by unfold CM; exact lx⟩
theorem Oy (N:Nat):∀ n m:Nat,n<=m->(∀ (a0:Types) (a1:Int),Mo (@DS (eN N) n a0 a1) (@DS CA m a0 a1))
 | 0,_,_=>fun _ _=>⟨Le.none _⟩
 | n+1,0,h=>absurd h (by omega)
 | n+1,m+1,h=>by
  have ih:=Oy N n m (by omega)
  exact fun _ _=>⟨by unfold DS; exact lx⟩
instance (N:Nat) (t:Types) (a:Int):Mo (@J2 (eN N) t a) (@J2 CA t a):=⟨LL N fun n hn=>(Oy N N n hn _ _).le⟩
instance (N:Nat) (s_0:List Attr) (f' f:Attr->Option Bool) [hf:∀ y0,Mo (f' y0) (f y0)]:Mo (@D8 (eN N) s_0 f') (@D8 CA s_0 f):=⟨by unfold D8; exact lx⟩
instance (N:Nat) (s_0:List Attr) (f' f:Attr->Option Bool) [hf:∀ y0,Mo (f' y0) (f y0)]:Mo (@C9 (eN N) s_0 f') (@C9 CA s_0 f):=⟨by unfold C9; exact lx⟩
instance (N:Nat) (l:List ByteArray):Mo (@H0 (eN N) l) (@H0 CA l):=⟨by unfold H0; exact lx⟩
instance (N:Nat) (x_0:Attr) (before:List Attr):Mo (@E2 (eN N) x_0 before) (@E2 CA x_0 before):=⟨by unfold E2; exact lx⟩
instance (N:Nat) (t:Types) (i_1:Int):Mo (@Il (eN N) t i_1) (@Il CA t i_1):=⟨by unfold Il; exact lx⟩
instance (N:Nat) (s_0:List CJ) (f' f:CJ->Option Bool) [hf:∀ y0,Mo (f' y0) (f y0)]:Mo (@DO (eN N) s_0 f') (@DO CA s_0 f):=⟨by unfold DO; exact lx⟩
instance (N:Nat) (s_0:List CJ) (f' f:CJ->Option Bool) [hf:∀ y0,Mo (f' y0) (f y0)]:Mo (@CL (eN N) s_0 f') (@CL CA s_0 f):=⟨by unfold CL; exact lx⟩
instance (N:Nat) (t:Types) (i_1:Int):Mo (@Ik (eN N) t i_1) (@Ik CA t i_1):=⟨by unfold Ik; exact lx⟩
instance (N:Nat) (t:Types):Mo (@E7 (eN N) t) (@E7 CA t):=⟨by unfold E7; exact lx⟩
instance (N:Nat) (s_0:List Int) (f' f:Int->Option Bool) [hf:∀ y0,Mo (f' y0) (f y0)]:Mo (@EN (eN N) s_0 f') (@EN CA s_0 f):=⟨by unfold EN; exact lx⟩
instance (N:Nat) (s_0:List Int) (f' f:Int->Option Bool) [hf:∀ y0,Mo (f' y0) (f y0)]:Mo (@BJ (eN N) s_0 f') (@BJ CA s_0 f):=⟨by unfold BJ; exact lx⟩
instance (N:Nat) (s_0:List B6) (f' f:B6->Option Bool) [hf:∀ y0,Mo (f' y0) (f y0)]:Mo (@D9 (eN N) s_0 f') (@D9 CA s_0 f):=⟨by unfold D9; exact lx⟩
instance (N:Nat) (s_0:List B6) (f' f:B6->Option Bool) [hf:∀ y0,Mo (f' y0) (f y0)]:Mo (@BU (eN N) s_0 f') (@BU CA s_0 f):=⟨by unfold BU; exact lx⟩
instance (N:Nat) (g:Graph):Mo (@DZ (eN N) g) (@DZ CA g):=⟨by unfold DZ; exact lx⟩
instance (N:Nat) (t:Types) (l:List Int):Mo (@FX (eN N) t l) (@FX CA t l):=⟨by unfold FX; exact lx⟩
instance (N:Nat) (t:Types) (a:Int):Mo (@G4 (eN N) t a) (@G4 CA t a):=⟨by unfold G4; exact lx⟩
instance (N:Nat) (t:Types) (p:Pattern) (s_2:CS):Mo (@FI (eN N) t p s_2) (@FI CA t p s_2):=⟨by unfold FI; exact lx⟩
instance (N:Nat) (t:Types) (p:Pattern):Mo (@DT (eN N) t p) (@DT CA t p):=⟨by unfold DT; exact lx⟩
instance (N:Nat) (s_0:List AA) (f' f:AA->Option Bool) [hf:∀ y0,Mo (f' y0) (f y0)]:Mo (@DE (eN N) s_0 f') (@DE CA s_0 f):=⟨by unfold DE; exact lx⟩
instance (N:Nat) (s_0:List AA) (f' f:AA->Option Bool) [hf:∀ y0,Mo (f' y0) (f y0)]:Mo (@BZ (eN N) s_0 f') (@BZ CA s_0 f):=⟨by unfold BZ; exact lx⟩
theorem Km (N:Nat):∀ n m:Nat,n<=m->(∀ (a0:AA),Mo (@BM (eN N) n a0) (@BM CA m a0))∧(∀ (a0:AA),Mo (@BR (eN N) n a0) (@BR CA m a0))
 | 0,_,_=>⟨fun _=>⟨Le.none _⟩,fun _=>⟨Le.none _⟩⟩
 | n+1,0,h=>absurd h (by omega)
 | n+1,m+1,h=>by
  obtain ⟨i0,i1⟩:=Km N n m (by omega)
  refine ⟨?_,?_⟩
  ·exact fun _=>⟨by unfold BM; exact lx⟩
  ·exact fun _=>⟨by unfold BR; exact lx⟩
theorem Nx (N n m:Nat) (h:n<=m) (a0:AA):Mo (@BM (eN N) n a0) (@BM CA m a0):=(Km N n m h).1 a0
instance (N:Nat) (c:AA):Mo (@F4 (eN N) c) (@F4 CA c):=⟨LL N fun n hn=>(Nx N N n hn _).le⟩
theorem Lk (N:Nat):∀ n m:Nat,n<=m->(∀ (a0:AA),Mo (@CP (eN N) n a0) (@CP CA m a0))
 | 0,_,_=>fun _=>⟨Le.none _⟩
 | n+1,0,h=>absurd h (by omega)
 | n+1,m+1,h=>by
  have ih:=Lk N n m (by omega)
  exact fun _=>⟨by unfold CP; exact lx⟩
instance (N:Nat) (c:AA):Mo (@HZ (eN N) c) (@HZ CA c):=⟨LL N fun n hn=>(Lk N N n hn _).le⟩
instance (N:Nat) (c:AA):Mo (@EY (eN N) c) (@EY CA c):=⟨by unfold EY; exact lx⟩
instance (N:Nat) (s_0:List CS) (f' f:CS->Option Bool) [hf:∀ y0,Mo (f' y0) (f y0)]:Mo (@EA (eN N) s_0 f') (@EA CA s_0 f):=⟨by unfold EA; exact lx⟩
instance (N:Nat) (s_0:List CS) (f' f:CS->Option Bool) [hf:∀ y0,Mo (f' y0) (f y0)]:Mo (@DA (eN N) s_0 f') (@DA CA s_0 f):=⟨by unfold DA; exact lx⟩
instance (N:Nat) (t:Types) (q:Pattern) (outer:Int):Mo (@D2 (eN N) t q outer) (@D2 CA t q outer):=⟨by unfold D2; exact lx⟩
instance (N:Nat) (a:Graph) (b:Graph) (m:Morphism):Mo (@EI (eN N) a b m) (@EI CA a b m):=⟨by unfold EI; exact lx⟩
instance (N:Nat) (a:Graph) (b:Graph) (m:Morphism):Mo (@DV (eN N) a b m) (@DV CA a b m):=⟨by unfold DV; exact lx⟩
theorem MK (N:Nat):∀ n m:Nat,n<=m->(∀ (a0:Types) (a1:Pattern) (a2:AA),Mo (@CC (eN N) n a0 a1 a2) (@CC CA m a0 a1 a2))
 | 0,_,_=>fun _ _ _=>⟨Le.none _⟩
 | n+1,0,h=>absurd h (by omega)
 | n+1,m+1,h=>by
  have ih:=MK N n m (by omega)
  exact fun _ _ _=>⟨by unfold CC; exact lx⟩
instance (N:Nat) (t:Types) (p:Pattern) (c:AA):Mo (@JP (eN N) t p c) (@JP CA t p c):=⟨LL N fun n hn=>(MK N N n hn _ _ _).le⟩
instance (N:Nat) (t:Types) (p:Pattern) (c:AA):Mo (@DU (eN N) t p c) (@DU CA t p c):=⟨by unfold DU; exact lx⟩
instance (N:Nat) (t:Types) (kind:Int) (BB:List Int):Mo (@JH (eN N) t kind BB) (@JH CA t kind BB):=⟨by unfold JH; exact lx⟩
instance (N:Nat) (t:Types) (a:Int):Mo (@Ja (eN N) t a) (@Ja CA t a):=⟨by unfold Ja; exact lx⟩
instance (N:Nat) (t:Types) (a:Int) (b:Int):Mo (@Iw (eN N) t a b) (@Iw CA t a b):=⟨by unfold Iw; exact lx⟩
instance (N:Nat) (t:Types) (edge:Int) (from':Int) (to':Int):Mo (@Ij (eN N) t edge from' to') (@Ij CA t edge from' to'):=⟨by unfold Ij; exact lx⟩
instance (N:Nat) (t:Types) (h_1:AY):Mo (@Hr (eN N) t h_1) (@Hr CA t h_1):=⟨by unfold Hr; exact lx⟩
instance (N:Nat) (t:Types) (g:Graph):Mo (@FB (eN N) t g) (@FB CA t g):=⟨by unfold FB; exact lx⟩
instance (N:Nat) (t:Types) (p:Graph) (g:Graph):Mo (@GA (eN N) t p g) (@GA CA t p g):=⟨by unfold GA; exact lx⟩
instance (N:Nat) (t:Types) (a:Int):Mo (@Hz (eN N) t a) (@Hz CA t a):=⟨by unfold Hz; exact lx⟩
instance (N:Nat) (t:Types):Mo (@F9 (eN N) t) (@F9 CA t):=⟨by unfold F9; exact lx⟩
instance (N:Nat) (t:Types) (p:Graph) (g:Graph) (m:Morphism):Mo (@HH (eN N) t p g m) (@HH CA t p g m):=⟨by unfold HH; exact lx⟩
instance (N:Nat) (t:Types) (p:Graph) (g:Graph) (m:Morphism) (injective:Bool):Mo (@F8 (eN N) t p g m injective) (@F8 CA t p g m injective):=⟨by unfold F8; exact lx⟩
instance (N:Nat) (t:Types) (p:Pattern) (h_2:AY):Mo (@EU (eN N) t p h_2) (@EU CA t p h_2):=⟨by unfold EU; exact lx⟩
instance (N:Nat) (t:Types) (p:Pattern) (h_2:AY) (m:Morphism):Mo (@ET (eN N) t p h_2 m) (@ET CA t p h_2 m):=⟨by unfold ET; exact lx⟩
instance (N:Nat) (t:Types) (p:Pattern) (c:AA) (h_3:AY) (m:AL) (injective:Bool):Mo (@D4 (eN N) t p c h_3 m injective) (@D4 CA t p c h_3 m injective):=⟨by unfold D4; exact lx⟩
instance (N:Nat) (l:List Int) (n:Int):Mo (@G2 (eN N) l n) (@G2 CA l n):=⟨by unfold G2; exact lx⟩
theorem KF (N:Nat):∀ n m:Nat,n<=m->(∀ (a0:AH),Mo (@A2 (eN N) n a0) (@A2 CA m a0))
 | 0,_,_=>fun _=>⟨Le.none _⟩
 | n+1,0,h=>absurd h (by omega)
 | n+1,m+1,h=>by
  have ih:=KF N n m (by omega)
  exact fun _=>⟨by unfold A2; exact lx⟩
instance (N:Nat) (f:AH):Mo (@FH (eN N) f) (@FH CA f):=⟨LL N fun n hn=>(KF N N n hn _).le⟩
instance (N:Nat) (t:Types) (p:Graph) (g:Graph) (partial_:Morphism) (injective:Bool) (most:Int):Mo (@HF (eN N) t p g partial_ injective most) (@HF CA t p g partial_ injective most):=⟨by unfold HF; exact lx⟩
instance (N:Nat) (t:Types) (p:Graph) (g:Graph) (partial_:Morphism) (injective:Bool):Mo (@JX (eN N) t p g partial_ injective) (@JX CA t p g partial_ injective):=⟨by unfold JX; exact lx⟩
instance (N:Nat) (t:Types) (p:Graph) (g:Graph) (partial_:Morphism) (injective:Bool):Mo (@FA (eN N) t p g partial_ injective) (@FA CA t p g partial_ injective):=⟨by unfold FA; exact lx⟩
instance (N:Nat) (s_0:AR) (c:AA) (m:AL):Mo (@BV (eN N) s_0 c m) (@BV CA s_0 c m):=⟨by unfold BV; exact lx⟩
theorem I2 (N:Nat):∀ n m:Nat,n<=m->(∀ (a0:AR) (a1:AA) (a2:AL),Mo (@AX (eN N) n a0 a1 a2) (@AX CA m a0 a1 a2))∧(∀ (a0:AR) (a1:AA) (a2:AL),Mo (@BH (eN N) n a0 a1 a2) (@BH CA m a0 a1 a2))
 | 0,_,_=>⟨fun _ _ _=>⟨Le.none _⟩,fun _ _ _=>⟨Le.none _⟩⟩
 | n+1,0,h=>absurd h (by omega)
 | n+1,m+1,h=>by
  obtain ⟨i0,i1⟩:=I2 N n m (by omega)
  refine ⟨?_,?_⟩
  ·exact fun _ _ _=>⟨by unfold AX; exact lx⟩
  ·exact fun _ _ _=>⟨by unfold BH; exact lx⟩
theorem MO (N n m:Nat) (h:n<=m) (a0:AR) (a1:AA) (a2:AL):Mo (@AX (eN N) n a0 a1 a2) (@AX CA m a0 a1 a2):=(I2 N n m h).1 a0 a1 a2
instance (N:Nat) (s_0:AR) (c:AA) (m:AL):Mo (@DM (eN N) s_0 c m) (@DM CA s_0 c m):=⟨LL N fun n hn=>(MO N N n hn _ _ _).le⟩
instance (N:Nat) (t:Types) (p:Pattern) (c:AA) (h_3:AY) (m:AL) (injective:Bool):Mo (@DQ (eN N) t p c h_3 m injective) (@DQ CA t p c h_3 m injective):=⟨by unfold DQ; exact lx⟩
instance (N:Nat) (t:Types) (p:Pattern) (c:AA) (h_3:AY) (m:AL) (injective:Bool):Mo (@CW (eN N) t p c h_3 m injective) (@CW CA t p c h_3 m injective):=⟨by unfold CW; exact lx⟩
instance (N:Nat) (s_0:List AL) (f' f:AL->Option Bool) [hf:∀ y0,Mo (f' y0) (f y0)]:Mo (@D1 (eN N) s_0 f') (@D1 CA s_0 f):=⟨by unfold D1; exact lx⟩
instance (N:Nat) (s_0:List AL) (f' f:AL->Option Bool) [hf:∀ y0,Mo (f' y0) (f y0)]:Mo (@DN (eN N) s_0 f') (@DN CA s_0 f):=⟨by unfold DN; exact lx⟩
theorem Jg (N:Nat):∀ n m:Nat,n<=m->(∀ (a0:AR) (a1:AA) (a2:AL) (a3:A4),Mo (@BT (eN N) n a0 a1 a2 a3) (@BT CA m a0 a1 a2 a3))
 | 0,_,_=>fun _ _ _ _=>⟨Le.none _⟩
 | n+1,0,h=>absurd h (by omega)
 | n+1,m+1,h=>by
  have ih:=Jg N n m (by omega)
  exact fun _ _ _ _=>⟨by unfold BT; exact lx⟩
instance (N:Nat) (s_0:AR) (c:AA) (m:AL) (w:A4):Mo (@GM (eN N) s_0 c m w) (@GM CA s_0 c m w):=⟨LL N fun n hn=>(Jg N N n hn _ _ _ _).le⟩
instance (N:Nat) (t:Types) (p:Pattern) (c:AA) (h_3:AY) (m:AL) (injective:Bool) (w:A4):Mo (@DY (eN N) t p c h_3 m injective w) (@DY CA t p c h_3 m injective w):=⟨by unfold DY; exact lx⟩
instance (N:Nat) :Mo (@FT (eN N)) (@FT CA):=⟨by unfold FT; exact lx⟩
end Go.Sf.Sc
namespace Go.Sf.Sc
open Go Go.Sf
theorem cG:@FT (eN 40)=some true:=by decide +kernel
theorem ZT:FT=some true:=
 have h:Mo (@FT (eN 40)) (@FT CA):=inferInstance
 h.le _ cG
end Go.Sf.Sc
