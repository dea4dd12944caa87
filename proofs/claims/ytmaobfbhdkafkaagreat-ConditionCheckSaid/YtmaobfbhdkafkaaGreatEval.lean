/- Lemmas. -/
import Derived.Test.YtmaobfbhdkafkaaGreatFns
import Derived.Test.YtmaobfbhdkafkaaGreatSfEval
set_option maxRecDepth 100000
namespace Go.Sf.Sc
open Go Go.Sf
instance (N:Nat) (s_0:ByteArray) (ok' ok:Int->Option Bool) [hok:∀ y0,Mo (ok' y0) (ok y0)]:Mo (@Hg (eN N) s_0 ok') (@Hg B7 s_0 ok):=⟨by unfold Hg; exact lx⟩
instance (N:Nat) (s_0:ByteArray):Mo (@G7 (eN N) s_0) (@G7 B7 s_0):=⟨by unfold G7; exact lx⟩
instance (N:Nat) (s_0:ByteArray):Mo (@IM (eN N) s_0) (@IM B7 s_0):=⟨by unfold IM; exact lx⟩
instance (N:Nat) (t:FK):Mo (@IZ (eN N) t) (@IZ B7 t):=⟨by unfold IZ; exact lx⟩
instance (N:Nat) (s_0:ByteArray):Mo (@EK (eN N) s_0) (@EK B7 s_0):=⟨by unfold EK; exact lx⟩
instance (N:Nat) (s_0:List CE) (f' f:CE->Option Bool) [hf:∀ y0,Mo (f' y0) (f y0)]:Mo (@DS (eN N) s_0 f') (@DS B7 s_0 f):=⟨by unfold DS; exact lx⟩
instance (N:Nat) (s_0:List CE) (f' f:CE->Option Bool) [hf:∀ y0,Mo (f' y0) (f y0)]:Mo (@CM (eN N) s_0 f') (@CM B7 s_0 f):=⟨by unfold CM; exact lx⟩
theorem Ns (N:Nat):∀ n m:Nat,n<=m->(∀ (a0:AD) (a1:Int),Mo (@DW (eN N) n a0 a1) (@DW B7 m a0 a1))
 | 0,_,_=>fun _ _=>⟨Le.none _⟩
 | n+1,0,h=>absurd h (by omega)
 | n+1,m+1,h=>by
  have ih:=Ns N n m (by omega)
  exact fun _ _=>⟨by unfold DW; exact lx⟩
instance (N:Nat) (t:AD) (a:Int):Mo (@JZ (eN N) t a) (@JZ B7 t a):=⟨LL N fun n hn=>(Ns N N n hn _ _).le⟩
instance (N:Nat) (s_0:List Attr) (f' f:Attr->Option Bool) [hf:∀ y0,Mo (f' y0) (f y0)]:Mo (@ED (eN N) s_0 f') (@ED B7 s_0 f):=⟨by unfold ED; exact lx⟩
instance (N:Nat) (s_0:List Attr) (f' f:Attr->Option Bool) [hf:∀ y0,Mo (f' y0) (f y0)]:Mo (@DC (eN N) s_0 f') (@DC B7 s_0 f):=⟨by unfold DC; exact lx⟩
instance (N:Nat) (l:List ByteArray):Mo (@Hi (eN N) l) (@Hi B7 l):=⟨by unfold Hi; exact lx⟩
instance (N:Nat) (x_0:Attr) (before:List Attr):Mo (@E8 (eN N) x_0 before) (@E8 B7 x_0 before):=⟨by unfold E8; exact lx⟩
instance (N:Nat) (t:AD) (i_1:Int):Mo (@IQ (eN N) t i_1) (@IQ B7 t i_1):=⟨by unfold IQ; exact lx⟩
instance (N:Nat) (s_0:List CQ) (f' f:CQ->Option Bool) [hf:∀ y0,Mo (f' y0) (f y0)]:Mo (@DR (eN N) s_0 f') (@DR B7 s_0 f):=⟨by unfold DR; exact lx⟩
instance (N:Nat) (s_0:List CQ) (f' f:CQ->Option Bool) [hf:∀ y0,Mo (f' y0) (f y0)]:Mo (@CL (eN N) s_0 f') (@CL B7 s_0 f):=⟨by unfold CL; exact lx⟩
instance (N:Nat) (t:AD) (i_1:Int):Mo (@IP (eN N) t i_1) (@IP B7 t i_1):=⟨by unfold IP; exact lx⟩
instance (N:Nat) (t:AD):Mo (@FJ (eN N) t) (@FJ B7 t):=⟨by unfold FJ; exact lx⟩
instance (N:Nat) (s_0:List Int) (f' f:Int->Option Bool) [hf:∀ y0,Mo (f' y0) (f y0)]:Mo (@EQ (eN N) s_0 f') (@EQ B7 s_0 f):=⟨by unfold EQ; exact lx⟩
instance (N:Nat) (s_0:List Int) (f' f:Int->Option Bool) [hf:∀ y0,Mo (f' y0) (f y0)]:Mo (@BL (eN N) s_0 f') (@BL B7 s_0 f):=⟨by unfold BL; exact lx⟩
instance (N:Nat) (s_0:List CY) (f' f:CY->Option Bool) [hf:∀ y0,Mo (f' y0) (f y0)]:Mo (@EE (eN N) s_0 f') (@EE B7 s_0 f):=⟨by unfold EE; exact lx⟩
instance (N:Nat) (s_0:List CY) (f' f:CY->Option Bool) [hf:∀ y0,Mo (f' y0) (f y0)]:Mo (@BU (eN N) s_0 f') (@BU B7 s_0 f):=⟨by unfold BU; exact lx⟩
instance (N:Nat) (g:Graph):Mo (@D3 (eN N) g) (@D3 B7 g):=⟨by unfold D3; exact lx⟩
instance (N:Nat) (t:AD) (l:List Int):Mo (@F3 (eN N) t l) (@F3 B7 t l):=⟨by unfold F3; exact lx⟩
instance (N:Nat) (t:AD) (a:Int):Mo (@Gz (eN N) t a) (@Gz B7 t a):=⟨by unfold Gz; exact lx⟩
instance (N:Nat) (t:AD) (p:Pattern) (s_2:DO):Mo (@FV (eN N) t p s_2) (@FV B7 t p s_2):=⟨by unfold FV; exact lx⟩
instance (N:Nat) (t:AD) (p:Pattern):Mo (@DX (eN N) t p) (@DX B7 t p):=⟨by unfold DX; exact lx⟩
instance (N:Nat) (s_0:List AB) (f' f:AB->Option Bool) [hf:∀ y0,Mo (f' y0) (f y0)]:Mo (@DL (eN N) s_0 f') (@DL B7 s_0 f):=⟨by unfold DL; exact lx⟩
instance (N:Nat) (s_0:List AB) (f' f:AB->Option Bool) [hf:∀ y0,Mo (f' y0) (f y0)]:Mo (@B1 (eN N) s_0 f') (@B1 B7 s_0 f):=⟨by unfold B1; exact lx⟩
theorem KC (N:Nat):∀ n m:Nat,n<=m->(∀ (a0:AB),Mo (@BN (eN N) n a0) (@BN B7 m a0))∧(∀ (a0:AB),Mo (@BS (eN N) n a0) (@BS B7 m a0))
 | 0,_,_=>⟨fun _=>⟨Le.none _⟩,fun _=>⟨Le.none _⟩⟩
 | n+1,0,h=>absurd h (by omega)
 | n+1,m+1,h=>by
  obtain ⟨i0,i1⟩:=KC N n m (by omega)
  refine ⟨?_,?_⟩
  ·exact fun _=>⟨by unfold BN; exact lx⟩
  ·exact fun _=>⟨by unfold BS; exact lx⟩
theorem NB (N n m:Nat) (h:n<=m) (a0:AB):Mo (@BN (eN N) n a0) (@BN B7 m a0):=(KC N n m h).1 a0
instance (N:Nat) (c:AB):Mo (@F7 (eN N) c) (@F7 B7 c):=⟨LL N fun n hn=>(NB N N n hn _).le⟩
theorem LG (N:Nat):∀ n m:Nat,n<=m->(∀ (a0:AB),Mo (@CS (eN N) n a0) (@CS B7 m a0))
 | 0,_,_=>fun _=>⟨Le.none _⟩
 | n+1,0,h=>absurd h (by omega)
 | n+1,m+1,h=>by
  have ih:=LG N n m (by omega)
  exact fun _=>⟨by unfold CS; exact lx⟩
instance (N:Nat) (c:AB):Mo (@HN (eN N) c) (@HN B7 c):=⟨LL N fun n hn=>(LG N N n hn _).le⟩
instance (N:Nat) (c:AB):Mo (@E3 (eN N) c) (@E3 B7 c):=⟨by unfold E3; exact lx⟩
instance (N:Nat) (s_0:List DO) (f' f:DO->Option Bool) [hf:∀ y0,Mo (f' y0) (f y0)]:Mo (@EF (eN N) s_0 f') (@EF B7 s_0 f):=⟨by unfold EF; exact lx⟩
instance (N:Nat) (s_0:List DO) (f' f:DO->Option Bool) [hf:∀ y0,Mo (f' y0) (f y0)]:Mo (@DD (eN N) s_0 f') (@DD B7 s_0 f):=⟨by unfold DD; exact lx⟩
instance (N:Nat) (t:AD) (q:Pattern) (outer:Int):Mo (@D6 (eN N) t q outer) (@D6 B7 t q outer):=⟨by unfold D6; exact lx⟩
instance (N:Nat) (a:Graph) (b:Graph) (m:Morphism):Mo (@EL (eN N) a b m) (@EL B7 a b m):=⟨by unfold EL; exact lx⟩
instance (N:Nat) (a:Graph) (b:Graph) (m:Morphism):Mo (@D0 (eN N) a b m) (@D0 B7 a b m):=⟨by unfold D0; exact lx⟩
theorem Ld (N:Nat):∀ n m:Nat,n<=m->(∀ (a0:AD) (a1:Pattern) (a2:AB),Mo (@CC (eN N) n a0 a1 a2) (@CC B7 m a0 a1 a2))
 | 0,_,_=>fun _ _ _=>⟨Le.none _⟩
 | n+1,0,h=>absurd h (by omega)
 | n+1,m+1,h=>by
  have ih:=Ld N n m (by omega)
  exact fun _ _ _=>⟨by unfold CC; exact lx⟩
instance (N:Nat) (t:AD) (p:Pattern) (c:AB):Mo (@I4 (eN N) t p c) (@I4 B7 t p c):=⟨LL N fun n hn=>(Ld N N n hn _ _ _).le⟩
instance (N:Nat) (t:AD) (p:Pattern) (c:AB):Mo (@DY (eN N) t p c) (@DY B7 t p c):=⟨by unfold DY; exact lx⟩
instance (N:Nat) (t:AD) (kind:Int) (A6:List Int):Mo (@Iw (eN N) t kind A6) (@Iw B7 t kind A6):=⟨by unfold Iw; exact lx⟩
instance (N:Nat) (t:AD) (a:Int):Mo (@JB (eN N) t a) (@JB B7 t a):=⟨by unfold JB; exact lx⟩
instance (N:Nat) (t:AD) (a:Int) (b:Int):Mo (@Ia (eN N) t a b) (@Ia B7 t a b):=⟨by unfold Ia; exact lx⟩
instance (N:Nat) (t:AD) (edge:Int) (from':Int) (to':Int):Mo (@IN (eN N) t edge from' to') (@IN B7 t edge from' to'):=⟨by unfold IN; exact lx⟩
instance (N:Nat) (t:AD) (h_1:AY):Mo (@HZ (eN N) t h_1) (@HZ B7 t h_1):=⟨by unfold HZ; exact lx⟩
instance (N:Nat) (t:AD) (g:Graph):Mo (@FO (eN N) t g) (@FO B7 t g):=⟨by unfold FO; exact lx⟩
instance (N:Nat) (t:AD) (p:Graph) (g:Graph):Mo (@GB (eN N) t p g) (@GB B7 t p g):=⟨by unfold GB; exact lx⟩
instance (N:Nat) (t:AD) (a:Int):Mo (@Hh (eN N) t a) (@Hh B7 t a):=⟨by unfold Hh; exact lx⟩
instance (N:Nat) (t:AD):Mo (@GA (eN N) t) (@GA B7 t):=⟨by unfold GA; exact lx⟩
instance (N:Nat) (t:AD) (p:Graph) (g:Graph) (m:Morphism):Mo (@G6 (eN N) t p g m) (@G6 B7 t p g m):=⟨by unfold G6; exact lx⟩
instance (N:Nat) (t:AD) (p:Graph) (g:Graph) (m:Morphism) (injective:Bool):Mo (@F9 (eN N) t p g m injective) (@F9 B7 t p g m injective):=⟨by unfold F9; exact lx⟩
instance (N:Nat) (t:AD) (p:Pattern) (h_2:AY):Mo (@E1 (eN N) t p h_2) (@E1 B7 t p h_2):=⟨by unfold E1; exact lx⟩
instance (N:Nat) (t:AD) (p:Pattern) (h_2:AY) (m:Morphism):Mo (@E0 (eN N) t p h_2 m) (@E0 B7 t p h_2 m):=⟨by unfold E0; exact lx⟩
instance (N:Nat) (t:AD) (p:Pattern) (c:AB) (h_3:AY) (m:AH) (injective:Bool):Mo (@EA (eN N) t p c h_3 m injective) (@EA B7 t p c h_3 m injective):=⟨by unfold EA; exact lx⟩
instance (N:Nat) (l:List Int) (n:Int):Mo (@GZ (eN N) l n) (@GZ B7 l n):=⟨by unfold GZ; exact lx⟩
theorem Ji (N:Nat):∀ n m:Nat,n<=m->(∀ (a0:AK),Mo (@A3 (eN N) n a0) (@A3 B7 m a0))
 | 0,_,_=>fun _=>⟨Le.none _⟩
 | n+1,0,h=>absurd h (by omega)
 | n+1,m+1,h=>by
  have ih:=Ji N n m (by omega)
  exact fun _=>⟨by unfold A3; exact lx⟩
instance (N:Nat) (f:AK):Mo (@FU (eN N) f) (@FU B7 f):=⟨LL N fun n hn=>(Ji N N n hn _).le⟩
instance (N:Nat) (t:AD) (p:Graph) (g:Graph) (partial_:Morphism) (injective:Bool) (most:Int):Mo (@G5 (eN N) t p g partial_ injective most) (@G5 B7 t p g partial_ injective most):=⟨by unfold G5; exact lx⟩
instance (N:Nat) (t:AD) (p:Graph) (g:Graph) (partial_:Morphism) (injective:Bool):Mo (@I9 (eN N) t p g partial_ injective) (@I9 B7 t p g partial_ injective):=⟨by unfold I9; exact lx⟩
instance (N:Nat) (t:AD) (p:Graph) (g:Graph) (partial_:Morphism) (injective:Bool):Mo (@GK (eN N) t p g partial_ injective) (@GK B7 t p g partial_ injective):=⟨by unfold GK; exact lx⟩
instance (N:Nat) (s_0:AS) (c:AB) (m:AH):Mo (@BW (eN N) s_0 c m) (@BW B7 s_0 c m):=⟨by unfold BW; exact lx⟩
theorem Ij (N:Nat):∀ n m:Nat,n<=m->(∀ (a0:AS) (a1:AB) (a2:AH),Mo (@AZ (eN N) n a0 a1 a2) (@AZ B7 m a0 a1 a2))∧(∀ (a0:AS) (a1:AB) (a2:AH),Mo (@BJ (eN N) n a0 a1 a2) (@BJ B7 m a0 a1 a2))
 | 0,_,_=>⟨fun _ _ _=>⟨Le.none _⟩,fun _ _ _=>⟨Le.none _⟩⟩
 | n+1,0,h=>absurd h (by omega)
 | n+1,m+1,h=>by
  obtain ⟨i0,i1⟩:=Ij N n m (by omega)
  refine ⟨?_,?_⟩
  ·exact fun _ _ _=>⟨by unfold AZ; exact lx⟩
  ·exact fun _ _ _=>⟨by unfold BJ; exact lx⟩
theorem Lg (N n m:Nat) (h:n<=m) (a0:AS) (a1:AB) (a2:AH):Mo (@AZ (eN N) n a0 a1 a2) (@AZ B7 m a0 a1 a2):=(Ij N n m h).1 a0 a1 a2
instance (N:Nat) (s_0:AS) (c:AB) (m:AH):Mo (@DQ (eN N) s_0 c m) (@DQ B7 s_0 c m):=⟨LL N fun n hn=>(Lg N N n hn _ _ _).le⟩
instance (N:Nat) (t:AD) (p:Pattern) (c:AB) (h_3:AY) (m:AH) (injective:Bool):Mo (@EX (eN N) t p c h_3 m injective) (@EX B7 t p c h_3 m injective):=⟨by unfold EX; exact lx⟩
instance (N:Nat) (t:AD) (p:Pattern) (c:AB) (h_3:AY) (m:AH) (injective:Bool):Mo (@E9 (eN N) t p c h_3 m injective) (@E9 B7 t p c h_3 m injective):=⟨by unfold E9; exact lx⟩
instance (N:Nat) (s_0:List AH) (f' f:AH->Option Bool) [hf:∀ y0,Mo (f' y0) (f y0)]:Mo (@D5 (eN N) s_0 f') (@D5 B7 s_0 f):=⟨by unfold D5; exact lx⟩
instance (N:Nat) (s_0:List AH) (f' f:AH->Option Bool) [hf:∀ y0,Mo (f' y0) (f y0)]:Mo (@C4 (eN N) s_0 f') (@C4 B7 s_0 f):=⟨by unfold C4; exact lx⟩
theorem JG (N:Nat):∀ n m:Nat,n<=m->(∀ (a0:AS) (a1:AB) (a2:AH) (a3:AM),Mo (@BD (eN N) n a0 a1 a2 a3) (@BD B7 m a0 a1 a2 a3))
 | 0,_,_=>fun _ _ _ _=>⟨Le.none _⟩
 | n+1,0,h=>absurd h (by omega)
 | n+1,m+1,h=>by
  have ih:=JG N n m (by omega)
  exact fun _ _ _ _=>⟨by unfold BD; exact lx⟩
instance (N:Nat) (s_0:AS) (c:AB) (m:AH) (w:AM):Mo (@ER (eN N) s_0 c m w) (@ER B7 s_0 c m w):=⟨LL N fun n hn=>(JG N N n hn _ _ _ _).le⟩
instance (N:Nat) (t:AD) (p:Pattern) (c:AB) (h_3:AY) (m:AH) (injective:Bool) (w:AM):Mo (@CP (eN N) t p c h_3 m injective w) (@CP B7 t p c h_3 m injective w):=⟨by unfold CP; exact lx⟩
instance (N:Nat) :Mo (@FE (eN N)) (@FE B7):=⟨by unfold FE; exact lx⟩
end Go.Sf.Sc
