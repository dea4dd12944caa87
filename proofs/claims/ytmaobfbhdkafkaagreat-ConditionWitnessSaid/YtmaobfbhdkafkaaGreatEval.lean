/- Lemmas. -/
import Derived.Test.YtmaobfbhdkafkaaGreatFns
import Derived.Test.YtmaobfbhdkafkaaGreatSfEval
set_option maxRecDepth 100000
namespace Go.Sf.Sc
open Go Go.Sf
instance (N:Nat) (s_0:ByteArray) (ok' ok:Int->Option Bool) [hok:∀ y0,Mo (ok' y0) (ok y0)]:Mo (@HY (eN N) s_0 ok') (@HY B6 s_0 ok):=⟨by unfold HY; exact lx⟩
instance (N:Nat) (s_0:ByteArray):Mo (@G0 (eN N) s_0) (@G0 B6 s_0):=⟨by unfold G0; exact lx⟩
instance (N:Nat) (s_0:ByteArray):Mo (@IG (eN N) s_0) (@IG B6 s_0):=⟨by unfold IG; exact lx⟩
instance (N:Nat) (t:FI):Mo (@IR (eN N) t) (@IR B6 t):=⟨by unfold IR; exact lx⟩
instance (N:Nat) (s_0:ByteArray):Mo (@EO (eN N) s_0) (@EO B6 s_0):=⟨by unfold EO; exact lx⟩
instance (N:Nat) (s_0:List CD) (f' f:CD->Option Bool) [hf:∀ y0,Mo (f' y0) (f y0)]:Mo (@DS (eN N) s_0 f') (@DS B6 s_0 f):=⟨by unfold DS; exact lx⟩
instance (N:Nat) (s_0:List CD) (f' f:CD->Option Bool) [hf:∀ y0,Mo (f' y0) (f y0)]:Mo (@CI (eN N) s_0 f') (@CI B6 s_0 f):=⟨by unfold CI; exact lx⟩
theorem Nv (N:Nat):∀ n m:Nat,n<=m->(∀ (a0:AD) (a1:Int),Mo (@DW (eN N) n a0 a1) (@DW B6 m a0 a1))
 | 0,_,_=>fun _ _=>⟨Le.none _⟩
 | n+1,0,h=>absurd h (by omega)
 | n+1,m+1,h=>by
  have ih:=Nv N n m (by omega)
  exact fun _ _=>⟨by unfold DW; exact lx⟩
instance (N:Nat) (t:AD) (a:Int):Mo (@JV (eN N) t a) (@JV B6 t a):=⟨LL N fun n hn=>(Nv N N n hn _ _).le⟩
instance (N:Nat) (s_0:List Attr) (f' f:Attr->Option Bool) [hf:∀ y0,Mo (f' y0) (f y0)]:Mo (@EF (eN N) s_0 f') (@EF B6 s_0 f):=⟨by unfold EF; exact lx⟩
instance (N:Nat) (s_0:List Attr) (f' f:Attr->Option Bool) [hf:∀ y0,Mo (f' y0) (f y0)]:Mo (@DA (eN N) s_0 f') (@DA B6 s_0 f):=⟨by unfold DA; exact lx⟩
instance (N:Nat) (l:List ByteArray):Mo (@Ha (eN N) l) (@Ha B6 l):=⟨by unfold Ha; exact lx⟩
instance (N:Nat) (x_0:Attr) (before:List Attr):Mo (@E8 (eN N) x_0 before) (@E8 B6 x_0 before):=⟨by unfold E8; exact lx⟩
instance (N:Nat) (t:AD) (i_1:Int):Mo (@IJ (eN N) t i_1) (@IJ B6 t i_1):=⟨by unfold IJ; exact lx⟩
instance (N:Nat) (s_0:List CN) (f' f:CN->Option Bool) [hf:∀ y0,Mo (f' y0) (f y0)]:Mo (@DR (eN N) s_0 f') (@DR B6 s_0 f):=⟨by unfold DR; exact lx⟩
instance (N:Nat) (s_0:List CN) (f' f:CN->Option Bool) [hf:∀ y0,Mo (f' y0) (f y0)]:Mo (@CH (eN N) s_0 f') (@CH B6 s_0 f):=⟨by unfold CH; exact lx⟩
instance (N:Nat) (t:AD) (i_1:Int):Mo (@II (eN N) t i_1) (@II B6 t i_1):=⟨by unfold II; exact lx⟩
instance (N:Nat) (t:AD):Mo (@FH (eN N) t) (@FH B6 t):=⟨by unfold FH; exact lx⟩
instance (N:Nat) (s_0:List Int) (f' f:Int->Option Bool) [hf:∀ y0,Mo (f' y0) (f y0)]:Mo (@ET (eN N) s_0 f') (@ET B6 s_0 f):=⟨by unfold ET; exact lx⟩
instance (N:Nat) (s_0:List Int) (f' f:Int->Option Bool) [hf:∀ y0,Mo (f' y0) (f y0)]:Mo (@BH (eN N) s_0 f') (@BH B6 s_0 f):=⟨by unfold BH; exact lx⟩
instance (N:Nat) (s_0:List CW) (f' f:CW->Option Bool) [hf:∀ y0,Mo (f' y0) (f y0)]:Mo (@EG (eN N) s_0 f') (@EG B6 s_0 f):=⟨by unfold EG; exact lx⟩
instance (N:Nat) (s_0:List CW) (f' f:CW->Option Bool) [hf:∀ y0,Mo (f' y0) (f y0)]:Mo (@BU (eN N) s_0 f') (@BU B6 s_0 f):=⟨by unfold BU; exact lx⟩
instance (N:Nat) (g:Graph):Mo (@D3 (eN N) g) (@D3 B6 g):=⟨by unfold D3; exact lx⟩
instance (N:Nat) (t:AD) (l:List Int):Mo (@F2 (eN N) t l) (@F2 B6 t l):=⟨by unfold F2; exact lx⟩
instance (N:Nat) (t:AD) (a:Int):Mo (@GY (eN N) t a) (@GY B6 t a):=⟨by unfold GY; exact lx⟩
instance (N:Nat) (t:AD) (p:Pattern) (s_2:DP):Mo (@FT (eN N) t p s_2) (@FT B6 t p s_2):=⟨by unfold FT; exact lx⟩
instance (N:Nat) (t:AD) (p:Pattern):Mo (@DX (eN N) t p) (@DX B6 t p):=⟨by unfold DX; exact lx⟩
instance (N:Nat) (s_0:List AB) (f' f:AB->Option Bool) [hf:∀ y0,Mo (f' y0) (f y0)]:Mo (@DM (eN N) s_0 f') (@DM B6 s_0 f):=⟨by unfold DM; exact lx⟩
instance (N:Nat) (s_0:List AB) (f' f:AB->Option Bool) [hf:∀ y0,Mo (f' y0) (f y0)]:Mo (@B0 (eN N) s_0 f') (@B0 B6 s_0 f):=⟨by unfold B0; exact lx⟩
theorem J8 (N:Nat):∀ n m:Nat,n<=m->(∀ (a0:AB),Mo (@BJ (eN N) n a0) (@BJ B6 m a0))∧(∀ (a0:AB),Mo (@BR (eN N) n a0) (@BR B6 m a0))
 | 0,_,_=>⟨fun _=>⟨Le.none _⟩,fun _=>⟨Le.none _⟩⟩
 | n+1,0,h=>absurd h (by omega)
 | n+1,m+1,h=>by
  obtain ⟨i0,i1⟩:=J8 N n m (by omega)
  refine ⟨?_,?_⟩
  ·exact fun _=>⟨by unfold BJ; exact lx⟩
  ·exact fun _=>⟨by unfold BR; exact lx⟩
theorem M2 (N n m:Nat) (h:n<=m) (a0:AB):Mo (@BJ (eN N) n a0) (@BJ B6 m a0):=(J8 N n m h).1 a0
instance (N:Nat) (c:AB):Mo (@F6 (eN N) c) (@F6 B6 c):=⟨LL N fun n hn=>(M2 N N n hn _).le⟩
theorem K8 (N:Nat):∀ n m:Nat,n<=m->(∀ (a0:AB),Mo (@CP (eN N) n a0) (@CP B6 m a0))
 | 0,_,_=>fun _=>⟨Le.none _⟩
 | n+1,0,h=>absurd h (by omega)
 | n+1,m+1,h=>by
  have ih:=K8 N n m (by omega)
  exact fun _=>⟨by unfold CP; exact lx⟩
instance (N:Nat) (c:AB):Mo (@HD (eN N) c) (@HD B6 c):=⟨LL N fun n hn=>(K8 N N n hn _).le⟩
instance (N:Nat) (c:AB):Mo (@E3 (eN N) c) (@E3 B6 c):=⟨by unfold E3; exact lx⟩
instance (N:Nat) (s_0:List DP) (f' f:DP->Option Bool) [hf:∀ y0,Mo (f' y0) (f y0)]:Mo (@EH (eN N) s_0 f') (@EH B6 s_0 f):=⟨by unfold EH; exact lx⟩
instance (N:Nat) (s_0:List DP) (f' f:DP->Option Bool) [hf:∀ y0,Mo (f' y0) (f y0)]:Mo (@DB (eN N) s_0 f') (@DB B6 s_0 f):=⟨by unfold DB; exact lx⟩
instance (N:Nat) (t:AD) (q:Pattern) (outer:Int):Mo (@D6 (eN N) t q outer) (@D6 B6 t q outer):=⟨by unfold D6; exact lx⟩
instance (N:Nat) (a:Graph) (b:Graph) (m:Morphism):Mo (@EP (eN N) a b m) (@EP B6 a b m):=⟨by unfold EP; exact lx⟩
instance (N:Nat) (a:Graph) (b:Graph) (m:Morphism):Mo (@DZ (eN N) a b m) (@DZ B6 a b m):=⟨by unfold DZ; exact lx⟩
theorem LV (N:Nat):∀ n m:Nat,n<=m->(∀ (a0:AD) (a1:Pattern) (a2:AB),Mo (@CB (eN N) n a0 a1 a2) (@CB B6 m a0 a1 a2))
 | 0,_,_=>fun _ _ _=>⟨Le.none _⟩
 | n+1,0,h=>absurd h (by omega)
 | n+1,m+1,h=>by
  have ih:=LV N n m (by omega)
  exact fun _ _ _=>⟨by unfold CB; exact lx⟩
instance (N:Nat) (t:AD) (p:Pattern) (c:AB):Mo (@Ix (eN N) t p c) (@Ix B6 t p c):=⟨LL N fun n hn=>(LV N N n hn _ _ _).le⟩
instance (N:Nat) (t:AD) (p:Pattern) (c:AB):Mo (@DY (eN N) t p c) (@DY B6 t p c):=⟨by unfold DY; exact lx⟩
instance (N:Nat) (t:AD) (kind:Int) (A5:List Int):Mo (@Ip (eN N) t kind A5) (@Ip B6 t kind A5):=⟨by unfold Ip; exact lx⟩
instance (N:Nat) (t:AD) (a:Int):Mo (@I4 (eN N) t a) (@I4 B6 t a):=⟨by unfold I4; exact lx⟩
instance (N:Nat) (t:AD) (a:Int) (b:Int):Mo (@IS (eN N) t a b) (@IS B6 t a b):=⟨by unfold IS; exact lx⟩
instance (N:Nat) (t:AD) (edge:Int) (from':Int) (to':Int):Mo (@IH (eN N) t edge from' to') (@IH B6 t edge from' to'):=⟨by unfold IH; exact lx⟩
instance (N:Nat) (t:AD) (h_1:AZ):Mo (@HN (eN N) t h_1) (@HN B6 t h_1):=⟨by unfold HN; exact lx⟩
instance (N:Nat) (t:AD) (g:Graph):Mo (@FM (eN N) t g) (@FM B6 t g):=⟨by unfold FM; exact lx⟩
instance (N:Nat) (t:AD) (p:Graph) (g:Graph):Mo (@GA (eN N) t p g) (@GA B6 t p g):=⟨by unfold GA; exact lx⟩
instance (N:Nat) (t:AD) (a:Int):Mo (@HZ (eN N) t a) (@HZ B6 t a):=⟨by unfold HZ; exact lx⟩
instance (N:Nat) (t:AD):Mo (@F9 (eN N) t) (@F9 B6 t):=⟨by unfold F9; exact lx⟩
instance (N:Nat) (t:AD) (p:Graph) (g:Graph) (m:Morphism):Mo (@Gz (eN N) t p g m) (@Gz B6 t p g m):=⟨by unfold Gz; exact lx⟩
instance (N:Nat) (t:AD) (p:Graph) (g:Graph) (m:Morphism) (injective:Bool):Mo (@F8 (eN N) t p g m injective) (@F8 B6 t p g m injective):=⟨by unfold F8; exact lx⟩
instance (N:Nat) (t:AD) (p:Pattern) (h_2:AZ):Mo (@E1 (eN N) t p h_2) (@E1 B6 t p h_2):=⟨by unfold E1; exact lx⟩
instance (N:Nat) (t:AD) (p:Pattern) (h_2:AZ) (m:Morphism):Mo (@E0 (eN N) t p h_2 m) (@E0 B6 t p h_2 m):=⟨by unfold E0; exact lx⟩
instance (N:Nat) (t:AD) (p:Pattern) (c:AB) (h_3:AZ) (m:AH) (injective:Bool):Mo (@EC (eN N) t p c h_3 m injective) (@EC B6 t p c h_3 m injective):=⟨by unfold EC; exact lx⟩
instance (N:Nat) (l:List Int) (n:Int):Mo (@GW (eN N) l n) (@GW B6 l n):=⟨by unfold GW; exact lx⟩
theorem Je (N:Nat):∀ n m:Nat,n<=m->(∀ (a0:AJ),Mo (@A2 (eN N) n a0) (@A2 B6 m a0))
 | 0,_,_=>fun _=>⟨Le.none _⟩
 | n+1,0,h=>absurd h (by omega)
 | n+1,m+1,h=>by
  have ih:=Je N n m (by omega)
  exact fun _=>⟨by unfold A2; exact lx⟩
instance (N:Nat) (f:AJ):Mo (@FR (eN N) f) (@FR B6 f):=⟨LL N fun n hn=>(Je N N n hn _).le⟩
instance (N:Nat) (t:AD) (p:Graph) (g:Graph) (partial_:Morphism) (injective:Bool) (most:Int):Mo (@Gy (eN N) t p g partial_ injective most) (@Gy B6 t p g partial_ injective most):=⟨by unfold Gy; exact lx⟩
instance (N:Nat) (t:AD) (p:Graph) (g:Graph) (partial_:Morphism) (injective:Bool):Mo (@I2 (eN N) t p g partial_ injective) (@I2 B6 t p g partial_ injective):=⟨by unfold I2; exact lx⟩
instance (N:Nat) (t:AD) (p:Graph) (g:Graph) (partial_:Morphism) (injective:Bool):Mo (@GJ (eN N) t p g partial_ injective) (@GJ B6 t p g partial_ injective):=⟨by unfold GJ; exact lx⟩
instance (N:Nat) (s_0:AP) (c:AB) (m:AH):Mo (@BW (eN N) s_0 c m) (@BW B6 s_0 c m):=⟨by unfold BW; exact lx⟩
theorem Ib (N:Nat):∀ n m:Nat,n<=m->(∀ (a0:AP) (a1:AB) (a2:AH),Mo (@AY (eN N) n a0 a1 a2) (@AY B6 m a0 a1 a2))∧(∀ (a0:AP) (a1:AB) (a2:AH),Mo (@BF (eN N) n a0 a1 a2) (@BF B6 m a0 a1 a2))
 | 0,_,_=>⟨fun _ _ _=>⟨Le.none _⟩,fun _ _ _=>⟨Le.none _⟩⟩
 | n+1,0,h=>absurd h (by omega)
 | n+1,m+1,h=>by
  obtain ⟨i0,i1⟩:=Ib N n m (by omega)
  refine ⟨?_,?_⟩
  ·exact fun _ _ _=>⟨by unfold AY; exact lx⟩
  ·exact fun _ _ _=>⟨by unfold BF; exact lx⟩
theorem LZ (N n m:Nat) (h:n<=m) (a0:AP) (a1:AB) (a2:AH):Mo (@AY (eN N) n a0 a1 a2) (@AY B6 m a0 a1 a2):=(Ib N n m h).1 a0 a1 a2
instance (N:Nat) (s_0:AP) (c:AB) (m:AH):Mo (@C1 (eN N) s_0 c m) (@C1 B6 s_0 c m):=⟨LL N fun n hn=>(LZ N N n hn _ _ _).le⟩
instance (N:Nat) (t:AD) (p:Pattern) (c:AB) (h_3:AZ) (m:AH) (injective:Bool):Mo (@DI (eN N) t p c h_3 m injective) (@DI B6 t p c h_3 m injective):=⟨by unfold DI; exact lx⟩
instance (N:Nat) (t:AD) (p:Pattern) (c:AB) (h_3:AZ) (m:AH) (injective:Bool):Mo (@DD (eN N) t p c h_3 m injective) (@DD B6 t p c h_3 m injective):=⟨by unfold DD; exact lx⟩
instance (N:Nat) (s_0:List AH) (f' f:AH->Option Bool) [hf:∀ y0,Mo (f' y0) (f y0)]:Mo (@D5 (eN N) s_0 f') (@D5 B6 s_0 f):=⟨by unfold D5; exact lx⟩
instance (N:Nat) (s_0:List AH) (f' f:AH->Option Bool) [hf:∀ y0,Mo (f' y0) (f y0)]:Mo (@C3 (eN N) s_0 f') (@C3 B6 s_0 f):=⟨by unfold C3; exact lx⟩
theorem I9 (N:Nat):∀ n m:Nat,n<=m->(∀ (a0:AP) (a1:AB) (a2:AH) (a3:AL),Mo (@BB (eN N) n a0 a1 a2 a3) (@BB B6 m a0 a1 a2 a3))
 | 0,_,_=>fun _ _ _ _=>⟨Le.none _⟩
 | n+1,0,h=>absurd h (by omega)
 | n+1,m+1,h=>by
  have ih:=I9 N n m (by omega)
  exact fun _ _ _ _=>⟨by unfold BB; exact lx⟩
instance (N:Nat) (s_0:AP) (c:AB) (m:AH) (w:AL):Mo (@EU (eN N) s_0 c m w) (@EU B6 s_0 c m w):=⟨LL N fun n hn=>(I9 N N n hn _ _ _ _).le⟩
instance (N:Nat) (t:AD) (p:Pattern) (c:AB) (h_3:AZ) (m:AH) (injective:Bool) (w:AL):Mo (@CM (eN N) t p c h_3 m injective w) (@CM B6 t p c h_3 m injective w):=⟨by unfold CM; exact lx⟩
instance (N:Nat) :Mo (@FD (eN N)) (@FD B6):=⟨by unfold FD; exact lx⟩
end Go.Sf.Sc
