/- Lemmas. -/
import Derived.Test.YtmaobfbhdkafkaaGreatFns
import Derived.Test.YtmaobfbhdkafkaaGreatSfEval
set_option maxRecDepth 100000
namespace Go.Sf.Sc
open Go Go.Sf
instance (N:Nat) (s_0:ByteArray) (ok' ok:Int->Option Bool) [hok:∀ y0,Mo (ok' y0) (ok y0)]:Mo (@HT (eN N) s_0 ok') (@HT B4 s_0 ok):=⟨by unfold HT; exact lx⟩
instance (N:Nat) (s_0:ByteArray):Mo (@Gz (eN N) s_0) (@Gz B4 s_0):=⟨by unfold Gz; exact lx⟩
instance (N:Nat) (s_0:ByteArray):Mo (@IG (eN N) s_0) (@IG B4 s_0):=⟨by unfold IG; exact lx⟩
instance (N:Nat) (t:FD):Mo (@IR (eN N) t) (@IR B4 t):=⟨by unfold IR; exact lx⟩
instance (N:Nat) (s_0:ByteArray):Mo (@EK (eN N) s_0) (@EK B4 s_0):=⟨by unfold EK; exact lx⟩
instance (N:Nat) (s_0:List CC) (f' f:CC->Option Bool) [hf:∀ y0,Mo (f' y0) (f y0)]:Mo (@DP (eN N) s_0 f') (@DP B4 s_0 f):=⟨by unfold DP; exact lx⟩
instance (N:Nat) (s_0:List CC) (f' f:CC->Option Bool) [hf:∀ y0,Mo (f' y0) (f y0)]:Mo (@CH (eN N) s_0 f') (@CH B4 s_0 f):=⟨by unfold CH; exact lx⟩
theorem OJ (N:Nat):∀ n m:Nat,n<=m->(∀ (a0:AD) (a1:Int),Mo (@DU (eN N) n a0 a1) (@DU B4 m a0 a1))
 | 0,_,_=>fun _ _=>⟨Le.none _⟩
 | n+1,0,h=>absurd h (by omega)
 | n+1,m+1,h=>by
  have ih:=OJ N n m (by omega)
  exact fun _ _=>⟨by unfold DU; exact lx⟩
instance (N:Nat) (t:AD) (a:Int):Mo (@JU (eN N) t a) (@JU B4 t a):=⟨LL N fun n hn=>(OJ N N n hn _ _).le⟩
instance (N:Nat) (s_0:List Attr) (f' f:Attr->Option Bool) [hf:∀ y0,Mo (f' y0) (f y0)]:Mo (@ED (eN N) s_0 f') (@ED B4 s_0 f):=⟨by unfold ED; exact lx⟩
instance (N:Nat) (s_0:List Attr) (f' f:Attr->Option Bool) [hf:∀ y0,Mo (f' y0) (f y0)]:Mo (@C5 (eN N) s_0 f') (@C5 B4 s_0 f):=⟨by unfold C5; exact lx⟩
instance (N:Nat) (l:List ByteArray):Mo (@HV (eN N) l) (@HV B4 l):=⟨by unfold HV; exact lx⟩
instance (N:Nat) (x_0:Attr) (before:List Attr):Mo (@E4 (eN N) x_0 before) (@E4 B4 x_0 before):=⟨by unfold E4; exact lx⟩
instance (N:Nat) (t:AD) (i_1:Int):Mo (@IJ (eN N) t i_1) (@IJ B4 t i_1):=⟨by unfold IJ; exact lx⟩
instance (N:Nat) (s_0:List CL) (f' f:CL->Option Bool) [hf:∀ y0,Mo (f' y0) (f y0)]:Mo (@DO (eN N) s_0 f') (@DO B4 s_0 f):=⟨by unfold DO; exact lx⟩
instance (N:Nat) (s_0:List CL) (f' f:CL->Option Bool) [hf:∀ y0,Mo (f' y0) (f y0)]:Mo (@CG (eN N) s_0 f') (@CG B4 s_0 f):=⟨by unfold CG; exact lx⟩
instance (N:Nat) (t:AD) (i_1:Int):Mo (@II (eN N) t i_1) (@II B4 t i_1):=⟨by unfold II; exact lx⟩
instance (N:Nat) (t:AD):Mo (@FC (eN N) t) (@FC B4 t):=⟨by unfold FC; exact lx⟩
instance (N:Nat) (s_0:List Int) (f' f:Int->Option Bool) [hf:∀ y0,Mo (f' y0) (f y0)]:Mo (@EQ (eN N) s_0 f') (@EQ B4 s_0 f):=⟨by unfold EQ; exact lx⟩
instance (N:Nat) (s_0:List Int) (f' f:Int->Option Bool) [hf:∀ y0,Mo (f' y0) (f y0)]:Mo (@BG (eN N) s_0 f') (@BG B4 s_0 f):=⟨by unfold BG; exact lx⟩
instance (N:Nat) (s_0:List CS) (f' f:CS->Option Bool) [hf:∀ y0,Mo (f' y0) (f y0)]:Mo (@EE (eN N) s_0 f') (@EE B4 s_0 f):=⟨by unfold EE; exact lx⟩
instance (N:Nat) (s_0:List CS) (f' f:CS->Option Bool) [hf:∀ y0,Mo (f' y0) (f y0)]:Mo (@BT (eN N) s_0 f') (@BT B4 s_0 f):=⟨by unfold BT; exact lx⟩
instance (N:Nat) (g:Graph):Mo (@D2 (eN N) g) (@D2 B4 g):=⟨by unfold D2; exact lx⟩
instance (N:Nat) (t:AD) (l:List Int):Mo (@FW (eN N) t l) (@FW B4 t l):=⟨by unfold FW; exact lx⟩
instance (N:Nat) (t:AD) (a:Int):Mo (@GX (eN N) t a) (@GX B4 t a):=⟨by unfold GX; exact lx⟩
instance (N:Nat) (t:AD) (p:Pattern) (s_2:DH):Mo (@FM (eN N) t p s_2) (@FM B4 t p s_2):=⟨by unfold FM; exact lx⟩
instance (N:Nat) (t:AD) (p:Pattern):Mo (@DV (eN N) t p) (@DV B4 t p):=⟨by unfold DV; exact lx⟩
instance (N:Nat) (s_0:List AB) (f' f:AB->Option Bool) [hf:∀ y0,Mo (f' y0) (f y0)]:Mo (@DG (eN N) s_0 f') (@DG B4 s_0 f):=⟨by unfold DG; exact lx⟩
instance (N:Nat) (s_0:List AB) (f' f:AB->Option Bool) [hf:∀ y0,Mo (f' y0) (f y0)]:Mo (@BZ (eN N) s_0 f') (@BZ B4 s_0 f):=⟨by unfold BZ; exact lx⟩
theorem J4 (N:Nat):∀ n m:Nat,n<=m->(∀ (a0:AB),Mo (@BI (eN N) n a0) (@BI B4 m a0))∧(∀ (a0:AB),Mo (@BP (eN N) n a0) (@BP B4 m a0))
 | 0,_,_=>⟨fun _=>⟨Le.none _⟩,fun _=>⟨Le.none _⟩⟩
 | n+1,0,h=>absurd h (by omega)
 | n+1,m+1,h=>by
  obtain ⟨i0,i1⟩:=J4 N n m (by omega)
  refine ⟨?_,?_⟩
  ·exact fun _=>⟨by unfold BI; exact lx⟩
  ·exact fun _=>⟨by unfold BP; exact lx⟩
theorem NB (N n m:Nat) (h:n<=m) (a0:AB):Mo (@BI (eN N) n a0) (@BI B4 m a0):=(J4 N n m h).1 a0
instance (N:Nat) (c:AB):Mo (@F1 (eN N) c) (@F1 B4 c):=⟨LL N fun n hn=>(NB N N n hn _).le⟩
theorem K9 (N:Nat):∀ n m:Nat,n<=m->(∀ (a0:AB),Mo (@CN (eN N) n a0) (@CN B4 m a0))
 | 0,_,_=>fun _=>⟨Le.none _⟩
 | n+1,0,h=>absurd h (by omega)
 | n+1,m+1,h=>by
  have ih:=K9 N n m (by omega)
  exact fun _=>⟨by unfold CN; exact lx⟩
instance (N:Nat) (c:AB):Mo (@HD (eN N) c) (@HD B4 c):=⟨LL N fun n hn=>(K9 N N n hn _).le⟩
instance (N:Nat) (c:AB):Mo (@EZ (eN N) c) (@EZ B4 c):=⟨by unfold EZ; exact lx⟩
instance (N:Nat) (s_0:List DH) (f' f:DH->Option Bool) [hf:∀ y0,Mo (f' y0) (f y0)]:Mo (@EF (eN N) s_0 f') (@EF B4 s_0 f):=⟨by unfold EF; exact lx⟩
instance (N:Nat) (s_0:List DH) (f' f:DH->Option Bool) [hf:∀ y0,Mo (f' y0) (f y0)]:Mo (@C6 (eN N) s_0 f') (@C6 B4 s_0 f):=⟨by unfold C6; exact lx⟩
instance (N:Nat) (t:AD) (q:Pattern) (outer:Int):Mo (@D5 (eN N) t q outer) (@D5 B4 t q outer):=⟨by unfold D5; exact lx⟩
instance (N:Nat) (a:Graph) (b:Graph) (m:Morphism):Mo (@EM (eN N) a b m) (@EM B4 a b m):=⟨by unfold EM; exact lx⟩
instance (N:Nat) (a:Graph) (b:Graph) (m:Morphism):Mo (@DY (eN N) a b m) (@DY B4 a b m):=⟨by unfold DY; exact lx⟩
theorem LV (N:Nat):∀ n m:Nat,n<=m->(∀ (a0:AD) (a1:Pattern) (a2:AB),Mo (@CA (eN N) n a0 a1 a2) (@CA B4 m a0 a1 a2))
 | 0,_,_=>fun _ _ _=>⟨Le.none _⟩
 | n+1,0,h=>absurd h (by omega)
 | n+1,m+1,h=>by
  have ih:=LV N n m (by omega)
  exact fun _ _ _=>⟨by unfold CA; exact lx⟩
instance (N:Nat) (t:AD) (p:Pattern) (c:AB):Mo (@Iy (eN N) t p c) (@Iy B4 t p c):=⟨LL N fun n hn=>(LV N N n hn _ _ _).le⟩
instance (N:Nat) (t:AD) (p:Pattern) (c:AB):Mo (@DW (eN N) t p c) (@DW B4 t p c):=⟨by unfold DW; exact lx⟩
instance (N:Nat) (t:AD) (kind:Int) (A5:List Int):Mo (@Ir (eN N) t kind A5) (@Ir B4 t kind A5):=⟨by unfold Ir; exact lx⟩
instance (N:Nat) (t:AD) (a:Int):Mo (@I7 (eN N) t a) (@I7 B4 t a):=⟨by unfold I7; exact lx⟩
instance (N:Nat) (t:AD) (a:Int) (b:Int):Mo (@IS (eN N) t a b) (@IS B4 t a b):=⟨by unfold IS; exact lx⟩
instance (N:Nat) (t:AD) (edge:Int) (from':Int) (to':Int):Mo (@IH (eN N) t edge from' to') (@IH B4 t edge from' to'):=⟨by unfold IH; exact lx⟩
instance (N:Nat) (t:AD) (h_1:AZ):Mo (@HL (eN N) t h_1) (@HL B4 t h_1):=⟨by unfold HL; exact lx⟩
instance (N:Nat) (t:AD) (g:Graph):Mo (@FH (eN N) t g) (@FH B4 t g):=⟨by unfold FH; exact lx⟩
instance (N:Nat) (t:AD) (p:Graph) (g:Graph):Mo (@F7 (eN N) t p g) (@F7 B4 t p g):=⟨by unfold F7; exact lx⟩
instance (N:Nat) (t:AD) (a:Int):Mo (@HU (eN N) t a) (@HU B4 t a):=⟨by unfold HU; exact lx⟩
instance (N:Nat) (t:AD):Mo (@F6 (eN N) t) (@F6 B4 t):=⟨by unfold F6; exact lx⟩
instance (N:Nat) (t:AD) (p:Graph) (g:Graph) (m:Morphism):Mo (@Gy (eN N) t p g m) (@Gy B4 t p g m):=⟨by unfold Gy; exact lx⟩
instance (N:Nat) (t:AD) (p:Graph) (g:Graph) (m:Morphism) (injective:Bool):Mo (@F5 (eN N) t p g m injective) (@F5 B4 t p g m injective):=⟨by unfold F5; exact lx⟩
instance (N:Nat) (t:AD) (p:Pattern) (h_2:AZ):Mo (@EX (eN N) t p h_2) (@EX B4 t p h_2):=⟨by unfold EX; exact lx⟩
instance (N:Nat) (t:AD) (p:Pattern) (h_2:AZ) (m:Morphism):Mo (@EW (eN N) t p h_2 m) (@EW B4 t p h_2 m):=⟨by unfold EW; exact lx⟩
instance (N:Nat) (t:AD) (p:Pattern) (c:AB) (h_3:AZ) (m:AK) (injective:Bool):Mo (@D8 (eN N) t p c h_3 m injective) (@D8 B4 t p c h_3 m injective):=⟨by unfold D8; exact lx⟩
instance (N:Nat) (l:List Int) (n:Int):Mo (@GV (eN N) l n) (@GV B4 l n):=⟨by unfold GV; exact lx⟩
theorem Jd (N:Nat):∀ n m:Nat,n<=m->(∀ (a0:AI),Mo (@A1 (eN N) n a0) (@A1 B4 m a0))
 | 0,_,_=>fun _=>⟨Le.none _⟩
 | n+1,0,h=>absurd h (by omega)
 | n+1,m+1,h=>by
  have ih:=Jd N n m (by omega)
  exact fun _=>⟨by unfold A1; exact lx⟩
instance (N:Nat) (f:AI):Mo (@FL (eN N) f) (@FL B4 f):=⟨LL N fun n hn=>(Jd N N n hn _).le⟩
instance (N:Nat) (t:AD) (p:Graph) (g:Graph) (partial_:Morphism) (injective:Bool) (most:Int):Mo (@Gx (eN N) t p g partial_ injective most) (@Gx B4 t p g partial_ injective most):=⟨by unfold Gx; exact lx⟩
instance (N:Nat) (t:AD) (p:Graph) (g:Graph) (partial_:Morphism) (injective:Bool):Mo (@I5 (eN N) t p g partial_ injective) (@I5 B4 t p g partial_ injective):=⟨by unfold I5; exact lx⟩
instance (N:Nat) (t:AD) (p:Graph) (g:Graph) (partial_:Morphism) (injective:Bool):Mo (@GF (eN N) t p g partial_ injective) (@GF B4 t p g partial_ injective):=⟨by unfold GF; exact lx⟩
instance (N:Nat) (s_0:AR) (c:AB) (m:AK):Mo (@BV (eN N) s_0 c m) (@BV B4 s_0 c m):=⟨by unfold BV; exact lx⟩
theorem Ib (N:Nat):∀ n m:Nat,n<=m->(∀ (a0:AR) (a1:AB) (a2:AK),Mo (@AY (eN N) n a0 a1 a2) (@AY B4 m a0 a1 a2))∧(∀ (a0:AR) (a1:AB) (a2:AK),Mo (@BE (eN N) n a0 a1 a2) (@BE B4 m a0 a1 a2))
 | 0,_,_=>⟨fun _ _ _=>⟨Le.none _⟩,fun _ _ _=>⟨Le.none _⟩⟩
 | n+1,0,h=>absurd h (by omega)
 | n+1,m+1,h=>by
  obtain ⟨i0,i1⟩:=Ib N n m (by omega)
  refine ⟨?_,?_⟩
  ·exact fun _ _ _=>⟨by unfold AY; exact lx⟩
  ·exact fun _ _ _=>⟨by unfold BE; exact lx⟩
theorem LZ (N n m:Nat) (h:n<=m) (a0:AR) (a1:AB) (a2:AK):Mo (@AY (eN N) n a0 a1 a2) (@AY B4 m a0 a1 a2):=(Ib N n m h).1 a0 a1 a2
instance (N:Nat) (s_0:AR) (c:AB) (m:AK):Mo (@DM (eN N) s_0 c m) (@DM B4 s_0 c m):=⟨LL N fun n hn=>(LZ N N n hn _ _ _).le⟩
instance (N:Nat) (t:AD) (p:Pattern) (c:AB) (h_3:AZ) (m:AK) (injective:Bool):Mo (@DR (eN N) t p c h_3 m injective) (@DR B4 t p c h_3 m injective):=⟨by unfold DR; exact lx⟩
instance (N:Nat) (t:AD) (p:Pattern) (c:AB) (h_3:AZ) (m:AK) (injective:Bool):Mo (@C8 (eN N) t p c h_3 m injective) (@C8 B4 t p c h_3 m injective):=⟨by unfold C8; exact lx⟩
instance (N:Nat) (s_0:List AK) (f' f:AK->Option Bool) [hf:∀ y0,Mo (f' y0) (f y0)]:Mo (@D4 (eN N) s_0 f') (@D4 B4 s_0 f):=⟨by unfold D4; exact lx⟩
instance (N:Nat) (s_0:List AK) (f' f:AK->Option Bool) [hf:∀ y0,Mo (f' y0) (f y0)]:Mo (@DN (eN N) s_0 f') (@DN B4 s_0 f):=⟨by unfold DN; exact lx⟩
theorem JB (N:Nat):∀ n m:Nat,n<=m->(∀ (a0:AR) (a1:AB) (a2:AK) (a3:AS),Mo (@BS (eN N) n a0 a1 a2 a3) (@BS B4 m a0 a1 a2 a3))
 | 0,_,_=>fun _ _ _ _=>⟨Le.none _⟩
 | n+1,0,h=>absurd h (by omega)
 | n+1,m+1,h=>by
  have ih:=JB N n m (by omega)
  exact fun _ _ _ _=>⟨by unfold BS; exact lx⟩
instance (N:Nat) (s_0:AR) (c:AB) (m:AK) (w:AS):Mo (@GH (eN N) s_0 c m w) (@GH B4 s_0 c m w):=⟨LL N fun n hn=>(JB N N n hn _ _ _ _).le⟩
instance (N:Nat) (t:AD) (p:Pattern) (c:AB) (h_3:AZ) (m:AK) (injective:Bool) (w:AS):Mo (@D1 (eN N) t p c h_3 m injective w) (@D1 B4 t p c h_3 m injective w):=⟨by unfold D1; exact lx⟩
instance (N:Nat) :Mo (@E8 (eN N)) (@E8 B4):=⟨by unfold E8; exact lx⟩
end Go.Sf.Sc
