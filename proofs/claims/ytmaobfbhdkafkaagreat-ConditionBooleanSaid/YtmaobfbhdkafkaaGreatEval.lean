/- Lemmas. -/
import Derived.Test.YtmaobfbhdkafkaaGreatFns
import Derived.Test.YtmaobfbhdkafkaaGreatSfEval
set_option maxRecDepth 100000
namespace Go.Sf.Sc
open Go Go.Sf
instance (N:Nat) (s_0:ByteArray) (ok' ok:Int->Option Bool) [hok:∀ y0,Mo (ok' y0) (ok y0)]:Mo (@Hw (eN N) s_0 ok') (@Hw B9 s_0 ok):=⟨by unfold Hw; exact lx⟩
instance (N:Nat) (s_0:ByteArray):Mo (@HF (eN N) s_0) (@HF B9 s_0):=⟨by unfold HF; exact lx⟩
instance (N:Nat) (s_0:ByteArray):Mo (@Ih (eN N) s_0) (@Ih B9 s_0):=⟨by unfold Ih; exact lx⟩
instance (N:Nat) (t:E7):Mo (@Iu (eN N) t) (@Iu B9 t):=⟨by unfold Iu; exact lx⟩
instance (N:Nat) (s_0:ByteArray):Mo (@EG (eN N) s_0) (@EG B9 s_0):=⟨by unfold EG; exact lx⟩
instance (N:Nat) (s_0:List BE) (f' f:BE->Option Bool) [hf:∀ y0,Mo (f' y0) (f y0)]:Mo (@DP (eN N) s_0 f') (@DP B9 s_0 f):=⟨by unfold DP; exact lx⟩
instance (N:Nat) (s_0:List BE) (f' f:BE->Option Bool) [hf:∀ y0,Mo (f' y0) (f y0)]:Mo (@CM (eN N) s_0 f') (@CM B9 s_0 f):=⟨by unfold CM; exact lx⟩
theorem Ou (N:Nat):∀ n m:Nat,n<=m->(∀ (a0:Types) (a1:Int),Mo (@DS (eN N) n a0 a1) (@DS B9 m a0 a1))
 | 0,_,_=>fun _ _=>⟨Le.none _⟩
 | n+1,0,h=>absurd h (by omega)
 | n+1,m+1,h=>by
  have ih:=Ou N n m (by omega)
  exact fun _ _=>⟨by unfold DS; exact lx⟩
instance (N:Nat) (t:Types) (a:Int):Mo (@J1 (eN N) t a) (@J1 B9 t a):=⟨LL N fun n hn=>(Ou N N n hn _ _).le⟩
instance (N:Nat) (s_0:List Attr) (f' f:Attr->Option Bool) [hf:∀ y0,Mo (f' y0) (f y0)]:Mo (@D8 (eN N) s_0 f') (@D8 B9 s_0 f):=⟨by unfold D8; exact lx⟩
instance (N:Nat) (s_0:List Attr) (f' f:Attr->Option Bool) [hf:∀ y0,Mo (f' y0) (f y0)]:Mo (@DA (eN N) s_0 f') (@DA B9 s_0 f):=⟨by unfold DA; exact lx⟩
instance (N:Nat) (l:List ByteArray):Mo (@Hy (eN N) l) (@Hy B9 l):=⟨by unfold Hy; exact lx⟩
instance (N:Nat) (x_0:Attr) (before:List Attr):Mo (@E1 (eN N) x_0 before) (@E1 B9 x_0 before):=⟨by unfold E1; exact lx⟩
instance (N:Nat) (t:Types) (i_1:Int):Mo (@Ik (eN N) t i_1) (@Ik B9 t i_1):=⟨by unfold Ik; exact lx⟩
instance (N:Nat) (s_0:List CJ) (f' f:CJ->Option Bool) [hf:∀ y0,Mo (f' y0) (f y0)]:Mo (@DO (eN N) s_0 f') (@DO B9 s_0 f):=⟨by unfold DO; exact lx⟩
instance (N:Nat) (s_0:List CJ) (f' f:CJ->Option Bool) [hf:∀ y0,Mo (f' y0) (f y0)]:Mo (@CL (eN N) s_0 f') (@CL B9 s_0 f):=⟨by unfold CL; exact lx⟩
instance (N:Nat) (t:Types) (i_1:Int):Mo (@Ij (eN N) t i_1) (@Ij B9 t i_1):=⟨by unfold Ij; exact lx⟩
instance (N:Nat) (t:Types):Mo (@E6 (eN N) t) (@E6 B9 t):=⟨by unfold E6; exact lx⟩
instance (N:Nat) (s_0:List Int) (f' f:Int->Option Bool) [hf:∀ y0,Mo (f' y0) (f y0)]:Mo (@EM (eN N) s_0 f') (@EM B9 s_0 f):=⟨by unfold EM; exact lx⟩
instance (N:Nat) (s_0:List Int) (f' f:Int->Option Bool) [hf:∀ y0,Mo (f' y0) (f y0)]:Mo (@BI (eN N) s_0 f') (@BI B9 s_0 f):=⟨by unfold BI; exact lx⟩
instance (N:Nat) (s_0:List B6) (f' f:B6->Option Bool) [hf:∀ y0,Mo (f' y0) (f y0)]:Mo (@D9 (eN N) s_0 f') (@D9 B9 s_0 f):=⟨by unfold D9; exact lx⟩
instance (N:Nat) (s_0:List B6) (f' f:B6->Option Bool) [hf:∀ y0,Mo (f' y0) (f y0)]:Mo (@BT (eN N) s_0 f') (@BT B9 s_0 f):=⟨by unfold BT; exact lx⟩
instance (N:Nat) (g:Graph):Mo (@DY (eN N) g) (@DY B9 g):=⟨by unfold DY; exact lx⟩
instance (N:Nat) (t:Types) (l:List Int):Mo (@FW (eN N) t l) (@FW B9 t l):=⟨by unfold FW; exact lx⟩
instance (N:Nat) (t:Types) (a:Int):Mo (@G2 (eN N) t a) (@G2 B9 t a):=⟨by unfold G2; exact lx⟩
instance (N:Nat) (t:Types) (p:Pattern) (s_2:CT):Mo (@FH (eN N) t p s_2) (@FH B9 t p s_2):=⟨by unfold FH; exact lx⟩
instance (N:Nat) (t:Types) (p:Pattern):Mo (@DT (eN N) t p) (@DT B9 t p):=⟨by unfold DT; exact lx⟩
instance (N:Nat) (s_0:List AA) (f' f:AA->Option Bool) [hf:∀ y0,Mo (f' y0) (f y0)]:Mo (@DF (eN N) s_0 f') (@DF B9 s_0 f):=⟨by unfold DF; exact lx⟩
instance (N:Nat) (s_0:List AA) (f' f:AA->Option Bool) [hf:∀ y0,Mo (f' y0) (f y0)]:Mo (@B0 (eN N) s_0 f') (@B0 B9 s_0 f):=⟨by unfold B0; exact lx⟩
theorem Kl (N:Nat):∀ n m:Nat,n<=m->(∀ (a0:AA),Mo (@BL (eN N) n a0) (@BL B9 m a0))∧(∀ (a0:AA),Mo (@BP (eN N) n a0) (@BP B9 m a0))
 | 0,_,_=>⟨fun _=>⟨Le.none _⟩,fun _=>⟨Le.none _⟩⟩
 | n+1,0,h=>absurd h (by omega)
 | n+1,m+1,h=>by
  obtain ⟨i0,i1⟩:=Kl N n m (by omega)
  refine ⟨?_,?_⟩
  ·exact fun _=>⟨by unfold BL; exact lx⟩
  ·exact fun _=>⟨by unfold BP; exact lx⟩
theorem Nu (N n m:Nat) (h:n<=m) (a0:AA):Mo (@BL (eN N) n a0) (@BL B9 m a0):=(Kl N n m h).1 a0
instance (N:Nat) (c:AA):Mo (@F3 (eN N) c) (@F3 B9 c):=⟨LL N fun n hn=>(Nu N N n hn _).le⟩
theorem Li (N:Nat):∀ n m:Nat,n<=m->(∀ (a0:AA),Mo (@CQ (eN N) n a0) (@CQ B9 m a0))
 | 0,_,_=>fun _=>⟨Le.none _⟩
 | n+1,0,h=>absurd h (by omega)
 | n+1,m+1,h=>by
  have ih:=Li N n m (by omega)
  exact fun _=>⟨by unfold CQ; exact lx⟩
instance (N:Nat) (c:AA):Mo (@HU (eN N) c) (@HU B9 c):=⟨LL N fun n hn=>(Li N N n hn _).le⟩
instance (N:Nat) (c:AA):Mo (@EY (eN N) c) (@EY B9 c):=⟨by unfold EY; exact lx⟩
instance (N:Nat) (s_0:List CT) (f' f:CT->Option Bool) [hf:∀ y0,Mo (f' y0) (f y0)]:Mo (@EA (eN N) s_0 f') (@EA B9 s_0 f):=⟨by unfold EA; exact lx⟩
instance (N:Nat) (s_0:List CT) (f' f:CT->Option Bool) [hf:∀ y0,Mo (f' y0) (f y0)]:Mo (@DB (eN N) s_0 f') (@DB B9 s_0 f):=⟨by unfold DB; exact lx⟩
instance (N:Nat) (t:Types) (q:Pattern) (outer:Int):Mo (@D1 (eN N) t q outer) (@D1 B9 t q outer):=⟨by unfold D1; exact lx⟩
instance (N:Nat) (a:Graph) (b:Graph) (m:Morphism):Mo (@EH (eN N) a b m) (@EH B9 a b m):=⟨by unfold EH; exact lx⟩
instance (N:Nat) (a:Graph) (b:Graph) (m:Morphism):Mo (@DV (eN N) a b m) (@DV B9 a b m):=⟨by unfold DV; exact lx⟩
theorem MG (N:Nat):∀ n m:Nat,n<=m->(∀ (a0:Types) (a1:Pattern) (a2:AA),Mo (@CB (eN N) n a0 a1 a2) (@CB B9 m a0 a1 a2))
 | 0,_,_=>fun _ _ _=>⟨Le.none _⟩
 | n+1,0,h=>absurd h (by omega)
 | n+1,m+1,h=>by
  have ih:=MG N n m (by omega)
  exact fun _ _ _=>⟨by unfold CB; exact lx⟩
instance (N:Nat) (t:Types) (p:Pattern) (c:AA):Mo (@JO (eN N) t p c) (@JO B9 t p c):=⟨LL N fun n hn=>(MG N N n hn _ _ _).le⟩
instance (N:Nat) (t:Types) (p:Pattern) (c:AA):Mo (@DU (eN N) t p c) (@DU B9 t p c):=⟨by unfold DU; exact lx⟩
instance (N:Nat) (t:Types) (kind:Int) (BB:List Int):Mo (@JG (eN N) t kind BB) (@JG B9 t kind BB):=⟨by unfold JG; exact lx⟩
instance (N:Nat) (t:Types) (a:Int):Mo (@JX (eN N) t a) (@JX B9 t a):=⟨by unfold JX; exact lx⟩
instance (N:Nat) (t:Types) (a:Int) (b:Int):Mo (@Iv (eN N) t a b) (@Iv B9 t a b):=⟨by unfold Iv; exact lx⟩
instance (N:Nat) (t:Types) (edge:Int) (from':Int) (to':Int):Mo (@Ii (eN N) t edge from' to') (@Ii B9 t edge from' to'):=⟨by unfold Ii; exact lx⟩
instance (N:Nat) (t:Types) (h_1:AY):Mo (@HZ (eN N) t h_1) (@HZ B9 t h_1):=⟨by unfold HZ; exact lx⟩
instance (N:Nat) (t:Types) (g:Graph):Mo (@FA (eN N) t g) (@FA B9 t g):=⟨by unfold FA; exact lx⟩
instance (N:Nat) (t:Types) (p:Graph) (g:Graph):Mo (@F9 (eN N) t p g) (@F9 B9 t p g):=⟨by unfold F9; exact lx⟩
instance (N:Nat) (t:Types) (a:Int):Mo (@Hx (eN N) t a) (@Hx B9 t a):=⟨by unfold Hx; exact lx⟩
instance (N:Nat) (t:Types):Mo (@F8 (eN N) t) (@F8 B9 t):=⟨by unfold F8; exact lx⟩
instance (N:Nat) (t:Types) (p:Graph) (g:Graph) (m:Morphism):Mo (@HE (eN N) t p g m) (@HE B9 t p g m):=⟨by unfold HE; exact lx⟩
instance (N:Nat) (t:Types) (p:Graph) (g:Graph) (m:Morphism) (injective:Bool):Mo (@F7 (eN N) t p g m injective) (@F7 B9 t p g m injective):=⟨by unfold F7; exact lx⟩
instance (N:Nat) (t:Types) (p:Pattern) (h_2:AY):Mo (@EU (eN N) t p h_2) (@EU B9 t p h_2):=⟨by unfold EU; exact lx⟩
instance (N:Nat) (t:Types) (p:Pattern) (h_2:AY) (m:Morphism):Mo (@ET (eN N) t p h_2 m) (@ET B9 t p h_2 m):=⟨by unfold ET; exact lx⟩
instance (N:Nat) (t:Types) (p:Pattern) (c:AA) (h_3:AY) (m:AL) (injective:Bool):Mo (@D4 (eN N) t p c h_3 m injective) (@D4 B9 t p c h_3 m injective):=⟨by unfold D4; exact lx⟩
instance (N:Nat) (l:List Int) (n:Int):Mo (@G0 (eN N) l n) (@G0 B9 l n):=⟨by unfold G0; exact lx⟩
theorem KF (N:Nat):∀ n m:Nat,n<=m->(∀ (a0:AG),Mo (@A2 (eN N) n a0) (@A2 B9 m a0))
 | 0,_,_=>fun _=>⟨Le.none _⟩
 | n+1,0,h=>absurd h (by omega)
 | n+1,m+1,h=>by
  have ih:=KF N n m (by omega)
  exact fun _=>⟨by unfold A2; exact lx⟩
instance (N:Nat) (f:AG):Mo (@FG (eN N) f) (@FG B9 f):=⟨LL N fun n hn=>(KF N N n hn _).le⟩
instance (N:Nat) (t:Types) (p:Graph) (g:Graph) (partial_:Morphism) (injective:Bool) (most:Int):Mo (@HD (eN N) t p g partial_ injective most) (@HD B9 t p g partial_ injective most):=⟨by unfold HD; exact lx⟩
instance (N:Nat) (t:Types) (p:Graph) (g:Graph) (partial_:Morphism) (injective:Bool):Mo (@JV (eN N) t p g partial_ injective) (@JV B9 t p g partial_ injective):=⟨by unfold JV; exact lx⟩
instance (N:Nat) (t:Types) (p:Graph) (g:Graph) (partial_:Morphism) (injective:Bool):Mo (@GI (eN N) t p g partial_ injective) (@GI B9 t p g partial_ injective):=⟨by unfold GI; exact lx⟩
instance (N:Nat) (s_0:AR) (c:AA) (m:AL):Mo (@BW (eN N) s_0 c m) (@BW B9 s_0 c m):=⟨by unfold BW; exact lx⟩
theorem I1 (N:Nat):∀ n m:Nat,n<=m->(∀ (a0:AR) (a1:AA) (a2:AL),Mo (@AX (eN N) n a0 a1 a2) (@AX B9 m a0 a1 a2))∧(∀ (a0:AR) (a1:AA) (a2:AL),Mo (@BH (eN N) n a0 a1 a2) (@BH B9 m a0 a1 a2))
 | 0,_,_=>⟨fun _ _ _=>⟨Le.none _⟩,fun _ _ _=>⟨Le.none _⟩⟩
 | n+1,0,h=>absurd h (by omega)
 | n+1,m+1,h=>by
  obtain ⟨i0,i1⟩:=I1 N n m (by omega)
  refine ⟨?_,?_⟩
  ·exact fun _ _ _=>⟨by unfold AX; exact lx⟩
  ·exact fun _ _ _=>⟨by unfold BH; exact lx⟩
theorem MJ (N n m:Nat) (h:n<=m) (a0:AR) (a1:AA) (a2:AL):Mo (@AX (eN N) n a0 a1 a2) (@AX B9 m a0 a1 a2):=(I1 N n m h).1 a0 a1 a2
instance (N:Nat) (s_0:AR) (c:AA) (m:AL):Mo (@DM (eN N) s_0 c m) (@DM B9 s_0 c m):=⟨LL N fun n hn=>(MJ N N n hn _ _ _).le⟩
instance (N:Nat) (t:Types) (p:Pattern) (c:AA) (h_3:AY) (m:AL) (injective:Bool):Mo (@DQ (eN N) t p c h_3 m injective) (@DQ B9 t p c h_3 m injective):=⟨by unfold DQ; exact lx⟩
instance (N:Nat) (t:Types) (p:Pattern) (c:AA) (h_3:AY) (m:AL) (injective:Bool):Mo (@BU (eN N) t p c h_3 m injective) (@BU B9 t p c h_3 m injective):=⟨by unfold BU; exact lx⟩
instance (N:Nat) (s_0:List AL) (f' f:AL->Option Bool) [hf:∀ y0,Mo (f' y0) (f y0)]:Mo (@D0 (eN N) s_0 f') (@D0 B9 s_0 f):=⟨by unfold D0; exact lx⟩
instance (N:Nat) (s_0:List AL) (f' f:AL->Option Bool) [hf:∀ y0,Mo (f' y0) (f y0)]:Mo (@DN (eN N) s_0 f') (@DN B9 s_0 f):=⟨by unfold DN; exact lx⟩
theorem Jd (N:Nat):∀ n m:Nat,n<=m->(∀ (a0:AR) (a1:AA) (a2:AL) (a3:A4),Mo (@BR (eN N) n a0 a1 a2 a3) (@BR B9 m a0 a1 a2 a3))
 | 0,_,_=>fun _ _ _ _=>⟨Le.none _⟩
 | n+1,0,h=>absurd h (by omega)
 | n+1,m+1,h=>by
  have ih:=Jd N n m (by omega)
  exact fun _ _ _ _=>⟨by unfold BR; exact lx⟩
instance (N:Nat) (s_0:AR) (c:AA) (m:AL) (w:A4):Mo (@GM (eN N) s_0 c m w) (@GM B9 s_0 c m w):=⟨LL N fun n hn=>(Jd N N n hn _ _ _ _).le⟩
instance (N:Nat) (t:Types) (p:Pattern) (c:AA) (h_3:AY) (m:AL) (injective:Bool) (w:A4):Mo (@DX (eN N) t p c h_3 m injective w) (@DX B9 t p c h_3 m injective w):=⟨by unfold DX; exact lx⟩
instance (N:Nat) :Mo (@FR (eN N)) (@FR B9):=⟨by unfold FR; exact lx⟩
end Go.Sf.Sc
namespace Go.Sf.Sc
open Go Go.Sf
theorem cH:@FR (eN 40)=some true:=by decide +kernel
theorem ZX:FR=some true:=
 have h:Mo (@FR (eN 40)) (@FR B9):=inferInstance
 h.le _ cH
end Go.Sf.Sc
