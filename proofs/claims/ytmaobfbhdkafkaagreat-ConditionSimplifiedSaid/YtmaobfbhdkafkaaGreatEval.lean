/- Lemmas. -/
import Derived.Test.YtmaobfbhdkafkaaGreatFns
import Derived.Test.YtmaobfbhdkafkaaGreatSfEval
set_option maxRecDepth 100000
namespace Go.Sf.Sc
open Go Go.Sf
instance (N:Nat) (s_0:ByteArray) (ok' ok:Int->Option Bool) [hok:∀ y0,Mo (ok' y0) (ok y0)]:Mo (@ID (eN N) s_0 ok') (@ID CB s_0 ok):=⟨by unfold ID; exact lx⟩
instance (N:Nat) (s_0:ByteArray):Mo (@HZ (eN N) s_0) (@HZ CB s_0):=⟨by unfold HZ; exact lx⟩
instance (N:Nat) (s_0:ByteArray):Mo (@I3 (eN N) s_0) (@I3 CB s_0):=⟨by unfold I3; exact lx⟩
instance (N:Nat) (t:FK):Mo (@JE (eN N) t) (@JE CB t):=⟨by unfold JE; exact lx⟩
instance (N:Nat) (s_0:ByteArray):Mo (@ES (eN N) s_0) (@ES CB s_0):=⟨by unfold ES; exact lx⟩
instance (N:Nat) (s_0:List BI) (f' f:BI->Option Bool) [hf:∀ y0,Mo (f' y0) (f y0)]:Mo (@DU (eN N) s_0 f') (@DU CB s_0 f):=⟨by unfold DU; exact lx⟩
instance (N:Nat) (s_0:List BI) (f' f:BI->Option Bool) [hf:∀ y0,Mo (f' y0) (f y0)]:Mo (@CQ (eN N) s_0 f') (@CQ CB s_0 f):=⟨by unfold CQ; exact lx⟩
theorem Py (N:Nat):∀ n m:Nat,n<=m->(∀ (a0:Types) (a1:Int),Mo (@DY (eN N) n a0 a1) (@DY CB m a0 a1))
 | 0,_,_=>fun _ _=>⟨Le.none _⟩
 | n+1,0,h=>absurd h (by omega)
 | n+1,m+1,h=>by
  have ih:=Py N n m (by omega)
  exact fun _ _=>⟨by unfold DY; exact lx⟩
instance (N:Nat) (t:Types) (a:Int):Mo (@KW (eN N) t a) (@KW CB t a):=⟨LL N fun n hn=>(Py N N n hn _ _).le⟩
instance (N:Nat) (s_0:List Attr) (f' f:Attr->Option Bool) [hf:∀ y0,Mo (f' y0) (f y0)]:Mo (@EJ (eN N) s_0 f') (@EJ CB s_0 f):=⟨by unfold EJ; exact lx⟩
instance (N:Nat) (s_0:List Attr) (f' f:Attr->Option Bool) [hf:∀ y0,Mo (f' y0) (f y0)]:Mo (@DF (eN N) s_0 f') (@DF CB s_0 f):=⟨by unfold DF; exact lx⟩
instance (N:Nat) (l:List ByteArray):Mo (@IF (eN N) l) (@IF CB l):=⟨by unfold IF; exact lx⟩
instance (N:Nat) (x_0:Attr) (before:List Attr):Mo (@FE (eN N) x_0 before) (@FE CB x_0 before):=⟨by unfold FE; exact lx⟩
instance (N:Nat) (t:Types) (i_1:Int):Mo (@I6 (eN N) t i_1) (@I6 CB t i_1):=⟨by unfold I6; exact lx⟩
instance (N:Nat) (s_0:List CO) (f' f:CO->Option Bool) [hf:∀ y0,Mo (f' y0) (f y0)]:Mo (@DT (eN N) s_0 f') (@DT CB s_0 f):=⟨by unfold DT; exact lx⟩
instance (N:Nat) (s_0:List CO) (f' f:CO->Option Bool) [hf:∀ y0,Mo (f' y0) (f y0)]:Mo (@CP (eN N) s_0 f') (@CP CB s_0 f):=⟨by unfold CP; exact lx⟩
instance (N:Nat) (t:Types) (i_1:Int):Mo (@I5 (eN N) t i_1) (@I5 CB t i_1):=⟨by unfold I5; exact lx⟩
instance (N:Nat) (t:Types):Mo (@FJ (eN N) t) (@FJ CB t):=⟨by unfold FJ; exact lx⟩
instance (N:Nat) (s_0:List Int) (f' f:Int->Option Bool) [hf:∀ y0,Mo (f' y0) (f y0)]:Mo (@EZ (eN N) s_0 f') (@EZ CB s_0 f):=⟨by unfold EZ; exact lx⟩
instance (N:Nat) (s_0:List Int) (f' f:Int->Option Bool) [hf:∀ y0,Mo (f' y0) (f y0)]:Mo (@BM (eN N) s_0 f') (@BM CB s_0 f):=⟨by unfold BM; exact lx⟩
instance (N:Nat) (s_0:List BX) (f' f:BX->Option Bool) [hf:∀ y0,Mo (f' y0) (f y0)]:Mo (@EK (eN N) s_0 f') (@EK CB s_0 f):=⟨by unfold EK; exact lx⟩
instance (N:Nat) (s_0:List BX) (f' f:BX->Option Bool) [hf:∀ y0,Mo (f' y0) (f y0)]:Mo (@BV (eN N) s_0 f') (@BV CB s_0 f):=⟨by unfold BV; exact lx⟩
instance (N:Nat) (g:Graph):Mo (@D8 (eN N) g) (@D8 CB g):=⟨by unfold D8; exact lx⟩
instance (N:Nat) (t:Types) (l:List Int):Mo (@GA (eN N) t l) (@GA CB t l):=⟨by unfold GA; exact lx⟩
instance (N:Nat) (t:Types) (a:Int):Mo (@HH (eN N) t a) (@HH CB t a):=⟨by unfold HH; exact lx⟩
instance (N:Nat) (t:Types) (p:Pattern) (s_2:B4):Mo (@FV (eN N) t p s_2) (@FV CB t p s_2):=⟨by unfold FV; exact lx⟩
instance (N:Nat) (t:Types) (p:Pattern):Mo (@DZ (eN N) t p) (@DZ CB t p):=⟨by unfold DZ; exact lx⟩
instance (N:Nat) (s_0:List AA) (f' f:AA->Option Bool) [hf:∀ y0,Mo (f' y0) (f y0)]:Mo (@DL (eN N) s_0 f') (@DL CB s_0 f):=⟨by unfold DL; exact lx⟩
instance (N:Nat) (s_0:List AA) (f' f:AA->Option Bool) [hf:∀ y0,Mo (f' y0) (f y0)]:Mo (@BC (eN N) s_0 f') (@BC CB s_0 f):=⟨by unfold BC; exact lx⟩
theorem LI (N:Nat):∀ n m:Nat,n<=m->(∀ (a0:AA),Mo (@BO (eN N) n a0) (@BO CB m a0))∧(∀ (a0:AA),Mo (@BR (eN N) n a0) (@BR CB m a0))
 | 0,_,_=>⟨fun _=>⟨Le.none _⟩,fun _=>⟨Le.none _⟩⟩
 | n+1,0,h=>absurd h (by omega)
 | n+1,m+1,h=>by
  obtain ⟨i0,i1⟩:=LI N n m (by omega)
  refine ⟨?_,?_⟩
  ·exact fun _=>⟨by unfold BO; exact lx⟩
  ·exact fun _=>⟨by unfold BR; exact lx⟩
theorem O5 (N n m:Nat) (h:n<=m) (a0:AA):Mo (@BO (eN N) n a0) (@BO CB m a0):=(LI N n m h).1 a0
instance (N:Nat) (c:AA):Mo (@GH (eN N) c) (@GH CB c):=⟨LL N fun n hn=>(O5 N N n hn _).le⟩
theorem MI (N:Nat):∀ n m:Nat,n<=m->(∀ (a0:AA),Mo (@CU (eN N) n a0) (@CU CB m a0))
 | 0,_,_=>fun _=>⟨Le.none _⟩
 | n+1,0,h=>absurd h (by omega)
 | n+1,m+1,h=>by
  have ih:=MI N n m (by omega)
  exact fun _=>⟨by unfold CU; exact lx⟩
instance (N:Nat) (c:AA):Mo (@H3 (eN N) c) (@H3 CB c):=⟨LL N fun n hn=>(MI N N n hn _).le⟩
instance (N:Nat) (c:AA):Mo (@EF (eN N) c) (@EF CB c):=⟨by unfold EF; exact lx⟩
instance (N:Nat) (s_0:List B4) (f' f:B4->Option Bool) [hf:∀ y0,Mo (f' y0) (f y0)]:Mo (@EL (eN N) s_0 f') (@EL CB s_0 f):=⟨by unfold EL; exact lx⟩
instance (N:Nat) (s_0:List B4) (f' f:B4->Option Bool) [hf:∀ y0,Mo (f' y0) (f y0)]:Mo (@DG (eN N) s_0 f') (@DG CB s_0 f):=⟨by unfold DG; exact lx⟩
instance (N:Nat) (t:Types) (q:Pattern) (outer:Int):Mo (@EB (eN N) t q outer) (@EB CB t q outer):=⟨by unfold EB; exact lx⟩
instance (N:Nat) (a:Graph) (b:Graph) (m:Morphism):Mo (@ET (eN N) a b m) (@ET CB a b m):=⟨by unfold ET; exact lx⟩
instance (N:Nat) (a:Graph) (b:Graph) (m:Morphism):Mo (@D1 (eN N) a b m) (@D1 CB a b m):=⟨by unfold D1; exact lx⟩
theorem Mq (N:Nat):∀ n m:Nat,n<=m->(∀ (a0:Types) (a1:Pattern) (a2:AA),Mo (@CE (eN N) n a0 a1 a2) (@CE CB m a0 a1 a2))
 | 0,_,_=>fun _ _ _=>⟨Le.none _⟩
 | n+1,0,h=>absurd h (by omega)
 | n+1,m+1,h=>by
  have ih:=Mq N n m (by omega)
  exact fun _ _ _=>⟨by unfold CE; exact lx⟩
instance (N:Nat) (t:Types) (p:Pattern) (c:AA):Mo (@Jo (eN N) t p c) (@Jo CB t p c):=⟨LL N fun n hn=>(Mq N N n hn _ _ _).le⟩
instance (N:Nat) (t:Types) (p:Pattern) (c:AA):Mo (@D0 (eN N) t p c) (@D0 CB t p c):=⟨by unfold D0; exact lx⟩
instance (N:Nat) (t:Types) (kind:Int) (BD:List Int):Mo (@Jf (eN N) t kind BD) (@Jf CB t kind BD):=⟨by unfold Jf; exact lx⟩
instance (N:Nat) (t:Types) (a:Int):Mo (@Jz (eN N) t a) (@Jz CB t a):=⟨by unfold Jz; exact lx⟩
instance (N:Nat) (t:Types) (a:Int) (b:Int):Mo (@JF (eN N) t a b) (@JF CB t a b):=⟨by unfold JF; exact lx⟩
instance (N:Nat) (t:Types) (edge:Int) (from':Int) (to':Int):Mo (@I4 (eN N) t edge from' to') (@I4 CB t edge from' to'):=⟨by unfold I4; exact lx⟩
instance (N:Nat) (t:Types) (h_1:A0):Mo (@H6 (eN N) t h_1) (@H6 CB t h_1):=⟨by unfold H6; exact lx⟩
instance (N:Nat) (t:Types) (g:Graph):Mo (@FO (eN N) t g) (@FO CB t g):=⟨by unfold FO; exact lx⟩
instance (N:Nat) (t:Types) (p:Graph) (g:Graph):Mo (@GM (eN N) t p g) (@GM CB t p g):=⟨by unfold GM; exact lx⟩
instance (N:Nat) (t:Types) (a:Int):Mo (@IE (eN N) t a) (@IE CB t a):=⟨by unfold IE; exact lx⟩
instance (N:Nat) (t:Types):Mo (@GL (eN N) t) (@GL CB t):=⟨by unfold GL; exact lx⟩
instance (N:Nat) (t:Types) (p:Graph) (g:Graph) (m:Morphism):Mo (@HV (eN N) t p g m) (@HV CB t p g m):=⟨by unfold HV; exact lx⟩
instance (N:Nat) (t:Types) (p:Graph) (g:Graph) (m:Morphism) (injective:Bool):Mo (@GK (eN N) t p g m injective) (@GK CB t p g m injective):=⟨by unfold GK; exact lx⟩
instance (N:Nat) (t:Types) (p:Pattern) (h_2:A0):Mo (@E8 (eN N) t p h_2) (@E8 CB t p h_2):=⟨by unfold E8; exact lx⟩
instance (N:Nat) (t:Types) (p:Pattern) (h_2:A0) (m:Morphism):Mo (@E7 (eN N) t p h_2 m) (@E7 CB t p h_2 m):=⟨by unfold E7; exact lx⟩
instance (N:Nat) (t:Types) (p:Pattern) (c:AA) (h_3:A0) (m:AL) (injective:Bool):Mo (@EE (eN N) t p c h_3 m injective) (@EE CB t p c h_3 m injective):=⟨by unfold EE; exact lx⟩
instance (N:Nat) (l:List Int) (n:Int):Mo (@HE (eN N) l n) (@HE CB l n):=⟨by unfold HE; exact lx⟩
theorem Km (N:Nat):∀ n m:Nat,n<=m->(∀ (a0:AI),Mo (@A3 (eN N) n a0) (@A3 CB m a0))
 | 0,_,_=>fun _=>⟨Le.none _⟩
 | n+1,0,h=>absurd h (by omega)
 | n+1,m+1,h=>by
  have ih:=Km N n m (by omega)
  exact fun _=>⟨by unfold A3; exact lx⟩
instance (N:Nat) (f:AI):Mo (@FU (eN N) f) (@FU CB f):=⟨LL N fun n hn=>(Km N N n hn _).le⟩
instance (N:Nat) (t:Types) (p:Graph) (g:Graph) (partial_:Morphism) (injective:Bool) (most:Int):Mo (@HU (eN N) t p g partial_ injective most) (@HU CB t p g partial_ injective most):=⟨by unfold HU; exact lx⟩
instance (N:Nat) (t:Types) (p:Graph) (g:Graph) (partial_:Morphism) (injective:Bool):Mo (@Jw (eN N) t p g partial_ injective) (@Jw CB t p g partial_ injective):=⟨by unfold Jw; exact lx⟩
instance (N:Nat) (t:Types) (p:Graph) (g:Graph) (partial_:Morphism) (injective:Bool):Mo (@GV (eN N) t p g partial_ injective) (@GV CB t p g partial_ injective):=⟨by unfold GV; exact lx⟩
instance (N:Nat) (s_0:AR) (c:AA) (m:AL):Mo (@BY (eN N) s_0 c m) (@BY CB s_0 c m):=⟨by unfold BY; exact lx⟩
theorem JS (N:Nat):∀ n m:Nat,n<=m->(∀ (a0:AR) (a1:AA) (a2:AL),Mo (@AY (eN N) n a0 a1 a2) (@AY CB m a0 a1 a2))∧(∀ (a0:AR) (a1:AA) (a2:AL),Mo (@BL (eN N) n a0 a1 a2) (@BL CB m a0 a1 a2))
 | 0,_,_=>⟨fun _ _ _=>⟨Le.none _⟩,fun _ _ _=>⟨Le.none _⟩⟩
 | n+1,0,h=>absurd h (by omega)
 | n+1,m+1,h=>by
  obtain ⟨i0,i1⟩:=JS N n m (by omega)
  refine ⟨?_,?_⟩
  ·exact fun _ _ _=>⟨by unfold AY; exact lx⟩
  ·exact fun _ _ _=>⟨by unfold BL; exact lx⟩
theorem Mt (N n m:Nat) (h:n<=m) (a0:AR) (a1:AA) (a2:AL):Mo (@AY (eN N) n a0 a1 a2) (@AY CB m a0 a1 a2):=(JS N n m h).1 a0 a1 a2
instance (N:Nat) (s_0:AR) (c:AA) (m:AL):Mo (@DR (eN N) s_0 c m) (@DR CB s_0 c m):=⟨LL N fun n hn=>(Mt N N n hn _ _ _).le⟩
instance (N:Nat) (t:Types) (p:Pattern) (c:AA) (h_3:A0) (m:AL) (injective:Bool):Mo (@DV (eN N) t p c h_3 m injective) (@DV CB t p c h_3 m injective):=⟨by unfold DV; exact lx⟩
instance (N:Nat) (t:Types) (p:Pattern) (c:AA) (h_3:A0) (m:AL) (injective:Bool):Mo (@CM (eN N) t p c h_3 m injective) (@CM CB t p c h_3 m injective):=⟨by unfold CM; exact lx⟩
instance (N:Nat) (s_0:List AL) (f' f:AL->Option Bool) [hf:∀ y0,Mo (f' y0) (f y0)]:Mo (@EA (eN N) s_0 f') (@EA CB s_0 f):=⟨by unfold EA; exact lx⟩
instance (N:Nat) (s_0:List AL) (f' f:AL->Option Bool) [hf:∀ y0,Mo (f' y0) (f y0)]:Mo (@DS (eN N) s_0 f') (@DS CB s_0 f):=⟨by unfold DS; exact lx⟩
theorem J5 (N:Nat):∀ n m:Nat,n<=m->(∀ (a0:AR) (a1:AA) (a2:AL) (a3:A4),Mo (@BT (eN N) n a0 a1 a2 a3) (@BT CB m a0 a1 a2 a3))
 | 0,_,_=>fun _ _ _ _=>⟨Le.none _⟩
 | n+1,0,h=>absurd h (by omega)
 | n+1,m+1,h=>by
  have ih:=J5 N n m (by omega)
  exact fun _ _ _ _=>⟨by unfold BT; exact lx⟩
instance (N:Nat) (s_0:AR) (c:AA) (m:AL) (w:A4):Mo (@GY (eN N) s_0 c m w) (@GY CB s_0 c m w):=⟨LL N fun n hn=>(J5 N N n hn _ _ _ _).le⟩
instance (N:Nat) (t:Types) (p:Pattern) (c:AA) (h_3:A0) (m:AL) (injective:Bool) (w:A4):Mo (@D6 (eN N) t p c h_3 m injective w) (@D6 CB t p c h_3 m injective w):=⟨by unfold D6; exact lx⟩
instance (N:Nat) :Mo (@F6 (eN N)) (@F6 CB):=⟨by unfold F6; exact lx⟩
end Go.Sf.Sc
