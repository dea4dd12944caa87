/- Lemmas. -/
import Derived.Test.YtbmogdodchhhlaaGreatFns
import Derived.Test.YtbmogdodchhhlaaGreatSfPl
set_option linter.all false
set_option maxRecDepth 100000
namespace Go.Sf.Sc
open Go Go.Sf
instance(N:Nat)(s1_0:List Fp)(s2_1:List Fp)(eq' eq:Fp->Fp->K1)[heq:∀y0 y1,Mo (eq' y0 y1) (eq y0 y1)]:Mo (@CD (eN N) s1_0 s2_1 eq') (@CD AW s1_0 s2_1 eq):=⟨by unfold CD;exact lx⟩
instance(N:Nat)(a:AF)(b:AF):Mo (@DO (eN N) a b) (@DO AW a b):=⟨by unfold DO;exact lx⟩
instance(N:Nat)(a:AT)(b:AT):Mo (@CT (eN N) a b) (@CT AW a b):=⟨by unfold CT;exact lx⟩
instance(N:Nat)(s_0:ByteArray)(AE:Int)(digits:Bool):Mo (@JC (eN N) s_0 AE digits) (@JC AW s_0 AE digits):=⟨by unfold JC;exact lx⟩
instance(N:Nat)(s_0:ByteArray)(AE:Int):Mo (@GA (eN N) s_0 AE) (@GA AW s_0 AE):=⟨by unfold GA;exact lx⟩
instance(N:Nat)(s_0:ByteArray)(AE:Int):Mo (@JB (eN N) s_0 AE) (@JB AW s_0 AE):=⟨by unfold JB;exact lx⟩
instance(N:Nat)(t:Db):Mo (@G0 (eN N) t) (@G0 AW t):=⟨by unfold G0;exact lx⟩
instance(N:Nat)(s_0:ByteArray):Mo (@DD (eN N) s_0) (@DD AW s_0):=⟨by unfold DD;exact lx⟩
theorem Mp(N:Nat):∀n m:Nat,n<=m->(∀(a0:AB)(a1:Int),Mo (@Di (eN N) n a0 a1) (@Di AW m a0 a1))
 |0,_,_=>fun _ _=>⟨Le.none _⟩|n+1,0,h=>absurd h (by omega)|n+1,m+1,h=>by
  have ih:=Mp N n m (by omega);exact fun _ _=>⟨by unfold Di;exact lx⟩
instance(N:Nat)(t:AB)(a:Int):Mo (@Il (eN N) t a) (@Il AW t a):=⟨LL N fun n hn=>(Mp N N n hn _ _).le⟩
instance(N:Nat)(l:List ByteArray):Mo (@G3 (eN N) l) (@G3 AW l):=⟨by unfold G3;exact lx⟩
instance(N:Nat)(a:ri):Mo (@ER (eN N) a) (@ER AW a):=⟨by unfold ER;exact lx⟩
instance(N:Nat)(t:AB)(i_1:Int):Mo (@ID (eN N) t i_1) (@ID AW t i_1):=⟨by unfold ID;exact lx⟩
instance(N:Nat)(t:AB)(i_1:Int):Mo (@IC (eN N) t i_1) (@IC AW t i_1):=⟨by unfold IC;exact lx⟩
instance(N:Nat)(t:AB):Mo (@DU (eN N) t) (@DU AW t):=⟨by unfold DU;exact lx⟩
instance(N:Nat)(t:AB)(a:Int)(b:Int):Mo (@Ff (eN N) t a b) (@Ff AW t a b):=⟨by unfold Ff;exact lx⟩
instance(N:Nat)(t:AB)(a:Int):Mo (@DT (eN N) t a) (@DT AW t a):=⟨by unfold DT;exact lx⟩
instance(N:Nat)(t:AB)(p:j0)(node:Int)(index:Int):Mo (@IH (eN N) t p node index) (@IH AW t p node index):=⟨by unfold IH;exact lx⟩
instance(N:Nat)(t:AB)(p:j0):Mo (@EB (eN N) t p) (@EB AW t p):=⟨by unfold EB;exact lx⟩
instance(N:Nat)(t:AB)(p:j0)(i_2:Int):Mo (@IJ (eN N) t p i_2) (@IJ AW t p i_2):=⟨by unfold IJ;exact lx⟩
instance(N:Nat)(t:AB)(r_1:o4):Mo (@HF (eN N) t r_1) (@HF AW t r_1):=⟨by unfold HF;exact lx⟩
theorem ME(N:Nat):∀n m:Nat,n<=m->(∀(a0:AB)(a1:Int)(a2:Int),Mo (@DK (eN N) n a0 a1 a2) (@DK AW m a0 a1 a2))
 |0,_,_=>fun _ _ _=>⟨Le.none _⟩|n+1,0,h=>absurd h (by omega)|n+1,m+1,h=>by
  have ih:=ME N n m (by omega);exact fun _ _ _=>⟨by unfold DK;exact lx⟩
instance(N:Nat)(t:AB)(a:Int)(b:Int):Mo (@E4 (eN N) t a b) (@E4 AW t a b):=⟨LL N fun n hn=>(ME N N n hn _ _ _).le⟩
instance(N:Nat)(t:AB)(edge:Int)(from':Int)(to':Int):Mo (@Gg (eN N) t edge from' to') (@Gg AW t edge from' to'):=⟨by unfold Gg;exact lx⟩
instance(N:Nat)(t:AB)(g:fq)(rf:Fp)(rr:Fp):Mo (@GD (eN N) t g rf rr) (@GD AW t g rf rr):=⟨by unfold GD;exact lx⟩
theorem K4(N:Nat):∀n m:Nat,n<=m->(∀(a0:hV),Mo (@Cl (eN N) n a0) (@Cl AW m a0))
 |0,_,_=>fun _=>⟨Le.none _⟩|n+1,0,h=>absurd h (by omega)|n+1,m+1,h=>by
  have ih:=K4 N n m (by omega);exact fun _=>⟨by unfold Cl;exact lx⟩
instance(N:Nat)(c:hV):Mo (@II (eN N) c) (@II AW c):=⟨LL N fun n hn=>(K4 N N n hn _).le⟩
theorem Li(N:Nat):∀n m:Nat,n<=m->(∀(a0:hV),Mo (@C1 (eN N) n a0) (@C1 AW m a0))
 |0,_,_=>fun _=>⟨Le.none _⟩|n+1,0,h=>absurd h (by omega)|n+1,m+1,h=>by
  have ih:=Li N n m (by omega);exact fun _=>⟨by unfold C1;exact lx⟩
instance(N:Nat)(c:hV):Mo (@Iv (eN N) c) (@Iv AW c):=⟨LL N fun n hn=>(Li N N n hn _).le⟩
instance(N:Nat)(c:hV):Mo (@G9 (eN N) c) (@G9 AW c):=⟨by unfold G9;exact lx⟩
instance(N:Nat)(t:AB)(vars:Int)(q:j0):Mo (@HD (eN N) t vars q) (@HD AW t vars q):=⟨by unfold HD;exact lx⟩
theorem Nf(N:Nat):∀n m:Nat,n<=m->(∀(a0:AB)(a1:j0)(a2:hV),Mo (@DW (eN N) n a0 a1 a2) (@DW AW m a0 a1 a2))
 |0,_,_=>fun _ _ _=>⟨Le.none _⟩|n+1,0,h=>absurd h (by omega)|n+1,m+1,h=>by
  have ih:=Nf N n m (by omega);exact fun _ _ _=>⟨by unfold DW;exact lx⟩
instance(N:Nat)(t:AB)(p:j0)(c:hV):Mo (@LG (eN N) t p c) (@LG AW t p c):=⟨LL N fun n hn=>(Nf N N n hn _ _ _).le⟩
instance(N:Nat)(t:AB)(p:j0)(c:hV):Mo (@HC (eN N) t p c) (@HC AW t p c):=⟨by unfold HC;exact lx⟩
instance(N:Nat)(t:AB)(r_1:o4):Mo (@HE (eN N) t r_1) (@HE AW t r_1):=⟨by unfold HE;exact lx⟩
instance(N:Nat)(t:AB)(kind:Int)(Aw:Fp):Mo (@IE (eN N) t kind Aw) (@IE AW t kind Aw):=⟨by unfold IE;exact lx⟩
instance(N:Nat)(t:AB)(h_1:AF):Mo (@Eo (eN N) t h_1) (@Eo AW t h_1):=⟨by unfold Eo;exact lx⟩
instance(N:Nat)(t:AB)(r_1:o4)(h_2:AF):Mo (@Fk (eN N) t r_1 h_2) (@Fk AW t r_1 h_2):=⟨by unfold Fk;exact lx⟩
instance(N:Nat)(t:AB)(p:fq)(g:fq):Mo (@Er (eN N) t p g) (@Er AW t p g):=⟨by unfold Er;exact lx⟩
instance(N:Nat)(t:AB)(p:fq)(g:fq)(m:hT)(kq:Bool):Mo (@G6 (eN N) t p g m kq) (@G6 AW t p g m kq):=⟨by unfold G6;exact lx⟩
instance(N:Nat)(t:AB)(p:fq)(g:fq)(m:hT)(kq:Bool):Mo (@Ep (eN N) t p g m kq) (@Ep AW t p g m kq):=⟨by unfold Ep;exact lx⟩
instance(N:Nat)(t:AB)(p:j0)(h_2:AF):Mo (@Fg (eN N) t p h_2) (@Fg AW t p h_2):=⟨by unfold Fg;exact lx⟩
instance(N:Nat)(t:AB)(p:j0)(h_2:AF)(m:hT):Mo (@G7 (eN N) t p h_2 m) (@G7 AW t p h_2 m):=⟨by unfold G7;exact lx⟩
instance(N:Nat)(t:AB)(p:fq)(g:fq)(m:hT):Mo (@Ez (eN N) t p g m) (@Ez AW t p g m):=⟨by unfold Ez;exact lx⟩
instance(N:Nat)(s_0:Aq)(l:Fp)(n:Int):Mo (@CW (eN N) s_0 l n) (@CW AW s_0 l n):=⟨by unfold CW;exact lx⟩
theorem Hm(N:Nat):∀n m:Nat,n<=m->(∀(a0:Aq)(a1:Fp)(a2:Fp),Mo (@Bk (eN N) n a0 a1 a2) (@Bk AW m a0 a1 a2))
 |0,_,_=>fun _ _ _=>⟨Le.none _⟩|n+1,0,h=>absurd h (by omega)|n+1,m+1,h=>by
  have ih:=Hm N n m (by omega);exact fun _ _ _=>⟨by unfold Bk;exact lx⟩
instance(N:Nat)(s_0:Aq)(rf:Fp)(l:Fp):Mo (@EJ (eN N) s_0 rf l) (@EJ AW s_0 rf l):=⟨LL N fun n hn=>(Hm N N n hn _ _ _).le⟩
theorem Hn(N:Nat):∀n m:Nat,n<=m->(∀(a0:Aq)(a1:Fp),Mo (@Bm (eN N) n a0 a1) (@Bm AW m a0 a1))
 |0,_,_=>fun _ _=>⟨Le.none _⟩|n+1,0,h=>absurd h (by omega)|n+1,m+1,h=>by
  have ih:=Hn N n m (by omega);exact fun _ _=>⟨by unfold Bm;exact lx⟩
instance(N:Nat)(s_0:Aq)(l:Fp):Mo (@EK (eN N) s_0 l) (@EK AW s_0 l):=⟨LL N fun n hn=>(Hn N N n hn _ _).le⟩
instance(N:Nat)(t:AB)(p:fq)(g:fq)(pr:hT)(kq:Bool)(sN:Int):Mo (@Hv (eN N) t p g pr kq sN) (@Hv AW t p g pr kq sN):=⟨by unfold Hv;exact lx⟩
instance(N:Nat)(t:AB)(p:fq)(g:fq)(pr:hT)(kq:Bool):Mo (@GB (eN N) t p g pr kq) (@GB AW t p g pr kq):=⟨by unfold GB;exact lx⟩
instance(N:Nat)(t:AB)(c:hV)(h_2:AF)(m:AM)(kq:Bool):Mo (@D4 (eN N) t c h_2 m kq) (@D4 AW t c h_2 m kq):=⟨by unfold D4;exact lx⟩
theorem Mq(N:Nat):∀n m:Nat,n<=m->(∀(a0:AB)(a1:hV)(a2:AF)(a3:AM)(a4:Bool),Mo (@Cb (eN N) n a0 a1 a2 a3 a4) (@Cb AW m a0 a1 a2 a3 a4))
 |0,_,_=>fun _ _ _ _ _=>⟨Le.none _⟩|n+1,0,h=>absurd h (by omega)|n+1,m+1,h=>by
  have ih:=Mq N n m (by omega);exact fun _ _ _ _ _=>⟨by unfold Cb;exact lx⟩
instance(N:Nat)(t:AB)(c:hV)(h_2:AF)(m:AM)(kq:Bool):Mo (@KU (eN N) t c h_2 m kq) (@KU AW t c h_2 m kq):=⟨LL N fun n hn=>(Mq N N n hn _ _ _ _ _).le⟩
instance(N:Nat)(t:AB)(c:hV)(h_2:AF)(m:AM)(kq:Bool):Mo (@G8 (eN N) t c h_2 m kq) (@G8 AW t c h_2 m kq):=⟨by unfold G8;exact lx⟩
instance(N:Nat)(t:AB)(r_1:o4)(h_2:AF)(m:AM):Mo (@E0 (eN N) t r_1 h_2 m) (@E0 AW t r_1 h_2 m):=⟨by unfold E0;exact lx⟩
instance(N:Nat)(t:AB)(h_1:AF)(p:At):Mo (@FH (eN N) t h_1 p) (@FH AW t h_1 p):=⟨by unfold FH;exact lx⟩
instance(N:Nat)(t:AB)(h_1:AF)(d:At):Mo (@FJ (eN N) t h_1 d) (@FJ AW t h_1 d):=⟨by unfold FJ;exact lx⟩
instance(N:Nat)(t:AB)(r_1:o4)(x_2:AF)(c:hT):Mo (@IL (eN N) t r_1 x_2 c) (@IL AW t r_1 x_2 c):=⟨by unfold IL;exact lx⟩
instance(N:Nat)(t:AB)(r_1:o4)(x_2:AF)(c:hT)(vars:Fp):Mo (@JG (eN N) t r_1 x_2 c vars) (@JG AW t r_1 x_2 c vars):=⟨by unfold JG;exact lx⟩
instance(N:Nat)(t:AB)(r_1:o4)(h_2:AF)(m:AM):Mo (@Fh (eN N) t r_1 h_2 m) (@Fh AW t r_1 h_2 m):=⟨by unfold Fh;exact lx⟩
instance(N:Nat)(p:fq):Mo (@IG (eN N) p) (@IG AW p):=⟨by unfold IG;exact lx⟩
instance(N:Nat)(t:AB)(p:fq)(g:fq)(kq:Bool):Mo (@JF (eN N) t p g kq) (@JF AW t p g kq):=⟨by unfold JF;exact lx⟩
instance(N:Nat)(t:AB)(p:j0)(h_2:AF)(kq:Bool):Mo (@FI (eN N) t p h_2 kq) (@FI AW t p h_2 kq):=⟨by unfold FI;exact lx⟩
instance(N:Nat)(t:AB)(r_1:o4)(h_2:AF):Mo (@D5 (eN N) t r_1 h_2) (@D5 AW t r_1 h_2):=⟨by unfold D5;exact lx⟩
instance(N:Nat)(t:AB)(r_1:o4)(h_2:AF)(sN:Int):Mo (@HH (eN N) t r_1 h_2 sN) (@HH AW t r_1 h_2 sN):=⟨by unfold HH;exact lx⟩
instance(N:Nat)(s_0:ByteArray)(ok' ok:Int->K1)[hok:∀y0,Mo (ok' y0) (ok y0)]:Mo (@GN (eN N) s_0 ok') (@GN AW s_0 ok):=⟨by unfold GN;exact lx⟩
instance(N:Nat)(s_0:ByteArray):Mo (@GJ (eN N) s_0) (@GJ AW s_0):=⟨by unfold GJ;exact lx⟩
instance(N:Nat)(s_0:ByteArray):Mo (@IS (eN N) s_0) (@IS AW s_0):=⟨by unfold IS;exact lx⟩
instance(N:Nat)(t:Db):Mo (@HI (eN N) t) (@HI AW t):=⟨by unfold HI;exact lx⟩
instance(N:Nat)(s_0:ByteArray):Mo (@DG (eN N) s_0) (@DG AW s_0):=⟨by unfold DG;exact lx⟩
instance(N:Nat)(s_0:List Bn)(f' f:Bn->K1)[hf:∀y0,Mo (f' y0) (f y0)]:Mo (@CJ (eN N) s_0 f') (@CJ AW s_0 f):=⟨by unfold CJ;exact lx⟩
instance(N:Nat)(s_0:List Bn)(f' f:Bn->K1)[hf:∀y0,Mo (f' y0) (f y0)]:Mo (@B0 (eN N) s_0 f') (@B0 AW s_0 f):=⟨by unfold B0;exact lx⟩
theorem Mv(N:Nat):∀n m:Nat,n<=m->(∀(a0:AB)(a1:Int),Mo (@Dk (eN N) n a0 a1) (@Dk AW m a0 a1))
 |0,_,_=>fun _ _=>⟨Le.none _⟩|n+1,0,h=>absurd h (by omega)|n+1,m+1,h=>by
  have ih:=Mv N n m (by omega);exact fun _ _=>⟨by unfold Dk;exact lx⟩
instance(N:Nat)(t:AB)(a:Int):Mo (@Ir (eN N) t a) (@Ir AW t a):=⟨LL N fun n hn=>(Mv N N n hn _ _).le⟩
instance(N:Nat)(s_0:List ri)(f' f:ri->K1)[hf:∀y0,Mo (f' y0) (f y0)]:Mo (@Cm (eN N) s_0 f') (@Cm AW s_0 f):=⟨by unfold Cm;exact lx⟩
instance(N:Nat)(s_0:List ri)(f' f:ri->K1)[hf:∀y0,Mo (f' y0) (f y0)]:Mo (@CQ (eN N) s_0 f') (@CQ AW s_0 f):=⟨by unfold CQ;exact lx⟩
instance(N:Nat)(l:List ByteArray):Mo (@HL (eN N) l) (@HL AW l):=⟨by unfold HL;exact lx⟩
instance(N:Nat)(x_0:ri)(before:List ri):Mo (@EU (eN N) x_0 before) (@EU AW x_0 before):=⟨by unfold EU;exact lx⟩
instance(N:Nat)(t:AB)(i_1:Int):Mo (@IV (eN N) t i_1) (@IV AW t i_1):=⟨by unfold IV;exact lx⟩
instance(N:Nat)(s_0:List Bv)(f' f:Bv->K1)[hf:∀y0,Mo (f' y0) (f y0)]:Mo (@CI (eN N) s_0 f') (@CI AW s_0 f):=⟨by unfold CI;exact lx⟩
instance(N:Nat)(s_0:List Bv)(f' f:Bv->K1)[hf:∀y0,Mo (f' y0) (f y0)]:Mo (@Bz (eN N) s_0 f') (@Bz AW s_0 f):=⟨by unfold Bz;exact lx⟩
instance(N:Nat)(t:AB)(i_1:Int):Mo (@IT (eN N) t i_1) (@IT AW t i_1):=⟨by unfold IT;exact lx⟩
instance(N:Nat)(t:AB):Mo (@Cw (eN N) t) (@Cw AW t):=⟨by unfold Cw;exact lx⟩
instance(N:Nat)(s_0:Fp)(f' f:Int->K1)[hf:∀y0,Mo (f' y0) (f y0)]:Mo (@C2 (eN N) s_0 f') (@C2 AW s_0 f):=⟨by unfold C2;exact lx⟩
instance(N:Nat)(s_0:Fp)(f' f:Int->K1)[hf:∀y0,Mo (f' y0) (f y0)]:Mo (@A0 (eN N) s_0 f') (@A0 AW s_0 f):=⟨by unfold A0;exact lx⟩
instance(N:Nat)(s_0:List Bh)(f' f:Bh->K1)[hf:∀y0,Mo (f' y0) (f y0)]:Mo (@Cn (eN N) s_0 f') (@Cn AW s_0 f):=⟨by unfold Cn;exact lx⟩
instance(N:Nat)(s_0:List Bh)(f' f:Bh->K1)[hf:∀y0,Mo (f' y0) (f y0)]:Mo (@Ba (eN N) s_0 f') (@Ba AW s_0 f):=⟨by unfold Ba;exact lx⟩
instance(N:Nat)(g:fq):Mo (@Cf (eN N) g) (@Cf AW g):=⟨by unfold Cf;exact lx⟩
instance(N:Nat)(t:AB)(l:Fp):Mo (@Es (eN N) t l) (@Es AW t l):=⟨by unfold Es;exact lx⟩
instance(N:Nat)(t:AB)(a:Int):Mo (@DZ (eN N) t a) (@DZ AW t a):=⟨by unfold DZ;exact lx⟩
instance(N:Nat)(t:AB)(p:j0)(s_2:Bw):Mo (@Et (eN N) t p s_2) (@Et AW t p s_2):=⟨by unfold Et;exact lx⟩
instance(N:Nat)(t:AB)(p:j0):Mo (@Cj (eN N) t p) (@Cj AW t p):=⟨by unfold Cj;exact lx⟩
instance(N:Nat)(t:AB)(g:fq):Mo (@IN (eN N) t g) (@IN AW t g):=⟨by unfold IN;exact lx⟩
instance(N:Nat)(s_0:List Bw)(f' f:Bw->K1)[hf:∀y0,Mo (f' y0) (f y0)]:Mo (@Cp (eN N) s_0 f') (@Cp AW s_0 f):=⟨by unfold Cp;exact lx⟩
instance(N:Nat)(s_0:List Bw)(f' f:Bw->K1)[hf:∀y0,Mo (f' y0) (f y0)]:Mo (@B2 (eN N) s_0 f') (@B2 AW s_0 f):=⟨by unfold B2;exact lx⟩
instance(N:Nat)(t:AB)(r_1:o4)(i_2:Int):Mo (@JJ (eN N) t r_1 i_2) (@JJ AW t r_1 i_2):=⟨by unfold JJ;exact lx⟩
instance(N:Nat)(t:AB)(r_1:o4):Mo (@IM (eN N) t r_1) (@IM AW t r_1):=⟨by unfold IM;exact lx⟩
instance(N:Nat)(g:fq)(p:At):Mo (@D8 (eN N) g p) (@D8 AW g p):=⟨by unfold D8;exact lx⟩
instance(N:Nat)(g:fq)(p:At):Mo (@D7 (eN N) g p) (@D7 AW g p):=⟨by unfold D7;exact lx⟩
instance(N:Nat)(a:fq)(b:fq)(m:hT):Mo (@Cz (eN N) a b m) (@Cz AW a b m):=⟨by unfold Cz;exact lx⟩
instance(N:Nat)(a:fq)(b:fq)(m:hT):Mo (@Cv (eN N) a b m) (@Cv AW a b m):=⟨by unfold Cv;exact lx⟩
instance(N:Nat)(r_0:o4):Mo (@JI (eN N) r_0) (@JI AW r_0):=⟨by unfold JI;exact lx⟩
instance(N:Nat)(t:AB)(a:Int):Mo (@IU (eN N) t a) (@IU AW t a):=⟨by unfold IU;exact lx⟩
instance(N:Nat)(t:AB)(a:Int)(b:Int):Mo (@Hy (eN N) t a b) (@Hy AW t a b):=⟨by unfold Hy;exact lx⟩
instance(N:Nat)(t:AB)(edge:Int)(from':Int)(to':Int):Mo (@Gr (eN N) t edge from' to') (@Gr AW t edge from' to'):=⟨by unfold Gr;exact lx⟩
instance(N:Nat)(i_0:Int)(c0:fq)(c1:AB):Mo (@E1 (eN N) i_0 c0 c1) (@E1 AW i_0 c0 c1):=⟨by unfold E1;exact lx⟩
instance(N:Nat)(t:AB)(g:fq)(rf:Fp)(rr:Fp):Mo (@GG (eN N) t g rf rr) (@GG AW t g rf rr):=⟨by unfold GG;exact lx⟩
instance(N:Nat)(s_0:List hV)(f' f:hV->K1)[hf:∀y0,Mo (f' y0) (f y0)]:Mo (@B7 (eN N) s_0 f') (@B7 AW s_0 f):=⟨by unfold B7;exact lx⟩
instance(N:Nat)(s_0:List hV)(f' f:hV->K1)[hf:∀y0,Mo (f' y0) (f y0)]:Mo (@Bt (eN N) s_0 f') (@Bt AW s_0 f):=⟨by unfold Bt;exact lx⟩
theorem IX(N:Nat):∀n m:Nat,n<=m->(∀(a0:hV),Mo (@BO (eN N) n a0) (@BO AW m a0))/\(∀(a0:hV),Mo (@BU (eN N) n a0) (@BU AW m a0))
 |0,_,_=>⟨fun _=>⟨Le.none _⟩,fun _=>⟨Le.none _⟩⟩|n+1,0,h=>absurd h (by omega)|n+1,m+1,h=>by
  obtain ⟨i0,i1⟩:=IX N n m (by omega);refine⟨?_,?_⟩
  .exact fun _=>⟨by unfold BO;exact lx⟩
  .exact fun _=>⟨by unfold BU;exact lx⟩
theorem Lw(N n m:Nat)(h:n<=m)(a0:hV):Mo (@BO (eN N) n a0) (@BO AW m a0):=(IX N n m h).1 a0
instance(N:Nat)(c:hV):Mo (@Eg (eN N) c) (@Eg AW c):=⟨LL N fun n hn=>(Lw N N n hn _).le⟩
theorem JU(N:Nat):∀n m:Nat,n<=m->(∀(a0:hV),Mo (@CC (eN N) n a0) (@CC AW m a0))
 |0,_,_=>fun _=>⟨Le.none _⟩|n+1,0,h=>absurd h (by omega)|n+1,m+1,h=>by
  have ih:=JU N n m (by omega);exact fun _=>⟨by unfold CC;exact lx⟩
instance(N:Nat)(c:hV):Mo (@Fv (eN N) c) (@Fv AW c):=⟨LL N fun n hn=>(JU N N n hn _).le⟩
instance(N:Nat)(c:hV):Mo (@EO (eN N) c) (@EO AW c):=⟨by unfold EO;exact lx⟩
instance(N:Nat)(t:AB)(q:j0)(outer:Int):Mo (@Dn (eN N) t q outer) (@Dn AW t q outer):=⟨by unfold Dn;exact lx⟩
theorem J0(N:Nat):∀n m:Nat,n<=m->(∀(a0:AB)(a1:j0)(a2:hV),Mo (@B4 (eN N) n a0 a1 a2) (@B4 AW m a0 a1 a2))
 |0,_,_=>fun _ _ _=>⟨Le.none _⟩|n+1,0,h=>absurd h (by omega)|n+1,m+1,h=>by
  have ih:=J0 N n m (by omega);exact fun _ _ _=>⟨by unfold B4;exact lx⟩
instance(N:Nat)(t:AB)(p:j0)(c:hV):Mo (@GW (eN N) t p c) (@GW AW t p c):=⟨LL N fun n hn=>(J0 N N n hn _ _ _).le⟩
instance(N:Nat)(t:AB)(p:j0)(c:hV):Mo (@Dg (eN N) t p c) (@Dg AW t p c):=⟨by unfold Dg;exact lx⟩
instance(N:Nat)(t:AB)(r_1:o4):Mo (@Gi (eN N) t r_1) (@Gi AW t r_1):=⟨by unfold Gi;exact lx⟩
instance(N:Nat)(t:AB)(kind:Int)(Aw:Fp):Mo (@I7 (eN N) t kind Aw) (@I7 AW t kind Aw):=⟨by unfold I7;exact lx⟩
instance(N:Nat)(t:AB)(h_1:AF):Mo (@Eh (eN N) t h_1) (@Eh AW t h_1):=⟨by unfold Eh;exact lx⟩
instance(N:Nat)(t:AB)(rules:List o4)(h_2:AF):Mo (@D0 (eN N) t rules h_2) (@D0 AW t rules h_2):=⟨by unfold D0;exact lx⟩
instance(N:Nat)(t:AB)(r_1:o4)(h_2:AF):Mo (@Gq (eN N) t r_1 h_2) (@Gq AW t r_1 h_2):=⟨by unfold Gq;exact lx⟩
instance(N:Nat)(t:AB)(g:fq):Mo (@Ea (eN N) t g) (@Ea AW t g):=⟨by unfold Ea;exact lx⟩
instance(N:Nat)(t:AB)(p:fq)(g:fq):Mo (@Dj (eN N) t p g) (@Dj AW t p g):=⟨by unfold Dj;exact lx⟩
instance(N:Nat)(t:AB)(a:Int):Mo (@HK (eN N) t a) (@HK AW t a):=⟨by unfold HK;exact lx⟩
instance(N:Nat)(t:AB):Mo (@E7 (eN N) t) (@E7 AW t):=⟨by unfold E7;exact lx⟩
instance(N:Nat)(t:AB)(p:fq)(g:fq)(m:hT):Mo (@E8 (eN N) t p g m) (@E8 AW t p g m):=⟨by unfold E8;exact lx⟩
instance(N:Nat)(t:AB)(p:fq)(g:fq)(m:hT)(kq:Bool):Mo (@EH (eN N) t p g m kq) (@EH AW t p g m kq):=⟨by unfold EH;exact lx⟩
instance(N:Nat)(t:AB)(p:j0)(h_2:AF):Mo (@De (eN N) t p h_2) (@De AW t p h_2):=⟨by unfold De;exact lx⟩
instance(N:Nat)(t:AB)(p:j0)(h_2:AF)(m:hT):Mo (@Dd (eN N) t p h_2 m) (@Dd AW t p h_2 m):=⟨by unfold Dd;exact lx⟩
instance(N:Nat)(t:AB)(r_1:o4)(h_2:AF)(m:AM):Mo (@GI (eN N) t r_1 h_2 m) (@GI AW t r_1 h_2 m):=⟨by unfold GI;exact lx⟩
instance(N:Nat)(t:AB)(p:fq)(g:fq)(m:hT):Mo (@ES (eN N) t p g m) (@ES AW t p g m):=⟨by unfold ES;exact lx⟩
instance(N:Nat)(x_0:Bb):Mo (@CG (eN N) x_0) (@CG AW x_0):=⟨by unfold CG;exact lx⟩
instance(N:Nat)(l:fq)(g:fq)(po:At)(m:hT):Mo (@FE (eN N) l g po m) (@FE AW l g po m):=⟨by unfold FE;exact lx⟩
instance(N:Nat)(t:AB)(p:j0)(c:hV)(h_3:AF)(m:AM)(kq:Bool):Mo (@EN (eN N) t p c h_3 m kq) (@EN AW t p c h_3 m kq):=⟨by unfold EN;exact lx⟩
theorem Ho(N:Nat):∀n m:Nat,n<=m->(∀(a0:AV),Mo (@BX (eN N) n a0) (@BX AW m a0))
 |0,_,_=>fun _=>⟨Le.none _⟩|n+1,0,h=>absurd h (by omega)|n+1,m+1,h=>by
  have ih:=Ho N n m (by omega);exact fun _=>⟨by unfold BX;exact lx⟩
instance(N:Nat)(f:AV):Mo (@EL (eN N) f) (@EL AW f):=⟨LL N fun n hn=>(Ho N N n hn _).le⟩
instance(N:Nat)(t:AB)(p:fq)(g:fq)(pr:J2)(kq:Bool)(sN:Int):Mo (@GH (eN N) t p g pr kq sN) (@GH AW t p g pr kq sN):=⟨by unfold GH;exact lx⟩
instance(N:Nat)(t:AB)(p:fq)(g:fq)(pr:J2)(kq:Bool):Mo (@Gl (eN N) t p g pr kq) (@Gl AW t p g pr kq):=⟨by unfold Gl;exact lx⟩
instance(N:Nat)(l:Fp)(n:Int):Mo (@Fm (eN N) l n) (@Fm AW l n):=⟨by unfold Fm;exact lx⟩
instance(N:Nat)(t:AB)(p:fq)(g:fq)(pr:hT)(kq:Bool):Mo (@FL (eN N) t p g pr kq) (@FL AW t p g pr kq):=⟨by unfold FL;exact lx⟩
instance(N:Nat)(s_0:Ax)(c:hV)(m:AM):Mo (@By (eN N) s_0 c m) (@By AW s_0 c m):=⟨by unfold By;exact lx⟩
theorem F4(N:Nat):∀n m:Nat,n<=m->(∀(a0:Ax)(a1:hV)(a2:AM),Mo (@Av (eN N) n a0 a1 a2) (@Av AW m a0 a1 a2))/\(∀(a0:Ax)(a1:hV)(a2:AM),Mo (@BG (eN N) n a0 a1 a2) (@BG AW m a0 a1 a2))
 |0,_,_=>⟨fun _ _ _=>⟨Le.none _⟩,fun _ _ _=>⟨Le.none _⟩⟩|n+1,0,h=>absurd h (by omega)|n+1,m+1,h=>by
  obtain ⟨i0,i1⟩:=F4 N n m (by omega);refine⟨?_,?_⟩
  .exact fun _ _ _=>⟨by unfold Av;exact lx⟩
  .exact fun _ _ _=>⟨by unfold BG;exact lx⟩
theorem J3(N n m:Nat)(h:n<=m)(a0:Ax)(a1:hV)(a2:AM):Mo (@Av (eN N) n a0 a1 a2) (@Av AW m a0 a1 a2):=(F4 N n m h).1 a0 a1 a2
instance(N:Nat)(s_0:Ax)(c:hV)(m:AM):Mo (@DR (eN N) s_0 c m) (@DR AW s_0 c m):=⟨LL N fun n hn=>(J3 N N n hn _ _ _).le⟩
instance(N:Nat)(t:AB)(p:j0)(c:hV)(h_3:AF)(m:AM)(kq:Bool):Mo (@Dm (eN N) t p c h_3 m kq) (@Dm AW t p c h_3 m kq):=⟨by unfold Dm;exact lx⟩
instance(N:Nat)(t:AB)(p:j0)(c:hV)(h_3:AF)(m:AM)(kq:Bool):Mo (@C7 (eN N) t p c h_3 m kq) (@C7 AW t p c h_3 m kq):=⟨by unfold C7;exact lx⟩
instance(N:Nat)(t:AB)(kind:Int):Mo (@IR (eN N) t kind) (@IR AW t kind):=⟨by unfold IR;exact lx⟩
instance(N:Nat)(t:AB)(s_1:AT)(d:At):Mo (@IQ (eN N) t s_1 d) (@IQ AW t s_1 d):=⟨by unfold IQ;exact lx⟩
instance(N:Nat)(t:AB)(s:AT)(V:List Fp)(p:(Int×Int)×Int):Mo (@KL (eN N) t s V p) (@KL AW t s V p):=⟨by unfold KL;exact lx⟩
instance(N:Nat)(t:AB)(s:AT)(p:(Int×Int)×Int):Mo (@L7 (eN N) t s p) (@L7 AW t s p):=⟨by unfold L7;exact lx⟩
instance(N:Nat)(t:AB)(s:AT):Mo (@JM (eN N) t s) (@JM AW t s):=⟨by unfold JM;exact lx⟩
instance(N:Nat)(t:AB)(r_1:o4)(h_2:AF)(m:AM):Mo (@Gp (eN N) t r_1 h_2 m) (@Gp AW t r_1 h_2 m):=⟨by unfold Gp;exact lx⟩
instance(N:Nat)(t:AB)(r_1:o4)(h_2:AF)(m:AM):Mo (@Fc (eN N) t r_1 h_2 m) (@Fc AW t r_1 h_2 m):=⟨by unfold Fc;exact lx⟩
instance(N:Nat)(t:AB)(rules:List o4)(h_2:AF)(m:JO):Mo (@Dz (eN N) t rules h_2 m) (@Dz AW t rules h_2 m):=⟨by unfold Dz;exact lx⟩
instance(N:Nat)(t:AB)(rules:List o4)(d:B8):Mo (@C5 (eN N) t rules d) (@C5 AW t rules d):=⟨by unfold C5;exact lx⟩
instance(N:Nat)(s1_0:List hV)(s2_1:List hV)(eq' eq:hV->hV->K1)[heq:∀y0 y1,Mo (eq' y0 y1) (eq y0 y1)]:Mo (@B6 (eN N) s1_0 s2_1 eq') (@B6 AW s1_0 s2_1 eq):=⟨by unfold B6;exact lx⟩
theorem K3(N:Nat):∀n m:Nat,n<=m->(∀(a0:hV)(a1:hV),Mo (@Ck (eN N) n a0 a1) (@Ck AW m a0 a1))
 |0,_,_=>fun _ _=>⟨Le.none _⟩|n+1,0,h=>absurd h (by omega)|n+1,m+1,h=>by
  have ih:=K3 N n m (by omega);exact fun _ _=>⟨by unfold Ck;exact lx⟩
instance(N:Nat)(a:hV)(b:hV):Mo (@H1 (eN N) a b) (@H1 AW a b):=⟨LL N fun n hn=>(K3 N N n hn _ _).le⟩
instance(N:Nat)(a:o4)(b:o4):Mo (@JH (eN N) a b) (@JH AW a b):=⟨by unfold JH;exact lx⟩
instance(N:Nat)(a:AT)(b:AT):Mo (@JL (eN N) a b) (@JL AW a b):=⟨by unfold JL;exact lx⟩
instance(N:Nat)(t:AB)(s_1:AT):Mo (@Gn (eN N) t s_1) (@Gn AW t s_1):=⟨by unfold Gn;exact lx⟩
instance(N:Nat)(t:AB)(rules:List o4)(a:AT)(b:AT):Mo (@Gc (eN N) t rules a b) (@Gc AW t rules a b):=⟨by unfold Gc;exact lx⟩
instance(N:Nat)(t:AB)(p:fq)(g:fq)(kq:Bool):Mo (@IP (eN N) t p g kq) (@IP AW t p g kq):=⟨by unfold IP;exact lx⟩
instance(N:Nat)(t:AB)(p:j0)(h_2:AF)(kq:Bool):Mo (@Dl (eN N) t p h_2 kq) (@Dl AW t p h_2 kq):=⟨by unfold Dl;exact lx⟩
instance(N:Nat)(t:AB)(r_1:o4)(h_2:AF):Mo (@ET (eN N) t r_1 h_2) (@ET AW t r_1 h_2):=⟨by unfold ET;exact lx⟩
instance(N:Nat)(s_0:List AU)(f' f:AU->K1)[hf:∀y0,Mo (f' y0) (f y0)]:Mo (@CR (eN N) s_0 f') (@CR AW s_0 f):=⟨by unfold CR;exact lx⟩
instance(N:Nat)(s_0:List AU)(f' f:AU->K1)[hf:∀y0,Mo (f' y0) (f y0)]:Mo (@B3 (eN N) s_0 f') (@B3 AW s_0 f):=⟨by unfold B3;exact lx⟩
theorem JQ(N:Nat):∀n m:Nat,n<=m->(∀(a0:A6),Mo (@B9 (eN N) n a0) (@B9 AW m a0))
 |0,_,_=>fun _=>⟨Le.none _⟩|n+1,0,h=>absurd h (by omega)|n+1,m+1,h=>by
  have ih:=JQ N n m (by omega);exact fun _=>⟨by unfold B9;exact lx⟩
instance(N:Nat)(x_0:A6):Mo (@Ft (eN N) x_0) (@Ft AW x_0):=⟨LL N fun n hn=>(JQ N N n hn _).le⟩
theorem JR(N:Nat):∀n m:Nat,n<=m->(∀(a0:A6),Mo (@CA (eN N) n a0) (@CA AW m a0))
 |0,_,_=>fun _=>⟨Le.none _⟩|n+1,0,h=>absurd h (by omega)|n+1,m+1,h=>by
  have ih:=JR N n m (by omega);exact fun _=>⟨by unfold CA;exact lx⟩
instance(N:Nat)(x_0:A6):Mo (@Fu (eN N) x_0) (@Fu AW x_0):=⟨LL N fun n hn=>(JR N N n hn _).le⟩
instance(N:Nat)(a:AF)(b:AF)(from':hT)(to':hT):Mo (@Ei (eN N) a b from' to') (@Ei AW a b from' to'):=⟨by unfold Ei;exact lx⟩
instance(N:Nat)(x_0:AU)(y:AU):Mo (@H9 (eN N) x_0 y) (@H9 AW x_0 y):=⟨by unfold H9;exact lx⟩
instance(N:Nat)(y:AU)(c0:AU):Mo (@Gy (eN N) y c0) (@Gy AW y c0):=⟨by unfold Gy;exact lx⟩
instance(N:Nat)(t:AB)(rules:List o4)(from':AU)(depth:Int):Mo (@Hs (eN N) t rules from' depth) (@Hs AW t rules from' depth):=⟨by unfold Hs;exact lx⟩
instance(N:Nat)(t:AB)(rules:List o4)(a:AT)(b:AT)(depth:Int)(strict:Bool):Mo (@I9 (eN N) t rules a b depth strict) (@I9 AW t rules a b depth strict):=⟨by unfold I9;exact lx⟩
instance(N:Nat)(t:AB)(rules:List o4)(a:AT)(b:AT)(depth:Int):Mo (@Gx (eN N) t rules a b depth) (@Gx AW t rules a b depth):=⟨by unfold Gx;exact lx⟩
instance(N:Nat)(g:fq):Mo (@Do (eN N) g) (@Do AW g):=⟨by unfold Do;exact lx⟩
instance(N:Nat)(g:fq):Mo (@C8 (eN N) g) (@C8 AW g):=⟨by unfold C8;exact lx⟩
instance(N:Nat)(t:AB)(rules:List o4)(d:B8):Mo (@DL (eN N) t rules d) (@DL AW t rules d):=⟨by unfold DL;exact lx⟩
instance(N:Nat)(a:AF)(b:AF)(m:hT):Mo (@D2 (eN N) a b m) (@D2 AW a b m):=⟨by unfold D2;exact lx⟩
instance(N:Nat)(t:AB)(rules:List o4)(a:AT)(b:AT)(j:s8):Mo (@H8 (eN N) t rules a b j) (@H8 AW t rules a b j):=⟨by unfold H8;exact lx⟩
instance(N:Nat):Mo (@DC (eN N)) (@DC AW):=⟨by unfold DC;exact lx⟩
end Go.Sf.Sc
namespace Go.Sf.Sc
open Go Go.Sf
theorem Zi:@DC (eN 40)=some true:=by decide +kernel
theorem XF:DC=some true:=
 have h:Mo (@DC (eN 40)) (@DC AW):=inferInstance
 h.le _ Zi
end Go.Sf.Sc
