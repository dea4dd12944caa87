/- Plain lemmas: what the functions of the program and of the reference compute. -/
import Derived.Test.YthcncnllajfkfaaGreatP46
set_option linter.all false
set_option maxRecDepth 100000
open Option renaming some->Y
open Bool renaming true->X
open Int renaming le_refl->v?,tdiv_eq_ediv_of_nonneg->w_
open ByteArray renaming size_extract->w!
open List renaming mem_append->w?,mem_singleton->x_
namespace Go.Sf.Sc
open Go Go.Sf
variable{σ ρ:Type}{f:σ×Int->Option (Bz (σ×Int) ρ)}{s:σ}{a:Int}
theorem yp(I:Int->σ->Prop)(b:Int)(o:I a s)
  (step:∀i s,a<=i->I i s->(i<b/\∃s',f (s,i)=Y (.next (s',i+1))/\I (i+1) s')\/f (s,i)=Y (.brk (s,i))):∃i s',a<=i/\I i s'/\f (s',i)=Y (.brk (s',i))/\C7 f (s,a)=Y (.inl (s',i)):=by
 have key:∀(n:Nat)(i:Int)(s:σ),a<=i->I i s->b-i<=n->∃j s',i<=j/\I j s'/\f (s',j)=Y (.brk (s',j))/\MP f (s,i) (.inl (s',j)):=by
  intro n
  induction n with
  |zero=>
   intro i s hi c hb;rcases step i s hi c with⟨h,_⟩|h
   .omega
   .exact⟨i,s,v? _,c,h,.brk h⟩
  |succ n u=>
   intro i s hi c hb;rcases step i s hi c with⟨_,s',q,r⟩|h
   .obtain⟨j,s2,m,d,e,l⟩:=u (i+1) s' U r U;exact⟨j,s2,U,d,e,.next q l⟩
   .exact⟨i,s,v? _,c,h,.brk h⟩
 obtain ⟨j,s',m,d,e,l⟩:=key (b-a).toNat a s (v? _) o U;exact⟨j,s',m,d,e,l.eq⟩
variable{β:Type}{Q:β->Prop}
theorem E1{k:σ×Int->Option β}{c:ρ->Option β}(I:Int->σ->Prop)(b:Int)(d:I a s)
  (step:∀i s,a<=i->I i s->(i<b/\∃s',f (s,i)=Y (.next (s',i+1))/\I (i+1) s')\/f (s,i)=Y (.brk (s,i)))(e:∀i s,a<=i->I i s->f (s,i)=Y (.brk (s,i))->∃r,k (s,i)=Y r/\Q r):∃r,ej (C7 f (s,a)) k c=Y r/\Q r:=by
 obtain ⟨i,s',h,j,l,m⟩:=yp I b d step;rw[m,B3];exact e i s' h j l
variable{b:Int}
theorem Oj{f:Int->σ->Option σ}{k:σ->Option β}(I:Int->σ->Prop)(c:a<=b)(d:I a s)(h:∀i s,a<=i->i<b->I i s->∃s',f i s=Y s'/\I (i+1) s')(e:∀s,I b s->∃r,k s=Y r/\Q r):∃r,(l3 f a b s).bind k=Y r/\Q r:=by
 obtain ⟨s',j,l⟩:=P8 I c d h;rw[j,bs];exact e s' l
theorem Ca(ha:0<=a)(hb:0<b):∃r,DK a b=Y r/\0<=r/\r<b:=by
 unfold DK;rw[ae U,Int.tmod_eq_emod_of_nonneg ha];exact⟨_,rfl,Int.emod_nonneg _ U,Int.emod_lt_of_pos _ hb⟩
theorem Yz(hb:b≠0):∃r,DK a b=Y r:=by
 unfold DK;rw[ae hb];exact⟨_,rfl⟩
theorem Zg(ha:0<=a)(hb:0<b):∃r,quo a b=Y r/\0<=r/\r<=a:=by
 unfold quo;rw[ae U,w_ ha];exact⟨_,rfl,Int.ediv_nonneg ha U,Int.ediv_le_self _ ha⟩
theorem tQ(a:Int):0<=IntKind.u8.wrap a/\IntKind.u8.wrap a<256:=by
 have e:IntKind.u8.wrap a=a % 256:=by
  unfold IntKind.wrap;simp[IntKind.signed,IntKind.bits]
 rw [e];omega
instance:Inhabited Lt:=⟨⟨0,0⟩⟩
instance:Inhabited KN:=⟨⟨0,0,0⟩⟩
instance:Inhabited TR:=⟨⟨0,0,0,0⟩⟩
instance:Inhabited Kz:=⟨⟨0,0⟩⟩
def U8(x:Int):Prop:=0<=x/\x<256
def U2(a:Lt):Prop:=U8 a.a0/\U8 a.a1
def U3(a:KN):Prop:=U8 a.a0/\U8 a.a1/\U8 a.a2
theorem U8.w{x:Int}(h:U8 x):AJ x=x:=AT (by have:=h.1;omega) (by have:=h.2;omega)
def nO(i:Int):ByteArray:=(⟨#[65,66,67,68,69,70]⟩:ByteArray).extract i.toNat (i+1).toNat
def uS(i:Int):ByteArray:=(⟨#[117,118,119,120,121,122]⟩:ByteArray).extract i.toNat (i+1).toNat
def sw(i:Int):ByteArray:=(⟨#[101,102,103,104,105]⟩:ByteArray).extract i.toNat (i+1).toNat
structure Xt(a:kh)(i:Int):Prop where
 name:a.kp=uS i
 low:(a.qo=[]/\a.Low=-3/\3<=a.Aae/\a.Aae<=11)\/a.qo=[(⟨#[111,102,102]⟩:ByteArray),(⟨#[111,110]⟩:ByteArray)]/\a.Low=0/\a.Aae=1
structure RN(n:Ba)(i:Int):Prop where
 nm:n.kp=nO i
 par:-1<=n.t2/\n.t2<i
 own:n.pr=[]\/∃a,n.pr=[a]/\Xt a i
variable{n:Ba}{i:Int}
theorem RN.name(h:RN n i):n.kp.size<=40:=by
 rw [h.nm,nO,w!];show min _ 6-_<=40;omega
theorem Xt.few{a:kh}(h:Xt a i):Ts a:=by
 have e:a.kp.size<=40:=by
  rw [h.name,uS,w!];show min _ 6-_<=40;omega
 rcases h.low with⟨k,_⟩|⟨k,_⟩
 .exact⟨U,by simp[k],by simp[k]⟩
 .refine⟨U,by simp[k],λx c=>?_⟩;simp only[k,List.mem_cons,List.not_mem_nil,or_false]at c;rcases c with rfl|rfl<;>decide
theorem RN.Abo(h:RN n i):n.pr.length<=1:=by
 rcases h.own with k|⟨a,k,_⟩<;>simp[k]
theorem RN.each(h:RN n i):∀a∈n.pr,Ts a:=by
 rcases h.own with k|⟨b,k,hb⟩<;>grind[Xt.few]
structure QS(t:AC)(i:Int):Prop where
 len:(t.ci.length:Int)=i
 node:∀k:Int,0<=k->k<i->RN (AA t.ci k) k
variable{t:AC}
theorem QS.app(h:QS t i)(d:RN n i):QS ⟨t.ci++[n],t.c9⟩ (i+1):=by
 refine ⟨by simp[<-h.len],λk c j=>?_⟩;have l:=h.len;by_cases e:k=i
 .subst e;rw[show AA (t.ci++[n]) k=n from M6 _ _ U];exact d
 .rw[show AA (t.ci++[n]) k=AA t.ci k from Lj _ _ c U];exact h.node k c U
theorem qT{s:ByteArray}(c:0<=i)(h:i+1<=s.size):(s.extract i.toNat (i+1).toNat).size<=40:=by
 rw [w!];omega
theorem Sx{i x0 x1:Int}(z:0<=i)(i1:i<6)(x:U8 x0)(A:U8 x1)(u:QS t i):∃y,((Aam (⟨#[65,66,67,68,69,70]⟩:ByteArray) i (AJ (i+1))).bind λl=>
 (DK (AJ x0) (AJ (i+1))).bind λc=>
 (quo x0 16).bind λm=>
 (DK (IntKind.u8.wrap m) 4).bind λe=>
 (Aam (⟨#[117,118,119,120,121,122]⟩:ByteArray) i (AJ (i+1))).bind λr=>
 (DK x1 4).bind λo=>
 if (decide (o=1))=X then
 (quo x1 4).bind λh=>
 (DK (AJ (IntKind.u8.wrap h)) 9).bind λj=>
 (AY t.ci [Ba.mk l (AJ (c-1)) (decide (e=3)) [kh.mk r (-3) (AJ (3+j)) []]]).bind λd=>
 Y (Bz.next (ρ:=AC) (AC.mk d t.c9,AJ (i+1)))
 else
 if (decide (o=2))=X then
 (AY t.ci [Ba.mk l (AJ (c-1)) (decide (e=3)) [kh.mk r 0 1 [(⟨#[111,102,102]⟩:ByteArray),(⟨#[111,110]⟩:ByteArray)]]]).bind λd=>
 Y (.next (AC.mk d t.c9,AJ (i+1)))
 else
 (AY t.ci [Ba.mk l (AJ (c-1)) (decide (e=3)) []]).bind λd=>
 Y (.next (AC.mk d t.c9,AJ (i+1))))=Y (.next (y,i+1))/\QS y (i+1)/\y.c9=t.c9:=by
 have H:=u.len;rw[AT (n:=i+1) U U,Jn z U (by show i+1<=((6:Nat):Int);omega),bs,x.w];obtain⟨c,B,J,K⟩:=Ca x.1 (show 0<i+1 by omega);obtain⟨m,C,_⟩:=Zg x.1 (show(0:Int)<16 by omega);obtain⟨e,D⟩:=Yz (a:=IntKind.u8.wrap m) (show(4:Int)≠0 by omega);obtain⟨o,E⟩:=Yz (a:=x1) (show(4:Int)≠0 by omega);obtain⟨h,F,_⟩:=Zg A.1 (show(0:Int)<4 by omega);have I:=tQ h;obtain⟨j,G,L,M⟩:=Ca (show 0<=AJ (IntKind.u8.wrap h)by rw[AT U U];omega) (show(0:Int)<9 by omega);have q:∀n:Ba,AY t.ci [n]=Y (t.ci++[n]):=λn=>AS a_;rw[B,bs,C,bs,D,bs,Jn z U (by show i+1<=((6:Nat):Int);omega),bs,E,bs,F,bs,G,bs,q,q,q,AT (n:=c-1) U U];simp only[bs];split
 .exact⟨_,rfl,u.app ⟨rfl,b!,.inr ⟨_,rfl,rfl,.inl ⟨rfl,rfl,by show 3<=AJ (3+j)/\AJ (3+j)<=11;rw[AT U U];omega⟩⟩⟩,rfl⟩
 .split
  .exact⟨_,rfl,u.app ⟨rfl,b!,.inr ⟨_,rfl,rfl,.inr ⟨rfl,rfl,rfl⟩⟩⟩,rfl⟩
  .exact⟨_,rfl,u.app ⟨rfl,b!,.inl rfl⟩,rfl⟩
def EnM(t:AC):Prop:=∀k:Int,0<=k->k<t.c9.length->(AA t.c9 k).kp=sw k/\MU (AA t.c9 k).AaU (AA t.c9 k).AaD=X/\MU (AA t.c9 k).Abj (AA t.c9 k).AaT=X
structure Fx(t:AC):Prop where
 n:QS t t.ci.length
 pos:0<t.ci.length
 ea:t.ci.length<=6
 eb:t.c9.length<=5
 edge:∀e∈t.c9,e.kp.size<=40/\(0<=e.jj/\e.jj<t.ci.length)/\0<=e.To/\e.To<t.ci.length
 en:EnM t
theorem Fx.few(h:Fx t):A3 t:=by
 have c:∀n∈t.ci,∃i,RN n i:=λn c=>by
  obtain ⟨i,j,i1,rfl⟩:=BT c;exact⟨i,h.n.node i j i1⟩
 refine ⟨by have:=h.ea;omega,by have:=h.eb;omega,λn d=>?_,λn d=>?_,λn d=>?_,λe he=>?_⟩
 .obtain⟨i,k⟩:=c n d;have:=k.name;omega
 .obtain⟨i,k⟩:=c n d;have:=k.Abo;omega
 .obtain⟨i,k⟩:=c n d;exact k.each
 .have:=(h.edge e he).1;omega
theorem Fx.par(h:Fx t):E2 t t.ci.length:=λi c i1=>(h.n.node i c i1).par
theorem Fx.below(h:Fx t)(ha:0<=a)(c:a<t.ci.length)(hb:0<=b):∃r,FE t a b=Y r:=
 ⟨_,D0 (a+2).toNat λn d=>Xb h.par hb n (a+1).toNat a U c U U⟩
theorem qv{ea eb:List Lt}(F:∀x∈ea,U2 x)(he:∀x∈eb,U2 x):∃t,PZ ea eb=Y t/\Fx t:=by
 unfold PZ;refine E1 (λi t=>(0<=i/\i<=6)/\QS t i/\t.c9=[]) 6 ⟨U,⟨rfl,λk y o=>U⟩,rfl⟩ (λi t H⟨hi,q,d⟩=>?_) (λi t H⟨hi,q,d⟩c=>?_)
 .dsimp only;by_cases C:i=0\/(i<ea.length/\i<6)
  .left;have ey:∀{ζ:Option (Bz (AC×Int) AC)},(∃m,ζ=Y (.next (m,i+1))/\QS m (i+1)/\m.c9=t.c9)->i<6/\∃s',ζ=Y (.next (s',i+1))/\(0<=i+1/\i+1<=6)/\QS s' (i+1)/\s'.c9=[]:=λ⟨m,a1,a2,a3⟩=>⟨U,m,a1,U,a2,a3.trans d⟩;refine ey ?_;rw[ac an];by_cases h:i<ea.length
   .rw[ac b?,AD hi.1 h,bs];have l:=F _ (AF hi.1 h);exact Sx (t:=t) hi.1 U l.1 l.2 q
   .rw[ae b?];exact Sx (t:=t) (x0:=0) (x1:=0) hi.1 U ⟨U,U⟩ ⟨U,U⟩ q
  .right;rw[ae an]
 .have G:0<i:=by
   by_cases e:i=0
   .subst e;dsimp only at c;rw[ac V]at c;by_cases h:(0:Int)<ea.length
    .rw[ac b?,AD U h,bs]at c;have l:=F _ (AF U h);obtain⟨m,a1,_⟩:=Sx (t:=t) U U l.1 l.2 q;rw[a1]at c;cases c
    .rw[ae b?]at c;obtain⟨m,a1,_⟩:=Sx (t:=t) (x0:=0) (x1:=0) U U ⟨U,U⟩ ⟨U,U⟩ q;rw[a1]at c;cases c
   .omega
  have h:=q.len;dsimp only;refine E1 (λj u=>(0<=j/\j<=5)/\u.ci=t.ci/\(u.c9.length:Int)=j/\(∀e∈u.c9,e.kp.size<=40/\(0<=e.jj/\e.jj<u.ci.length)/\0<=e.To/\e.To<u.ci.length)/\EnM u) 5 ⟨U,rfl,by rw[d];rfl,(λe he=>by rw[d]at he;cases he),λk _ o=>by rw[d]at o;simp at o;omega⟩
   (λj u I⟨z,r,J,D,E⟩=>?_) (λj u I⟨z,r,J,D,E⟩_=>?_)
  .dsimp only;by_cases C:j<eb.length/\j<5
   .left;have l:=he _ (AF z.1 C.1);have B:(0:Int)<u.ci.length:=by rw[r];omega
    obtain ⟨K,L,a1,a2⟩:=Ca (show 0<=AJ (AA eb j).a0 by rw[l.1.w];exact l.1.1) B;obtain⟨M,N,O,P⟩:=Ca (show 0<=AJ (AA eb j).a1 by rw[l.2.w];exact l.2.1) B;refine⟨U,⟨u.ci,u.c9++[⟨(⟨#[101,102,103,104,105]⟩:ByteArray).extract j.toNat (j+1).toNat,K,M,0,-1,0,-1⟩]⟩,?_,U,r,an,?_,?_⟩
    .rw[ac v6,AT (n:=j+1) U U,Jn z.1 U (by show j+1<=((5:Nat):Int);omega),bs,AD z.1 C.1,bs,L,bs,bs,N,bs,AS a_,bs]
    .intro e A;rcases w?.1 A with A|A
     .exact D e A
     .rw[x_.1 A];exact⟨qT z.1 (by show j+1<=((5:Nat):Int);omega),⟨a1,a2⟩,O,P⟩
    .intro k y o;by_cases e:k=j
     .rw[show AA (u.c9++_) k=_ from M6 _ _ U,e];exact⟨rfl,rfl,rfl⟩
     .simp at o;rw[show AA (u.c9++_) k=AA u.c9 k from Lj _ _ y U];exact E k y U
   .right;rw[ae an]
  .refine⟨u,rfl,⟨rfl,λk y o=>?_⟩,by rw[r];omega,by rw[r];omega,U,D,E⟩;rw[r]at o|-;exact q.node k y U
end Go.Sf.Sc
namespace Go.Sf.Sc
open Go Go.Sf
variable{β:Type}{Q:β->Prop}
theorem ar{n:Nat}{f:Int->Fp->Option Fp}{k:Fp->Option β}(o:n<=1000)(h:∀(i:Int)s,0<=i->i<n->∃b:Bool,f i s=if b=X then(AY s [i]).bind λx=>Y x else Y s)
  (j:∀l:Fp,l.length<=n->(∀x∈l,0<=x/\x<(n:Int))->∃r,k l=Y r/\Q r):∃r,(l3 f 0 (n:Int) []).bind k=Y r/\Q r:=by
 refine Oj (λi l=>(l.length:Int)<=i/\∀x∈l,0<=x/\x<(n:Int)) U ⟨V,λx c=>by cases c⟩ (λi l e i1⟨m,d⟩=>?_) (λl⟨m,d⟩=>j l U d);obtain⟨b,hb⟩:=h i l e i1;rw[hb];cases b
 .exact⟨l,rfl,U,d⟩
 .rw[ac rfl,AS a_];refine⟨l++[i],rfl,an,λx c=>?_⟩;rcases w?.1 c with c|c
  .exact d x c
  .rw[x_.1 c];exact⟨e,i1⟩
def Uz(t:AC)(n:Int)(e:Bt):Prop:=(0<=e.j4/\e.j4<t.c9.length)/\(0<=e.jj/\e.jj<n)/\(0<=e.To/\e.To<n)
structure SZ(t:AC)(g:d3):Prop where
 ea:g.ci.length<=8
 eb:g.c9.length<=10
 kind:∀n∈g.ci,0<=n/\n<t.ci.length
 fit:∀e∈g.c9,Uz t g.ci.length e
variable{t:AC}{g:d3}{k:Int}
theorem jT(h:Fx t)(c:SZ t g)(j:0<=k):∃l,Lz t g k=Y l/\(l.length<=1000/\∀x∈l,0<=x/\x<g.ci.length):=by
 unfold Lz;refine ar (by have:=c.ea;omega) (λi s d i1=>?_) (λl o m=>⟨l,rfl,by have:=c.ea;omega,m⟩);have e:=c.kind _ (AF d i1);obtain⟨b,hb⟩:=h.below e.1 e.2 j;exact⟨b,by rw[AD d i1,bs,hb,bs]⟩
structure mA(d:N0):Prop where
 ea:∀x∈d.ci,U8 x
 eb:∀x∈d.c9,U3 x
theorem qx(q:Fx t){d:N0}(hd:mA d)(E:Bool):∃g,Pc t d E=Y g/\SZ t g:=by
 unfold Pc;have N:=q.ea;have O:=q.eb;refine ar U (λi s A i1=>?_) (λkinds δ K=>?_)
 .cases E
  .exact⟨!(AA t.ci i).p0,by rw[ae a!,AD A i1];simp only[bs]⟩
  .exact⟨X,rfl⟩
 refine E1 (λi g=>(0<=i/\i<=8)/\((g.ci.length:Int)<=i/\g.c9=[])/\∀n∈g.ci,0<=n/\n<(t.ci.length:Int)) 8 ⟨U,⟨V,rfl⟩,λn m=>by cases m⟩ (λi g A⟨a1,a2,a3⟩=>?_) (λi g A⟨a1,a2,a3⟩_=>?_)
 .dsimp only;by_cases c:(i<d.ci.length/\i<8)/\0<(kinds.length:Int)
  .left;have l:=hd.ea _ (AF a1.1 c.1.1);obtain⟨r,B,o,h⟩:=Ca (show 0<=AJ (AA d.ci i)by rw[l.w];exact l.1) c.2;refine⟨U,⟨g.ci++[AA kinds r],g.c9⟩,?_,U,⟨an,a2.2⟩,λn m=>?_⟩
   .rw[ac r_,AD a1.1 c.1.1,bs,B,bs,AD o h,bs,AS a_,bs,AT (n:=i+1) U U]
   .rcases w?.1 m with m|m
    .exact a3 n m
    .rw[x_.1 m];exact K _ (AF o h)
  .right;rw[ae r_]
 .dsimp only;refine E1 (λj u=>(0<=j/\j<=10)/\u.ci=g.ci/\(u.c9.length:Int)<=j/\∀e∈u.c9,Uz t u.ci.length e) 10 ⟨U,rfl,by rw[a2.2];simp,by rw[a2.2];intro e he;cases he⟩ (λj u L⟨o,h,M,x⟩=>?_) (λj u L⟨o,h,M,x⟩_=>?_)
  .dsimp only;by_cases c:(j<d.c9.length/\j<10)/\0<(t.c9.length:Int)
   .left;have l:=hd.eb _ (AF o.1 c.1.1);obtain⟨r,B,C,D⟩:=Ca (show 0<=AJ (AA d.c9 j).a0 by rw[l.1.w];exact l.1.1) c.2;have y:=(q.edge _ (AF C D)).2;have F:SZ t u:=⟨by rw[h];omega,U,by rw[h];exact a3,x⟩;obtain⟨l1,P,m1,R⟩:=jT q F y.1.1;obtain⟨l2,S,Z,θ⟩:=jT q F y.2.1;refine⟨U,?_⟩;rw[ac r_,AD o.1 c.1.1,bs,B,bs,AD C D,bs,P,bs,bs,S,bs,AT (n:=j+1) U U];by_cases z:0<(l1.length:Int)/\0<(l2.length:Int)
    .obtain⟨ε,κ,G,H⟩:=Ca (show 0<=AJ (AA d.c9 j).a1 by rw[l.2.1.w];exact l.2.1.1) z.1;obtain⟨η,ζ,I,J⟩:=Ca (show 0<=AJ (AA d.c9 j).a2 by rw[l.2.2.w];exact l.2.2.1) z.2;refine⟨⟨u.ci,u.c9++[⟨r,AA l1 ε,AA l2 η⟩]⟩,?_,U,h,an,λe he=>(w?.1 he).elim (x e) λhe=>?_⟩
     .rw[ac m_,bs,κ,bs,AD G H,bs,bs,ζ,bs,AD I J,bs,AS a_,bs]
     .rw[x_.1 he];exact⟨⟨C,D⟩,R _ (AF G H),θ _ (AF I J)⟩
    .rw[ae m_];exact⟨u,rfl,U,h,U,x⟩
   .right;rw[ae r_]
  .exact⟨u,rfl,by rw[h];omega,U,by rw[h];exact a3,x⟩
structure mE(d:N4):Prop where
 g:mA d.d3
 slots:∀x∈d.ei,U3 x
structure yu(p:d6):Prop where
 ea:p.d3.ci.length<=8
 eb:p.d3.c9.length<=10
 slots:p.ei.length<=4
 tests:p.kg.length<=3
 vars:0<=p.em/\p.em<=3
def pO(t:AC)(g:d3)(a b:Int):Prop:=(0<=a/\a<g.ci.length)/\0<=b/\b<(Fg t (AA g.ci a)).1.length
def RO(t:AC)(g:d3)(v:Int)(s:CA):Prop:=pO t g s.o4 s.kh/\(-1<=s.gp.Var/\s.gp.Var<v)/\-100<=s.gp.Add/\s.gp.Add<=100
structure kA(t:AC)(p:d6):Prop extends yu p where
 g:SZ t p.d3
 slot:∀s∈p.ei,RO t p.d3 p.em s
 test:∀x∈p.kg,LZ p.em x=0
 occ:∀v:Int,0<=v->v<p.em->ID p v=X
theorem ja{a b r:Int}(h:DK a b=Y r)(hb:0<b):-b<r/\r<b:=by
 unfold DK at h;rw[ae U]at h;exact Option.some.inj h▸⟨Int.lt_tmod_of_pos a hb,Int.tmod_lt_of_pos a hb⟩
variable{a b:Int}
theorem lM(hb:0<b)(c:b<=1000):∃r,GJ a b=Y r/\0<=r/\r<b:=by
 unfold GJ;obtain⟨r,e⟩:=Yz (a:=a) (show b≠0 by omega);have:=ja e hb;obtain⟨d,h,k⟩:=Ca (a:=AJ (r+b)) d? hb;rw[e,bs,h];exact⟨d,rfl,k⟩
theorem qu{n:Int}(h:0<=n/\n<=3)(c:TR):∃x,PY n c=Y x/\LZ n x=0:=by
 unfold PY;obtain⟨d,j,a1,a2⟩:=lM (a:=AJ c.a0) (show(0:Int)<4 by omega) U;obtain⟨l,m,w,y⟩:=lM (a:=AJ c.a1) (show 0<n+1 by omega) U;obtain⟨o,q,z,A⟩:=lM (a:=AJ c.a2) (show 0<n+1 by omega) U;obtain⟨B,e⟩:=Yz (a:=AJ c.a3) (show(12:Int)≠0 by omega);have r:=ja e U;rw[j,bs,quo,ae U,bs,AT (n:=n+1) U U,m,bs,q,bs,e];refine⟨_,rfl,?_⟩;have u:d.tdiv 3=0\/d.tdiv 3=1:=by rw[w_ a1];omega
 rw [AT (n:=l-1) U U,AT (n:=o-1) U U,AT (n:=d.tdiv 3) U U,AT (n:=1+d.tdiv 3) U U];unfold LZ OU;rw[ae b!,ac an]
theorem RO.up{v w:Int}{s:CA}(h:RO t g v s)(hv:v<=w):RO t g w s:=⟨h.1,⟨h.2.1.1,by have:=h.2.1.2;omega⟩,h.2.2⟩
variable{p:d6}{v:Int}
theorem uU{s:CA}{q:d6}(c:q.ei=p.ei++[s]):ID q v=(ID p v||decide (s.gp.Var=v)):=by
 unfold ID;rw[c,List.any_append];simp
theorem oA(E:Fx t){d:N4}(hd:mE d):∃p,Pd t d=Y p/\kA t p:=by
 unfold Pd;obtain⟨g,eg,P⟩:=qx E hd.g X;rw[eg,bs];have hgn:=P.ea;have hge:=P.eb;refine E1 (λi l=>(0<=i/\i<=g.ci.length)/\(l.length:Int)<=600*i/\∀x∈l,pO t g x.a0 x.a1) g.ci.length ⟨U,V,λx c=>by cases c⟩ (λi l ε⟨a1,a2,a3⟩=>?_) (λi l ε⟨a1,a2,a3⟩_=>?_)
 .dsimp only;by_cases h:i<g.ci.length
  .left;refine⟨h,?_⟩;rw[ac b?,AD a1.1 h,bs,Ou E.few,bs];have hal:=(T1 E.few (AA g.ci i)).1;obtain⟨s,e,C,R⟩:=P8 (f:=λ(i2:Int)(s2:List Kz)=>(AY s2 [Kz.mk i i2]).bind λF=>Y F) (λk(s:List Kz)=>(s.length:Int)<=600*i+k/\∀x∈s,pO t g x.a0 x.a1) (a:=0) (b:=((Fg t (AA g.ci i)).1.length:Int)) (s:=l) U ⟨U,a3⟩ (λk s G κ C=>⟨s++[⟨i,k⟩],by rw[AS a_,bs],an,λx c=>(w?.1 c).elim (C.2 x) λc=>by rw[x_.1 c];exact⟨⟨a1.1,h⟩,G,κ⟩⟩);rw[e,bs,AT (n:=i+1) U U];exact⟨s,rfl,U,U,R⟩
  .right;rw[ae b?]
 .dsimp only;refine E1 (λj p=>(0<=j/\j<=4)/\p.d3=g/\((p.ei.length:Int)<=j/\p.kg=[])/\(0<=p.em/\p.em<=3)/\(∀s∈p.ei,RO t g p.em s)/\∀v:Int,0<=v->v<p.em->ID p v=X) 4 ⟨U,rfl,⟨V,rfl⟩,V,(λs C=>by cases C),λv h1 H=>by simp at H;omega⟩ (λj p η⟨I,q,D,J,K,L⟩=>?_) (λj p η⟨I,q,D,J,K,L⟩_=>?_)
  .dsimp only;by_cases h:(j<d.ei.length/\j<4)/\0<(l.length:Int)
   .left;have c:=hd.slots _ (AF I.1 h.1.1);obtain⟨r,e1,A,o⟩:=Ca (show 0<=AJ (AA d.ei j).a0 by rw[c.1.w];exact c.1.1) h.2;obtain⟨r1,e2,f1,f2⟩:=Ca (show 0<=AJ (AA d.ei j).a1 by rw[c.2.1.w];exact c.2.1.1) (show(0:Int)<5 by omega);obtain⟨r2,e3,f3,f4⟩:=Ca (show 0<=AJ (AA d.ei j).a2 by rw[c.2.2.w];exact c.2.2.1) (show(0:Int)<5 by omega);have O:∀s:CA,AY p.ei [s]=Y (p.ei++[s]):=λs=>AS a_;have m:=a3 _ (AF A o);refine⟨U,?_⟩;rw[ac b?,AD I.1 h.1.1,bs,e1,bs,AD A o,bs,e2,bs,e3,bs,AT (n:=j+1) U U,AT (n:=p.em+1) U U,AT (n:=r1-1) U U,AT (n:=r2-2) U U];simp only[O,bs];have add:∀(v:Int)(s:CA),p.em<=v->v<=3->RO t g v s->(∀x:Int,p.em<=x->x<v->s.gp.Var=x)->(0<=j+1/\j+1<=4)/\p.d3=g/\(((p.ei++[s]).length:Int)<=j+1/\p.kg=[])/\(0<=v/\v<=3)/\(∀s'∈p.ei++[s],RO t g v s')/\∀x:Int,0<=x->x<v->ID ⟨p.d3,p.ei++[s],v,p.kg⟩ x=X:=λv s S v2 ζ δ=>by
     refine ⟨U,q,⟨an,D.2⟩,U,λs' z=>(w?.1 z).elim (λz=>(K s' z).up S) λz=>x_.1 z▸ζ,λx x0 x1=>?_⟩;rw[uU (p:=p) (s:=s) rfl];by_cases k:x<p.em
     .rw[L x x0 k];rfl
     .rw[δ x U x1];simp
    split
    .split
     next B=>rw[sx]at B;exact⟨_,rfl,add 3 _ U U ⟨m,b!,b!⟩ (λx _ _=>U)⟩
     next B=>rw[sx]at B;exact⟨_,rfl,add (p.em+1) _ U U ⟨m,b!,b!⟩ (λx _ _=>b!)⟩
    .rename_i H;rw[sx]at H;split
     next B=>rw[sx]at B;omega
     .exact⟨_,rfl,add p.em _ U U ⟨m,b!,b!⟩ (λx _ _=>U)⟩
   .right;rw[ae b?]
  .dsimp only;refine E1 (λk u=>(0<=k/\k<=3)/\(u.d3=p.d3/\u.ei=p.ei/\u.em=p.em)/\(u.kg.length:Int)<=k/\∀x∈u.kg,LZ u.em x=0) 3 ⟨U,⟨rfl,rfl,rfl⟩,by rw[D.2];simp,by rw[D.2];intro x c;cases c⟩ (λk u G⟨A,o,Z,M⟩=>?_) (λk u G⟨A,⟨o,c5,θ⟩,Z,M⟩_=>⟨u,rfl,⟨by rw[o,q];omega,by rw[o,q];omega,by rw[c5];omega,U,by rw[θ];exact J⟩,by rw[o,q];exact P,by rw[c5,o,θ,q];exact K,M,λv v0 S=>by unfold ID;rw[c5];exact L v v0 U⟩);dsimp only;by_cases h:k<d.kg.length/\k<3
   .left;obtain⟨x,ex,c⟩:=qu (n:=u.em) (by rw[o.2.2];exact J) (AA d.kg k);refine⟨U,⟨u.d3,u.ei,u.em,u.kg++[x]⟩,?_,U,o,an,λy N=>(w?.1 N).elim (M y) λN=>x_.1 N▸c⟩;rw[ac b?,AD A.1 h.1,bs,ex,bs,AS a_,bs,AT (n:=k+1) U U]
   .right;rw[ae b?]
end Go.Sf.Sc
namespace Go.Sf.Sc
open Go Go.Sf
theorem xE:∀i:Fin 6,EI (nO (i.1:Int))=X/\EI (uS (i.1:Int))=X:=a!
theorem nP:∀i j:Fin 6,j<i->nO (j.1:Int)≠nO (i.1:Int)/\uS (j.1:Int)≠uS (i.1:Int):=a!
theorem wn:∀i:Fin 5,EI (sw (i.1:Int))=X:=a!
theorem wo:∀i j:Fin 5,j<i->sw (j.1:Int)≠sw (i.1:Int):=a!
variable{i:Int}
theorem mj{n:Nat}(c:0<=i)(d:i<n):∃k:Fin n,i=(k.1:Int):=⟨⟨i.toNat,U⟩,an⟩
theorem gU{i j:Int}{n:Nat}(c:0<=j)(d:j<i)(e:i<n):∃a b:Fin n,i=(a.1:Int)/\j=(b.1:Int)/\b<a:=⟨⟨i.toNat,U⟩,⟨j.toNat,U⟩,an,an,by simp[Fin.lt_def];omega⟩
variable{t:AC}{k:Int}
theorem RU(l:QS t k):∀(n:Nat)(a:Int),a<k->(B2 t n a).length<=n/\∀x∈B2 t n a,∃j,0<=j/\j<=a/\Xt x j
 |0,a,_=>by simp[B2]|n+1,a,ha=>by
  rw [B2];split
  .simp
  .have m:=l.node a U ha;have q:par t a<a:=m.par.2;obtain⟨i1,i2⟩:=RU l n (par t a) U;rcases m.own with e|⟨b,e,hb⟩<;>rw[e]
   .rw[List.append_nil];exact⟨U,λx c=>by obtain⟨j,d,o,h⟩:=i2 x c;exact⟨j,d,U,h⟩⟩
   .refine⟨an,λx c=>(w?.1 c).elim (λc=>?_) λc=>?_⟩
    .obtain⟨j,d,o,h⟩:=i2 x c;exact⟨j,d,U,h⟩
    .exact⟨a,U,v? _,x_.1 c▸hb⟩
theorem km(h:Fx t)(A:0<=i)(B:i<t.ci.length):I4 t i=0:=by
 have l:=h.n.node i A B;have H:=h.ea;obtain⟨l1,-⟩:=RU h.n (i+1).toNat i B;have I:par t i<i:=l.par.2;have no:kq (λj=>(AA t.ci j).kp==(AA t.ci i).kp) 0 i=false:=by
  rw [Bool.eq_false_iff,Ne,Cu];rintro⟨j,m,o,e⟩;rw[(h.n.node j m U).nm,l.nm,beq_iff_eq]at e;obtain⟨a,b,x,y,d⟩:=gU (n:=6) m o U;exact(nP a b d).1 (by rw[<-x,<-y,e])
 obtain ⟨k,E⟩:=mj (n:=6) A U;have isn:=xE k;rw[<-E]at isn;unfold I4;dsimp only;have e:A4 t i=B2 t i.toNat (par t i)++(AA t.ci i).pr:=by
  unfold A4;rw[show(i+1).toNat=i.toNat+1 by omega,B2,ae U]
 rw [no,l.nm,isn.1,ae a!,ae a!,ae (by have:=l.par;omega),ae (by have:=l.Abo;unfold A4;omega),BC.2,Option.getD_none];intro k r u;rw[IZ,e]at *;rcases l.own with ho|⟨a,ho,ha⟩<;>rw[ho]at r u|-
 .simp at r u;omega
 .simp at r u;obtain rfl:k=(B2 t i.toNat (par t i)).length:=U
  obtain ⟨-,q⟩:=RU h.n i.toNat (par t i) U;have w:kq (λj=>(AA (B2 t i.toNat (par t i)++[a]) j).kp==a.kp) 0 ((B2 t i.toNat (par t i)).length:Int)=false:=by
   rw [Bool.eq_false_iff,Ne,Cu];rintro⟨j,m,o,e⟩;rw[Lj _ _ m o,beq_iff_eq]at e;obtain⟨c,F,J,G⟩:=q _ (AF m o);rw[G.name,ha.name]at e;obtain⟨a,b,x,y,d⟩:=gU (n:=6) F (show c<i by omega) U;exact(nP a b d).2 (by rw[<-x,<-y,e])
  unfold M7;dsimp only;rw[M6 _ _ rfl,w,ha.name,isn.2,ae a!,ae a!];rcases ha.low with⟨z,C,D,K⟩|⟨z,C,D⟩
  .rw[z,ac (show([]:List ByteArray).length=0 from rfl),ac U]
  .rw[z,C,D];decide
theorem kN(h:Fx t)(l:0<=i)(o:i<t.c9.length):LB t i=0:=by
 have A:=h.eb;obtain⟨q,u,w⟩:=h.en i l o;have no:kq (λj=>(AA t.c9 j).kp==(AA t.c9 i).kp) 0 i=false:=by
  rw [Bool.eq_false_iff,Ne,Cu];rintro⟨j,r,z,e⟩;rw[(h.en j r U).1,q,beq_iff_eq]at e;obtain⟨a,b,x,y,m⟩:=gU (n:=5) r z U;exact wo a b m (by rw[<-x,<-y,e])
 obtain ⟨k,d⟩:=mj (n:=5) l U;have c:=(h.edge _ (AF l o)).2;unfold LB;dsimp only;rw[no,q,d,wn k,ae a!,ae a!,ac ⟨by rw[<-d];exact c.1,by rw[<-d];exact c.2,by rw[<-d];exact u,by rw[<-d];exact w⟩]
theorem Fx.zero(h:Fx t):(BD t).2=0:=by
 have:=h.pos;have:=h.ea;have:=h.eb;unfold BD;rw[ae U,ae U,BC.2 (λi c i1=>by rw[km h c i1];rfl)];dsimp only;rw[BC.2 (λi c i1=>by rw[kN h c i1];rfl)];rfl
variable{g:d3}
theorem Uo(c:∀n∈g.ci,n<t.ci.length)(d:∀e∈g.c9,e.j4<t.c9.length):C0 t g=X:=by
 unfold C0;simp;exact⟨c,d⟩
theorem SZ.ok(d:Fx t)(h:SZ t g):Cp g/\C0 t g=X:=by
 have:=h.ea;have:=h.eb;have:=d.ea;have:=d.eb;exact⟨⟨U,U,λn c=>by have:=h.kind n c;omega,λe he=>by have:=h.fit e he;unfold Uz at this;omega⟩,Uo (λn c=>(h.kind n c).2) λe he=>(h.fit e he).1.2⟩
theorem Ul{n:Int}{l:List Test}(d:0<=n)(e:n<=12)(j:l.length<=40)(h:∀x∈l,LZ n x=0):Jr n l=0:=by
 unfold Jr;rw[ae U,ae U,BC.2 (λi c i1=>IZ.2 (h _ (AF c i1)))];rfl
variable{p:d6}
theorem kA.zero(c:Fx t)(h:kA t p):FD t p=0:=by
 obtain ⟨j,l⟩:=h.g.ok c;have hv:=h.vars;have d:=h.slots;have q:=h.tests;unfold FD;rw[ae (by simp[c.zero]),ae (by simp[EH j]),ae (by simp[l]),ae U,ae U,ae,ae (by simp[Ul hv.1 (show p.em<=12 by omega) U h.test]),ae]
 .rw[Cu];rintro⟨v,m,o,e⟩;rw[h.occ v m o]at e;cases e
 .rw[List.any_eq_true];rintro⟨s,d,e⟩;obtain⟨⟨a1,a2⟩,a3,r⟩:=h.slot s d;unfold TE Sg at e;rw[ae U]at e;dsimp only at e;rw[ae U]at e;simp at e;omega
end Go.Sf.Sc
