/- Plain lemmas: what the functions of the program and of the reference compute. -/
import Derived.Test.YtfcfkigfmofniaaGreatP46
set_option linter.all false
set_option maxRecDepth 100000
open Option renaming some->Y
open Bool renaming true->X
open Int renaming le_refl->u!,tdiv_eq_ediv_of_nonneg->u?
open ByteArray renaming size_extract->v1
open List renaming mem_append->v5,mem_singleton->v6
namespace Go.Sf.Sc
open Go Go.Sf
variable{σ ρ:Type}{f:σ×Int->Option (Be (σ×Int) ρ)}{s:σ}{a:Int}
theorem tf(I:Int->σ->Prop)(b:Int)(o:I a s)
  (step:∀i s,a<=i->I i s->(i<b/\∃s',f (s,i)=Y (.next (s',i+1))/\I (i+1) s')\/f (s,i)=Y (.brk (s,i))):∃i s',a<=i/\I i s'/\f (s',i)=Y (.brk (s',i))/\CY f (s,a)=Y (.inl (s',i)):=by
 have key:∀(n:Nat)(i:Int)(s:σ),a<=i->I i s->b-i<=n->∃j s',i<=j/\I j s'/\f (s',j)=Y (.brk (s',j))/\Ks f (s,i) (.inl (s',j)):=by
  intro n
  induction n with
  |zero=>
   intro i s hi c q;rcases step i s hi c with⟨h,_⟩|h
   .omega
   .exact⟨i,s,u! _,c,h,.brk h⟩
  |succ n w=>
   intro i s hi c q;rcases step i s hi c with⟨_,s',r,u⟩|h
   .obtain⟨j,s2,m,d,e,l⟩:=w (i+1) s' U u U;exact⟨j,s2,U,d,e,.next r l⟩
   .exact⟨i,s,u! _,c,h,.brk h⟩
 obtain ⟨j,s',m,d,e,l⟩:=key (b-a).toNat a s (u! _) o U;exact⟨j,s',m,d,e,l.eq⟩
variable{β:Type}{Q:β->Prop}
theorem EH{k:σ×Int->Option β}{c:ρ->Option β}(I:Int->σ->Prop)(b:Int)(d:I a s)
  (step:∀i s,a<=i->I i s->(i<b/\∃s',f (s,i)=Y (.next (s',i+1))/\I (i+1) s')\/f (s,i)=Y (.brk (s,i)))(e:∀i s,a<=i->I i s->f (s,i)=Y (.brk (s,i))->∃r,k (s,i)=Y r/\Q r):∃r,ek (CY f (s,a)) k c=Y r/\Q r:=by
 obtain ⟨i,s',h,j,l,m⟩:=tf I b d step;rw[m,Bc];exact e i s' h j l
variable{b:Int}
theorem M8{f:Int->σ->Option σ}{k:σ->Option β}(I:Int->σ->Prop)(c:a<=b)(d:I a s)(h:∀i s,a<=i->i<b->I i s->∃s',f i s=Y s'/\I (i+1) s')(e:∀s,I b s->∃r,k s=Y r/\Q r):∃r,(ns f a b s).bind k=Y r/\Q r:=by
 obtain ⟨s',j,l⟩:=Mw I c d h;rw[j,bs];exact e s' l
theorem B4(c:0<=a)(d:0<b):∃r,Cf a b=Y r/\0<=r/\r<b:=by
 unfold Cf;rw[az U,Int.tmod_eq_emod_of_nonneg c];exact⟨_,rfl,Int.emod_nonneg _ U,Int.emod_lt_of_pos _ d⟩
theorem XI(c:b≠0):∃r,Cf a b=Y r:=by
 unfold Cf;rw[az c];exact⟨_,rfl⟩
theorem Xt(c:0<=a)(d:0<b):∃r,quo a b=Y r/\0<=r/\r<=a:=by
 unfold quo;rw[az U,u? c];exact⟨_,rfl,Int.ediv_nonneg c U,Int.ediv_le_self _ c⟩
theorem oH(a:Int):0<=IntKind.u8.wrap a/\IntKind.u8.wrap a<256:=by
 have e:IntKind.u8.wrap a=a % 256:=by
  unfold IntKind.wrap;simp[IntKind.signed,IntKind.bits]
 rw [e];omega
instance:Inhabited DF:=⟨⟨0,0⟩⟩
instance:Inhabited I1:=⟨⟨0,0,0⟩⟩
instance:Inhabited Rj:=⟨⟨0,0,0,0⟩⟩
instance:Inhabited Jb:=⟨⟨0,0⟩⟩
def U8(x:Int):Prop:=0<=x/\x<256
def U2(a:DF):Prop:=U8 a.a0/\U8 a.a1
def U3(a:I1):Prop:=U8 a.a0/\U8 a.a1/\U8 a.a2
theorem U8.w{x:Int}(h:U8 x):AH x=x:=AV (by have:=h.1;omega) (by have:=h.2;omega)
def iT(i:Int):ByteArray:=(⟨#[65,66,67,68,69,70]⟩:ByteArray).extract i.toNat (i+1).toNat
def uS(i:Int):ByteArray:=(⟨#[117,118,119,120,121,122]⟩:ByteArray).extract i.toNat (i+1).toNat
def nc(i:Int):ByteArray:=(⟨#[101,102,103,104,105]⟩:ByteArray).extract i.toNat (i+1).toNat
structure V7(a:mh)(i:Int):Prop where
 name:a.mt=uS i
 low:(a.sc=[]/\a.zu=-3/\3<=a.yr/\a.yr<=11)\/a.sc=[(⟨#[111,102,102]⟩:ByteArray),(⟨#[111,110]⟩:ByteArray)]/\a.zu=0/\a.yr=1
structure P3(n:BD)(i:Int):Prop where
 nm:n.mt=iT i
 par:-1<=n.x6/\n.x6<i
 own:n.qo=[]\/∃a,n.qo=[a]/\V7 a i
variable{n:BD}{i:Int}
theorem P3.name(h:P3 n i):n.mt.size<=40:=by
 rw [h.nm,iT,v1];show min _ 6-_<=40;omega
theorem V7.few{a:mh}(h:V7 a i):SG a:=by
 have e:a.mt.size<=40:=by
  rw [h.name,uS,v1];show min _ 6-_<=40;omega
 rcases h.low with⟨k,_⟩|⟨k,_⟩
 .exact⟨U,by simp[k],by simp[k]⟩
 .refine⟨U,by simp[k],λx c=>?_⟩;simp only[k,List.mem_cons,List.not_mem_nil,or_false]at c;rcases c with rfl|rfl<;>decide
theorem P3.Aaw(h:P3 n i):n.qo.length<=1:=by
 rcases h.own with k|⟨a,k,_⟩<;>simp[k]
theorem P3.each(h:P3 n i):∀a∈n.qo,SG a:=by
 rcases h.own with k|⟨b,k,c⟩<;>grind[V7.few]
structure Ov(t:eb)(i:Int):Prop where
 len:(t.ca.length:Int)=i
 node:∀k:Int,0<=k->k<i->P3 (AA t.ca k) k
variable{t:eb}
theorem Ov.app(h:Ov t i)(d:P3 n i):Ov ⟨t.ca++[n],t.ci⟩ (i+1):=by
 refine ⟨by simp[<-h.len],λk c j=>?_⟩;have l:=h.len;by_cases e:k=i
 .subst e;rw[show AA (t.ca++[n]) k=n from LX _ _ U];exact d
 .rw[show AA (t.ca++[n]) k=AA t.ca k from Kv _ _ c U];exact h.node k c U
theorem lO{s:ByteArray}(c:0<=i)(h:i+1<=s.size):(s.extract i.toNat (i+1).toNat).size<=40:=by
 rw [v1];omega
theorem RF{i x0 x1:Int}(z:0<=i)(H:i<6)(x:U8 x0)(A:U8 x1)(u:Ov t i):∃y,((y6 (⟨#[65,66,67,68,69,70]⟩:ByteArray) i (AH (i+1))).bind λl=>
 (Cf (AH x0) (AH (i+1))).bind λc=>
 (quo x0 16).bind λm=>
 (Cf (IntKind.u8.wrap m) 4).bind λe=>
 (y6 (⟨#[117,118,119,120,121,122]⟩:ByteArray) i (AH (i+1))).bind λr=>
 (Cf x1 4).bind λo=>
 if (decide (o=1))=X then
 (quo x1 4).bind λh=>
 (Cf (AH (IntKind.u8.wrap h)) 9).bind λj=>
 (AT t.ca [BD.mk l (AH (c-1)) (decide (e=3)) [mh.mk r (-3) (AH (3+j)) []]]).bind λd=>
 Y (Be.next (ρ:=eb) (eb.mk d t.ci,AH (i+1)))
 else
 if (decide (o=2))=X then
 (AT t.ca [BD.mk l (AH (c-1)) (decide (e=3)) [mh.mk r 0 1 [(⟨#[111,102,102]⟩:ByteArray),(⟨#[111,110]⟩:ByteArray)]]]).bind λd=>
 Y (.next (eb.mk d t.ci,AH (i+1)))
 else
 (AT t.ca [BD.mk l (AH (c-1)) (decide (e=3)) []]).bind λd=>
 Y (.next (eb.mk d t.ci,AH (i+1))))=Y (.next (y,i+1))/\Ov y (i+1)/\y.ci=t.ci:=by
 have I:=u.len;rw[AV (n:=i+1) U U,IV z U (by show i+1<=((6:Nat):Int);omega),bs,x.w];obtain⟨c,B,K,L⟩:=B4 x.1 (show 0<i+1 by omega);obtain⟨m,C,_⟩:=Xt x.1 (show(0:Int)<16 by omega);obtain⟨e,D⟩:=XI (a:=IntKind.u8.wrap m) (show(4:Int)≠0 by omega);obtain⟨o,E⟩:=XI (a:=x1) (show(4:Int)≠0 by omega);obtain⟨h,F,_⟩:=Xt A.1 (show(0:Int)<4 by omega);have J:=oH h;obtain⟨j,G,M,N⟩:=B4 (show 0<=AH (IntKind.u8.wrap h)by rw[AV U U];omega) (show(0:Int)<9 by omega);have q:∀n:BD,AT t.ca [n]=Y (t.ca++[n]):=λn=>AQ a9;rw[B,bs,C,bs,D,bs,IV z U (by show i+1<=((6:Nat):Int);omega),bs,E,bs,F,bs,G,bs,q,q,q,AV (n:=c-1) U U];simp only[bs];split
 .exact⟨_,rfl,u.app ⟨rfl,b_,.inr ⟨_,rfl,rfl,.inl ⟨rfl,rfl,by show 3<=AH (3+j)/\AH (3+j)<=11;rw[AV U U];omega⟩⟩⟩,rfl⟩
 .split
  .exact⟨_,rfl,u.app ⟨rfl,b_,.inr ⟨_,rfl,rfl,.inr ⟨rfl,rfl,rfl⟩⟩⟩,rfl⟩
  .exact⟨_,rfl,u.app ⟨rfl,b_,.inl rfl⟩,rfl⟩
def ws(t:eb):Prop:=∀k:Int,0<=k->k<t.ci.length->(AA t.ci k).mt=nc k/\Kw (AA t.ci k).zV (AA t.ci k).zx=X/\Kw (AA t.ci k).Aao (AA t.ci k).zU=X
structure ET(t:eb):Prop where
 n:Ov t t.ca.length
 pos:0<t.ca.length
 ea:t.ca.length<=6
 ec:t.ci.length<=5
 edge:∀e∈t.ci,e.mt.size<=40/\(0<=e.kq/\e.kq<t.ca.length)/\0<=e.To/\e.To<t.ca.length
 en:ws t
theorem ET.few(h:ET t):Ai t:=by
 have c:∀n∈t.ca,∃i,P3 n i:=λn c=>by
  obtain ⟨i,j,l,rfl⟩:=BR c;exact⟨i,h.n.node i j l⟩
 refine ⟨by have:=h.ea;omega,by have:=h.ec;omega,λn d=>?_,λn d=>?_,λn d=>?_,λe he=>?_⟩
 .obtain⟨i,k⟩:=c n d;have:=k.name;omega
 .obtain⟨i,k⟩:=c n d;have:=k.Aaw;omega
 .obtain⟨i,k⟩:=c n d;exact k.each
 .have:=(h.edge e he).1;omega
theorem ET.par(h:ET t):Et t t.ca.length:=λi c d=>(h.n.node i c d).par
theorem ET.below(h:ET t)(e:0<=a)(c:a<t.ca.length)(d:0<=b):∃r,FE t a b=Y r:=
 ⟨_,D3 (a+2).toNat λn j=>Vr h.par d n (a+1).toNat a U c U U⟩
theorem li{ea ec:List DF}(F:∀x∈ea,U2 x)(he:∀x∈ec,U2 x):∃t,Nv ea ec=Y t/\ET t:=by
 unfold Nv;refine EH (λi t=>(0<=i/\i<=6)/\Ov t i/\t.ci=[]) 6 ⟨U,⟨rfl,λk y o=>U⟩,rfl⟩ (λi t H⟨hi,q,d⟩=>?_) (λi t H⟨hi,q,d⟩c=>?_)
 .dsimp only;by_cases C:i=0\/(i<ea.length/\i<6)
  .left;have fu:∀{ζ:Option (Be (eb×Int) eb)},(∃m,ζ=Y (.next (m,i+1))/\Ov m (i+1)/\m.ci=t.ci)->i<6/\∃s',ζ=Y (.next (s',i+1))/\(0<=i+1/\i+1<=6)/\Ov s' (i+1)/\s'.ci=[]:=λ⟨m,a1,a2,a3⟩=>⟨U,m,a1,U,a2,a3.trans d⟩;refine fu ?_;rw[ae an];by_cases h:i<ea.length
   .rw[ae c_,AC hi.1 h,bs];have l:=F _ (AF hi.1 h);exact RF (t:=t) hi.1 U l.1 l.2 q
   .rw[az c_];exact RF (t:=t) (x0:=0) (x1:=0) hi.1 U ⟨U,U⟩ ⟨U,U⟩ q
  .right;rw[az an]
 .have G:0<i:=by
   by_cases e:i=0
   .subst e;dsimp only at c;rw[ae V]at c;by_cases h:(0:Int)<ea.length
    .rw[ae c_,AC U h,bs]at c;have l:=F _ (AF U h);obtain⟨m,a1,_⟩:=RF (t:=t) U U l.1 l.2 q;rw[a1]at c;cases c
    .rw[az c_]at c;obtain⟨m,a1,_⟩:=RF (t:=t) (x0:=0) (x1:=0) U U ⟨U,U⟩ ⟨U,U⟩ q;rw[a1]at c;cases c
   .omega
  have h:=q.len;dsimp only;refine EH (λj u=>(0<=j/\j<=5)/\u.ca=t.ca/\(u.ci.length:Int)=j/\(∀e∈u.ci,e.mt.size<=40/\(0<=e.kq/\e.kq<u.ca.length)/\0<=e.To/\e.To<u.ca.length)/\ws u) 5 ⟨U,rfl,by rw[d];rfl,(λe he=>by rw[d]at he;cases he),λk _ o=>by rw[d]at o;simp at o;omega⟩
   (λj u I⟨z,r,J,D,E⟩=>?_) (λj u I⟨z,r,J,D,E⟩_=>?_)
  .dsimp only;by_cases C:j<ec.length/\j<5
   .left;have l:=he _ (AF z.1 C.1);have B:(0:Int)<u.ca.length:=by rw[r];omega
    obtain ⟨K,L,a1,a2⟩:=B4 (show 0<=AH (AA ec j).a0 by rw[l.1.w];exact l.1.1) B;obtain⟨M,N,O,P⟩:=B4 (show 0<=AH (AA ec j).a1 by rw[l.2.w];exact l.2.1) B;refine⟨U,⟨u.ca,u.ci++[⟨(⟨#[101,102,103,104,105]⟩:ByteArray).extract j.toNat (j+1).toNat,K,M,0,-1,0,-1⟩]⟩,?_,U,r,an,?_,?_⟩
    .rw[ae s?,AV (n:=j+1) U U,IV z.1 U (by show j+1<=((5:Nat):Int);omega),bs,AC z.1 C.1,bs,L,bs,bs,N,bs,AQ a9,bs]
    .intro e A;rcases v5.1 A with A|A
     .exact D e A
     .rw[v6.1 A];exact⟨lO z.1 (by show j+1<=((5:Nat):Int);omega),⟨a1,a2⟩,O,P⟩
    .intro k y o;by_cases e:k=j
     .rw[show AA (u.ci++_) k=_ from LX _ _ U,e];exact⟨rfl,rfl,rfl⟩
     .simp at o;rw[show AA (u.ci++_) k=AA u.ci k from Kv _ _ y U];exact E k y U
   .right;rw[az an]
  .refine⟨u,rfl,⟨rfl,λk y o=>?_⟩,by rw[r];omega,by rw[r];omega,U,D,E⟩;rw[r]at o|-;exact q.node k y U
end Go.Sf.Sc
namespace Go.Sf.Sc
open Go Go.Sf
variable{β:Type}{Q:β->Prop}
theorem Yn{n:Nat}{f:Int->Fp->Option Fp}{k:Fp->Option β}(u:n<=1000)(h:∀(i:Int)s,0<=i->i<n->∃b:Bool,f i s=if b=X then(AT s [i]).bind λx=>Y x else Y s)
  (m:∀l:Fp,l.length<=n->(∀x∈l,0<=x/\x<(n:Int))->∃r,k l=Y r/\Q r):∃r,(ns f 0 (n:Int) []).bind k=Y r/\Q r:=by
 refine M8 (λi l=>(l.length:Int)<=i/\∀x∈l,0<=x/\x<(n:Int)) U ⟨V,λx c=>by cases c⟩ (λi l e j⟨o,d⟩=>?_) (λl⟨o,d⟩=>m l U d);obtain⟨b,q⟩:=h i l e j;rw[q];cases b
 .exact⟨l,rfl,U,d⟩
 .rw[ae rfl,AQ a9];refine⟨l++[i],rfl,an,λx c=>?_⟩;rcases v5.1 c with c|c
  .exact d x c
  .rw[v6.1 c];exact⟨e,j⟩
def Tl(t:eb)(n:Int)(e:Bo):Prop:=(0<=e.kp/\e.kp<t.ci.length)/\(0<=e.kq/\e.kq<n)/\(0<=e.To/\e.To<n)
structure Q0(t:eb)(g:d3):Prop where
 ea:g.ca.length<=8
 ec:g.ci.length<=10
 kind:∀n∈g.ca,0<=n/\n<t.ca.length
 fit:∀e∈g.ci,Tl t g.ca.length e
variable{t:eb}{g:d3}{k:Int}
theorem dZ(j:ET t)(c:Q0 t g)(m:0<=k):∃l,KN t g k=Y l/\(l.length<=1000/\∀x∈l,0<=x/\x<g.ca.length):=by
 unfold KN;refine Yn (by have:=c.ea;omega) (λi s d e=>?_) (λl r o=>⟨l,rfl,by have:=c.ea;omega,o⟩);have h:=c.kind _ (AF d e);obtain⟨b,q⟩:=j.below h.1 h.2 m;exact⟨b,by rw[AC d e,bs,q,bs]⟩
structure gV(d:Gt):Prop where
 ea:∀x∈d.ca,U8 x
 ec:∀x∈d.ci,U3 x
theorem lm(q:ET t){d:Gt}(hd:gV d)(E:Bool):∃g,N3 t d E=Y g/\Q0 t g:=by
 unfold N3;have O:=q.ea;have P:=q.ec;refine Yn U (λi s A K=>?_) (λkinds Z L=>?_)
 .cases E
  .exact⟨!(AA t.ca i).tg,by rw[az a?,AC A K];simp only[bs]⟩
  .exact⟨X,rfl⟩
 refine EH (λi g=>(0<=i/\i<=8)/\((g.ca.length:Int)<=i/\g.ci=[])/\∀n∈g.ca,0<=n/\n<(t.ca.length:Int)) 8 ⟨U,⟨V,rfl⟩,λn m=>by cases m⟩ (λi g A⟨a1,a2,a3⟩=>?_) (λi g A⟨a1,a2,a3⟩_=>?_)
 .dsimp only;by_cases c:(i<d.ca.length/\i<8)/\0<(kinds.length:Int)
  .left;have l:=hd.ea _ (AF a1.1 c.1.1);obtain⟨r,B,o,h⟩:=B4 (show 0<=AH (AA d.ca i)by rw[l.w];exact l.1) c.2;refine⟨U,⟨g.ca++[AA kinds r],g.ci⟩,?_,U,⟨an,a2.2⟩,λn m=>?_⟩
   .rw[ae o?,AC a1.1 c.1.1,bs,B,bs,AC o h,bs,AQ a9,bs,AV (n:=i+1) U U]
   .rcases v5.1 m with m|m
    .exact a3 n m
    .rw[v6.1 m];exact L _ (AF o h)
  .right;rw[az o?]
 .dsimp only;refine EH (λj u=>(0<=j/\j<=10)/\u.ca=g.ca/\(u.ci.length:Int)<=j/\∀e∈u.ci,Tl t u.ca.length e) 10 ⟨U,rfl,by rw[a2.2];simp,by rw[a2.2];intro e he;cases he⟩ (λj u M⟨o,h,N,x⟩=>?_) (λj u M⟨o,h,N,x⟩_=>?_)
  .dsimp only;by_cases c:(j<d.ci.length/\j<10)/\0<(t.ci.length:Int)
   .left;have l:=hd.ec _ (AF o.1 c.1.1);obtain⟨r,B,C,D⟩:=B4 (show 0<=AH (AA d.ci j).a0 by rw[l.1.w];exact l.1.1) c.2;have y:=(q.edge _ (AF C D)).2;have F:Q0 t u:=⟨by rw[h];omega,U,by rw[h];exact a3,x⟩;obtain⟨l1,R,m1,S⟩:=dZ q F y.1.1;obtain⟨l2,θ,n1,ε⟩:=dZ q F y.2.1;refine⟨U,?_⟩;rw[ae o?,AC o.1 c.1.1,bs,B,bs,AC C D,bs,R,bs,bs,θ,bs,AV (n:=j+1) U U];by_cases z:0<(l1.length:Int)/\0<(l2.length:Int)
    .obtain⟨κ,η,G,H⟩:=B4 (show 0<=AH (AA d.ci j).a1 by rw[l.2.1.w];exact l.2.1.1) z.1;obtain⟨ζ,δ,I,J⟩:=B4 (show 0<=AH (AA d.ci j).a2 by rw[l.2.2.w];exact l.2.2.1) z.2;refine⟨⟨u.ca,u.ci++[⟨r,AA l1 κ,AA l2 ζ⟩]⟩,?_,U,h,an,λe he=>(v5.1 he).elim (x e) λhe=>?_⟩
     .rw[ae p_,bs,η,bs,AC G H,bs,bs,δ,bs,AC I J,bs,AQ a9,bs]
     .rw[v6.1 he];exact⟨⟨C,D⟩,S _ (AF G H),ε _ (AF I J)⟩
    .rw[az p_];exact⟨u,rfl,U,h,U,x⟩
   .right;rw[az o?]
  .exact⟨u,rfl,by rw[h];omega,U,by rw[h];exact a3,x⟩
structure gZ(d:KO):Prop where
 g:gV d.d3
 slots:∀x∈d.ed,U3 x
structure ti(p:d7):Prop where
 ea:p.d3.ca.length<=8
 ec:p.d3.ci.length<=10
 slots:p.ed.length<=4
 tests:p.mo.length<=3
 vars:0<=p.ff/\p.ff<=3
def kM(t:eb)(g:d3)(a b:Int):Prop:=(0<=a/\a<g.ca.length)/\0<=b/\b<(Eg t (AA g.ca a)).1.length
def P4(t:eb)(g:d3)(v:Int)(s:Bw):Prop:=kM t g s.po s.mh/\(-1<=s.j4.Var/\s.j4.Var<v)/\-100<=s.j4.Add/\s.j4.Add<=100
structure eK(t:eb)(p:d7):Prop extends ti p where
 g:Q0 t p.d3
 slot:∀s∈p.ed,P4 t p.d3 p.ff s
 test:∀x∈p.mo,Jv p.ff x=0
 occ:∀v:Int,0<=v->v<p.ff->Gn p v=X
theorem di{a b r:Int}(h:Cf a b=Y r)(c:0<b):-b<r/\r<b:=by
 unfold Cf at h;rw[az U]at h;exact Option.some.inj h▸⟨Int.lt_tmod_of_pos a c,Int.tmod_lt_of_pos a c⟩
variable{a b:Int}
theorem fg(c:0<b)(d:b<=1000):∃r,FD a b=Y r/\0<=r/\r<b:=by
 unfold FD;obtain⟨r,e⟩:=XI (a:=a) (show b≠0 by omega);have:=di e c;obtain⟨h,j,k⟩:=B4 (a:=AH (r+b)) e_ c;rw[e,bs,j];exact⟨h,rfl,k⟩
theorem lh{n:Int}(h:0<=n/\n<=3)(c:Rj):∃x,Nu n c=Y x/\Jv n x=0:=by
 unfold Nu;obtain⟨d,j,a1,a2⟩:=fg (a:=AH c.a0) (show(0:Int)<4 by omega) U;obtain⟨l,m,w,y⟩:=fg (a:=AH c.a1) (show 0<n+1 by omega) U;obtain⟨o,q,z,A⟩:=fg (a:=AH c.a2) (show 0<n+1 by omega) U;obtain⟨B,e⟩:=XI (a:=AH c.a3) (show(12:Int)≠0 by omega);have r:=di e U;rw[j,bs,quo,az U,bs,AV (n:=n+1) U U,m,bs,q,bs,e];refine⟨_,rfl,?_⟩;have u:d.tdiv 3=0\/d.tdiv 3=1:=by rw[u? a1];omega
 rw [AV (n:=l-1) U U,AV (n:=o-1) U U,AV (n:=d.tdiv 3) U U,AV (n:=1+d.tdiv 3) U U];unfold Jv Mr;rw[az b_,ae an]
theorem P4.up{v w:Int}{s:Bw}(h:P4 t g v s)(hv:v<=w):P4 t g w s:=⟨h.1,⟨h.2.1.1,by have:=h.2.1.2;omega⟩,h.2.2⟩
variable{p:d7}{v:Int}
theorem oz{s:Bw}{q:d7}(c:q.ed=p.ed++[s]):Gn q v=(Gn p v||decide (s.j4.Var=v)):=by
 unfold Gn;rw[c,List.any_append];simp
theorem jC(E:ET t){d:KO}(hd:gZ d):∃p,N5 t d=Y p/\eK t p:=by
 unfold N5;obtain⟨g,eg,P⟩:=lm E hd.g X;rw[eg,bs];have hgn:=P.ea;have hge:=P.ec;refine EH (λi l=>(0<=i/\i<=g.ca.length)/\(l.length:Int)<=600*i/\∀x∈l,kM t g x.a0 x.a1) g.ca.length ⟨U,V,λx c=>by cases c⟩ (λi l κ⟨a1,a2,a3⟩=>?_) (λi l κ⟨a1,a2,a3⟩_=>?_)
 .dsimp only;by_cases h:i<g.ca.length
  .left;refine⟨h,?_⟩;rw[ae c_,AC a1.1 h,bs,NF E.few,bs];have hal:=(SL E.few (AA g.ca i)).1;obtain⟨s,e,C,R⟩:=Mw (f:=λ(ε:Int)(s2:List Jb)=>(AT s2 [Jb.mk i ε]).bind λF=>Y F) (λk(s:List Jb)=>(s.length:Int)<=600*i+k/\∀x∈s,kM t g x.a0 x.a1) (a:=0) (b:=((Eg t (AA g.ca i)).1.length:Int)) (s:=l) U ⟨U,a3⟩ (λk s G η C=>⟨s++[⟨i,k⟩],by rw[AQ a9,bs],an,λx c=>(v5.1 c).elim (C.2 x) λc=>by rw[v6.1 c];exact⟨⟨a1.1,h⟩,G,η⟩⟩);rw[e,bs,AV (n:=i+1) U U];exact⟨s,rfl,U,U,R⟩
  .right;rw[az c_]
 .dsimp only;refine EH (λj p=>(0<=j/\j<=4)/\p.d3=g/\((p.ed.length:Int)<=j/\p.mo=[])/\(0<=p.ff/\p.ff<=3)/\(∀s∈p.ed,P4 t g p.ff s)/\∀v:Int,0<=v->v<p.ff->Gn p v=X) 4 ⟨U,rfl,⟨V,rfl⟩,V,(λs C=>by cases C),λv h1 H=>by simp at H;omega⟩ (λj p ζ⟨I,q,D,J,K,L⟩=>?_) (λj p ζ⟨I,q,D,J,K,L⟩_=>?_)
  .dsimp only;by_cases h:(j<d.ed.length/\j<4)/\0<(l.length:Int)
   .left;have c:=hd.slots _ (AF I.1 h.1.1);obtain⟨r,e1,A,o⟩:=B4 (show 0<=AH (AA d.ed j).a0 by rw[c.1.w];exact c.1.1) h.2;obtain⟨r1,e2,f1,f2⟩:=B4 (show 0<=AH (AA d.ed j).a1 by rw[c.2.1.w];exact c.2.1.1) (show(0:Int)<5 by omega);obtain⟨r2,e3,f3,f4⟩:=B4 (show 0<=AH (AA d.ed j).a2 by rw[c.2.2.w];exact c.2.2.1) (show(0:Int)<5 by omega);have O:∀s:Bw,AT p.ed [s]=Y (p.ed++[s]):=λs=>AQ a9;have m:=a3 _ (AF A o);refine⟨U,?_⟩;rw[ae c_,AC I.1 h.1.1,bs,e1,bs,AC A o,bs,e2,bs,e3,bs,AV (n:=j+1) U U,AV (n:=p.ff+1) U U,AV (n:=r1-1) U U,AV (n:=r2-2) U U];simp only[O,bs];have add:∀(v:Int)(s:Bw),p.ff<=v->v<=3->P4 t g v s->(∀x:Int,p.ff<=x->x<v->s.j4.Var=x)->(0<=j+1/\j+1<=4)/\p.d3=g/\(((p.ed++[s]).length:Int)<=j+1/\p.mo=[])/\(0<=v/\v<=3)/\(∀s'∈p.ed++[s],P4 t g v s')/\∀x:Int,0<=x->x<v->Gn ⟨p.d3,p.ed++[s],v,p.mo⟩ x=X:=λv s S v2 δ Z=>by
     refine ⟨U,q,⟨an,D.2⟩,U,λs' z=>(v5.1 z).elim (λz=>(K s' z).up S) λz=>v6.1 z▸δ,λx x0 x1=>?_⟩;rw[oz (p:=p) (s:=s) rfl];by_cases k:x<p.ff
     .rw[L x x0 k];rfl
     .rw[Z x U x1];simp
    split
    .split
     next B=>rw[yk]at B;exact⟨_,rfl,add 3 _ U U ⟨m,b_,b_⟩ (λx _ _=>U)⟩
     next B=>rw[yk]at B;exact⟨_,rfl,add (p.ff+1) _ U U ⟨m,b_,b_⟩ (λx _ _=>b_)⟩
    .rename_i H;rw[yk]at H;split
     next B=>rw[yk]at B;omega
     .exact⟨_,rfl,add p.ff _ U U ⟨m,b_,b_⟩ (λx _ _=>U)⟩
   .right;rw[az c_]
  .dsimp only;refine EH (λk u=>(0<=k/\k<=3)/\(u.d3=p.d3/\u.ed=p.ed/\u.ff=p.ff)/\(u.mo.length:Int)<=k/\∀x∈u.mo,Jv u.ff x=0) 3 ⟨U,⟨rfl,rfl,rfl⟩,by rw[D.2];simp,by rw[D.2];intro x c;cases c⟩ (λk u G⟨A,o,c3,M⟩=>?_) (λk u G⟨A,⟨o,c5,θ⟩,c3,M⟩_=>⟨u,rfl,⟨by rw[o,q];omega,by rw[o,q];omega,by rw[c5];omega,U,by rw[θ];exact J⟩,by rw[o,q];exact P,by rw[c5,o,θ,q];exact K,M,λv v0 S=>by unfold Gn;rw[c5];exact L v v0 U⟩);dsimp only;by_cases h:k<d.mo.length/\k<3
   .left;obtain⟨x,ex,c⟩:=lh (n:=u.ff) (by rw[o.2.2];exact J) (AA d.mo k);refine⟨U,⟨u.d3,u.ed,u.ff,u.mo++[x]⟩,?_,U,o,an,λy N=>(v5.1 N).elim (M y) λN=>v6.1 N▸c⟩;rw[ae c_,AC A.1 h.1,bs,ex,bs,AQ a9,bs,AV (n:=k+1) U U]
   .right;rw[az c_]
end Go.Sf.Sc
namespace Go.Sf.Sc
open Go Go.Sf
theorem rq:∀i:Fin 6,Db (iT (i.1:Int))=X/\Db (uS (i.1:Int))=X:=a?
theorem iU:∀i j:Fin 6,j<i->iT (j.1:Int)≠iT (i.1:Int)/\uS (j.1:Int)≠uS (i.1:Int):=a?
theorem rP:∀i:Fin 5,Db (nc (i.1:Int))=X:=a?
theorem rQ:∀i j:Fin 5,j<i->nc (j.1:Int)≠nc (i.1:Int):=a?
variable{i:Int}
theorem iC{n:Nat}(c:0<=i)(d:i<n):∃k:Fin n,i=(k.1:Int):=⟨⟨i.toNat,U⟩,an⟩
theorem bn{i j:Int}{n:Nat}(c:0<=j)(d:j<i)(e:i<n):∃a b:Fin n,i=(a.1:Int)/\j=(b.1:Int)/\b<a:=⟨⟨i.toNat,U⟩,⟨j.toNat,U⟩,an,an,by simp[Fin.lt_def];omega⟩
variable{t:eb}{k:Int}
theorem P9(l:Ov t k):∀(n:Nat)(a:Int),a<k->(BZ t n a).length<=n/\∀x∈BZ t n a,∃j,0<=j/\j<=a/\V7 x j
 |0,a,_=>by simp[BZ]|n+1,a,u=>by
  rw [BZ];split
  .simp
  .have m:=l.node a U u;have w:par t a<a:=m.par.2;obtain⟨y,o⟩:=P9 l n (par t a) U;rcases m.own with e|⟨b,e,r⟩<;>rw[e]
   .rw[List.append_nil];exact⟨U,λx c=>by obtain⟨j,d,q,h⟩:=o x c;exact⟨j,d,U,h⟩⟩
   .refine⟨an,λx c=>(v5.1 c).elim (λc=>?_) λc=>?_⟩
    .obtain⟨j,d,q,h⟩:=o x c;exact⟨j,d,U,h⟩
    .exact⟨a,U,u! _,v6.1 c▸r⟩
theorem fK(h:ET t)(B:0<=i)(C:i<t.ca.length):Hl t i=0:=by
 have l:=h.n.node i B C;have I:=h.ea;obtain⟨l1,-⟩:=P9 h.n (i+1).toNat i C;have J:par t i<i:=l.par.2;have no:nd (λj=>(AA t.ca j).mt==(AA t.ca i).mt) 0 i=false:=by
  rw [Bool.eq_false_iff,Ne,CN];rintro⟨j,m,o,e⟩;rw[(h.n.node j m U).nm,l.nm,beq_iff_eq]at e;obtain⟨a,b,x,y,d⟩:=bn (n:=6) m o U;exact(iU a b d).1 (by rw[<-x,<-y,e])
 obtain ⟨k,F⟩:=iC (n:=6) B U;have isn:=rq k;rw[<-F]at isn;unfold Hl;dsimp only;have e:Ak t i=BZ t i.toNat (par t i)++(AA t.ca i).qo:=by
  unfold Ak;rw[show(i+1).toNat=i.toNat+1 by omega,BZ,az U]
 rw [no,l.nm,isn.1,az a?,az a?,az (by have:=l.par;omega),az (by have:=l.Aaw;unfold Ak;omega),Az.2,Option.getD_none];intro k r u;rw[FP,e]at *;rcases l.own with ho|⟨a,ho,z⟩<;>rw[ho]at r u|-
 .simp at r u;omega
 .simp at r u;obtain rfl:k=(BZ t i.toNat (par t i)).length:=U
  obtain ⟨-,q⟩:=P9 h.n i.toNat (par t i) U;have w:nd (λj=>(AA (BZ t i.toNat (par t i)++[a]) j).mt==a.mt) 0 ((BZ t i.toNat (par t i)).length:Int)=false:=by
   rw [Bool.eq_false_iff,Ne,CN];rintro⟨j,m,o,e⟩;rw[Kv _ _ m o,beq_iff_eq]at e;obtain⟨c,G,K,H⟩:=q _ (AF m o);rw[H.name,z.name]at e;obtain⟨a,b,x,y,d⟩:=bn (n:=6) G (show c<i by omega) U;exact(iU a b d).2 (by rw[<-x,<-y,e])
  unfold LY;dsimp only;rw[LX _ _ rfl,w,z.name,isn.2,az a?,az a?];rcases z.low with⟨A,D,E,L⟩|⟨A,D,E⟩
  .rw[A,ae (show([]:List ByteArray).length=0 from rfl),ae U]
  .rw[A,D,E];decide
theorem ee(h:ET t)(l:0<=i)(o:i<t.ci.length):Ji t i=0:=by
 have A:=h.ec;obtain⟨q,u,w⟩:=h.en i l o;have no:nd (λj=>(AA t.ci j).mt==(AA t.ci i).mt) 0 i=false:=by
  rw [Bool.eq_false_iff,Ne,CN];rintro⟨j,r,z,e⟩;rw[(h.en j r U).1,q,beq_iff_eq]at e;obtain⟨a,b,x,y,m⟩:=bn (n:=5) r z U;exact rQ a b m (by rw[<-x,<-y,e])
 obtain ⟨k,d⟩:=iC (n:=5) l U;have c:=(h.edge _ (AF l o)).2;unfold Ji;dsimp only;rw[no,q,d,rP k,az a?,az a?,ae ⟨by rw[<-d];exact c.1,by rw[<-d];exact c.2,by rw[<-d];exact u,by rw[<-d];exact w⟩]
theorem ET.zero(h:ET t):(As t).2=0:=by
 have:=h.pos;have:=h.ea;have:=h.ec;unfold As;rw[az U,az U,Az.2 (λi c d=>by rw[fK h c d];rfl)];dsimp only;rw[Az.2 (λi c d=>by rw[ee h c d];rfl)];rfl
variable{g:d3}
theorem S8(c:∀n∈g.ca,n<t.ca.length)(d:∀e∈g.ci,e.kp<t.ci.length):CP t g=X:=by
 unfold CP;simp;exact⟨c,d⟩
theorem Q0.ok(d:ET t)(h:Q0 t g):CQ g/\CP t g=X:=by
 have:=h.ea;have:=h.ec;have:=d.ea;have:=d.ec;exact⟨⟨U,U,λn c=>by have:=h.kind n c;omega,λe he=>by have:=h.fit e he;unfold Tl at this;omega⟩,S8 (λn c=>(h.kind n c).2) λe he=>(h.fit e he).1.2⟩
theorem S1{n:Int}{l:List Test}(e:0<=n)(j:n<=12)(m:l.length<=40)(h:∀x∈l,Jv n x=0):IX n l=0:=by
 unfold IX;rw[az U,az U,Az.2 (λi c d=>FP.2 (h _ (AF c d)))];rfl
variable{p:d7}
theorem eK.zero(c:ET t)(h:eK t p):EQ t p=0:=by
 obtain ⟨j,l⟩:=h.g.ok c;have hv:=h.vars;have d:=h.slots;have q:=h.tests;unfold EQ;rw[az (by simp[c.zero]),az (by simp[EY j]),az (by simp[l]),az U,az U,az,az (by simp[S1 hv.1 (show p.ff<=12 by omega) U h.test]),az]
 .rw[CN];rintro⟨v,m,o,e⟩;rw[h.occ v m o]at e;cases e
 .rw[List.any_eq_true];rintro⟨s,d,e⟩;obtain⟨⟨a1,a2⟩,a3,r⟩:=h.slot s d;unfold RX Q4 at e;rw[az U]at e;dsimp only at e;rw[az U]at e;simp at e;omega
end Go.Sf.Sc
