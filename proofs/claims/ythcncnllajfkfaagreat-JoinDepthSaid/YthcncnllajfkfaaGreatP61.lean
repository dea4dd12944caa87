/- Plain lemmas: what the functions of the program and of the reference compute. -/
import Derived.Test.YthcncnllajfkfaaGreatP46
set_option linter.all false
set_option maxRecDepth 100000
open Option renaming some->Y
open Bool renaming true->X
open Int renaming le_refl->w_,tdiv_eq_ediv_of_nonneg->w!
open ByteArray renaming size_extract->w?
open List renaming mem_append->x_,mem_singleton->x!
namespace Go.Sf.Sc
open Go Go.Sf
variable{σ ρ:Type}{f:σ×Int->Option (B0 (σ×Int) ρ)}{s:σ}{a:Int}
theorem y5(I:Int->σ->Prop)(b:Int)(o:I a s)
  (step:∀i s,a<=i->I i s->(i<b/\∃s',f (s,i)=Y (.next (s',i+1))/\I (i+1) s')\/f (s,i)=Y (.brk (s,i))):∃i s',a<=i/\I i s'/\f (s',i)=Y (.brk (s',i))/\C3 f (s,a)=Y (.inl (s',i)):=by
 have key:∀(n:Nat)(i:Int)(s:σ),a<=i->I i s->b-i<=n->∃j s',i<=j/\I j s'/\f (s',j)=Y (.brk (s',j))/\MU f (s,i) (.inl (s',j)):=by
  intro n
  induction n with
  |zero=>
   intro i s hi c hb;rcases step i s hi c with⟨h,_⟩|h
   .omega
   .exact⟨i,s,w_ _,c,h,.brk h⟩
  |succ n u=>
   intro i s hi c hb;rcases step i s hi c with⟨_,s',q,r⟩|h
   .obtain⟨j,s2,m,d,e,l⟩:=u (i+1) s' U r U;exact⟨j,s2,U,d,e,.next q l⟩
   .exact⟨i,s,w_ _,c,h,.brk h⟩
 obtain ⟨j,s',m,d,e,l⟩:=key (b-a).toNat a s (w_ _) o U;exact⟨j,s',m,d,e,l.eq⟩
variable{β:Type}{Q:β->Prop}
theorem E1{k:σ×Int->Option β}{c:ρ->Option β}(I:Int->σ->Prop)(b:Int)(d:I a s)
  (step:∀i s,a<=i->I i s->(i<b/\∃s',f (s,i)=Y (.next (s',i+1))/\I (i+1) s')\/f (s,i)=Y (.brk (s,i)))(e:∀i s,a<=i->I i s->f (s,i)=Y (.brk (s,i))->∃r,k (s,i)=Y r/\Q r):∃r,em (C3 f (s,a)) k c=Y r/\Q r:=by
 obtain ⟨i,s',h,j,l,m⟩:=y5 I b d step;rw[m,B2];exact e i s' h j l
variable{b:Int}
theorem Ot{f:Int->σ->Option σ}{k:σ->Option β}(I:Int->σ->Prop)(c:a<=b)(d:I a s)(h:∀i s,a<=i->i<b->I i s->∃s',f i s=Y s'/\I (i+1) s')(e:∀s,I b s->∃r,k s=Y r/\Q r):∃r,(n8 f a b s).bind k=Y r/\Q r:=by
 obtain ⟨s',j,l⟩:=QG I c d h;rw[j,bs];exact e s' l
theorem Cb(ha:0<=a)(hb:0<b):∃r,DZ a b=Y r/\0<=r/\r<b:=by
 unfold DZ;rw[ae U,Int.tmod_eq_emod_of_nonneg ha];exact⟨_,rfl,Int.emod_nonneg _ U,Int.emod_lt_of_pos _ hb⟩
theorem Y0(hb:b≠0):∃r,DZ a b=Y r:=by
 unfold DZ;rw[ae hb];exact⟨_,rfl⟩
theorem Zl(ha:0<=a)(hb:0<b):∃r,quo a b=Y r/\0<=r/\r<=a:=by
 unfold quo;rw[ae U,w! ha];exact⟨_,rfl,Int.ediv_nonneg ha U,Int.ediv_le_self _ ha⟩
theorem tX(a:Int):0<=IntKind.u8.wrap a/\IntKind.u8.wrap a<256:=by
 have e:IntKind.u8.wrap a=a % 256:=by
  unfold IntKind.wrap;simp[IntKind.signed,IntKind.bits]
 rw [e];omega
instance:Inhabited Lx:=⟨⟨0,0⟩⟩
instance:Inhabited KO:=⟨⟨0,0,0⟩⟩
instance:Inhabited Ta:=⟨⟨0,0,0,0⟩⟩
instance:Inhabited Ky:=⟨⟨0,0⟩⟩
def U8(x:Int):Prop:=0<=x/\x<256
def U2(a:Lx):Prop:=U8 a.a0/\U8 a.a1
def U3(a:KO):Prop:=U8 a.a0/\U8 a.a1/\U8 a.a2
theorem U8.w{x:Int}(h:U8 x):AJ x=x:=AT (by have:=h.1;omega) (by have:=h.2;omega)
def nV(i:Int):ByteArray:=(⟨#[65,66,67,68,69,70]⟩:ByteArray).extract i.toNat (i+1).toNat
def uS(i:Int):ByteArray:=(⟨#[117,118,119,120,121,122]⟩:ByteArray).extract i.toNat (i+1).toNat
def tC(i:Int):ByteArray:=(⟨#[101,102,103,104,105]⟩:ByteArray).extract i.toNat (i+1).toNat
structure Xw(a:kp)(i:Int):Prop where
 name:a.ln=uS i
 low:(a.sr=[]/\a.Low=-3/\3<=a.Aaf/\a.Aaf<=11)\/a.sr=[(⟨#[111,102,102]⟩:ByteArray),(⟨#[111,110]⟩:ByteArray)]/\a.Low=0/\a.Aaf=1
structure RW(n:Ba)(i:Int):Prop where
 nm:n.ln=nV i
 par:-1<=n.wl/\n.wl<i
 own:n.qo=[]\/∃a,n.qo=[a]/\Xw a i
variable{n:Ba}{i:Int}
theorem RW.name(h:RW n i):n.ln.size<=40:=by
 rw [h.nm,nV,w?];show min _ 6-_<=40;omega
theorem Xw.few{a:kp}(h:Xw a i):T5 a:=by
 have e:a.ln.size<=40:=by
  rw [h.name,uS,w?];show min _ 6-_<=40;omega
 rcases h.low with⟨k,_⟩|⟨k,_⟩
 .exact⟨U,by simp[k],by simp[k]⟩
 .refine⟨U,by simp[k],λx c=>?_⟩;simp only[k,List.mem_cons,List.not_mem_nil,or_false]at c;rcases c with rfl|rfl<;>decide
theorem RW.Abg(h:RW n i):n.qo.length<=1:=by
 rcases h.own with k|⟨a,k,_⟩<;>simp[k]
theorem RW.each(h:RW n i):∀a∈n.qo,T5 a:=by
 rcases h.own with k|⟨b,k,hb⟩<;>grind[Xw.few]
structure QZ(t:AC)(i:Int):Prop where
 len:(t.d3.length:Int)=i
 node:∀k:Int,0<=k->k<i->RW (AA t.d3 k) k
variable{t:AC}
theorem QZ.app(h:QZ t i)(d:RW n i):QZ ⟨t.d3++[n],t.d4⟩ (i+1):=by
 refine ⟨by simp[<-h.len],λk c j=>?_⟩;have l:=h.len;by_cases e:k=i
 .subst e;rw[show AA (t.d3++[n]) k=n from NC _ _ U];exact d
 .rw[show AA (t.d3++[n]) k=AA t.d3 k from Ll _ _ c U];exact h.node k c U
theorem qZ{s:ByteArray}(c:0<=i)(h:i+1<=s.size):(s.extract i.toNat (i+1).toNat).size<=40:=by
 rw [w?];omega
theorem S5{i x0 x1:Int}(z:0<=i)(i1:i<6)(x:U8 x0)(A:U8 x1)(u:QZ t i):∃y,((Aam (⟨#[65,66,67,68,69,70]⟩:ByteArray) i (AJ (i+1))).bind λl=>
 (DZ (AJ x0) (AJ (i+1))).bind λc=>
 (quo x0 16).bind λm=>
 (DZ (IntKind.u8.wrap m) 4).bind λe=>
 (Aam (⟨#[117,118,119,120,121,122]⟩:ByteArray) i (AJ (i+1))).bind λr=>
 (DZ x1 4).bind λo=>
 if (decide (o=1))=X then
 (quo x1 4).bind λh=>
 (DZ (AJ (IntKind.u8.wrap h)) 9).bind λj=>
 (AY t.d3 [Ba.mk l (AJ (c-1)) (decide (e=3)) [kp.mk r (-3) (AJ (3+j)) []]]).bind λd=>
 Y (B0.next (ρ:=AC) (AC.mk d t.d4,AJ (i+1)))
 else
 if (decide (o=2))=X then
 (AY t.d3 [Ba.mk l (AJ (c-1)) (decide (e=3)) [kp.mk r 0 1 [(⟨#[111,102,102]⟩:ByteArray),(⟨#[111,110]⟩:ByteArray)]]]).bind λd=>
 Y (.next (AC.mk d t.d4,AJ (i+1)))
 else
 (AY t.d3 [Ba.mk l (AJ (c-1)) (decide (e=3)) []]).bind λd=>
 Y (.next (AC.mk d t.d4,AJ (i+1))))=Y (.next (y,i+1))/\QZ y (i+1)/\y.d4=t.d4:=by
 have H:=u.len;rw[AT (n:=i+1) U U,Jo z U (by show i+1<=((6:Nat):Int);omega),bs,x.w];obtain⟨c,B,J,K⟩:=Cb x.1 (show 0<i+1 by omega);obtain⟨m,C,_⟩:=Zl x.1 (show(0:Int)<16 by omega);obtain⟨e,D⟩:=Y0 (a:=IntKind.u8.wrap m) (show(4:Int)≠0 by omega);obtain⟨o,E⟩:=Y0 (a:=x1) (show(4:Int)≠0 by omega);obtain⟨h,F,_⟩:=Zl A.1 (show(0:Int)<4 by omega);have I:=tX h;obtain⟨j,G,L,M⟩:=Cb (show 0<=AJ (IntKind.u8.wrap h)by rw[AT U U];omega) (show(0:Int)<9 by omega);have q:∀n:Ba,AY t.d3 [n]=Y (t.d3++[n]):=λn=>AS a_;rw[B,bs,C,bs,D,bs,Jo z U (by show i+1<=((6:Nat):Int);omega),bs,E,bs,F,bs,G,bs,q,q,q,AT (n:=c-1) U U];simp only[bs];split
 .exact⟨_,rfl,u.app ⟨rfl,b!,.inr ⟨_,rfl,rfl,.inl ⟨rfl,rfl,by show 3<=AJ (3+j)/\AJ (3+j)<=11;rw[AT U U];omega⟩⟩⟩,rfl⟩
 .split
  .exact⟨_,rfl,u.app ⟨rfl,b!,.inr ⟨_,rfl,rfl,.inr ⟨rfl,rfl,rfl⟩⟩⟩,rfl⟩
  .exact⟨_,rfl,u.app ⟨rfl,b!,.inl rfl⟩,rfl⟩
def EnM(t:AC):Prop:=∀k:Int,0<=k->k<t.d4.length->(AA t.d4 k).ln=tC k/\Ma (AA t.d4 k).AaS (AA t.d4 k).AaD=X/\Ma (AA t.d4 k).Abn (AA t.d4 k).AaU=X
structure Fx(t:AC):Prop where
 n:QZ t t.d3.length
 pos:0<t.d3.length
 ec:t.d3.length<=6
 eh:t.d4.length<=5
 edge:∀e∈t.d4,e.ln.size<=40/\(0<=e.ke/\e.ke<t.d3.length)/\0<=e.To/\e.To<t.d3.length
 en:EnM t
theorem Fx.few(h:Fx t):A3 t:=by
 have c:∀n∈t.d3,∃i,RW n i:=λn c=>by
  obtain ⟨i,j,i1,rfl⟩:=BT c;exact⟨i,h.n.node i j i1⟩
 refine ⟨by have:=h.ec;omega,by have:=h.eh;omega,λn d=>?_,λn d=>?_,λn d=>?_,λe he=>?_⟩
 .obtain⟨i,k⟩:=c n d;have:=k.name;omega
 .obtain⟨i,k⟩:=c n d;have:=k.Abg;omega
 .obtain⟨i,k⟩:=c n d;exact k.each
 .have:=(h.edge e he).1;omega
theorem Fx.par(h:Fx t):E2 t t.d3.length:=λi c i1=>(h.n.node i c i1).par
theorem Fx.below(h:Fx t)(ha:0<=a)(c:a<t.d3.length)(hb:0<=b):∃r,FE t a b=Y r:=
 ⟨_,D0 (a+2).toNat λn d=>Xg h.par hb n (a+1).toNat a U c U U⟩
theorem q8{ec eh:List Lx}(F:∀x∈ec,U2 x)(he:∀x∈eh,U2 x):∃t,Pe ec eh=Y t/\Fx t:=by
 unfold Pe;refine E1 (λi t=>(0<=i/\i<=6)/\QZ t i/\t.d4=[]) 6 ⟨U,⟨rfl,λk y o=>U⟩,rfl⟩ (λi t H⟨hi,q,d⟩=>?_) (λi t H⟨hi,q,d⟩c=>?_)
 .dsimp only;by_cases C:i=0\/(i<ec.length/\i<6)
  .left;have fl:∀{ζ:Option (B0 (AC×Int) AC)},(∃m,ζ=Y (.next (m,i+1))/\QZ m (i+1)/\m.d4=t.d4)->i<6/\∃s',ζ=Y (.next (s',i+1))/\(0<=i+1/\i+1<=6)/\QZ s' (i+1)/\s'.d4=[]:=λ⟨m,a1,a2,a3⟩=>⟨U,m,a1,U,a2,a3.trans d⟩;refine fl ?_;rw[ac an];by_cases h:i<ec.length
   .rw[ac b?,AD hi.1 h,bs];have l:=F _ (AF hi.1 h);exact S5 (t:=t) hi.1 U l.1 l.2 q
   .rw[ae b?];exact S5 (t:=t) (x0:=0) (x1:=0) hi.1 U ⟨U,U⟩ ⟨U,U⟩ q
  .right;rw[ae an]
 .have G:0<i:=by
   by_cases e:i=0
   .subst e;dsimp only at c;rw[ac V]at c;by_cases h:(0:Int)<ec.length
    .rw[ac b?,AD U h,bs]at c;have l:=F _ (AF U h);obtain⟨m,a1,_⟩:=S5 (t:=t) U U l.1 l.2 q;rw[a1]at c;cases c
    .rw[ae b?]at c;obtain⟨m,a1,_⟩:=S5 (t:=t) (x0:=0) (x1:=0) U U ⟨U,U⟩ ⟨U,U⟩ q;rw[a1]at c;cases c
   .omega
  have h:=q.len;dsimp only;refine E1 (λj u=>(0<=j/\j<=5)/\u.d3=t.d3/\(u.d4.length:Int)=j/\(∀e∈u.d4,e.ln.size<=40/\(0<=e.ke/\e.ke<u.d3.length)/\0<=e.To/\e.To<u.d3.length)/\EnM u) 5 ⟨U,rfl,by rw[d];rfl,(λe he=>by rw[d]at he;cases he),λk _ o=>by rw[d]at o;simp at o;omega⟩
   (λj u I⟨z,r,J,D,E⟩=>?_) (λj u I⟨z,r,J,D,E⟩_=>?_)
  .dsimp only;by_cases C:j<eh.length/\j<5
   .left;have l:=he _ (AF z.1 C.1);have B:(0:Int)<u.d3.length:=by rw[r];omega
    obtain ⟨K,L,a1,a2⟩:=Cb (show 0<=AJ (AA eh j).a0 by rw[l.1.w];exact l.1.1) B;obtain⟨M,N,O,P⟩:=Cb (show 0<=AJ (AA eh j).a1 by rw[l.2.w];exact l.2.1) B;refine⟨U,⟨u.d3,u.d4++[⟨(⟨#[101,102,103,104,105]⟩:ByteArray).extract j.toNat (j+1).toNat,K,M,0,-1,0,-1⟩]⟩,?_,U,r,an,?_,?_⟩
    .rw[ac v5,AT (n:=j+1) U U,Jo z.1 U (by show j+1<=((5:Nat):Int);omega),bs,AD z.1 C.1,bs,L,bs,bs,N,bs,AS a_,bs]
    .intro e A;rcases x_.1 A with A|A
     .exact D e A
     .rw[x!.1 A];exact⟨qZ z.1 (by show j+1<=((5:Nat):Int);omega),⟨a1,a2⟩,O,P⟩
    .intro k y o;by_cases e:k=j
     .rw[show AA (u.d4++_) k=_ from NC _ _ U,e];exact⟨rfl,rfl,rfl⟩
     .simp at o;rw[show AA (u.d4++_) k=AA u.d4 k from Ll _ _ y U];exact E k y U
   .right;rw[ae an]
  .refine⟨u,rfl,⟨rfl,λk y o=>?_⟩,by rw[r];omega,by rw[r];omega,U,D,E⟩;rw[r]at o|-;exact q.node k y U
end Go.Sf.Sc
namespace Go.Sf.Sc
open Go Go.Sf
variable{β:Type}{Q:β->Prop}
theorem a7{n:Nat}{f:Int->Fp->Option Fp}{k:Fp->Option β}(o:n<=1000)(h:∀(i:Int)s,0<=i->i<n->∃b:Bool,f i s=if b=X then(AY s [i]).bind λx=>Y x else Y s)
  (j:∀l:Fp,l.length<=n->(∀x∈l,0<=x/\x<(n:Int))->∃r,k l=Y r/\Q r):∃r,(n8 f 0 (n:Int) []).bind k=Y r/\Q r:=by
 refine Ot (λi l=>(l.length:Int)<=i/\∀x∈l,0<=x/\x<(n:Int)) U ⟨V,λx c=>by cases c⟩ (λi l e i1⟨m,d⟩=>?_) (λl⟨m,d⟩=>j l U d);obtain⟨b,hb⟩:=h i l e i1;rw[hb];cases b
 .exact⟨l,rfl,U,d⟩
 .rw[ac rfl,AS a_];refine⟨l++[i],rfl,an,λx c=>?_⟩;rcases x_.1 c with c|c
  .exact d x c
  .rw[x!.1 c];exact⟨e,i1⟩
def VB(t:AC)(n:Int)(e:Bx):Prop:=(0<=e.kg/\e.kg<t.d4.length)/\(0<=e.ke/\e.ke<n)/\(0<=e.To/\e.To<n)
structure Sj(t:AC)(g:d5):Prop where
 ec:g.d3.length<=8
 eh:g.d4.length<=10
 kind:∀n∈g.d3,0<=n/\n<t.d3.length
 fit:∀e∈g.d4,VB t g.d3.length e
variable{t:AC}{g:d5}{k:Int}
theorem jZ(h:Fx t)(c:Sj t g)(j:0<=k):∃l,L5 t g k=Y l/\(l.length<=1000/\∀x∈l,0<=x/\x<g.d3.length):=by
 unfold L5;refine a7 (by have:=c.ec;omega) (λi s d i1=>?_) (λl o m=>⟨l,rfl,by have:=c.ec;omega,m⟩);have e:=c.kind _ (AF d i1);obtain⟨b,hb⟩:=h.below e.1 e.2 j;exact⟨b,by rw[AD d i1,bs,hb,bs]⟩
structure mK(d:N7):Prop where
 ec:∀x∈d.d3,U8 x
 eh:∀x∈d.d4,U3 x
theorem rA(q:Fx t){d:N7}(hd:mK d)(E:Bool):∃g,Pl t d E=Y g/\Sj t g:=by
 unfold Pl;have N:=q.ec;have O:=q.eh;refine a7 U (λi s A i1=>?_) (λkinds δ K=>?_)
 .cases E
  .exact⟨!(AA t.d3 i).sc,by rw[ae a!,AD A i1];simp only[bs]⟩
  .exact⟨X,rfl⟩
 refine E1 (λi g=>(0<=i/\i<=8)/\((g.d3.length:Int)<=i/\g.d4=[])/\∀n∈g.d3,0<=n/\n<(t.d3.length:Int)) 8 ⟨U,⟨V,rfl⟩,λn m=>by cases m⟩ (λi g A⟨a1,a2,a3⟩=>?_) (λi g A⟨a1,a2,a3⟩_=>?_)
 .dsimp only;by_cases c:(i<d.d3.length/\i<8)/\0<(kinds.length:Int)
  .left;have l:=hd.ec _ (AF a1.1 c.1.1);obtain⟨r,B,o,h⟩:=Cb (show 0<=AJ (AA d.d3 i)by rw[l.w];exact l.1) c.2;refine⟨U,⟨g.d3++[AA kinds r],g.d4⟩,?_,U,⟨an,a2.2⟩,λn m=>?_⟩
   .rw[ac r!,AD a1.1 c.1.1,bs,B,bs,AD o h,bs,AS a_,bs,AT (n:=i+1) U U]
   .rcases x_.1 m with m|m
    .exact a3 n m
    .rw[x!.1 m];exact K _ (AF o h)
  .right;rw[ae r!]
 .dsimp only;refine E1 (λj u=>(0<=j/\j<=10)/\u.d3=g.d3/\(u.d4.length:Int)<=j/\∀e∈u.d4,VB t u.d3.length e) 10 ⟨U,rfl,by rw[a2.2];simp,by rw[a2.2];intro e he;cases he⟩ (λj u L⟨o,h,M,x⟩=>?_) (λj u L⟨o,h,M,x⟩_=>?_)
  .dsimp only;by_cases c:(j<d.d4.length/\j<10)/\0<(t.d4.length:Int)
   .left;have l:=hd.eh _ (AF o.1 c.1.1);obtain⟨r,B,C,D⟩:=Cb (show 0<=AJ (AA d.d4 j).a0 by rw[l.1.w];exact l.1.1) c.2;have y:=(q.edge _ (AF C D)).2;have F:Sj t u:=⟨by rw[h];omega,U,by rw[h];exact a3,x⟩;obtain⟨l1,P,m1,R⟩:=jZ q F y.1.1;obtain⟨l2,S,Z,θ⟩:=jZ q F y.2.1;refine⟨U,?_⟩;rw[ac r!,AD o.1 c.1.1,bs,B,bs,AD C D,bs,P,bs,bs,S,bs,AT (n:=j+1) U U];by_cases z:0<(l1.length:Int)/\0<(l2.length:Int)
    .obtain⟨ε,κ,G,H⟩:=Cb (show 0<=AJ (AA d.d4 j).a1 by rw[l.2.1.w];exact l.2.1.1) z.1;obtain⟨η,ζ,I,J⟩:=Cb (show 0<=AJ (AA d.d4 j).a2 by rw[l.2.2.w];exact l.2.2.1) z.2;refine⟨⟨u.d3,u.d4++[⟨r,AA l1 ε,AA l2 η⟩]⟩,?_,U,h,an,λe he=>(x_.1 he).elim (x e) λhe=>?_⟩
     .rw[ac l?,bs,κ,bs,AD G H,bs,bs,ζ,bs,AD I J,bs,AS a_,bs]
     .rw[x!.1 he];exact⟨⟨C,D⟩,R _ (AF G H),θ _ (AF I J)⟩
    .rw[ae l?];exact⟨u,rfl,U,h,U,x⟩
   .right;rw[ae r!]
  .exact⟨u,rfl,by rw[h];omega,U,by rw[h];exact a3,x⟩
structure mN(d:OB):Prop where
 g:mK d.d5
 slots:∀x∈d.ek,U3 x
structure y9(p:ea):Prop where
 ec:p.d5.d3.length<=8
 eh:p.d5.d4.length<=10
 slots:p.ek.length<=4
 tests:p.kl.length<=3
 vars:0<=p.fd/\p.fd<=3
def pU(t:AC)(g:d5)(a b:Int):Prop:=(0<=a/\a<g.d3.length)/\0<=b/\b<(Ff t (AA g.d3 a)).1.length
def RX(t:AC)(g:d5)(v:Int)(s:CA):Prop:=pU t g s.po s.kp/\(-1<=s.gt.Var/\s.gt.Var<v)/\-100<=s.gt.Add/\s.gt.Add<=100
structure kF(t:AC)(p:ea):Prop extends y9 p where
 g:Sj t p.d5
 slot:∀s∈p.ek,RX t p.d5 p.fd s
 test:∀x∈p.kl,Lb p.fd x=0
 occ:∀v:Int,0<=v->v<p.fd->IB p v=X
theorem ji{a b r:Int}(h:DZ a b=Y r)(hb:0<b):-b<r/\r<b:=by
 unfold DZ at h;rw[ae U]at h;exact Option.some.inj h▸⟨Int.lt_tmod_of_pos a hb,Int.tmod_lt_of_pos a hb⟩
variable{a b:Int}
theorem lY(hb:0<b)(c:b<=1000):∃r,GH a b=Y r/\0<=r/\r<b:=by
 unfold GH;obtain⟨r,e⟩:=Y0 (a:=a) (show b≠0 by omega);have:=ji e hb;obtain⟨d,h,k⟩:=Cb (a:=AJ (r+b)) d? hb;rw[e,bs,h];exact⟨d,rfl,k⟩
theorem qz{n:Int}(h:0<=n/\n<=3)(c:Ta):∃x,Pd n c=Y x/\Lb n x=0:=by
 unfold Pd;obtain⟨d,j,a1,a2⟩:=lY (a:=AJ c.a0) (show(0:Int)<4 by omega) U;obtain⟨l,m,w,y⟩:=lY (a:=AJ c.a1) (show 0<n+1 by omega) U;obtain⟨o,q,z,A⟩:=lY (a:=AJ c.a2) (show 0<n+1 by omega) U;obtain⟨B,e⟩:=Y0 (a:=AJ c.a3) (show(12:Int)≠0 by omega);have r:=ji e U;rw[j,bs,quo,ae U,bs,AT (n:=n+1) U U,m,bs,q,bs,e];refine⟨_,rfl,?_⟩;have u:d.tdiv 3=0\/d.tdiv 3=1:=by rw[w! a1];omega
 rw [AT (n:=l-1) U U,AT (n:=o-1) U U,AT (n:=d.tdiv 3) U U,AT (n:=1+d.tdiv 3) U U];unfold Lb Oc;rw[ae b!,ac an]
theorem RX.up{v w:Int}{s:CA}(h:RX t g v s)(hv:v<=w):RX t g w s:=⟨h.1,⟨h.2.1.1,by have:=h.2.1.2;omega⟩,h.2.2⟩
variable{p:ea}{v:Int}
theorem ua{s:CA}{q:ea}(c:q.ek=p.ek++[s]):IB q v=(IB p v||decide (s.gt.Var=v)):=by
 unfold IB;rw[c,List.any_append];simp
theorem oG(E:Fx t){d:OB}(hd:mN d):∃p,Pm t d=Y p/\kF t p:=by
 unfold Pm;obtain⟨g,eg,R⟩:=rA E hd.g X;rw[eg,bs];have hgn:=R.ec;have hge:=R.eh;refine E1 (λi l=>(0<=i/\i<=g.d3.length)/\(l.length:Int)<=600*i/\∀x∈l,pU t g x.a0 x.a1) g.d3.length ⟨U,V,λx c=>by cases c⟩ (λi l κ⟨a1,a2,a3⟩=>?_) (λi l κ⟨a1,a2,a3⟩_=>?_)
 .dsimp only;by_cases h:i<g.d3.length
  .left;refine⟨h,?_⟩;rw[ac b?,AD a1.1 h,bs,O1 E.few,bs];have hal:=(UB E.few (AA g.d3 i)).1;obtain⟨s,e,C,S⟩:=QG (f:=λ(i2:Int)(s2:List Ky)=>(AY s2 [Ky.mk i i2]).bind λF=>Y F) (λk(s:List Ky)=>(s.length:Int)<=600*i+k/\∀x∈s,pU t g x.a0 x.a1) (a:=0) (b:=((Ff t (AA g.d3 i)).1.length:Int)) (s:=l) U ⟨U,a3⟩ (λk s G η C=>⟨s++[⟨i,k⟩],by rw[AS a_,bs],an,λx c=>(x_.1 c).elim (C.2 x) λc=>by rw[x!.1 c];exact⟨⟨a1.1,h⟩,G,η⟩⟩);rw[e,bs,AT (n:=i+1) U U];exact⟨s,rfl,U,U,S⟩
  .right;rw[ae b?]
 .dsimp only;refine E1 (λj p=>(0<=j/\j<=4)/\p.d5=g/\((p.ek.length:Int)<=j/\p.kl=[])/\(0<=p.fd/\p.fd<=3)/\(∀s∈p.ek,RX t g p.fd s)/\∀v:Int,0<=v->v<p.fd->IB p v=X) 4 ⟨U,rfl,⟨V,rfl⟩,V,(λs C=>by cases C),λv h1 H=>by simp at H;omega⟩ (λj p ζ⟨I,q,D,J,K,L⟩=>?_) (λj p ζ⟨I,q,D,J,K,L⟩_=>?_)
  .dsimp only;by_cases h:(j<d.ek.length/\j<4)/\0<(l.length:Int)
   .left;have c:=hd.slots _ (AF I.1 h.1.1);obtain⟨r,e1,A,o⟩:=Cb (show 0<=AJ (AA d.ek j).a0 by rw[c.1.w];exact c.1.1) h.2;obtain⟨r1,e2,f1,f2⟩:=Cb (show 0<=AJ (AA d.ek j).a1 by rw[c.2.1.w];exact c.2.1.1) (show(0:Int)<5 by omega);obtain⟨r2,e3,f3,f4⟩:=Cb (show 0<=AJ (AA d.ek j).a2 by rw[c.2.2.w];exact c.2.2.1) (show(0:Int)<5 by omega);have P:∀s:CA,AY p.ek [s]=Y (p.ek++[s]):=λs=>AS a_;have m:=a3 _ (AF A o);refine⟨U,?_⟩;rw[ac b?,AD I.1 h.1.1,bs,e1,bs,AD A o,bs,e2,bs,e3,bs,AT (n:=j+1) U U,AT (n:=p.fd+1) U U,AT (n:=r1-1) U U,AT (n:=r2-2) U U];simp only[P,bs];have add:∀(v:Int)(s:CA),p.fd<=v->v<=3->RX t g v s->(∀x:Int,p.fd<=x->x<v->s.gt.Var=x)->(0<=j+1/\j+1<=4)/\p.d5=g/\(((p.ek++[s]).length:Int)<=j+1/\p.kl=[])/\(0<=v/\v<=3)/\(∀s'∈p.ek++[s],RX t g v s')/\∀x:Int,0<=x->x<v->IB ⟨p.d5,p.ek++[s],v,p.kl⟩ x=X:=λv s θ v2 δ Z=>by
     refine ⟨U,q,⟨an,D.2⟩,U,λs' z=>(x_.1 z).elim (λz=>(K s' z).up θ) λz=>x!.1 z▸δ,λx x0 x1=>?_⟩;rw[ua (p:=p) (s:=s) rfl];by_cases k:x<p.fd
     .rw[L x x0 k];rfl
     .rw[Z x U x1];simp
    split
    .split
     next B=>rw[tn]at B;exact⟨_,rfl,add 3 _ U U ⟨m,b!,b!⟩ (λx _ _=>U)⟩
     next B=>rw[tn]at B;exact⟨_,rfl,add (p.fd+1) _ U U ⟨m,b!,b!⟩ (λx _ _=>b!)⟩
    .rename_i H;rw[tn]at H;split
     next B=>rw[tn]at B;omega
     .exact⟨_,rfl,add p.fd _ U U ⟨m,b!,b!⟩ (λx _ _=>U)⟩
   .right;rw[ae b?]
  .dsimp only;refine E1 (λk u=>(0<=k/\k<=3)/\(u.d5=p.d5/\u.ek=p.ek/\u.fd=p.fd)/\(u.kl.length:Int)<=k/\∀x∈u.kl,Lb u.fd x=0) 3 ⟨U,⟨rfl,rfl,rfl⟩,by rw[D.2];simp,by rw[D.2];intro x c;cases c⟩ (λk u G⟨A,o,c3,M⟩=>?_) (λk u G⟨A,⟨o,N,ε⟩,c3,M⟩_=>⟨u,rfl,⟨by rw[o,q];omega,by rw[o,q];omega,by rw[N];omega,U,by rw[ε];exact J⟩,by rw[o,q];exact R,by rw[N,o,ε,q];exact K,M,λv v0 θ=>by unfold IB;rw[N];exact L v v0 U⟩);dsimp only;by_cases h:k<d.kl.length/\k<3
   .left;obtain⟨x,ex,c⟩:=qz (n:=u.fd) (by rw[o.2.2];exact J) (AA d.kl k);refine⟨U,⟨u.d5,u.ek,u.fd,u.kl++[x]⟩,?_,U,o,an,λy O=>(x_.1 O).elim (M y) λO=>x!.1 O▸c⟩;rw[ac b?,AD A.1 h.1,bs,ex,bs,AS a_,bs,AT (n:=k+1) U U]
   .right;rw[ae b?]
end Go.Sf.Sc
namespace Go.Sf.Sc
open Go Go.Sf
theorem xP:∀i:Fin 6,EJ (nV (i.1:Int))=X/\EJ (uS (i.1:Int))=X:=a!
theorem nW:∀i j:Fin 6,j<i->nV (j.1:Int)≠nV (i.1:Int)/\uS (j.1:Int)≠uS (i.1:Int):=a!
theorem wz:∀i:Fin 5,EJ (tC (i.1:Int))=X:=a!
theorem w2:∀i j:Fin 5,j<i->tC (j.1:Int)≠tC (i.1:Int):=a!
variable{i:Int}
theorem mz{n:Nat}(c:0<=i)(d:i<n):∃k:Fin n,i=(k.1:Int):=⟨⟨i.toNat,U⟩,an⟩
theorem gW{i j:Int}{n:Nat}(c:0<=j)(d:j<i)(e:i<n):∃a b:Fin n,i=(a.1:Int)/\j=(b.1:Int)/\b<a:=⟨⟨i.toNat,U⟩,⟨j.toNat,U⟩,an,an,by simp[Fin.lt_def];omega⟩
variable{t:AC}{k:Int}
theorem Rd(l:QZ t k):∀(n:Nat)(a:Int),a<k->(B1 t n a).length<=n/\∀x∈B1 t n a,∃j,0<=j/\j<=a/\Xw x j
 |0,a,_=>by simp[B1]|n+1,a,ha=>by
  rw [B1];split
  .simp
  .have m:=l.node a U ha;have q:par t a<a:=m.par.2;obtain⟨i1,i2⟩:=Rd l n (par t a) U;rcases m.own with e|⟨b,e,hb⟩<;>rw[e]
   .rw[List.append_nil];exact⟨U,λx c=>by obtain⟨j,d,o,h⟩:=i2 x c;exact⟨j,d,U,h⟩⟩
   .refine⟨an,λx c=>(x_.1 c).elim (λc=>?_) λc=>?_⟩
    .obtain⟨j,d,o,h⟩:=i2 x c;exact⟨j,d,U,h⟩
    .exact⟨a,U,w_ _,x!.1 c▸hb⟩
theorem k8(h:Fx t)(A:0<=i)(B:i<t.d3.length):I3 t i=0:=by
 have l:=h.n.node i A B;have H:=h.ec;obtain⟨l1,-⟩:=Rd h.n (i+1).toNat i B;have I:par t i<i:=l.par.2;have no:l3 (λj=>(AA t.d3 j).ln==(AA t.d3 i).ln) 0 i=false:=by
  rw [Bool.eq_false_iff,Ne,Cu];rintro⟨j,m,o,e⟩;rw[(h.n.node j m U).nm,l.nm,beq_iff_eq]at e;obtain⟨a,b,x,y,d⟩:=gW (n:=6) m o U;exact(nW a b d).1 (by rw[<-x,<-y,e])
 obtain ⟨k,E⟩:=mz (n:=6) A U;have isn:=xP k;rw[<-E]at isn;unfold I3;dsimp only;have e:A4 t i=B1 t i.toNat (par t i)++(AA t.d3 i).qo:=by
  unfold A4;rw[show(i+1).toNat=i.toNat+1 by omega,B1,ae U]
 rw [no,l.nm,isn.1,ae a!,ae a!,ae (by have:=l.par;omega),ae (by have:=l.Abg;unfold A4;omega),BH.2,Option.getD_none];intro k r u;rw[IX,e]at *;rcases l.own with ho|⟨a,ho,ha⟩<;>rw[ho]at r u|-
 .simp at r u;omega
 .simp at r u;obtain rfl:k=(B1 t i.toNat (par t i)).length:=U
  obtain ⟨-,q⟩:=Rd h.n i.toNat (par t i) U;have w:l3 (λj=>(AA (B1 t i.toNat (par t i)++[a]) j).ln==a.ln) 0 ((B1 t i.toNat (par t i)).length:Int)=false:=by
   rw [Bool.eq_false_iff,Ne,Cu];rintro⟨j,m,o,e⟩;rw[Ll _ _ m o,beq_iff_eq]at e;obtain⟨c,F,J,G⟩:=q _ (AF m o);rw[G.name,ha.name]at e;obtain⟨a,b,x,y,d⟩:=gW (n:=6) F (show c<i by omega) U;exact(nW a b d).2 (by rw[<-x,<-y,e])
  unfold ND;dsimp only;rw[NC _ _ rfl,w,ha.name,isn.2,ae a!,ae a!];rcases ha.low with⟨z,C,D,K⟩|⟨z,C,D⟩
  .rw[z,ac (show([]:List ByteArray).length=0 from rfl),ac U]
  .rw[z,C,D];decide
theorem kT(h:Fx t)(l:0<=i)(o:i<t.d4.length):LC t i=0:=by
 have A:=h.eh;obtain⟨q,u,w⟩:=h.en i l o;have no:l3 (λj=>(AA t.d4 j).ln==(AA t.d4 i).ln) 0 i=false:=by
  rw [Bool.eq_false_iff,Ne,Cu];rintro⟨j,r,z,e⟩;rw[(h.en j r U).1,q,beq_iff_eq]at e;obtain⟨a,b,x,y,m⟩:=gW (n:=5) r z U;exact w2 a b m (by rw[<-x,<-y,e])
 obtain ⟨k,d⟩:=mz (n:=5) l U;have c:=(h.edge _ (AF l o)).2;unfold LC;dsimp only;rw[no,q,d,wz k,ae a!,ae a!,ac ⟨by rw[<-d];exact c.1,by rw[<-d];exact c.2,by rw[<-d];exact u,by rw[<-d];exact w⟩]
theorem Fx.zero(h:Fx t):(BC t).2=0:=by
 have:=h.pos;have:=h.ec;have:=h.eh;unfold BC;rw[ae U,ae U,BH.2 (λi c i1=>by rw[k8 h c i1];rfl)];dsimp only;rw[BH.2 (λi c i1=>by rw[kT h c i1];rfl)];rfl
variable{g:d5}
theorem Uw(c:∀n∈g.d3,n<t.d3.length)(d:∀e∈g.d4,e.kg<t.d4.length):C0 t g=X:=by
 unfold C0;simp;exact⟨c,d⟩
theorem Sj.ok(d:Fx t)(h:Sj t g):Cp g/\C0 t g=X:=by
 have:=h.ec;have:=h.eh;have:=d.ec;have:=d.eh;exact⟨⟨U,U,λn c=>by have:=h.kind n c;omega,λe he=>by have:=h.fit e he;unfold VB at this;omega⟩,Uw (λn c=>(h.kind n c).2) λe he=>(h.fit e he).1.2⟩
theorem Ut{n:Int}{l:List Test}(d:0<=n)(e:n<=12)(j:l.length<=40)(h:∀x∈l,Lb n x=0):Js n l=0:=by
 unfold Js;rw[ae U,ae U,BH.2 (λi c i1=>IX.2 (h _ (AF c i1)))];rfl
variable{p:ea}
theorem kF.zero(c:Fx t)(h:kF t p):FD t p=0:=by
 obtain ⟨j,l⟩:=h.g.ok c;have hv:=h.vars;have d:=h.slots;have q:=h.tests;unfold FD;rw[ae (by simp[c.zero]),ae (by simp[EI j]),ae (by simp[l]),ae U,ae U,ae,ae (by simp[Ut hv.1 (show p.fd<=12 by omega) U h.test]),ae]
 .rw[Cu];rintro⟨v,m,o,e⟩;rw[h.occ v m o]at e;cases e
 .rw[List.any_eq_true];rintro⟨s,d,e⟩;obtain⟨⟨a1,a2⟩,a3,r⟩:=h.slot s d;unfold TN Sr at e;rw[ae U]at e;dsimp only at e;rw[ae U]at e;simp at e;omega
end Go.Sf.Sc
