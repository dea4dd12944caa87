/- Plain lemmas: what the functions of the program and of the reference compute. -/
import Derived.Test.YtfcfkigfmofniaaGreatP46
set_option linter.all false
set_option maxRecDepth 100000
namespace Go.Sf.Sc
open Go Go.Sf
variable{σ ρ:Type}{f:σ×Int->Option (Bf (σ×Int) ρ)}{s:σ}{a:Int}
theorem tR(I:Int->σ->Prop)(b:Int)(o:I a s)
  (step:∀i s,a<=i->I i s->(i<b/\∃s',f (s,i)=some (.next (s',i+1))/\I (i+1) s')\/f (s,i)=some (.brk (s,i))):∃i s',a<=i/\I i s'/\f (s',i)=some (.brk (s',i))/\Ca f (s,a)=some (.inl (s',i)):=by
 have key:∀(n:Nat)(i:Int)(s:σ),a<=i->I i s->b-i<=n->∃j s',i<=j/\I j s'/\f (s',j)=some (.brk (s',j))/\L3 f (s,i) (.inl (s',j)):=by
  intro n
  induction n with
  |zero=>
   intro i s hi c q;rcases step i s hi c with⟨h,_⟩|h
   .omega
   .exact⟨i,s,Int.le_refl _,c,h,.brk h⟩
  |succ n w=>
   intro i s hi c q;rcases step i s hi c with⟨_,s',r,u⟩|h
   .obtain⟨j,s2,m,d,e,l⟩:=w (i+1) s' (by omega) u (by omega);exact⟨j,s2,by omega,d,e,.next r l⟩
   .exact⟨i,s,Int.le_refl _,c,h,.brk h⟩
 obtain ⟨j,s',m,d,e,l⟩:=key (b-a).toNat a s (Int.le_refl _) o (by omega);exact⟨j,s',m,d,e,l.eq⟩
variable{β:Type}{Q:β->Prop}
theorem EA{k:σ×Int->Option β}{c:ρ->Option β}(I:Int->σ->Prop)(b:Int)(d:I a s)
  (step:∀i s,a<=i->I i s->(i<b/\∃s',f (s,i)=some (.next (s',i+1))/\I (i+1) s')\/f (s,i)=some (.brk (s,i)))(e:∀i s,a<=i->I i s->f (s,i)=some (.brk (s,i))->∃r,k (s,i)=some r/\Q r):∃r,ek (Ca f (s,a)) k c=some r/\Q r:=by
 obtain ⟨i,s',h,j,l,m⟩:=tR I b d step;rw[m,Ba];exact e i s' h j l
variable{b:Int}
theorem M7{f:Int->σ->Option σ}{k:σ->Option β}(I:Int->σ->Prop)(c:a<=b)(d:I a s)(h:∀i s,a<=i->i<b->I i s->∃s',f i s=some s'/\I (i+1) s')(e:∀s,I b s->∃r,k s=some r/\Q r):∃r,(nd f a b s).bind k=some r/\Q r:=by
 obtain ⟨s',j,l⟩:=Mv I c d h;rw[j,bs];exact e s' l
theorem B4(c:0<=a)(d:0<b):∃r,Cf a b=some r/\0<=r/\r<b:=by
 unfold Cf;rw[az (by omega),Int.tmod_eq_emod_of_nonneg c];exact⟨_,rfl,Int.emod_nonneg _ (by omega),Int.emod_lt_of_pos _ d⟩
theorem W7(c:b≠0):∃r,Cf a b=some r:=by
 unfold Cf;rw[az c];exact⟨_,rfl⟩
theorem Xi(c:0<=a)(d:0<b):∃r,quo a b=some r/\0<=r/\r<=a:=by
 unfold quo;rw[az (by omega),Int.tdiv_eq_ediv_of_nonneg c];exact⟨_,rfl,Int.ediv_nonneg c (by omega),Int.ediv_le_self _ c⟩
theorem nw(a:Int):0<=IntKind.u8.wrap a/\IntKind.u8.wrap a<256:=by
 have e:IntKind.u8.wrap a=a % 256:=by
  unfold IntKind.wrap;simp[IntKind.signed,IntKind.bits]
 rw [e];omega
instance:Inhabited EY:=⟨⟨0,0⟩⟩
instance:Inhabited Iw:=⟨⟨0,0,0⟩⟩
instance:Inhabited Rd:=⟨⟨0,0,0,0⟩⟩
instance:Inhabited JX:=⟨⟨0,0⟩⟩
def U8(x:Int):Prop:=0<=x/\x<256
def U2(a:EY):Prop:=U8 a.a0/\U8 a.a1
def U3(a:Iw):Prop:=U8 a.a0/\U8 a.a1/\U8 a.a2
theorem U8.w{x:Int}(h:U8 x):AG x=x:=AV (by have:=h.1;omega) (by have:=h.2;omega)
def iD(i:Int):ByteArray:=(⟨#[65,66,67,68,69,70]⟩:ByteArray).extract i.toNat (i+1).toNat
def uS(i:Int):ByteArray:=(⟨#[117,118,119,120,121,122]⟩:ByteArray).extract i.toNat (i+1).toNat
def nP(i:Int):ByteArray:=(⟨#[101,102,103,104,105]⟩:ByteArray).extract i.toNat (i+1).toNat
structure Vx(a:kq)(i:Int):Prop where
 name:a.mr=uS i
 low:(a.r0=[]/\a.ze=-3/\3<=a.yl/\a.yl<=11)\/a.r0=[(⟨#[111,102,102]⟩:ByteArray),(⟨#[111,110]⟩:ByteArray)]/\a.ze=0/\a.yl=1
structure Px(n:BD)(i:Int):Prop where
 nm:n.mr=iD i
 par:-1<=n.x5/\n.x5<i
 own:n.pr=[]\/∃a,n.pr=[a]/\Vx a i
variable{n:BD}{i:Int}
theorem Px.name(h:Px n i):n.mr.size<=40:=by
 rw [h.nm,iD,ByteArray.size_extract];show min _ 6-_<=40;omega
theorem Vx.few{a:kq}(h:Vx a i):SD a:=by
 have e:a.mr.size<=40:=by
  rw [h.name,uS,ByteArray.size_extract];show min _ 6-_<=40;omega
 rcases h.low with⟨k,_⟩|⟨k,_⟩
 .exact⟨by omega,by simp[k],by simp[k]⟩
 .refine⟨by omega,by simp[k],fun x c=>?_⟩;simp only[k,List.mem_cons,List.not_mem_nil,or_false]at c;rcases c with rfl|rfl<;>decide
theorem Px.Aag(h:Px n i):n.pr.length<=1:=by
 rcases h.own with k|⟨a,k,_⟩<;>simp[k]
theorem Px.each(h:Px n i):∀a∈n.pr,SD a:=by
 rcases h.own with k|⟨b,k,c⟩<;>grind[Vx.few]
structure Oq(t:eb)(i:Int):Prop where
 len:(t.ca.length:Int)=i
 node:∀k:Int,0<=k->k<i->Px (AA t.ca k) k
variable{t:eb}
theorem Oq.app(h:Oq t i)(d:Px n i):Oq ⟨t.ca++[n],t.ci⟩ (i+1):=by
 refine ⟨by simp[<-h.len],fun k c j=>?_⟩;have l:=h.len;by_cases e:k=i
 .subst e;rw[show AA (t.ca++[n]) k=n from LT _ _ (by omega)];exact d
 .rw[show AA (t.ca++[n]) k=AA t.ca k from Kq _ _ c (by omega)];exact h.node k c (by omega)
theorem kz{s:ByteArray}(c:0<=i)(h:i+1<=s.size):(s.extract i.toNat (i+1).toNat).size<=40:=by
 rw [ByteArray.size_extract];omega
theorem Q6{i x0 x1:Int}(z:0<=i)(H:i<6)(x:U8 x0)(A:U8 x1)(u:Oq t i):∃y,((yu (⟨#[65,66,67,68,69,70]⟩:ByteArray) i (AG (i+1))).bind fun l=>
 (Cf (AG x0) (AG (i+1))).bind fun c=>
 (quo x0 16).bind fun m=>
 (Cf (IntKind.u8.wrap m) 4).bind fun e=>
 (yu (⟨#[117,118,119,120,121,122]⟩:ByteArray) i (AG (i+1))).bind fun r=>
 (Cf x1 4).bind fun o=>
 if (decide (o=1))=true then
 (quo x1 4).bind fun h=>
 (Cf (AG (IntKind.u8.wrap h)) 9).bind fun j=>
 (AT t.ca [BD.mk l (AG (c-1)) (decide (e=3)) [kq.mk r (-3) (AG (3+j)) []]]).bind fun d=>
 some (Bf.next (ρ:=eb) (eb.mk d t.ci,AG (i+1)))
 else
 if (decide (o=2))=true then
 (AT t.ca [BD.mk l (AG (c-1)) (decide (e=3)) [kq.mk r 0 1 [(⟨#[111,102,102]⟩:ByteArray),(⟨#[111,110]⟩:ByteArray)]]]).bind fun d=>
 some (.next (eb.mk d t.ci,AG (i+1)))
 else
 (AT t.ca [BD.mk l (AG (c-1)) (decide (e=3)) []]).bind fun d=>
 some (.next (eb.mk d t.ci,AG (i+1))))=some (.next (y,i+1))/\Oq y (i+1)/\y.ci=t.ci:=by
 have I:=u.len;rw[AV (n:=i+1) (by omega) (by omega),IP z (by omega) (by show i+1<=((6:Nat):Int);omega),bs,x.w];obtain⟨c,B,K,L⟩:=B4 x.1 (show 0<i+1 by omega);obtain⟨m,C,_⟩:=Xi x.1 (show(0:Int)<16 by omega);obtain⟨e,D⟩:=W7 (a:=IntKind.u8.wrap m) (show(4:Int)≠0 by omega);obtain⟨o,E⟩:=W7 (a:=x1) (show(4:Int)≠0 by omega);obtain⟨h,F,_⟩:=Xi A.1 (show(0:Int)<4 by omega);have J:=nw h;obtain⟨j,G,M,N⟩:=B4 (show 0<=AG (IntKind.u8.wrap h)by rw[AV (by omega) (by omega)];omega) (show(0:Int)<9 by omega);have q:∀n:BD,AT t.ca [n]=some (t.ca++[n]):=fun n=>AQ (by simp;unfold AU;omega);rw[B,bs,C,bs,D,bs,IP z (by omega) (by show i+1<=((6:Nat):Int);omega),bs,E,bs,F,bs,G,bs,q,q,q,AV (n:=c-1) (by omega) (by omega)];simp only[bs];split
 .exact⟨_,rfl,u.app ⟨rfl,by simp only;omega,.inr ⟨_,rfl,rfl,.inl ⟨rfl,rfl,by show 3<=AG (3+j)/\AG (3+j)<=11;rw[AV (by omega) (by omega)];omega⟩⟩⟩,rfl⟩
 .split
  .exact⟨_,rfl,u.app ⟨rfl,by simp only;omega,.inr ⟨_,rfl,rfl,.inr ⟨rfl,rfl,rfl⟩⟩⟩,rfl⟩
  .exact⟨_,rfl,u.app ⟨rfl,by simp only;omega,.inl rfl⟩,rfl⟩
def wZ(t:eb):Prop:=∀k:Int,0<=k->k<t.ci.length->(AA t.ci k).mr=nP k/\Kr (AA t.ci k).zF (AA t.ci k).zh=true/\Kr (AA t.ci k).Aab (AA t.ci k).zC=true
structure EN(t:eb):Prop where
 n:Oq t t.ca.length
 pos:0<t.ca.length
 ea:t.ca.length<=6
 ec:t.ci.length<=5
 edge:∀e∈t.ci,e.mr.size<=40/\(0<=e.kp/\e.kp<t.ca.length)/\0<=e.To/\e.To<t.ca.length
 en:wZ t
theorem EN.few(h:EN t):Ai t:=by
 have c:∀n∈t.ca,∃i,Px n i:=fun n c=>by
  obtain ⟨i,j,l,rfl⟩:=BR c;exact⟨i,h.n.node i j l⟩
 refine ⟨by have:=h.ea;omega,by have:=h.ec;omega,fun n d=>?_,fun n d=>?_,fun n d=>?_,fun e he=>?_⟩
 .obtain⟨i,k⟩:=c n d;have:=k.name;omega
 .obtain⟨i,k⟩:=c n d;have:=k.Aag;omega
 .obtain⟨i,k⟩:=c n d;exact k.each
 .have:=(h.edge e he).1;omega
theorem EN.par(h:EN t):Ek t t.ca.length:=fun i c d=>(h.n.node i c d).par
theorem EN.below(h:EN t)(e:0<=a)(c:a<t.ca.length)(d:0<=b):∃r,E9 t a b=some r:=
 ⟨_,Dy (a+2).toNat fun n j=>Vh h.par d n (a+1).toNat a (by omega) c (by omega) (by omega)⟩
theorem lQ{ea ec:List EY}(F:∀x∈ea,U2 x)(he:∀x∈ec,U2 x):∃t,Nt ea ec=some t/\EN t:=by
 unfold Nt;refine EA (fun i t=>(0<=i/\i<=6)/\Oq t i/\t.ci=[]) 6 ⟨by omega,⟨rfl,fun k y o=>by omega⟩,rfl⟩ (fun i t H⟨hi,q,d⟩=>?_) (fun i t H⟨hi,q,d⟩c=>?_)
 .dsimp only;by_cases C:i=0\/(i<ea.length/\i<6)
  .left;have fm:∀{X:Option (Bf (eb×Int) eb)},(∃m,X=some (.next (m,i+1))/\Oq m (i+1)/\m.ci=t.ci)->i<6/\∃s',X=some (.next (s',i+1))/\(0<=i+1/\i+1<=6)/\Oq s' (i+1)/\s'.ci=[]:=fun⟨m,a1,a2,a3⟩=>⟨by omega,m,a1,by omega,a2,a3.trans d⟩;refine fm ?_;rw[ae (by simp;omega)];by_cases h:i<ea.length
   .rw[ae (by simpa using h),AC hi.1 h,bs];have l:=F _ (AF hi.1 h);exact Q6 (t:=t) hi.1 (by omega) l.1 l.2 q
   .rw[az (by simpa using h)];exact Q6 (t:=t) (x0:=0) (x1:=0) hi.1 (by omega) ⟨by omega,by omega⟩ ⟨by omega,by omega⟩ q
  .right;rw[az (by simp;omega)]
 .have G:0<i:=by
   by_cases e:i=0
   .subst e;dsimp only at c;rw[ae (by simp)]at c;by_cases h:(0:Int)<ea.length
    .rw[ae (by simpa using h),AC (by omega) h,bs]at c;have l:=F _ (AF (by omega) h);obtain⟨m,a1,_⟩:=Q6 (t:=t) (by omega) (by omega) l.1 l.2 q;rw[a1]at c;cases c
    .rw[az (by simpa using h)]at c;obtain⟨m,a1,_⟩:=Q6 (t:=t) (x0:=0) (x1:=0) (by omega) (by omega) ⟨by omega,by omega⟩ ⟨by omega,by omega⟩ q;rw[a1]at c;cases c
   .omega
  have h:=q.len;dsimp only;refine EA (fun j u=>(0<=j/\j<=5)/\u.ca=t.ca/\(u.ci.length:Int)=j/\(∀e∈u.ci,e.mr.size<=40/\(0<=e.kp/\e.kp<u.ca.length)/\0<=e.To/\e.To<u.ca.length)/\wZ u) 5 ⟨by omega,rfl,by rw[d];rfl,(fun e he=>by rw[d]at he;cases he),fun k _ o=>by rw[d]at o;simp at o;omega⟩
   (fun j u I⟨z,r,J,D,E⟩=>?_) (fun j u I⟨z,r,J,D,E⟩_=>?_)
  .dsimp only;by_cases C:j<ec.length/\j<5
   .left;have l:=he _ (AF z.1 C.1);have B:(0:Int)<u.ca.length:=by rw[r];omega
    obtain ⟨K,L,a1,a2⟩:=B4 (show 0<=AG (AA ec j).a0 by rw[l.1.w];exact l.1.1) B;obtain⟨M,N,O,P⟩:=B4 (show 0<=AG (AA ec j).a1 by rw[l.2.w];exact l.2.1) B;refine⟨by omega,⟨u.ca,u.ci++[⟨(⟨#[101,102,103,104,105]⟩:ByteArray).extract j.toNat (j+1).toNat,K,M,0,-1,0,-1⟩]⟩,?_,by omega,r,by simp;omega,?_,?_⟩
    .rw[ae (by simpa using C),AV (n:=j+1) (by omega) (by omega),IP z.1 (by omega) (by show j+1<=((5:Nat):Int);omega),bs,AC z.1 C.1,bs,L,bs,bs,N,bs,AQ (by simp;unfold AU;omega),bs]
    .intro e A;rcases List.mem_append.1 A with A|A
     .exact D e A
     .rw[List.mem_singleton.1 A];exact⟨kz z.1 (by show j+1<=((5:Nat):Int);omega),⟨a1,a2⟩,O,P⟩
    .intro k y o;by_cases e:k=j
     .rw[show AA (u.ci++_) k=_ from LT _ _ (by omega),e];exact⟨rfl,rfl,rfl⟩
     .simp at o;rw[show AA (u.ci++_) k=AA u.ci k from Kq _ _ y (by omega)];exact E k y (by omega)
   .right;rw[az (by simp;omega)]
  .refine⟨u,rfl,⟨rfl,fun k y o=>?_⟩,by rw[r];omega,by rw[r];omega,by omega,D,E⟩;rw[r]at o|-;exact q.node k y (by omega)
end Go.Sf.Sc
namespace Go.Sf.Sc
open Go Go.Sf
variable{β:Type}{Q:β->Prop}
theorem Yb{n:Nat}{f:Int->Fp->Option Fp}{k:Fp->Option β}(u:n<=1000)(h:∀(i:Int)s,0<=i->i<n->∃b:Bool,f i s=if b=true then(AT s [i]).bind fun x=>some x else some s)
  (m:∀l:Fp,l.length<=n->(∀x∈l,0<=x/\x<(n:Int))->∃r,k l=some r/\Q r):∃r,(nd f 0 (n:Int) []).bind k=some r/\Q r:=by
 refine M7 (fun i l=>(l.length:Int)<=i/\∀x∈l,0<=x/\x<(n:Int)) (by omega) ⟨by simp,fun x c=>by cases c⟩ (fun i l e j⟨o,d⟩=>?_) (fun l⟨o,d⟩=>m l (by omega) d);obtain⟨b,q⟩:=h i l e j;rw[q];cases b
 .exact⟨l,rfl,by omega,d⟩
 .rw[ae rfl,AQ (by simp;unfold AU;omega)];refine⟨l++[i],rfl,by simp;omega,fun x c=>?_⟩;rcases List.mem_append.1 c with c|c
  .exact d x c
  .rw[List.mem_singleton.1 c];exact⟨e,j⟩
def Tg(t:eb)(n:Int)(e:Bn):Prop:=(0<=e.kl/\e.kl<t.ci.length)/\(0<=e.kp/\e.kp<n)/\(0<=e.To/\e.To<n)
structure Qr(t:eb)(g:d3):Prop where
 ea:g.ca.length<=8
 ec:g.ci.length<=10
 kind:∀n∈g.ca,0<=n/\n<t.ca.length
 fit:∀e∈g.ci,Tg t g.ca.length e
variable{t:eb}{g:d3}{k:Int}
theorem dH(j:EN t)(c:Qr t g)(m:0<=k):∃l,KJ t g k=some l/\(l.length<=1000/\∀x∈l,0<=x/\x<g.ca.length):=by
 unfold KJ;refine Yb (by have:=c.ea;omega) (fun i s d e=>?_) (fun l r o=>⟨l,rfl,by have:=c.ea;omega,o⟩);have h:=c.kind _ (AF d e);obtain⟨b,q⟩:=j.below h.1 h.2 m;exact⟨b,by rw[AC d e,bs,q,bs]⟩
structure gD(d:Gr):Prop where
 ea:∀x∈d.ca,U8 x
 ec:∀x∈d.ci,U3 x
theorem lU(q:EN t){d:Gr}(hd:gD d)(E:Bool):∃g,N0 t d E=some g/\Qr t g:=by
 unfold N0;have O:=q.ea;have P:=q.ec;refine Yb (by omega) (fun i s A K=>?_) (fun kinds Z L=>?_)
 .cases E
  .exact⟨!(AA t.ca i).tc,by rw[az (by decide),AC A K];simp only[bs]⟩
  .exact⟨true,rfl⟩
 refine EA (fun i g=>(0<=i/\i<=8)/\((g.ca.length:Int)<=i/\g.ci=[])/\∀n∈g.ca,0<=n/\n<(t.ca.length:Int)) 8 ⟨by omega,⟨by simp,rfl⟩,fun n m=>by cases m⟩ (fun i g A⟨a1,a2,a3⟩=>?_) (fun i g A⟨a1,a2,a3⟩_=>?_)
 .dsimp only;by_cases c:(i<d.ca.length/\i<8)/\0<(kinds.length:Int)
  .left;have l:=hd.ea _ (AF a1.1 c.1.1);obtain⟨r,B,o,h⟩:=B4 (show 0<=AG (AA d.ca i)by rw[l.w];exact l.1) c.2;refine⟨by omega,⟨g.ca++[AA kinds r],g.ci⟩,?_,by omega,⟨by simp;omega,a2.2⟩,fun n m=>?_⟩
   .rw[ae (by simpa using c),AC a1.1 c.1.1,bs,B,bs,AC o h,bs,AQ (by simp;unfold AU;omega),bs,AV (n:=i+1) (by omega) (by omega)]
   .rcases List.mem_append.1 m with m|m
    .exact a3 n m
    .rw[List.mem_singleton.1 m];exact L _ (AF o h)
  .right;rw[az (by simpa using c)]
 .dsimp only;refine EA (fun j u=>(0<=j/\j<=10)/\u.ca=g.ca/\(u.ci.length:Int)<=j/\∀e∈u.ci,Tg t u.ca.length e) 10 ⟨by omega,rfl,by rw[a2.2];simp,by rw[a2.2];intro e he;cases he⟩ (fun j u M⟨o,h,N,x⟩=>?_) (fun j u M⟨o,h,N,x⟩_=>?_)
  .dsimp only;by_cases c:(j<d.ci.length/\j<10)/\0<(t.ci.length:Int)
   .left;have l:=hd.ec _ (AF o.1 c.1.1);obtain⟨r,B,C,D⟩:=B4 (show 0<=AG (AA d.ci j).a0 by rw[l.1.w];exact l.1.1) c.2;have y:=(q.edge _ (AF C D)).2;have F:Qr t u:=⟨by rw[h];omega,by omega,by rw[h];exact a3,x⟩;obtain⟨l1,R,m1,S⟩:=dH q F y.1.1;obtain⟨l2,T,n1,U⟩:=dH q F y.2.1;refine⟨by omega,?_⟩;rw[ae (by simpa using c),AC o.1 c.1.1,bs,B,bs,AC C D,bs,R,bs,bs,T,bs,AV (n:=j+1) (by omega) (by omega)];by_cases z:0<(l1.length:Int)/\0<(l2.length:Int)
    .obtain⟨V,W,G,H⟩:=B4 (show 0<=AG (AA d.ci j).a1 by rw[l.2.1.w];exact l.2.1.1) z.1;obtain⟨X,Y,I,J⟩:=B4 (show 0<=AG (AA d.ci j).a2 by rw[l.2.2.w];exact l.2.2.1) z.2;refine⟨⟨u.ca,u.ci++[⟨r,AA l1 V,AA l2 X⟩]⟩,?_,by omega,h,by simp;omega,fun e he=>(List.mem_append.1 he).elim (x e) fun he=>?_⟩
     .rw[ae (by simpa using z),bs,W,bs,AC G H,bs,bs,Y,bs,AC I J,bs,AQ (by simp;unfold AU;omega),bs]
     .rw[List.mem_singleton.1 he];exact⟨⟨C,D⟩,S _ (AF G H),U _ (AF I J)⟩
    .rw[az (by simpa using z)];exact⟨u,rfl,by omega,h,by omega,x⟩
   .right;rw[az (by simpa using c)]
  .exact⟨u,rfl,by rw[h];omega,by omega,by rw[h];exact a3,x⟩
structure gH(d:KK):Prop where
 g:gD d.d3
 slots:∀x∈d.ed,U3 x
structure tT(p:d7):Prop where
 ea:p.d3.ca.length<=8
 ec:p.d3.ci.length<=10
 slots:p.ed.length<=4
 tests:p.mh.length<=3
 vars:0<=p.fd/\p.fd<=3
def j7(t:eb)(g:d3)(a b:Int):Prop:=(0<=a/\a<g.ca.length)/\0<=b/\b<(Ea t (AA g.ca a)).1.length
def Py(t:eb)(g:d3)(v:Int)(s:Bw):Prop:=j7 t g s.pc s.kq/\(-1<=s.jj.Var/\s.jj.Var<v)/\-100<=s.jj.Add/\s.jj.Add<=100
structure dr(t:eb)(p:d7):Prop extends tT p where
 g:Qr t p.d3
 slot:∀s∈p.ed,Py t p.d3 p.fd s
 test:∀x∈p.mh,Jr p.fd x=0
 occ:∀v:Int,0<=v->v<p.fd->Gl p v=true
theorem dP{a b r:Int}(h:Cf a b=some r)(c:0<b):-b<r/\r<b:=by
 unfold Cf at h;rw[az (by omega)]at h;exact Option.some.inj h▸⟨Int.lt_tmod_of_pos a c,Int.tmod_lt_of_pos a c⟩
variable{a b:Int}
theorem fK(c:0<b)(d:b<=1000):∃r,E8 a b=some r/\0<=r/\r<b:=by
 unfold E8;obtain⟨r,e⟩:=W7 (a:=a) (show b≠0 by omega);have:=dP e c;obtain⟨h,j,k⟩:=B4 (a:=AG (r+b)) (by rw[AV (by omega) (by omega)];omega) c;rw[e,bs,j];exact⟨h,rfl,k⟩
theorem lP{n:Int}(h:0<=n/\n<=3)(c:Rd):∃x,Ns n c=some x/\Jr n x=0:=by
 unfold Ns;obtain⟨d,j,a1,a2⟩:=fK (a:=AG c.a0) (show(0:Int)<4 by omega) (by omega);obtain⟨l,m,w,y⟩:=fK (a:=AG c.a1) (show 0<n+1 by omega) (by omega);obtain⟨o,q,z,A⟩:=fK (a:=AG c.a2) (show 0<n+1 by omega) (by omega);obtain⟨B,e⟩:=W7 (a:=AG c.a3) (show(12:Int)≠0 by omega);have r:=dP e (by omega);rw[j,bs,quo,az (by omega),bs,AV (n:=n+1) (by omega) (by omega),m,bs,q,bs,e];refine⟨_,rfl,?_⟩;have u:d.tdiv 3=0\/d.tdiv 3=1:=by rw[Int.tdiv_eq_ediv_of_nonneg a1];omega
 rw [AV (n:=l-1) (by omega) (by omega),AV (n:=o-1) (by omega) (by omega),AV (n:=d.tdiv 3) (by omega) (by omega),AV (n:=1+d.tdiv 3) (by omega) (by omega)];unfold Jr Mq;rw[az (by simp only;omega),ae (by simp;omega)]
theorem Py.up{v w:Int}{s:Bw}(h:Py t g v s)(hv:v<=w):Py t g w s:=⟨h.1,⟨h.2.1.1,by have:=h.2.1.2;omega⟩,h.2.2⟩
variable{p:d7}{v:Int}
theorem oe{s:Bw}{q:d7}(c:q.ed=p.ed++[s]):Gl q v=(Gl p v||decide (s.jj.Var=v)):=by
 unfold Gl;rw[c,List.any_append];simp
theorem ii(E:EN t){d:KK}(hd:gH d):∃p,N2 t d=some p/\dr t p:=by
 unfold N2;obtain⟨g,eg,O⟩:=lU E hd.g true;rw[eg,bs];have hgn:=O.ea;have hge:=O.ec;refine EA (fun i l=>(0<=i/\i<=g.ca.length)/\(l.length:Int)<=600*i/\∀x∈l,j7 t g x.a0 x.a1) g.ca.length ⟨by omega,by simp,fun x c=>by cases c⟩ (fun i l U⟨a1,a2,a3⟩=>?_) (fun i l U⟨a1,a2,a3⟩_=>?_)
 .dsimp only;by_cases h:i<g.ca.length
  .left;refine⟨h,?_⟩;rw[ae (by simpa using h),AC a1.1 h,bs,NE E.few,bs];have hal:=(SI E.few (AA g.ca i)).1;obtain⟨s,e,C,P⟩:=Mv (f:=fun(T:Int)(s2:List JX)=>(AT s2 [JX.mk i T]).bind fun F=>some F) (fun k(s:List JX)=>(s.length:Int)<=600*i+k/\∀x∈s,j7 t g x.a0 x.a1) (a:=0) (b:=((Ea t (AA g.ca i)).1.length:Int)) (s:=l) (by omega) ⟨by omega,a3⟩ (fun k s G V C=>⟨s++[⟨i,k⟩],by rw[AQ (by simp;unfold AU;omega),bs],by simp;omega,fun x c=>(List.mem_append.1 c).elim (C.2 x) fun c=>by rw[List.mem_singleton.1 c];exact⟨⟨a1.1,h⟩,G,V⟩⟩);rw[e,bs,AV (n:=i+1) (by omega) (by omega)];exact⟨s,rfl,by omega,by omega,P⟩
  .right;rw[az (by simpa using h)]
 .dsimp only;refine EA (fun j p=>(0<=j/\j<=4)/\p.d3=g/\((p.ed.length:Int)<=j/\p.mh=[])/\(0<=p.fd/\p.fd<=3)/\(∀s∈p.ed,Py t g p.fd s)/\∀v:Int,0<=v->v<p.fd->Gl p v=true) 4 ⟨by omega,rfl,⟨by simp,rfl⟩,by simp,(fun s C=>by cases C),fun v h1 H=>by simp at H;omega⟩ (fun j p W⟨I,q,D,J,K,L⟩=>?_) (fun j p W⟨I,q,D,J,K,L⟩_=>?_)
  .dsimp only;by_cases h:(j<d.ed.length/\j<4)/\0<(l.length:Int)
   .left;have c:=hd.slots _ (AF I.1 h.1.1);obtain⟨r,e1,A,o⟩:=B4 (show 0<=AG (AA d.ed j).a0 by rw[c.1.w];exact c.1.1) h.2;obtain⟨r1,e2,f1,f2⟩:=B4 (show 0<=AG (AA d.ed j).a1 by rw[c.2.1.w];exact c.2.1.1) (show(0:Int)<5 by omega);obtain⟨r2,e3,f3,f4⟩:=B4 (show 0<=AG (AA d.ed j).a2 by rw[c.2.2.w];exact c.2.2.1) (show(0:Int)<5 by omega);have N:∀s:Bw,AT p.ed [s]=some (p.ed++[s]):=fun s=>AQ (by simp;unfold AU;omega);have m:=a3 _ (AF A o);refine⟨by omega,?_⟩;rw[ae (by simpa using h),AC I.1 h.1.1,bs,e1,bs,AC A o,bs,e2,bs,e3,bs,AV (n:=j+1) (by omega) (by omega),AV (n:=p.fd+1) (by omega) (by omega),AV (n:=r1-1) (by omega) (by omega),AV (n:=r2-2) (by omega) (by omega)];simp only[N,bs];have add:∀(v:Int)(s:Bw),p.fd<=v->v<=3->Py t g v s->(∀x:Int,p.fd<=x->x<v->s.jj.Var=x)->(0<=j+1/\j+1<=4)/\p.d3=g/\(((p.ed++[s]).length:Int)<=j+1/\p.mh=[])/\(0<=v/\v<=3)/\(∀s'∈p.ed++[s],Py t g v s')/\∀x:Int,0<=x->x<v->Gl ⟨p.d3,p.ed++[s],v,p.mh⟩ x=true:=fun v s R v2 X Y=>by
     refine ⟨by omega,q,⟨by simp;omega,D.2⟩,by omega,fun s' z=>(List.mem_append.1 z).elim (fun z=>(K s' z).up R) fun z=>List.mem_singleton.1 z▸X,fun x x0 x1=>?_⟩;rw[oe (p:=p) (s:=s) rfl];by_cases k:x<p.fd
     .rw[L x x0 k];rfl
     .rw[Y x (by omega) x1];simp
    split
    .split
     .rename_i B;rw[yf]at B;exact⟨_,rfl,add 3 _ (by omega) (by omega) ⟨m,by simp only;omega,by simp only;omega⟩ (fun x _ _=>by omega)⟩
     .rename_i B;rw[yf]at B;exact⟨_,rfl,add (p.fd+1) _ (by omega) (by omega) ⟨m,by simp only;omega,by simp only;omega⟩ (fun x _ _=>by simp only;omega)⟩
    .rename_i H;rw[yf]at H;split
     .rename_i B;rw[yf]at B;omega
     .exact⟨_,rfl,add p.fd _ (by omega) (by omega) ⟨m,by simp only;omega,by simp only;omega⟩ (fun x _ _=>by omega)⟩
   .right;rw[az (by simpa using h)]
  .dsimp only;refine EA (fun k u=>(0<=k/\k<=3)/\(u.d3=p.d3/\u.ed=p.ed/\u.fd=p.fd)/\(u.mh.length:Int)<=k/\∀x∈u.mh,Jr u.fd x=0) 3 ⟨by omega,⟨rfl,rfl,rfl⟩,by rw[D.2];simp,by rw[D.2];intro x c;cases c⟩ (fun k u G⟨A,o,Z,c4⟩=>?_) (fun k u G⟨A,⟨o,c5,S⟩,Z,c4⟩_=>⟨u,rfl,⟨by rw[o,q];omega,by rw[o,q];omega,by rw[c5];omega,by omega,by rw[S];exact J⟩,by rw[o,q];exact O,by rw[c5,o,S,q];exact K,c4,fun v v0 R=>by unfold Gl;rw[c5];exact L v v0 (by omega)⟩);dsimp only;by_cases h:k<d.mh.length/\k<3
   .left;obtain⟨x,ex,c⟩:=lP (n:=u.fd) (by rw[o.2.2];exact J) (AA d.mh k);refine⟨by omega,⟨u.d3,u.ed,u.fd,u.mh++[x]⟩,?_,by omega,o,by simp;omega,fun y M=>(List.mem_append.1 M).elim (c4 y) fun M=>List.mem_singleton.1 M▸c⟩;rw[ae (by simpa using h),AC A.1 h.1,bs,ex,bs,AQ (by simp;unfold AU;omega),bs,AV (n:=k+1) (by omega) (by omega)]
   .right;rw[az (by simpa using h)]
end Go.Sf.Sc
namespace Go.Sf.Sc
open Go Go.Sf
theorem ra:∀i:Fin 6,DY (iD (i.1:Int))=true/\DY (uS (i.1:Int))=true:=by decide
theorem iE:∀i j:Fin 6,j<i->iD (j.1:Int)≠iD (i.1:Int)/\uS (j.1:Int)≠uS (i.1:Int):=by decide
theorem q9:∀i:Fin 5,DY (nP (i.1:Int))=true:=by decide
theorem rA:∀i j:Fin 5,j<i->nP (j.1:Int)≠nP (i.1:Int):=by decide
variable{i:Int}
theorem gZ{n:Nat}(c:0<=i)(d:i<n):∃k:Fin n,i=(k.1:Int):=⟨⟨i.toNat,by omega⟩,by simp;omega⟩
theorem bW{i j:Int}{n:Nat}(c:0<=j)(d:j<i)(e:i<n):∃a b:Fin n,i=(a.1:Int)/\j=(b.1:Int)/\b<a:=⟨⟨i.toNat,by omega⟩,⟨j.toNat,by omega⟩,by simp;omega,by simp;omega,by simp[Fin.lt_def];omega⟩
variable{t:eb}{k:Int}
theorem P3(l:Oq t k):∀(n:Nat)(a:Int),a<k->(BZ t n a).length<=n/\∀x∈BZ t n a,∃j,0<=j/\j<=a/\Vx x j
 |0,a,_=>by simp[BZ]|n+1,a,u=>by
  rw [BZ];split
  .simp
  .have m:=l.node a (by omega) u;have w:par t a<a:=m.par.2;obtain⟨y,o⟩:=P3 l n (par t a) (by omega);rcases m.own with e|⟨b,e,r⟩<;>rw[e]
   .rw[List.append_nil];exact⟨by omega,fun x c=>by obtain⟨j,d,q,h⟩:=o x c;exact⟨j,d,by omega,h⟩⟩
   .refine⟨by simp;omega,fun x c=>(List.mem_append.1 c).elim (fun c=>?_) fun c=>?_⟩
    .obtain⟨j,d,q,h⟩:=o x c;exact⟨j,d,by omega,h⟩
    .exact⟨a,by omega,Int.le_refl _,List.mem_singleton.1 c▸r⟩
theorem eZ(h:EN t)(B:0<=i)(C:i<t.ca.length):Hi t i=0:=by
 have l:=h.n.node i B C;have I:=h.ea;obtain⟨l1,-⟩:=P3 h.n (i+1).toNat i C;have J:par t i<i:=l.par.2;have no:mt (fun j=>(AA t.ca j).mr==(AA t.ca i).mr) 0 i=false:=by
  rw [Bool.eq_false_iff,Ne,CM];rintro⟨j,m,o,e⟩;rw[(h.n.node j m (by omega)).nm,l.nm,beq_iff_eq]at e;obtain⟨a,b,x,y,d⟩:=bW (n:=6) m o (by omega);exact(iE a b d).1 (by rw[<-x,<-y,e])
 obtain ⟨k,F⟩:=gZ (n:=6) B (by omega);have isn:=ra k;rw[<-F]at isn;unfold Hi;dsimp only;have e:Ak t i=BZ t i.toNat (par t i)++(AA t.ca i).pr:=by
  unfold Ak;rw[show(i+1).toNat=i.toNat+1 by omega,BZ,az (by omega)]
 rw [no,l.nm,isn.1,az (by decide),az (by decide),az (by have:=l.par;omega),az (by have:=l.Aag;unfold Ak;omega),Ay.2,Option.getD_none];intro k r u;rw[FK,e]at *;rcases l.own with ho|⟨a,ho,z⟩<;>rw[ho]at r u|-
 .simp at r u;omega
 .simp at r u;obtain rfl:k=(BZ t i.toNat (par t i)).length:=by omega
  obtain ⟨-,q⟩:=P3 h.n i.toNat (par t i) (by omega);have w:mt (fun j=>(AA (BZ t i.toNat (par t i)++[a]) j).mr==a.mr) 0 ((BZ t i.toNat (par t i)).length:Int)=false:=by
   rw [Bool.eq_false_iff,Ne,CM];rintro⟨j,m,o,e⟩;rw[Kq _ _ m o,beq_iff_eq]at e;obtain⟨c,G,K,H⟩:=q _ (AF m o);rw[H.name,z.name]at e;obtain⟨a,b,x,y,d⟩:=bW (n:=6) G (show c<i by omega) (by omega);exact(iE a b d).2 (by rw[<-x,<-y,e])
  unfold LU;dsimp only;rw[LT _ _ rfl,w,z.name,isn.2,az (by decide),az (by decide)];rcases z.low with⟨A,D,E,L⟩|⟨A,D,E⟩
  .rw[A,ae (show([]:List ByteArray).length=0 from rfl),ae (by omega)]
  .rw[A,D,E];decide
theorem eE(h:EN t)(l:0<=i)(o:i<t.ci.length):Je t i=0:=by
 have A:=h.ec;obtain⟨q,u,w⟩:=h.en i l o;have no:mt (fun j=>(AA t.ci j).mr==(AA t.ci i).mr) 0 i=false:=by
  rw [Bool.eq_false_iff,Ne,CM];rintro⟨j,r,z,e⟩;rw[(h.en j r (by omega)).1,q,beq_iff_eq]at e;obtain⟨a,b,x,y,m⟩:=bW (n:=5) r z (by omega);exact rA a b m (by rw[<-x,<-y,e])
 obtain ⟨k,d⟩:=gZ (n:=5) l (by omega);have c:=(h.edge _ (AF l o)).2;unfold Je;dsimp only;rw[no,q,d,q9 k,az (by decide),az (by decide),ae ⟨by rw[<-d];exact c.1,by rw[<-d];exact c.2,by rw[<-d];exact u,by rw[<-d];exact w⟩]
theorem EN.zero(h:EN t):(As t).2=0:=by
 have:=h.pos;have:=h.ea;have:=h.ec;unfold As;rw[az (by omega),az (by omega),Ay.2 (fun i c d=>by rw[eZ h c d];rfl)];dsimp only;rw[Ay.2 (fun i c d=>by rw[eE h c d];rfl)];rfl
variable{g:d3}
theorem TO(c:∀n∈g.ca,n<t.ca.length)(d:∀e∈g.ci,e.kl<t.ci.length):CP t g=true:=by
 unfold CP;simp;exact⟨c,d⟩
theorem Qr.ok(d:EN t)(h:Qr t g):CQ g/\CP t g=true:=by
 have:=h.ea;have:=h.ec;have:=d.ea;have:=d.ec;exact⟨⟨by omega,by omega,fun n c=>by have:=h.kind n c;omega,fun e he=>by have:=h.fit e he;unfold Tg at this;omega⟩,TO (fun n c=>(h.kind n c).2) fun e he=>(h.fit e he).1.2⟩
theorem Sx{n:Int}{l:List Test}(e:0<=n)(j:n<=12)(m:l.length<=40)(h:∀x∈l,Jr n x=0):IR n l=0:=by
 unfold IR;rw[az (by omega),az (by omega),Ay.2 (fun i c d=>FK.2 (h _ (AF c d)))];rfl
variable{p:d7}
theorem dr.zero(c:EN t)(h:dr t p):EK t p=0:=by
 obtain ⟨j,l⟩:=h.g.ok c;have hv:=h.vars;have d:=h.slots;have q:=h.tests;unfold EK;rw[az (by simp[c.zero]),az (by simp[ER j]),az (by simp[l]),az (by omega),az (by omega),az,az (by simp[Sx hv.1 (show p.fd<=12 by omega) (by omega) h.test]),az]
 .rw[CM];rintro⟨v,m,o,e⟩;rw[h.occ v m o]at e;cases e
 .rw[List.any_eq_true];rintro⟨s,d,e⟩;obtain⟨⟨a1,a2⟩,a3,r⟩:=h.slot s d;unfold RN Qv at e;rw[az (by omega)]at e;dsimp only at e;rw[az (by omega)]at e;simp at e;omega
end Go.Sf.Sc
