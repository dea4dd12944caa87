/- Plain lemmas: what the functions of the program and of the reference compute. -/
import Derived.Test.YthgbaecihlidaaaGreatDoorP46
set_option linter.all false
set_option maxRecDepth 100000
namespace Go.Sf.Sc
open Go Go.Sf
variable{σ ρ:Type}{f:σ×Int->Option (Bu (σ×Int) ρ)}{s:σ}{a:Int}
theorem qn(I:Int->σ->Prop)(b:Int)(o:I a s)
  (step:∀i s,a<=i->I i s->(i<b/\∃s',f (s,i)=some (.next (s',i+1))/\I (i+1) s')\/f (s,i)=some (.brk (s,i))):∃i s',a<=i/\I i s'/\f (s',i)=some (.brk (s',i))/\C7 f (s,a)=some (.inl (s',i)):=by
 have key:∀(n:Nat)(i:Int)(s:σ),a<=i->I i s->b-i<=n->∃j s',i<=j/\I j s'/\f (s',j)=some (.brk (s',j))/\Kj f (s,i) (.inl (s',j)):=by
  intro n
  induction n with
  |zero=>
   intro i s hi c q;rcases step i s hi c with⟨h,_⟩|h
   .omega
   .exact⟨i,s,Int.le_refl _,c,h,.brk h⟩
  |succ n x=>
   intro i s hi c q;rcases step i s hi c with⟨_,s',u,w⟩|h
   .obtain⟨j,r,m,d,e,l⟩:=x (i+1) s' (by omega) w (by omega);exact⟨j,r,by omega,d,e,.next u l⟩
   .exact⟨i,s,Int.le_refl _,c,h,.brk h⟩
 obtain ⟨j,s',m,d,e,l⟩:=key (b-a).toNat a s (Int.le_refl _) o (by omega);exact⟨j,s',m,d,e,l.eq⟩
variable{β:Type}{Q:β->Prop}
theorem D7{k:σ×Int->Option β}{c:ρ->Option β}(I:Int->σ->Prop)(b:Int)(d:I a s)
  (step:∀i s,a<=i->I i s->(i<b/\∃s',f (s,i)=some (.next (s',i+1))/\I (i+1) s')\/f (s,i)=some (.brk (s,i)))(e:∀i s,a<=i->I i s->f (s,i)=some (.brk (s,i))->∃r,k (s,i)=some r/\Q r):∃r,fl (C7 f (s,a)) k c=some r/\Q r:=by
 obtain ⟨i,s',h,j,l,m⟩:=qn I b d step;rw[m,B6];exact e i s' h j l
variable{b:Int}
theorem Lp{f:Int->σ->Option σ}{k:σ->Option β}(I:Int->σ->Prop)(c:a<=b)(d:I a s)(h:∀i s,a<=i->i<b->I i s->∃s',f i s=some s'/\I (i+1) s')(e:∀s,I b s->∃r,k s=some r/\Q r):∃r,(pq f a b s).bind k=some r/\Q r:=by
 obtain ⟨s',j,l⟩:=M6 I c d h;rw[j,bs];exact e s' l
theorem B8(c:0<=a)(d:0<b):∃r,Cj a b=some r/\0<=r/\r<b:=by
 unfold Cj;rw[b6 (by omega),Int.tmod_eq_emod_of_nonneg c];exact⟨_,rfl,Int.emod_nonneg _ (by omega),Int.emod_lt_of_pos _ d⟩
theorem VH(c:b≠0):∃r,Cj a b=some r:=by
 unfold Cj;rw[b6 c];exact⟨_,rfl⟩
theorem Vl(c:0<=a)(d:0<b):∃r,quo a b=some r/\0<=r/\r<=a:=by
 unfold quo;rw[b6 (by omega),Int.tdiv_eq_ediv_of_nonneg c];exact⟨_,rfl,Int.ediv_nonneg c (by omega),Int.ediv_le_self _ c⟩
theorem lY(a:Int):0<=IntKind.u8.wrap a/\IntKind.u8.wrap a<256:=by
 have e:IntKind.u8.wrap a=a % 256:=by
  unfold IntKind.wrap;simp[IntKind.signed,IntKind.bits]
 rw [e];omega
instance:Inhabited G8:=⟨⟨0,0⟩⟩
instance:Inhabited G9:=⟨⟨0,0,0⟩⟩
instance:Inhabited Og:=⟨⟨0,0,0,0⟩⟩
instance:Inhabited Ht:=⟨⟨0,0⟩⟩
def U8(x:Int):Prop:=0<=x/\x<256
def U2(a:G8):Prop:=U8 a.a0/\U8 a.a1
def U3(a:G9):Prop:=U8 a.a0/\U8 a.a1/\U8 a.a2
theorem U8.w{x:Int}(h:U8 x):AK x=x:=AV (by have:=h.1;omega) (by have:=h.2;omega)
def eQ(i:Int):ByteArray:=(⟨#[65,66,67,68,69,70]⟩:ByteArray).extract i.toNat (i+1).toNat
def uS(i:Int):ByteArray:=(⟨#[117,118,119,120,121,122]⟩:ByteArray).extract i.toNat (i+1).toNat
def kw(i:Int):ByteArray:=(⟨#[101,102,103,104,105]⟩:ByteArray).extract i.toNat (i+1).toNat
structure UG(a:mh)(i:Int):Prop where
 name:a.mr=uS i
 low:(a.sx=[]/\a.Low=-3/\3<=a.Aam/\a.Aam<=11)\/a.sx=[(⟨#[111,102,102]⟩:ByteArray),(⟨#[111,110]⟩:ByteArray)]/\a.Low=0/\a.Aam=1
structure OM(n:BL)(i:Int):Prop where
 nm:n.mr=eQ i
 par:-1<=n.x9/\n.x9<i
 own:n.r0=[]\/∃a,n.r0=[a]/\UG a i
variable{n:BL}{i:Int}
theorem OM.name(h:OM n i):n.mr.size<=40:=by
 rw [h.nm,eQ,ByteArray.size_extract];show min _ 6-_<=40;omega
theorem UG.few{a:mh}(h:UG a i):Qy a:=by
 have e:a.mr.size<=40:=by
  rw [h.name,uS,ByteArray.size_extract];show min _ 6-_<=40;omega
 rcases h.low with⟨k,_⟩|⟨k,_⟩
 .exact⟨by omega,by simp[k],by simp[k]⟩
 .refine⟨by omega,by simp[k],fun x c=>?_⟩;simp only[k,List.mem_cons,List.not_mem_nil,or_false]at c;rcases c with rfl|rfl<;>decide
theorem OM.Abn(h:OM n i):n.r0.length<=1:=by
 rcases h.own with k|⟨a,k,_⟩<;>simp[k]
theorem OM.each(h:OM n i):∀a∈n.r0,Qy a:=by
 rcases h.own with k|⟨b,k,c⟩<;>grind[UG.few]
structure NN(t:ej)(i:Int):Prop where
 len:(t.d5.length:Int)=i
 node:∀k:Int,0<=k->k<i->OM (AA t.d5 k) k
variable{t:ej}
theorem NN.app(h:NN t i)(d:OM n i):NN ⟨t.d5++[n],t.d7⟩ (i+1):=by
 refine ⟨by simp[<-h.len],fun k c j=>?_⟩;have l:=h.len;by_cases e:k=i
 .subst e;rw[show AA (t.d5++[n]) k=n from KN _ _ (by omega)];exact d
 .rw[show AA (t.d5++[n]) k=AA t.d5 k from Js _ _ c (by omega)];exact h.node k c (by omega)
theorem iZ{s:ByteArray}(c:0<=i)(h:i+1<=s.size):(s.extract i.toNat (i+1).toNat).size<=40:=by
 rw [ByteArray.size_extract];omega
theorem Pe{i x0 x1:Int}(z:0<=i)(H:i<6)(x:U8 x0)(A:U8 x1)(u:NN t i):∃y,((Aas (⟨#[65,66,67,68,69,70]⟩:ByteArray) i (AK (i+1))).bind fun l=>
 (Cj (AK x0) (AK (i+1))).bind fun c=>
 (quo x0 16).bind fun m=>
 (Cj (IntKind.u8.wrap m) 4).bind fun e=>
 (Aas (⟨#[117,118,119,120,121,122]⟩:ByteArray) i (AK (i+1))).bind fun r=>
 (Cj x1 4).bind fun o=>
 if (decide (o=1))=true then
 (quo x1 4).bind fun h=>
 (Cj (AK (IntKind.u8.wrap h)) 9).bind fun j=>
 (Au t.d5 [BL.mk l (AK (c-1)) (decide (e=3)) [mh.mk r (-3) (AK (3+j)) []]]).bind fun d=>
 some (Bu.next (ρ:=ej) (ej.mk d t.d7,AK (i+1)))
 else
 if (decide (o=2))=true then
 (Au t.d5 [BL.mk l (AK (c-1)) (decide (e=3)) [mh.mk r 0 1 [(⟨#[111,102,102]⟩:ByteArray),(⟨#[111,110]⟩:ByteArray)]]]).bind fun d=>
 some (.next (ej.mk d t.d7,AK (i+1)))
 else
 (Au t.d5 [BL.mk l (AK (c-1)) (decide (e=3)) []]).bind fun d=>
 some (.next (ej.mk d t.d7,AK (i+1))))=some (.next (y,i+1))/\NN y (i+1)/\y.d7=t.d7:=by
 have I:=u.len;rw[AV (n:=i+1) (by omega) (by omega),Hm z (by omega) (by show i+1<=((6:Nat):Int);omega),bs,x.w];obtain⟨c,B,K,L⟩:=B8 x.1 (show 0<i+1 by omega);obtain⟨m,C,_⟩:=Vl x.1 (show(0:Int)<16 by omega);obtain⟨e,D⟩:=VH (a:=IntKind.u8.wrap m) (show(4:Int)≠0 by omega);obtain⟨o,E⟩:=VH (a:=x1) (show(4:Int)≠0 by omega);obtain⟨h,F,_⟩:=Vl A.1 (show(0:Int)<4 by omega);have J:=lY h;obtain⟨j,G,M,N⟩:=B8 (show 0<=AK (IntKind.u8.wrap h)by rw[AV (by omega) (by omega)];omega) (show(0:Int)<9 by omega);have q:∀n:BL,Au t.d5 [n]=some (t.d5++[n]):=fun n=>AY (by simp;unfold AZ;omega);rw[B,bs,C,bs,D,bs,Hm z (by omega) (by show i+1<=((6:Nat):Int);omega),bs,E,bs,F,bs,G,bs,q,q,q,AV (n:=c-1) (by omega) (by omega)];simp only[bs];split
 .exact⟨_,rfl,u.app ⟨rfl,by simp only;omega,.inr ⟨_,rfl,rfl,.inl ⟨rfl,rfl,by show 3<=AK (3+j)/\AK (3+j)<=11;rw[AV (by omega) (by omega)];omega⟩⟩⟩,rfl⟩
 .split
  .exact⟨_,rfl,u.app ⟨rfl,by simp only;omega,.inr ⟨_,rfl,rfl,.inr ⟨rfl,rfl,rfl⟩⟩⟩,rfl⟩
  .exact⟨_,rfl,u.app ⟨rfl,by simp only;omega,.inl rfl⟩,rfl⟩
def tW(t:ej):Prop:=∀k:Int,0<=k->k<t.d7.length->(AA t.d7 k).mr=kw k/\Ju (AA t.d7 k).AaX (AA t.d7 k).AaK=true/\Ju (AA t.d7 k).Abs (AA t.d7 k).AaY=true
structure EL(t:ej):Prop where
 n:NN t t.d5.length
 pos:0<t.d5.length
 ek:t.d5.length<=6
 em:t.d7.length<=5
 edge:∀e∈t.d7,e.mr.size<=40/\(0<=e.nd/\e.nd<t.d5.length)/\0<=e.To/\e.To<t.d5.length
 en:tW t
theorem EL.few(h:EL t):A6 t:=by
 have c:∀n∈t.d5,∃i,OM n i:=fun n c=>by
  obtain ⟨i,j,l,rfl⟩:=Bh c;exact⟨i,h.n.node i j l⟩
 refine ⟨by have:=h.ek;omega,by have:=h.em;omega,fun n d=>?_,fun n d=>?_,fun n d=>?_,fun e he=>?_⟩
 .obtain⟨i,k⟩:=c n d;have:=k.name;omega
 .obtain⟨i,k⟩:=c n d;have:=k.Abn;omega
 .obtain⟨i,k⟩:=c n d;exact k.each
 .have:=(h.edge e he).1;omega
theorem EL.par(h:EL t):D8 t t.d5.length:=fun i c d=>(h.n.node i c d).par
theorem EL.below(h:EL t)(e:0<=a)(c:a<t.d5.length)(d:0<=b):∃r,IR t a b=some r:=
 ⟨_,Ey (a+2).toNat fun n j=>T6 h.par d n (a+1).toNat a (by omega) c (by omega) (by omega)⟩
theorem iz{ek em:List G8}(F:∀x∈ek,U2 x)(he:∀x∈em,U2 x):∃t,MP ek em=some t/\EL t:=by
 unfold MP;refine D7 (fun i t=>(0<=i/\i<=6)/\NN t i/\t.d7=[]) 6 ⟨by omega,⟨rfl,fun k y o=>by omega⟩,rfl⟩ (fun i t H⟨hi,q,d⟩=>?_) (fun i t H⟨hi,q,d⟩c=>?_)
 .dsimp only;by_cases C:i=0\/(i<ek.length/\i<6)
  .left;have fu:∀{X:Option (Bu (ej×Int) ej)},(∃m,X=some (.next (m,i+1))/\NN m (i+1)/\m.d7=t.d7)->i<6/\∃s',X=some (.next (s',i+1))/\(0<=i+1/\i+1<=6)/\NN s' (i+1)/\s'.d7=[]:=fun⟨m,a1,a2,a3⟩=>⟨by omega,m,a1,by omega,a2,a3.trans d⟩;refine fu ?_;rw[az (by simp;omega)];by_cases h:i<ek.length
   .rw[az (by simpa using h),AC hi.1 h,bs];have l:=F _ (AF hi.1 h);exact Pe (t:=t) hi.1 (by omega) l.1 l.2 q
   .rw[b6 (by simpa using h)];exact Pe (t:=t) (x0:=0) (x1:=0) hi.1 (by omega) ⟨by omega,by omega⟩ ⟨by omega,by omega⟩ q
  .right;rw[b6 (by simp;omega)]
 .have G:0<i:=by
   by_cases e:i=0
   .subst e;dsimp only at c;rw[az (by simp)]at c;by_cases h:(0:Int)<ek.length
    .rw[az (by simpa using h),AC (by omega) h,bs]at c;have l:=F _ (AF (by omega) h);obtain⟨m,a1,_⟩:=Pe (t:=t) (by omega) (by omega) l.1 l.2 q;rw[a1]at c;cases c
    .rw[b6 (by simpa using h)]at c;obtain⟨m,a1,_⟩:=Pe (t:=t) (x0:=0) (x1:=0) (by omega) (by omega) ⟨by omega,by omega⟩ ⟨by omega,by omega⟩ q;rw[a1]at c;cases c
   .omega
  have h:=q.len;dsimp only;refine D7 (fun j u=>(0<=j/\j<=5)/\u.d5=t.d5/\(u.d7.length:Int)=j/\(∀e∈u.d7,e.mr.size<=40/\(0<=e.nd/\e.nd<u.d5.length)/\0<=e.To/\e.To<u.d5.length)/\tW u) 5 ⟨by omega,rfl,by rw[d];rfl,(fun e he=>by rw[d]at he;cases he),fun k _ o=>by rw[d]at o;simp at o;omega⟩
   (fun j u I⟨z,r,J,D,E⟩=>?_) (fun j u I⟨z,r,J,D,E⟩_=>?_)
  .dsimp only;by_cases C:j<em.length/\j<5
   .left;have l:=he _ (AF z.1 C.1);have B:(0:Int)<u.d5.length:=by rw[r];omega
    obtain ⟨K,L,a1,a2⟩:=B8 (show 0<=AK (AA em j).a0 by rw[l.1.w];exact l.1.1) B;obtain⟨M,N,O,P⟩:=B8 (show 0<=AK (AA em j).a1 by rw[l.2.w];exact l.2.1) B;refine⟨by omega,⟨u.d5,u.d7++[⟨(⟨#[101,102,103,104,105]⟩:ByteArray).extract j.toNat (j+1).toNat,K,M,0,-1,0,-1⟩]⟩,?_,by omega,r,by simp;omega,?_,?_⟩
    .rw[az (by simpa using C),AV (n:=j+1) (by omega) (by omega),Hm z.1 (by omega) (by show j+1<=((5:Nat):Int);omega),bs,AC z.1 C.1,bs,L,bs,bs,N,bs,AY (by simp;unfold AZ;omega),bs]
    .intro e A;rcases List.mem_append.1 A with A|A
     .exact D e A
     .rw[List.mem_singleton.1 A];exact⟨iZ z.1 (by show j+1<=((5:Nat):Int);omega),⟨a1,a2⟩,O,P⟩
    .intro k y o;by_cases e:k=j
     .rw[show AA (u.d7++_) k=_ from KN _ _ (by omega),e];exact⟨rfl,rfl,rfl⟩
     .simp at o;rw[show AA (u.d7++_) k=AA u.d7 k from Js _ _ y (by omega)];exact E k y (by omega)
   .right;rw[b6 (by simp;omega)]
  .refine⟨u,rfl,⟨rfl,fun k y o=>?_⟩,by rw[r];omega,by rw[r];omega,by omega,D,E⟩;rw[r]at o|-;exact q.node k y (by omega)
end Go.Sf.Sc
namespace Go.Sf.Sc
open Go Go.Sf
variable{β:Type}{Q:β->Prop}
theorem Wi{n:Nat}{f:Int->Fp->Option Fp}{k:Fp->Option β}(u:n<=1000)(h:∀(i:Int)s,0<=i->i<n->∃b:Bool,f i s=if b=true then(Au s [i]).bind fun x=>some x else some s)
  (m:∀l:Fp,l.length<=n->(∀x∈l,0<=x/\x<(n:Int))->∃r,k l=some r/\Q r):∃r,(pq f 0 (n:Int) []).bind k=some r/\Q r:=by
 refine Lp (fun i l=>(l.length:Int)<=i/\∀x∈l,0<=x/\x<(n:Int)) (by omega) ⟨by simp,fun x c=>by cases c⟩ (fun i l e j⟨o,d⟩=>?_) (fun l⟨o,d⟩=>m l (by omega) d);obtain⟨b,q⟩:=h i l e j;rw[q];cases b
 .exact⟨l,rfl,by omega,d⟩
 .rw[az rfl,AY (by simp;unfold AZ;omega)];refine⟨l++[i],rfl,by simp;omega,fun x c=>?_⟩;rcases List.mem_append.1 c with c|c
  .exact d x c
  .rw[List.mem_singleton.1 c];exact⟨e,j⟩
def Ru(t:ej)(n:Int)(e:Bc):Prop:=(0<=e.mt/\e.mt<t.d7.length)/\(0<=e.nd/\e.nd<n)/\(0<=e.To/\e.To<n)
structure PM(t:ej)(g:d6):Prop where
 ek:g.d5.length<=8
 em:g.d7.length<=10
 kind:∀n∈g.d5,0<=n/\n<t.d5.length
 fit:∀e∈g.d7,Ru t g.d5.length e
variable{t:ej}{g:d6}{k:Int}
theorem aU(j:EL t)(c:PM t g)(m:0<=k):∃l,JT t g k=some l/\(l.length<=1000/\∀x∈l,0<=x/\x<g.d5.length):=by
 unfold JT;refine Wi (by have:=c.ek;omega) (fun i s d e=>?_) (fun l r o=>⟨l,rfl,by have:=c.ek;omega,o⟩);have h:=c.kind _ (AF d e);obtain⟨b,q⟩:=j.below h.1 h.2 m;exact⟨b,by rw[AC d e,bs,q,bs]⟩
structure dK(d:Eo):Prop where
 ek:∀x∈d.d5,U8 x
 em:∀x∈d.d7,U3 x
theorem jA(q:EL t){d:Eo}(hd:dK d)(E:Bool):∃g,MY t d E=some g/\PM t g:=by
 unfold MY;have O:=q.ek;have P:=q.em;refine Wi (by omega) (fun i s A K=>?_) (fun kinds Z L=>?_)
 .cases E
  .exact⟨!(AA t.d5 i).qo,by rw[b6 (by decide),AC A K];simp only[bs]⟩
  .exact⟨true,rfl⟩
 refine D7 (fun i g=>(0<=i/\i<=8)/\((g.d5.length:Int)<=i/\g.d7=[])/\∀n∈g.d5,0<=n/\n<(t.d5.length:Int)) 8 ⟨by omega,⟨by simp,rfl⟩,fun n m=>by cases m⟩ (fun i g A⟨a1,a2,a3⟩=>?_) (fun i g A⟨a1,a2,a3⟩_=>?_)
 .dsimp only;by_cases c:(i<d.d5.length/\i<8)/\0<(kinds.length:Int)
  .left;have l:=hd.ek _ (AF a1.1 c.1.1);obtain⟨r,B,o,h⟩:=B8 (show 0<=AK (AA d.d5 i)by rw[l.w];exact l.1) c.2;refine⟨by omega,⟨g.d5++[AA kinds r],g.d7⟩,?_,by omega,⟨by simp;omega,a2.2⟩,fun n m=>?_⟩
   .rw[az (by simpa using c),AC a1.1 c.1.1,bs,B,bs,AC o h,bs,AY (by simp;unfold AZ;omega),bs,AV (n:=i+1) (by omega) (by omega)]
   .rcases List.mem_append.1 m with m|m
    .exact a3 n m
    .rw[List.mem_singleton.1 m];exact L _ (AF o h)
  .right;rw[b6 (by simpa using c)]
 .dsimp only;refine D7 (fun j u=>(0<=j/\j<=10)/\u.d5=g.d5/\(u.d7.length:Int)<=j/\∀e∈u.d7,Ru t u.d5.length e) 10 ⟨by omega,rfl,by rw[a2.2];simp,by rw[a2.2];intro e he;cases he⟩ (fun j u M⟨o,h,N,x⟩=>?_) (fun j u M⟨o,h,N,x⟩_=>?_)
  .dsimp only;by_cases c:(j<d.d7.length/\j<10)/\0<(t.d7.length:Int)
   .left;have l:=hd.em _ (AF o.1 c.1.1);obtain⟨r,B,C,D⟩:=B8 (show 0<=AK (AA d.d7 j).a0 by rw[l.1.w];exact l.1.1) c.2;have y:=(q.edge _ (AF C D)).2;have F:PM t u:=⟨by rw[h];omega,by omega,by rw[h];exact a3,x⟩;obtain⟨l1,R,m1,S⟩:=aU q F y.1.1;obtain⟨l2,T,n1,U⟩:=aU q F y.2.1;refine⟨by omega,?_⟩;rw[az (by simpa using c),AC o.1 c.1.1,bs,B,bs,AC C D,bs,R,bs,bs,T,bs,AV (n:=j+1) (by omega) (by omega)];by_cases z:0<(l1.length:Int)/\0<(l2.length:Int)
    .obtain⟨V,W,G,H⟩:=B8 (show 0<=AK (AA d.d7 j).a1 by rw[l.2.1.w];exact l.2.1.1) z.1;obtain⟨X,Y,I,J⟩:=B8 (show 0<=AK (AA d.d7 j).a2 by rw[l.2.2.w];exact l.2.2.1) z.2;refine⟨⟨u.d5,u.d7++[⟨r,AA l1 V,AA l2 X⟩]⟩,?_,by omega,h,by simp;omega,fun e he=>(List.mem_append.1 he).elim (x e) fun he=>?_⟩
     .rw[az (by simpa using z),bs,W,bs,AC G H,bs,bs,Y,bs,AC I J,bs,AY (by simp;unfold AZ;omega),bs]
     .rw[List.mem_singleton.1 he];exact⟨⟨C,D⟩,S _ (AF G H),U _ (AF I J)⟩
    .rw[b6 (by simpa using z)];exact⟨u,rfl,by omega,h,by omega,x⟩
   .right;rw[b6 (by simpa using c)]
  .exact⟨u,rfl,by rw[h];omega,by omega,by rw[h];exact a3,x⟩
structure dO(d:H1):Prop where
 g:dK d.d6
 slots:∀x∈d.ff,U3 x
structure qu(p:ed):Prop where
 ek:p.d6.d5.length<=8
 em:p.d6.d7.length<=10
 slots:p.ff.length<=4
 tests:p.ns.length<=3
 vars:0<=p.fq/\p.fq<=3
def gT(t:ej)(g:d6)(a b:Int):Prop:=(0<=a/\a<g.d5.length)/\0<=b/\b<(EU t (AA g.d5 a)).1.length
def ON(t:ej)(g:d6)(v:Int)(s:Bv):Prop:=gT t g s.p0 s.mh/\(-1<=s.kg.Var/\s.kg.Var<v)/\-100<=s.kg.Add/\s.kg.Add<=100
structure bG(t:ej)(p:ed):Prop extends qu p where
 g:PM t p.d6
 slot:∀s∈p.ff,ON t p.d6 p.fq s
 test:∀x∈p.ns,I2 p.fq x=0
 occ:∀v:Int,0<=v->v<p.fq->Gc p v=true
theorem ac{a b r:Int}(h:Cj a b=some r)(c:0<b):-b<r/\r<b:=by
 unfold Cj at h;rw[b6 (by omega)]at h;exact Option.some.inj h▸⟨Int.lt_tmod_of_pos a c,Int.tmod_lt_of_pos a c⟩
variable{a b:Int}
theorem cW(c:0<b)(d:b<=1000):∃r,E0 a b=some r/\0<=r/\r<b:=by
 unfold E0;obtain⟨r,e⟩:=VH (a:=a) (show b≠0 by omega);have:=ac e c;obtain⟨h,j,k⟩:=B8 (a:=AK (r+b)) (by rw[AV (by omega) (by omega)];omega) c;rw[e,bs,j];exact⟨h,rfl,k⟩
theorem iy{n:Int}(h:0<=n/\n<=3)(c:Og):∃x,MO n c=some x/\I2 n x=0:=by
 unfold MO;obtain⟨d,j,a1,a2⟩:=cW (a:=AK c.a0) (show(0:Int)<4 by omega) (by omega);obtain⟨l,m,w,y⟩:=cW (a:=AK c.a1) (show 0<n+1 by omega) (by omega);obtain⟨o,q,z,A⟩:=cW (a:=AK c.a2) (show 0<n+1 by omega) (by omega);obtain⟨B,e⟩:=VH (a:=AK c.a3) (show(12:Int)≠0 by omega);have r:=ac e (by omega);rw[j,bs,quo,b6 (by omega),bs,AV (n:=n+1) (by omega) (by omega),m,bs,q,bs,e];refine⟨_,rfl,?_⟩;have u:d.tdiv 3=0\/d.tdiv 3=1:=by rw[Int.tdiv_eq_ediv_of_nonneg a1];omega
 rw [AV (n:=l-1) (by omega) (by omega),AV (n:=o-1) (by omega) (by omega),AV (n:=d.tdiv 3) (by omega) (by omega),AV (n:=1+d.tdiv 3) (by omega) (by omega)];unfold I2 LZ;rw[b6 (by simp only;omega),az (by simp;omega)]
theorem ON.up{v w:Int}{s:Bv}(h:ON t g v s)(hv:v<=w):ON t g w s:=⟨h.1,⟨h.2.1.1,by have:=h.2.1.2;omega⟩,h.2.2⟩
variable{p:ed}{v:Int}
theorem mR{s:Bv}{q:ed}(c:q.ff=p.ff++[s]):Gc q v=(Gc p v||decide (s.kg.Var=v)):=by
 unfold Gc;rw[c,List.any_append];simp
theorem fF(E:EL t){d:H1}(hd:dO d):∃p,MZ t d=some p/\bG t p:=by
 unfold MZ;obtain⟨g,eg,O⟩:=jA E hd.g true;rw[eg,bs];have hgn:=O.ek;have hge:=O.em;refine D7 (fun i l=>(0<=i/\i<=g.d5.length)/\(l.length:Int)<=600*i/\∀x∈l,gT t g x.a0 x.a1) g.d5.length ⟨by omega,by simp,fun x c=>by cases c⟩ (fun i l U⟨a1,a2,a3⟩=>?_) (fun i l U⟨a1,a2,a3⟩_=>?_)
 .dsimp only;by_cases h:i<g.d5.length
  .left;refine⟨h,?_⟩;rw[az (by simpa using h),AC a1.1 h,bs,Om E.few,bs];have hal:=(Q4 E.few (AA g.d5 i)).1;obtain⟨s,e,C,P⟩:=M6 (f:=fun(S:Int)(T:List Ht)=>(Au T [Ht.mk i S]).bind fun F=>some F) (fun k(s:List Ht)=>(s.length:Int)<=600*i+k/\∀x∈s,gT t g x.a0 x.a1) (a:=0) (b:=((EU t (AA g.d5 i)).1.length:Int)) (s:=l) (by omega) ⟨by omega,a3⟩ (fun k s G V C=>⟨s++[⟨i,k⟩],by rw[AY (by simp;unfold AZ;omega),bs],by simp;omega,fun x c=>(List.mem_append.1 c).elim (C.2 x) fun c=>by rw[List.mem_singleton.1 c];exact⟨⟨a1.1,h⟩,G,V⟩⟩);rw[e,bs,AV (n:=i+1) (by omega) (by omega)];exact⟨s,rfl,by omega,by omega,P⟩
  .right;rw[b6 (by simpa using h)]
 .dsimp only;refine D7 (fun j p=>(0<=j/\j<=4)/\p.d6=g/\((p.ff.length:Int)<=j/\p.ns=[])/\(0<=p.fq/\p.fq<=3)/\(∀s∈p.ff,ON t g p.fq s)/\∀v:Int,0<=v->v<p.fq->Gc p v=true) 4 ⟨by omega,rfl,⟨by simp,rfl⟩,by simp,(fun s C=>by cases C),fun v h1 H=>by simp at H;omega⟩ (fun j p W⟨I,q,D,J,K,L⟩=>?_) (fun j p W⟨I,q,D,J,K,L⟩_=>?_)
  .dsimp only;by_cases h:(j<d.ff.length/\j<4)/\0<(l.length:Int)
   .left;have c:=hd.slots _ (AF I.1 h.1.1);obtain⟨r,e1,A,o⟩:=B8 (show 0<=AK (AA d.ff j).a0 by rw[c.1.w];exact c.1.1) h.2;obtain⟨r1,e2,f1,f2⟩:=B8 (show 0<=AK (AA d.ff j).a1 by rw[c.2.1.w];exact c.2.1.1) (show(0:Int)<5 by omega);obtain⟨r2,e3,f3,f4⟩:=B8 (show 0<=AK (AA d.ff j).a2 by rw[c.2.2.w];exact c.2.2.1) (show(0:Int)<5 by omega);have N:∀s:Bv,Au p.ff [s]=some (p.ff++[s]):=fun s=>AY (by simp;unfold AZ;omega);have m:=a3 _ (AF A o);refine⟨by omega,?_⟩;rw[az (by simpa using h),AC I.1 h.1.1,bs,e1,bs,AC A o,bs,e2,bs,e3,bs,AV (n:=j+1) (by omega) (by omega),AV (n:=p.fq+1) (by omega) (by omega),AV (n:=r1-1) (by omega) (by omega),AV (n:=r2-2) (by omega) (by omega)];simp only[N,bs];have add:∀(v:Int)(s:Bv),p.fq<=v->v<=3->ON t g v s->(∀x:Int,p.fq<=x->x<v->s.kg.Var=x)->(0<=j+1/\j+1<=4)/\p.d6=g/\(((p.ff++[s]).length:Int)<=j+1/\p.ns=[])/\(0<=v/\v<=3)/\(∀s'∈p.ff++[s],ON t g v s')/\∀x:Int,0<=x->x<v->Gc ⟨p.d6,p.ff++[s],v,p.ns⟩ x=true:=fun v s R v2 X Y=>by
     refine ⟨by omega,q,⟨by simp;omega,D.2⟩,by omega,fun s' z=>(List.mem_append.1 z).elim (fun z=>(K s' z).up R) fun z=>List.mem_singleton.1 z▸X,fun x x0 x1=>?_⟩;rw[mR (p:=p) (s:=s) rfl];by_cases k:x<p.fq
     .rw[L x x0 k];rfl
     .rw[Y x (by omega) x1];simp
    split
    .split
     .rename_i B;rw[zzX]at B;exact⟨_,rfl,add 3 _ (by omega) (by omega) ⟨m,by simp only;omega,by simp only;omega⟩ (fun x _ _=>by omega)⟩
     .rename_i B;rw[zzX]at B;exact⟨_,rfl,add (p.fq+1) _ (by omega) (by omega) ⟨m,by simp only;omega,by simp only;omega⟩ (fun x _ _=>by simp only;omega)⟩
    .rename_i H;rw[zzX]at H;split
     .rename_i B;rw[zzX]at B;omega
     .exact⟨_,rfl,add p.fq _ (by omega) (by omega) ⟨m,by simp only;omega,by simp only;omega⟩ (fun x _ _=>by omega)⟩
   .right;rw[b6 (by simpa using h)]
  .dsimp only;refine D7 (fun k u=>(0<=k/\k<=3)/\(u.d6=p.d6/\u.ff=p.ff/\u.fq=p.fq)/\(u.ns.length:Int)<=k/\∀x∈u.ns,I2 u.fq x=0) 3 ⟨by omega,⟨rfl,rfl,rfl⟩,by rw[D.2];simp,by rw[D.2];intro x c;cases c⟩ (fun k u G⟨A,o,c3,c4⟩=>?_) (fun k u G⟨A,⟨o,c5,c6⟩,c3,c4⟩_=>⟨u,rfl,⟨by rw[o,q];omega,by rw[o,q];omega,by rw[c5];omega,by omega,by rw[c6];exact J⟩,by rw[o,q];exact O,by rw[c5,o,c6,q];exact K,c4,fun v Z R=>by unfold Gc;rw[c5];exact L v Z (by omega)⟩);dsimp only;by_cases h:k<d.ns.length/\k<3
   .left;obtain⟨x,ex,c⟩:=iy (n:=u.fq) (by rw[o.2.2];exact J) (AA d.ns k);refine⟨by omega,⟨u.d6,u.ff,u.fq,u.ns++[x]⟩,?_,by omega,o,by simp;omega,fun y M=>(List.mem_append.1 M).elim (c4 y) fun M=>List.mem_singleton.1 M▸c⟩;rw[az (by simpa using h),AC A.1 h.1,bs,ex,bs,AY (by simp;unfold AZ;omega),bs,AV (n:=k+1) (by omega) (by omega)]
   .right;rw[b6 (by simpa using h)]
end Go.Sf.Sc
namespace Go.Sf.Sc
open Go Go.Sf
theorem pG:∀i:Fin 6,DY (eQ (i.1:Int))=true/\DY (uS (i.1:Int))=true:=by decide
theorem eR:∀i j:Fin 6,j<i->eQ (j.1:Int)≠eQ (i.1:Int)/\uS (j.1:Int)≠uS (i.1:Int):=by decide
theorem od:∀i:Fin 5,DY (kw (i.1:Int))=true:=by decide
theorem oe:∀i j:Fin 5,j<i->kw (j.1:Int)≠kw (i.1:Int):=by decide
variable{i:Int}
theorem du{n:Nat}(c:0<=i)(d:i<n):∃k:Fin n,i=(k.1:Int):=⟨⟨i.toNat,by omega⟩,by simp;omega⟩
theorem ZB{i j:Int}{n:Nat}(c:0<=j)(d:j<i)(e:i<n):∃a b:Fin n,i=(a.1:Int)/\j=(b.1:Int)/\b<a:=⟨⟨i.toNat,by omega⟩,⟨j.toNat,by omega⟩,by simp;omega,by simp;omega,by simp[Fin.lt_def];omega⟩
variable{t:ej}{k:Int}
theorem OR(l:NN t k):∀(n:Nat)(a:Int),a<k->(Be t n a).length<=n/\∀x∈Be t n a,∃j,0<=j/\j<=a/\UG x j
 |0,a,_=>by simp[Be]|n+1,a,u=>by
  rw [Be];split
  .simp
  .have m:=l.node a (by omega) u;have w:par t a<a:=m.par.2;obtain⟨y,o⟩:=OR l n (par t a) (by omega);rcases m.own with e|⟨b,e,r⟩<;>rw[e]
   .rw[List.append_nil];exact⟨by omega,fun x c=>by obtain⟨j,d,q,h⟩:=o x c;exact⟨j,d,by omega,h⟩⟩
   .refine⟨by simp;omega,fun x c=>(List.mem_append.1 c).elim (fun c=>?_) fun c=>?_⟩
    .obtain⟨j,d,q,h⟩:=o x c;exact⟨j,d,by omega,h⟩
    .exact⟨a,by omega,Int.le_refl _,List.mem_singleton.1 c▸r⟩
theorem bv(h:EL t)(B:0<=i)(C:i<t.d5.length):G5 t i=0:=by
 have l:=h.n.node i B C;have I:=h.ek;obtain⟨l1,-⟩:=OR h.n (i+1).toNat i C;have J:par t i<i:=l.par.2;have no:n8 (fun j=>(AA t.d5 j).mr==(AA t.d5 i).mr) 0 i=false:=by
  rw [Bool.eq_false_iff,Ne,Cf];rintro⟨j,m,o,e⟩;rw[(h.n.node j m (by omega)).nm,l.nm,beq_iff_eq]at e;obtain⟨a,b,x,y,d⟩:=ZB (n:=6) m o (by omega);exact(eR a b d).1 (by rw[<-x,<-y,e])
 obtain ⟨k,F⟩:=du (n:=6) B (by omega);have isn:=pG k;rw[<-F]at isn;unfold G5;dsimp only;have e:At t i=Be t i.toNat (par t i)++(AA t.d5 i).r0:=by
  unfold At;rw[show(i+1).toNat=i.toNat+1 by omega,Be,b6 (by omega)]
 rw [no,l.nm,isn.1,b6 (by decide),b6 (by decide),b6 (by have:=l.par;omega),b6 (by have:=l.Abn;unfold At;omega),A5.2,Option.getD_none];intro k r u;rw[Fg,e]at *;rcases l.own with ho|⟨a,ho,z⟩<;>rw[ho]at r u|-
 .simp at r u;omega
 .simp at r u;obtain rfl:k=(Be t i.toNat (par t i)).length:=by omega
  obtain ⟨-,q⟩:=OR h.n i.toNat (par t i) (by omega);have w:n8 (fun j=>(AA (Be t i.toNat (par t i)++[a]) j).mr==a.mr) 0 ((Be t i.toNat (par t i)).length:Int)=false:=by
   rw [Bool.eq_false_iff,Ne,Cf];rintro⟨j,m,o,e⟩;rw[Js _ _ m o,beq_iff_eq]at e;obtain⟨c,G,K,H⟩:=q _ (AF m o);rw[H.name,z.name]at e;obtain⟨a,b,x,y,d⟩:=ZB (n:=6) G (show c<i by omega) (by omega);exact(eR a b d).2 (by rw[<-x,<-y,e])
  unfold KO;dsimp only;rw[KN _ _ rfl,w,z.name,isn.2,b6 (by decide),b6 (by decide)];rcases z.low with⟨A,D,E,L⟩|⟨A,D,E⟩
  .rw[A,az (show([]:List ByteArray).length=0 from rfl),az (by omega)]
  .rw[A,D,E];decide
theorem bY(h:EL t)(l:0<=i)(o:i<t.d7.length):Iq t i=0:=by
 have A:=h.em;obtain⟨q,u,w⟩:=h.en i l o;have no:n8 (fun j=>(AA t.d7 j).mr==(AA t.d7 i).mr) 0 i=false:=by
  rw [Bool.eq_false_iff,Ne,Cf];rintro⟨j,r,z,e⟩;rw[(h.en j r (by omega)).1,q,beq_iff_eq]at e;obtain⟨a,b,x,y,m⟩:=ZB (n:=5) r z (by omega);exact oe a b m (by rw[<-x,<-y,e])
 obtain ⟨k,d⟩:=du (n:=5) l (by omega);have c:=(h.edge _ (AF l o)).2;unfold Iq;dsimp only;rw[no,q,d,od k,b6 (by decide),b6 (by decide),az ⟨by rw[<-d];exact c.1,by rw[<-d];exact c.2,by rw[<-d];exact u,by rw[<-d];exact w⟩]
theorem EL.zero(h:EL t):(A1 t).2=0:=by
 have:=h.pos;have:=h.ek;have:=h.em;unfold A1;rw[b6 (by omega),b6 (by omega),A5.2 (fun i c d=>by rw[bv h c d];rfl)];dsimp only;rw[A5.2 (fun i c d=>by rw[bY h c d];rfl)];rfl
variable{g:d6}
theorem DX(h:CN g):Bn g=0:=by
 have:=h.ek;have:=h.em;unfold Bn;rw[b6 (by omega),b6,b6]
 .intro k;obtain⟨e,he,k⟩:=List.any_eq_true.1 k;have:=h.fit e he;simp[RE,LR]at k;omega
 .intro k;obtain⟨n,c,k⟩:=List.any_eq_true.1 k;have:=h.kind n c;simp[LR]at k;omega
theorem Ri(c:∀n∈g.d5,n<t.d5.length)(d:∀e∈g.d7,e.mt<t.d7.length):CW t g=true:=by
 unfold CW;simp;exact⟨c,d⟩
theorem PM.ok(d:EL t)(h:PM t g):CN g/\CW t g=true:=by
 have:=h.ek;have:=h.em;have:=d.ek;have:=d.em;exact⟨⟨by omega,by omega,fun n c=>by have:=h.kind n c;omega,fun e he=>by have:=h.fit e he;unfold Ru at this;omega⟩,Ri (fun n c=>(h.kind n c).2) fun e he=>(h.fit e he).1.2⟩
theorem Rh{n:Int}{l:List Test}(e:0<=n)(j:n<=12)(m:l.length<=40)(h:∀x∈l,I2 n x=0):Hp n l=0:=by
 unfold Hp;rw[b6 (by omega),b6 (by omega),A5.2 (fun i c d=>Fg.2 (h _ (AF c d)))];rfl
variable{p:ed}
theorem bG.zero(c:EL t)(h:bG t p):EG t p=0:=by
 obtain ⟨j,l⟩:=h.g.ok c;have hv:=h.vars;have d:=h.slots;have q:=h.tests;unfold EG;rw[b6 (by simp[c.zero]),b6 (by simp[DX j]),b6 (by simp[l]),b6 (by omega),b6 (by omega),b6,b6 (by simp[Rh hv.1 (show p.fq<=12 by omega) (by omega) h.test]),b6]
 .rw[Cf];rintro⟨v,m,o,e⟩;rw[h.occ v m o]at e;cases e
 .rw[List.any_eq_true];rintro⟨s,d,e⟩;obtain⟨⟨a1,a2⟩,a3,r⟩:=h.slot s d;unfold Pt PQ at e;rw[b6 (by omega)]at e;dsimp only at e;rw[b6 (by omega)]at e;simp at e;omega
end Go.Sf.Sc
