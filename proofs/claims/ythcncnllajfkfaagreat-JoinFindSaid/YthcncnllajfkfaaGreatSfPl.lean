/- Plain lemmas about the loops and lists of typed functions. No program, no memory. -/
import Derived.Test.YthcncnllajfkfaaGreatSfF
set_option linter.all false
open Option renaming some->Y,none->W
open Int renaming le_refl->v5
namespace Go.Sf
theorem bs{α β:Type}(a:α)(f:α->Option β):(Y a).bind f=f a:=rfl
section loops
variable{σ ρ:Type}
variable{f:Int->σ->Option (B5 σ ρ)}{n:Nat}{i:Int}{s:σ}
theorem Ek:tn f (n+1) i s=(match f i s with
  |none=>W|some (.next s')=>tn f n (i+1) s'|some (.brk s')=>Y (.inl s')|some (.ret r)=>Y (.inr r)):=rfl
def ER(c:Int->Option ρ):Nat->Int->Option ρ
 |0,_=>W|n+1,i=>match c i with
  |some r=>Y r|none=>ER c n (i+1)
def fst(c:Int->Option ρ)(a b:Int):Option ρ:=ER c (b-a).toNat a
def tN(o:Option ρ):Unit ⊕ ρ:=match o with
 |none=>.inl ()|some r=>.inr r
def Sx(o:Option ρ):B5 Unit ρ:=match o with
 |none=>.next ()|some r=>.ret r
theorem aZ{f:Int->Unit->Option (B5 Unit ρ)}(c:Int->Option ρ):∀(n:Nat)(a:Int),
  (∀i,a<=i->i<a+n->(∀j,a<=j->j<i->c j=W)->f i ()=Y (Sx (c i)))->tn f n a ()=Y (tN (ER c n a))
 |0,_,_=>rfl|n+1,a,h=>by
  have k:=h a (v5 _) U (λj e g=>U);rw[Ek,k,ER];cases v:c a with
  |some r=>rfl|none=>
   simp [Sx];refine aZ c n (a+1) (λi e g q=>h i U U (λj t u=>?_))
   grind
variable{a b:Int}
theorem Bz{f:Int->Unit->Option (B5 Unit ρ)}(c:Int->Option ρ)(h:∀i,a<=i->i<b->(∀j,a<=j->j<i->c j=W)->f i ()=Y (Sx (c i))):gt f a b ()=Y (tN (fst c a b)):=by grind[gt,fst,aZ]
variable{c:Int->Option ρ}
theorem Tx:∀{n:Nat}{a:Int},ER c n a=W↔∀i,a<=i->i<a+n->c i=W
 |0,a=>by simp[ER];intro i g j;omega|n+1,a=>by
  rw [ER];constructor
  .intro h;cases e:c a with
   |some r=>rw[e]at h;cases h
   |none=>
    rw [e]at h;intro i g j;by_cases hi:i=a
    .subst hi;exact e
    .exact(Tx.1 h) i U U
  .intro h;rw[h a (v5 _) U];exact Tx.2 (λi g j=>h i U U)
theorem BU:fst c a b=W↔∀i,a<=i->i<b->c i=W:=by grind[fst,Tx]
variable{d:Int->Option ρ}
theorem WX:∀{n:Nat}{a:Int},(∀i,a<=i->i<a+n->(∀j,a<=j->j<i->c j=W)->c i=d i)->ER c n a=ER d n a
 |0,_,_=>rfl|n+1,a,h=>by
  have k:=h a (v5 _) U (λj e g=>U);rw[ER,ER,<-k];cases v:c a with
  |some r=>rfl|none=>
   refine WX (λi e g q=>h i U U (λj t u=>?_))
   grind
theorem ah(h:∀i,a<=i->i<b->(∀j,a<=j->j<i->c j=W)->c i=d i):fst c a b=fst d a b:=
 WX (λi e k g=>h i e U g)
def kl(p:Int->Bool)(a b:Int):Bool:=(fst (λi=>if p i then Y ()else W) a b).isSome
variable{p:Int->Bool}
theorem EU:kl p a b=true↔∃i,a<=i/\i<b/\p i=true:=by grind[kl,Option.isSome_iff_ne_none,BU]
theorem Bw:kl p a b=false↔∀i,a<=i->i<b->p i=false:=by
 rw [<-Bool.not_eq_true,EU]
 grind
theorem Og{v:ρ}:fst (λi=>if p i then Y v else W) a b=if kl p a b then Y v else W:=by
 by_cases h:kl p a b=true
 .rw[a6 h];have e:fst (λi=>if p i then Y v else W) a b≠W:=by
   grind [BU,EU]
  unfold fst at e|-;revert e;generalize (b-a).toNat=n;intro e;clear h
  induction n generalizing a with
  |zero=>exact(e rfl).elim|succ n g=>
   grind [ER]
 .rw[ac h];rw[Bool.not_eq_true,Bw]at h
  grind [BU]
theorem BZ{f:Int->Unit->Option (B5 Unit ρ)}(p:Int->Bool)(v:ρ)(h:∀i,a<=i->i<b->(∀j,a<=j->j<i->p j=false)->f i ()=Y (if p i=true then .ret v else .next ())):gt f a b ()=Y (if kl p a b=true then .inr v else .inl ()):=by
 rw [Bz (λi=>if p i then Y v else W),Og]
 .cases kl p a b<;>rfl
 .intro i e g r;rw[h i e g (λj k q=>by
   grind)]
  cases p i<;>rfl
theorem Tc{p q:Int->Bool}(h:∀i,a<=i->i<b->p i=q i):kl p a b=kl q a b:=by grind[kl,ah]
theorem X6{f:Int->σ->Option σ}(I:Int->σ->Prop):∀(n:Nat)(a:Int)(s:σ),I a s->(∀i s,a<=i->i<a+n->I i s->∃s',f i s=Y s'/\I (i+1) s')->∃s',Aaa f n a s=Y s'/\I (a+n) s'
 |0,a,s,h,_=>⟨s,rfl,c?⟩|n+1,a,s,h,e=>by
  obtain ⟨s',r,g⟩:=e a s (v5 _) U h;obtain⟨j,t,u⟩:=X6 I n (a+1) s' g (λi s k q=>e i s U U)
  grind [Aaa]
theorem R1{f:Int->σ->Option σ}(I:Int->σ->Prop)(e:a<=b)(g:I a s)(h:∀i s,a<=i->i<b->I i s->∃s',f i s=Y s'/\I (i+1) s'):∃s',ls f a b s=Y s'/\I b s':=by
 obtain ⟨s',k,q⟩:=X6 I (b-a).toNat a s g (λi s j r=>h i s j U);exact⟨s',k,by rwa[show a+((b-a).toNat:Int)=b by omega]at q⟩
theorem Bo{f:Int->σ->Option σ}(g:Int->σ)(e:a<=b)(j:g a=s)(h:∀i,a<=i->i<b->f i (g i)=Y (g (i+1))):ls f a b s=Y (g b):=by
 obtain ⟨s',t,rfl⟩:=R1 (λi s=>s=g i) e j.symm (λi s k q r=>⟨g (i+1),by rw[r];exact h i k q,rfl⟩);exact t
theorem np(h:b<=a):fst c a b=W:=by
 unfold fst;rw[show(b-a).toNat=0 by omega];rfl
theorem aa(I:Int->σ->Prop)(B:σ->Prop)(R:ρ->Prop):∀(n:Nat)(a:Int)(s:σ),I a s ->
  (∀i s,a<=i->i<a+n->I i s->(∃s',f i s=Y (.next s')/\I (i+1) s')\/(∃s',f i s=Y (.brk s')/\B s')\/∃r,f i s=Y (.ret r)/\R r) ->
  (∃s',tn f n a s=Y (.inl s')/\(I (a+n) s'\/B s'))\/∃r,tn f n a s=Y (.inr r)/\R r
 |0,a,s,h,_=>.inl ⟨s,rfl,.inl c?⟩|n+1,a,s,h,j=>by
  rw [Ek];rcases j a s (v5 _) U h with⟨s',e,g⟩|⟨s',e,g⟩|⟨r,e,g⟩
  .rw[e];have:=aa I B R n (a+1) s' g (λi s k q=>j i s U U)
   grind
  .grind
  grind
theorem W5(I:Int->σ->Prop)(B:σ->Prop)(R:ρ->Prop)(e:a<=b)(g:I a s)
  (h:∀i s,a<=i->i<b->I i s->(∃s',f i s=Y (.next s')/\I (i+1) s')\/(∃s',f i s=Y (.brk s')/\B s')\/∃r,f i s=Y (.ret r)/\R r):
  (∃s',gt f a b s=Y (.inl s')/\(I b s'\/B s'))\/∃r,gt f a b s=Y (.inr r)/\R r:=by
 have:=aa I B R (b-a).toNat a s g (λi s j k=>h i s j U)
 rwa [show a+((b-a).toNat:Int)=b by omega]at this
end loops
section lists
variable{α:Type}
def AA[Inhabited α](l:List α)(i:Int):α:=l.getD i.toNat default
variable{l:List α}{i:Int}
theorem AD[Inhabited α](e:0<=i)(g:i<l.length):idx l i=Y (AA l i):=by
 unfold idx AA
 grind
variable{x:α}
theorem eQ(h:idx l i=Y x):0<=i/\i<l.length/\l[i.toNat]?=Y x:=by
 unfold idx at h
 grind
theorem AI[Inhabited α](e:0<=i)(g:i<l.length):AA l i∈l:=by
 have h:=AD e g;exact List.mem_of_getElem? (eQ h).2.2
theorem BW[Inhabited α](h:x∈l):∃i:Int,0<=i/\i<l.length/\AA l i=x:=by
 obtain ⟨n,e⟩:=List.getElem?_of_mem h;have g:=(List.getElem?_eq_some_iff.1 e).1;refine⟨n,U,U,?_⟩;unfold AA
 grind
theorem Ip[Inhabited α]{p:α->Bool}:l.any p=kl (λi=>p (AA l i)) 0 l.length:=by
 rw [Bool.eq_iff_iff,List.any_eq_true,EU]
 grind [BW,AI]
variable{b:Int}
theorem Hw(e:0<=b)(g:b<=l.length):slc l 0 b=Y (l.take b.toNat):=by
 unfold slc
 grind
variable{n:Nat}
theorem t5[Inhabited α](h:i.toNat<n):AA (l.take n) i=AA l i:=by
 unfold AA
 grind
theorem Rw[Inhabited α]{p:α->Bool}(e:0<=b)(g:b<=l.length):(l.take b.toNat).any p=kl (λi=>p (AA l i)) 0 b:=by grind[Ip,bk,Tc,t5]
variable{m:List α}
theorem AV(h:l.length+m.length<=AY):Am l m=Y (l++m):=by grind[Am]
theorem Xr[Inhabited α](h:l.length=m.length)(e:∀i:Int,0<=i->i<l.length->AA l i=AA m i):l=m:=by
 refine List.ext_getElem h (λn g j=>?_);have:=e n U U;unfold AA at this
 grind
theorem Od[Inhabited α]:AA (l++m) i=if i.toNat<l.length then AA l i else m.getD (i.toNat-l.length) default:=by
 unfold AA
 grind
variable{β:Type}
theorem Dy[Inhabited α][Inhabited β]{g:α->β}(e:0<=i)(h:i<l.length):AA (l.map g) i=g (AA l i):=by grind[AD,eQ,AA]
end lists
section wh
variable{σ ρ:Type}
inductive L8(f:σ->Option (B5 σ ρ)):σ->σ ⊕ ρ->Prop where
 |next {s s':σ} {o:σ ⊕ ρ} (h:f s=Y (.next s')) (k:L8 f s' o):L8 f s o
 |brk {s s':σ} (h:f s=Y (.brk s')):L8 f s (.inl s')
 |ret {s:σ} {r:ρ} (h:f s=Y (.ret r)):L8 f s (.inr r)
variable{s:σ}{o:σ ⊕ ρ}
theorem L8.go{f:σ->Option (B5 σ ρ)}(h:L8 f s o):∃N,∀n,N<=n->S8 f n s=Y o:=by
 induction h with
 |next h k j=>
  obtain ⟨N,g⟩:=j;refine⟨N+1,λn e=>?_⟩;cases n with
  |zero=>omega|succ n=>rw[S8,h];exact g n U
 |brk h=>
  refine ⟨1,λn e=>?_⟩;cases n with
  |zero=>omega|succ n=>rw[S8,h]
 |ret h=>
  refine ⟨1,λn e=>?_⟩;cases n with
  |zero=>omega|succ n=>rw[S8,h]
theorem L8.eq{f:σ->Option (B5 σ ρ)}(h:L8 f s o):Dv f s=Y o:=by
 obtain ⟨N,e⟩:=h.go;exact DK N e
def De(i:Int)(c:Option (Int ⊕ ρ)):B5 Int ρ:=match c with
 |none=>.next (i+1)|some (.inl x)=>.brk x|some (.inr r)=>.ret r
theorem iR{f:Int->Option (B5 Int ρ)}(c:Int->Option (Int ⊕ ρ)):∀(n:Nat)(a:Int),(∀i,a<=i->i<a+n->(∀j,a<=j->j<i->c j=W)->f i=Y (De i (c i)))->f (a+n)=Y (.brk (a+n))->L8 f a ((ER c n a).getD (.inl (a+n)))
 |0,a,_,hb=>by
  simp [ER];exact .brk (by simpa using hb)
 |n+1,a,h,hb=>by
  have e:=h a (v5 _) U (λj k q=>U);rw[ER];cases g:c a with
  |some r=>
   rw [g]at e;cases r with
   |inl x=>exact .brk e|inr r=>exact .ret e
  |none=>
   rw [g]at e;rw[show a+((n+1:Nat):Int)=a+1+n by omega]at hb|-;refine .next e (iR c n (a+1) (λi k q t=>h i U U (λj u v=>?_)) hb)
   grind
variable{a b:Int}
theorem Ou{f:Int->Option (B5 Int ρ)}(c:Int->Option (Int ⊕ ρ))(g:a<=b)(h:∀i,a<=i->i<b->(∀j,a<=j->j<i->c j=W)->f i=Y (De i (c i)))(hb:f b=Y (.brk b)):Dv f a=Y ((fst c a b).getD (.inl b)):=by
 have e:a+((b-a).toNat:Int)=b:=U
 have:=iR c (b-a).toNat a (λi k r q=>h i k U q) (by rw[e];exact hb);rw[e]at this;exact this.eq
end wh
section bytes
instance:LawfulBEq ByteArray where
 eq_of_beq {a b} h:=by
  cases a;cases b;exact congrArg ByteArray.mk (eq_of_beq (show((_:Array UInt8)==_)=true from h))
 rfl {a}:=show(a.data==a.data)=true from beq_self_eq_true _
def bt(s:ByteArray)(i:Int):Int:=((s.data.toList.getD i.toNat 0).toNat:Int)
variable{i:Int}
theorem Rr{s:ByteArray}(g:0<=i)(h:i<s.size):Aam s i=Y (bt s i):=by
 have e:i.toNat<s.data.size:=by
  have:s.size=s.data.size:=rfl;omega
 unfold Aam bt;rw[a6 g,getElem?_pos s i.toNat e];simp[List.getD_eq_getElem?_getD,Array.getElem?_toList,Array.getElem?_eq_getElem e];rfl
variable{a b:Int}
theorem Ot{s:ByteArray}(e:0<=a)(g:a<=b)(h:b<=s.size):Aaq s a b=Y (s.extract a.toNat b.toNat):=by grind[Aaq]
theorem cT{s:ByteArray}(e:0<=a)(g:a<=b)(h:b<=s.size):((s.extract a.toNat b.toNat).size:Int)=b-a:=by grind[ByteArray.size_extract]
end bytes
end Go.Sf
namespace Go.Sf
def Le{α:Type}(a b:Option α):Prop:=∀r,a=Y r->b=Y r
theorem Le.refl{α:Type}(a:Option α):Le a a:=λ_ h=>h
theorem Le.none{α:Type}(b:Option α):Le Option.none b:=λ_ h=>c_
theorem Le.bind{α β:Type}{a b:Option α}{f g:α->Option β}(h:Le a b)(k:∀x,Le (f x) (g x)):Le (a.bind f) (b.bind g):=by
 intro r hr;obtain⟨x,e,j⟩:=Option.bind_eq_some_iff.1 hr;rw[h x e,Option.bind_some];exact k x r j
theorem Le.ite{α:Type}{c:Prop}[Decidable c]{a b a' e:Option α}(h:Le a b)(k:Le a' e):Le (if c then a else a') (if c then b else e):=m?
theorem Le.Aaa{σ:Type}{f g:Int->σ->Option σ}(h:∀i s,Le (f i s) (g i s)):∀(n:Nat)(i:Int)(s:σ),Le (Aaa f n i s) (Aaa g n i s)
 |0,_,_=>Le.refl _|n+1,i,s=>by
  intro r hr;unfold Go.Sf.Aaa at hr|-;cases hf:f i s with
  |none=>rw[hf]at hr;cases hr
  |some s'=>
   rw [hf]at hr;rw[h i s s' hf];exact Le.Aaa h n (i+1) s' r hr
variable{a b:Int}
theorem Le.ls{σ:Type}{f g:Int->σ->Option σ}{s:σ}(h:∀i s,Le (f i s) (g i s)):Le (ls f a b s) (ls g a b s):=Le.Aaa h _ _ _
theorem Le.tn{σ ρ:Type}{f g:Int->σ->Option (B5 σ ρ)}(h:∀i s,Le (f i s) (g i s)):∀(n:Nat)(i:Int)(s:σ),Le (tn f n i s) (tn g n i s)
 |0,_,_=>Le.refl _|n+1,i,s=>by
  intro r hr;unfold Go.Sf.tn at hr|-;cases hf:f i s with
  |none=>rw[hf]at hr;cases hr
  |some c=>
   rw [hf]at hr;rw[h i s c hf];cases c with
   |next s'=>exact Le.tn h n (i+1) s' r hr|brk s'=>exact hr|ret v=>exact hr
theorem Le.gt{σ ρ:Type}{f g:Int->σ->Option (B5 σ ρ)}{s:σ}(h:∀i s,Le (f i s) (g i s)):Le (gt f a b s) (gt g a b s):=Le.tn h _ _ _
theorem Le.ei{σ ρ β:Type}{o p:Option (σ ⊕ ρ)}{k e:σ->Option β}{l g:ρ->Option β}(h:Le o p)(j:∀s,Le (k s) (e s))(q:∀v,Le (l v) (g v)):Le (ei o k l) (ei p e g):=by
 intro r hr;cases o with
 |none=>cases hr
 |some x=>
  rw [h x rfl];cases x with
  |inl s=>exact j s r hr|inr v=>exact q v r hr
theorem Y4{σ ρ:Type}{f g:σ->Option (B5 σ ρ)}(h:∀s,Le (f s) (g s)):∀(n:Nat)(s:σ)(o:σ ⊕ ρ),S8 f n s=Y o->L8 g s o
 |0,_,_,hr=>by cases hr
 |n+1,s,o,hr=>by
  unfold S8 at hr;cases hf:f s with
  |none=>rw[hf]at hr;cases hr
  |some c=>
   rw [hf]at hr;have e:=h s c hf;cases c with
   |next s'=>exact .next e (Y4 h n s' o hr)|brk s'=>cases hr;exact .brk e
   |ret v=>cases hr;exact .ret e
abbrev eN(N:Nat):Ev:=⟨Y N⟩
theorem LW{σ ρ:Type}{f g:σ->Option (B5 σ ρ)}{N:Nat}{s:σ}(h:∀s,Le (f s) (g s)):Le (@Dv (eN N) _ _ f s) (@Dv FD _ _ g s):=λ_ hr=>(Y4 h N s _ hr).eq
theorem LL{α:Type}{a:Option α}{g:Nat->Option α}(N:Nat)(h:∀n,N<=n->Le a (g n)):Le a (@JB FD _ g):=λr hr=>DK N λn e=>h n e r hr
class Ue(α:Type)where
 le:α->α->Prop
instance{β:Type}:Ue (Option β):=⟨Le⟩
instance{α β:Type}[Ue β]:Ue (α->β):=⟨λf g=>∀x,Ue.le (f x) (g x)⟩
class Mo{α:Type}[Ue α](a b:α):Prop where
 le:Ue.le a b
class MF{α:Type}[Ue α](f:Ev->α):Prop where
 le:∀N,Ue.le (f (eN N)) (f FD)
instance{α:Type}(a:Option α):Mo a a:=⟨Le.refl a⟩
instance{α β:Type}[Ue β]{F G:α->β}[h:Mo F G](x:α):Mo (F x) (G x):=⟨h.le x⟩
instance{α:Type}[Ue α]{f:Ev->α}[MF f]{N:Nat}:Mo (f (eN N)) (f FD):=⟨MF.le N⟩
variable{β:Type}
theorem LO{a b:Option β}(h:Ue.le a b):Le a b:=h
theorem Le.Aas{α:Type}{f g:α->K1}(h:∀p,Le (f p) (g p)):∀(l:List α),Le (Go.Sf.Aas f l) (Go.Sf.Aas g l)
 |[]=>Le.refl _|p::r=>(h p).bind λ_=>(Le.Aas h r).bind λ_=>Le.refl _
theorem lx{P:Prop}(p:P:=by
 with_reducible repeat' first|exact Le.refl _|refine Le.bind ?_ λ_=>?_|refine Le.ite ?_ ?_|refine Le.ei ?_ (λ_=>?_) λ_=>?_|refine Le.ls λ_ _=>?_|refine Le.gt λ_ _=>?_|refine LW λ_=>?_|refine Le.Aas (λ_=>?_) _|exact LO Mo.le):P:=p
theorem ly{a b:Option β}(p:Le a b):Ue.le a b:=p
end Go.Sf
