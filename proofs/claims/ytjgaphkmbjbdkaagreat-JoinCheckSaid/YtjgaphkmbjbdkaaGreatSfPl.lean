/- Plain lemmas about the loops and lists of typed functions. No program, no memory. -/
import Derived.Test.YtjgaphkmbjbdkaaGreatSfStep
import Derived.Test.YtjgaphkmbjbdkaaGreatSfF
set_option linter.all false
namespace Go.Sf
theorem bs{α β:Type}(a:α)(f:α->Option β):(some a).bind f=f a:=rfl
section loops
variable{σ ρ:Type}
variable{f:Int->σ->Option (CC σ ρ)}{n:Nat}{i:Int}{s:σ}
theorem GF:wb f (n+1) i s=(match f i s with
  |none=>none|some (.next s')=>wb f n (i+1) s'|some (.brk s')=>some (.inl s')|some (.ret r)=>some (.inr r)):=rfl
def FD(c:Int->Option ρ):Nat->Int->Option ρ
 |0,_=>none|n+1,i=>match c i with
  |some r=>some r|none=>FD c n (i+1)
def fst(c:Int->Option ρ)(a b:Int):Option ρ:=FD c (b-a).toNat a
def mz(o:Option ρ):Unit ⊕ ρ:=match o with
 |none=>.inl ()|some r=>.inr r
def RW(o:Option ρ):CC Unit ρ:=match o with
 |none=>.next ()|some r=>.ret r
theorem Xk{f:Int->Unit->Option (CC Unit ρ)}(c:Int->Option ρ):∀(n:Nat)(a:Int),
  (∀i,a<=i->i<a+n->(∀j,a<=j->j<i->c j=none)->f i ()=some (RW (c i)))->wb f n a ()=some (mz (FD c n a))
 |0,_,_=>rfl|n+1,a,h=>by
  have k:=h a (Int.le_refl _) (by omega) (fun j e g=>by omega);rw[GF,k,FD];cases v:c a with
  |some r=>rfl|none=>
   simp [RW];refine Xk c n (a+1) (fun i e g q=>h i (by omega) (by omega) (fun j t u=>?_))
   grind
variable{a b:Int}
theorem Bn{f:Int->Unit->Option (CC Unit ρ)}(c:Int->Option ρ)(h:∀i,a<=i->i<b->(∀j,a<=j->j<i->c j=none)->f i ()=some (RW (c i))):hT f a b ()=some (mz (fst c a b)):=by grind[hT,fst,Xk]
variable{c:Int->Option ρ}
theorem SL:∀{n:Nat}{a:Int},FD c n a=none↔∀i,a<=i->i<a+n->c i=none
 |0,a=>by simp[FD];intro i g j;omega|n+1,a=>by
  rw [FD];constructor
  .intro h;cases e:c a with
   |some r=>rw[e]at h;cases h
   |none=>
    rw [e]at h;intro i g j;by_cases hi:i=a
    .subst hi;exact e
    .exact(SL.1 h) i (by omega) (by omega)
  .intro h;rw[h a (Int.le_refl _) (by omega)];exact SL.2 (fun i g j=>h i (by omega) (by omega))
theorem BW:fst c a b=none↔∀i,a<=i->i<b->c i=none:=by grind[fst,SL]
variable{d:Int->Option ρ}
theorem UZ:∀{n:Nat}{a:Int},(∀i,a<=i->i<a+n->(∀j,a<=j->j<i->c j=none)->c i=d i)->FD c n a=FD d n a
 |0,_,_=>rfl|n+1,a,h=>by
  have k:=h a (Int.le_refl _) (by omega) (fun j e g=>by omega);rw[FD,FD,<-k];cases v:c a with
  |some r=>rfl|none=>
   refine UZ (fun i e g q=>h i (by omega) (by omega) (fun j t u=>?_))
   grind
theorem gw(h:∀i,a<=i->i<b->(∀j,a<=j->j<i->c j=none)->c i=d i):fst c a b=fst d a b:=
 UZ (fun i e k g=>h i e (by omega) g)
def ll(p:Int->Bool)(a b:Int):Bool:=(fst (fun i=>if p i then some ()else none) a b).isSome
variable{p:Int->Bool}
theorem D4:ll p a b=true↔∃i,a<=i/\i<b/\p i=true:=by grind[ll,Option.isSome_iff_ne_none,BW]
theorem BV:ll p a b=false↔∀i,a<=i->i<b->p i=false:=by
 rw [<-Bool.not_eq_true,D4]
 grind
theorem NQ{v:ρ}:fst (fun i=>if p i then some v else none) a b=if ll p a b then some v else none:=by
 by_cases h:ll p a b=true
 .rw[a6 h];have e:fst (fun i=>if p i then some v else none) a b≠none:=by
   grind [BW,D4]
  unfold fst at e|-;revert e;generalize (b-a).toNat=n;intro e;clear h
  induction n generalizing a with
  |zero=>exact(e rfl).elim|succ n g=>
   grind [FD]
 .rw[ae h];rw[Bool.not_eq_true,BV]at h
  grind [BW]
theorem BQ{f:Int->Unit->Option (CC Unit ρ)}(p:Int->Bool)(v:ρ)(h:∀i,a<=i->i<b->(∀j,a<=j->j<i->p j=false)->f i ()=some (if p i=true then .ret v else .next ())):hT f a b ()=some (if ll p a b=true then .inr v else .inl ()):=by
 rw [Bn (fun i=>if p i then some v else none),NQ]
 .cases ll p a b<;>rfl
 .intro i e g r;rw[h i e g (fun j k q=>by
   grind)]
  cases p i<;>rfl
theorem Va{p q:Int->Bool}(h:∀i,a<=i->i<b->p i=q i):ll p a b=ll q a b:=by grind[ll,gw]
theorem Vn{f:Int->σ->Option σ}(I:Int->σ->Prop):∀(n:Nat)(a:Int)(s:σ),I a s->(∀i s,a<=i->i<a+n->I i s->∃s',f i s=some s'/\I (i+1) s')->∃s',Aaa f n a s=some s'/\I (a+n) s'
 |0,a,s,h,_=>⟨s,rfl,by simpa using h⟩|n+1,a,s,h,e=>by
  obtain ⟨s',r,g⟩:=e a s (Int.le_refl _) (by omega) h;obtain⟨j,t,u⟩:=Vn I n (a+1) s' g (fun i s k q=>e i s (by omega) (by omega))
  grind [Aaa]
theorem ND{f:Int->σ->Option σ}(I:Int->σ->Prop)(e:a<=b)(g:I a s)(h:∀i s,a<=i->i<b->I i s->∃s',f i s=some s'/\I (i+1) s'):∃s',ne f a b s=some s'/\I b s':=by
 obtain ⟨s',k,q⟩:=Vn I (b-a).toNat a s g (fun i s j r=>h i s j (by omega));exact⟨s',k,by rwa[show a+((b-a).toNat:Int)=b by omega]at q⟩
theorem Bo{f:Int->σ->Option σ}(g:Int->σ)(e:a<=b)(j:g a=s)(h:∀i,a<=i->i<b->f i (g i)=some (g (i+1))):ne f a b s=some (g b):=by
 obtain ⟨s',t,rfl⟩:=ND (fun i s=>s=g i) e j.symm (fun i s k q r=>⟨g (i+1),by rw[r];exact h i k q,rfl⟩);exact t
theorem g6(h:b<=a):fst c a b=none:=by
 unfold fst;rw[show(b-a).toNat=0 by omega];rfl
theorem Xl(I:Int->σ->Prop)(B:σ->Prop)(R:ρ->Prop):∀(n:Nat)(a:Int)(s:σ),I a s ->
  (∀i s,a<=i->i<a+n->I i s->(∃s',f i s=some (.next s')/\I (i+1) s')\/(∃s',f i s=some (.brk s')/\B s')\/∃r,f i s=some (.ret r)/\R r) ->
  (∃s',wb f n a s=some (.inl s')/\(I (a+n) s'\/B s'))\/∃r,wb f n a s=some (.inr r)/\R r
 |0,a,s,h,_=>.inl ⟨s,rfl,.inl (by simpa using h)⟩|n+1,a,s,h,j=>by
  rw [GF];rcases j a s (Int.le_refl _) (by omega) h with⟨s',e,g⟩|⟨s',e,g⟩|⟨r,e,g⟩
  .rw[e];have:=Xl I B R n (a+1) s' g (fun i s k q=>j i s (by omega) (by omega))
   grind
  .grind
  grind
theorem SK(I:Int->σ->Prop)(B:σ->Prop)(R:ρ->Prop)(e:a<=b)(g:I a s)
  (h:∀i s,a<=i->i<b->I i s->(∃s',f i s=some (.next s')/\I (i+1) s')\/(∃s',f i s=some (.brk s')/\B s')\/∃r,f i s=some (.ret r)/\R r):
  (∃s',hT f a b s=some (.inl s')/\(I b s'\/B s'))\/∃r,hT f a b s=some (.inr r)/\R r:=by
 have:=Xl I B R (b-a).toNat a s g (fun i s j k=>h i s j (by omega))
 rwa [show a+((b-a).toNat:Int)=b by omega]at this
end loops
section lists
variable{α:Type}
def AA[Inhabited α](l:List α)(i:Int):α:=l.getD i.toNat default
variable{l:List α}{i:Int}
theorem AD[Inhabited α](e:0<=i)(g:i<l.length):idx l i=some (AA l i):=by
 unfold idx AA
 grind
variable{x:α}
theorem Z4(h:idx l i=some x):0<=i/\i<l.length/\l[i.toNat]?=some x:=by
 unfold idx at h
 grind
theorem AI[Inhabited α](e:0<=i)(g:i<l.length):AA l i∈l:=by
 have h:=AD e g;exact List.mem_of_getElem? (Z4 h).2.2
theorem Bb[Inhabited α](h:x∈l):∃i:Int,0<=i/\i<l.length/\AA l i=x:=by
 obtain ⟨n,e⟩:=List.getElem?_of_mem h;have g:=(List.getElem?_eq_some_iff.1 e).1;refine⟨n,by omega,by omega,?_⟩;unfold AA
 grind
theorem IT[Inhabited α]{p:α->Bool}:l.any p=ll (fun i=>p (AA l i)) 0 l.length:=by
 rw [Bool.eq_iff_iff,List.any_eq_true,D4]
 grind [Bb,AI]
variable{b:Int}
theorem JB(e:0<=b)(g:b<=l.length):slc l 0 b=some (l.take b.toNat):=by
 unfold slc
 grind
variable{n:Nat}
theorem Hj[Inhabited α](h:i.toNat<n):AA (l.take n) i=AA l i:=by
 unfold AA
 grind
theorem Qa[Inhabited α]{p:α->Bool}(e:0<=b)(g:b<=l.length):(l.take b.toNat).any p=ll (fun i=>p (AA l i)) 0 b:=by grind[IT,bk,Va,Hj]
variable{m:List α}
theorem AY(h:l.length+m.length<=AZ):Ap l m=some (l++m):=by grind[Ap]
theorem Zc[Inhabited α](h:l.length=m.length)(e:∀i:Int,0<=i->i<l.length->AA l i=AA m i):l=m:=by
 refine List.ext_getElem h (fun n g j=>?_);have:=e n (by omega) (by omega);unfold AA at this
 grind
theorem NO[Inhabited α]:AA (l++m) i=if i.toNat<l.length then AA l i else m.getD (i.toNat-l.length) default:=by
 unfold AA
 grind
variable{β:Type}
theorem Nh[Inhabited α][Inhabited β]{g:α->β}(e:0<=i)(h:i<l.length):AA (l.map g) i=g (AA l i):=by grind[AD,Z4,AA]
end lists
section wh
variable{σ ρ:Type}
inductive NB(f:σ->Option (CC σ ρ)):σ->σ ⊕ ρ->Prop where
 |next {s s':σ} {o:σ ⊕ ρ} (h:f s=some (.next s')) (k:NB f s' o):NB f s o
 |brk {s s':σ} (h:f s=some (.brk s')):NB f s (.inl s')
 |ret {s:σ} {r:ρ} (h:f s=some (.ret r)):NB f s (.inr r)
variable{s:σ}{o:σ ⊕ ρ}
theorem NB.go{f:σ->Option (CC σ ρ)}(h:NB f s o):∃N,∀n,N<=n->Rd f n s=some o:=by
 induction h with
 |next h k j=>
  obtain ⟨N,g⟩:=j;refine⟨N+1,fun n e=>?_⟩;cases n with
  |zero=>omega|succ n=>rw[Rd,h];exact g n (by omega)
 |brk h=>
  refine ⟨1,fun n e=>?_⟩;cases n with
  |zero=>omega|succ n=>rw[Rd,h]
 |ret h=>
  refine ⟨1,fun n e=>?_⟩;cases n with
  |zero=>omega|succ n=>rw[Rd,h]
theorem NB.eq{f:σ->Option (CC σ ρ)}(h:NB f s o):EG f s=some o:=by
 obtain ⟨N,e⟩:=h.go;exact Dd N e
def Dc(i:Int)(c:Option (Int ⊕ ρ)):CC Int ρ:=match c with
 |none=>.next (i+1)|some (.inl x)=>.brk x|some (.inr r)=>.ret r
theorem be{f:Int->Option (CC Int ρ)}(c:Int->Option (Int ⊕ ρ)):∀(n:Nat)(a:Int),(∀i,a<=i->i<a+n->(∀j,a<=j->j<i->c j=none)->f i=some (Dc i (c i)))->f (a+n)=some (.brk (a+n))->NB f a ((FD c n a).getD (.inl (a+n)))
 |0,a,_,g=>by
  simp [FD];exact .brk (by simpa using g)
 |n+1,a,h,g=>by
  have e:=h a (Int.le_refl _) (by omega) (fun j q t=>by omega);rw[FD];cases k:c a with
  |some r=>
   rw [k]at e;cases r with
   |inl x=>exact .brk e|inr r=>exact .ret e
  |none=>
   rw [k]at e;rw[show a+((n+1:Nat):Int)=a+1+n by omega]at g|-;refine .next e (be c n (a+1) (fun i q t u=>h i (by omega) (by omega) (fun j v w=>?_)) g)
   grind
variable{a b:Int}
theorem Na{f:Int->Option (CC Int ρ)}(c:Int->Option (Int ⊕ ρ))(g:a<=b)(h:∀i,a<=i->i<b->(∀j,a<=j->j<i->c j=none)->f i=some (Dc i (c i)))(k:f b=some (.brk b)):EG f a=some ((fst c a b).getD (.inl b)):=by
 have e:a+((b-a).toNat:Int)=b:=by omega
 have:=be c (b-a).toNat a (fun i q t r=>h i q (by omega) r) (by rw[e];exact k);rw[e]at this;exact this.eq
end wh
section bytes
instance:LawfulBEq ByteArray where
 eq_of_beq {a b} h:=by
  cases a;cases b;exact congrArg ByteArray.mk (eq_of_beq (show((_:Array UInt8)==_)=true from h))
 rfl {a}:=show(a.data==a.data)=true from beq_self_eq_true _
def bt(s:ByteArray)(i:Int):Int:=((s.data.toList.getD i.toNat 0).toNat:Int)
variable{i:Int}
theorem QP{s:ByteArray}(g:0<=i)(h:i<s.size):Aal s i=some (bt s i):=by
 have e:i.toNat<s.data.size:=by
  have:s.size=s.data.size:=rfl;omega
 unfold Aal bt;rw[a6 g,getElem?_pos s i.toNat e];simp[List.getD_eq_getElem?_getD,Array.getElem?_toList,Array.getElem?_eq_getElem e];rfl
variable{a b:Int}
theorem NZ{s:ByteArray}(e:0<=a)(g:a<=b)(h:b<=s.size):Aan s a b=some (s.extract a.toNat b.toNat):=by grind[Aan]
theorem Y4{s:ByteArray}(e:0<=a)(g:a<=b)(h:b<=s.size):((s.extract a.toNat b.toNat).size:Int)=b-a:=by grind[ByteArray.size_extract]
end bytes
end Go.Sf
namespace Go.Sf
def Le{α:Type}(a b:Option α):Prop:=∀r,a=some r->b=some r
theorem Le.refl{α:Type}(a:Option α):Le a a:=fun _ h=>h
theorem Le.none{α:Type}(b:Option α):Le Option.none b:=fun _ h=>by cases h
theorem Le.bind{α β:Type}{a b:Option α}{f g:α->Option β}(h:Le a b)(k:∀x,Le (f x) (g x)):Le (a.bind f) (b.bind g):=by
 intro r e;obtain⟨x,j,q⟩:=Option.bind_eq_some_iff.1 e;rw[h x j,Option.bind_some];exact k x r q
theorem Le.ite{α:Type}{c:Prop}[Decidable c]{a b a' e:Option α}(h:Le a b)(k:Le a' e):Le (if c then a else a') (if c then b else e):=by grind
theorem Le.Aaa{σ:Type}{f g:Int->σ->Option σ}(h:∀i s,Le (f i s) (g i s)):∀(n:Nat)(i:Int)(s:σ),Le (Aaa f n i s) (Aaa g n i s)
 |0,_,_=>Le.refl _|n+1,i,s=>by
  intro r e;unfold Go.Sf.Aaa at e|-;cases hf:f i s with
  |none=>rw[hf]at e;cases e
  |some s'=>
   rw [hf]at e;rw[h i s s' hf];exact Le.Aaa h n (i+1) s' r e
variable{a b:Int}
theorem Le.ne{σ:Type}{f g:Int->σ->Option σ}{s:σ}(h:∀i s,Le (f i s) (g i s)):Le (ne f a b s) (ne g a b s):=Le.Aaa h _ _ _
theorem Le.wb{σ ρ:Type}{f g:Int->σ->Option (CC σ ρ)}(h:∀i s,Le (f i s) (g i s)):∀(n:Nat)(i:Int)(s:σ),Le (wb f n i s) (wb g n i s)
 |0,_,_=>Le.refl _|n+1,i,s=>by
  intro r e;unfold Go.Sf.wb at e|-;cases hf:f i s with
  |none=>rw[hf]at e;cases e
  |some c=>
   rw [hf]at e;rw[h i s c hf];cases c with
   |next s'=>exact Le.wb h n (i+1) s' r e|brk s'=>exact e|ret v=>exact e
theorem Le.hT{σ ρ:Type}{f g:Int->σ->Option (CC σ ρ)}{s:σ}(h:∀i s,Le (f i s) (g i s)):Le (hT f a b s) (hT g a b s):=Le.wb h _ _ _
theorem Le.ek{σ ρ β:Type}{o p:Option (σ ⊕ ρ)}{k g:σ->Option β}{l j:ρ->Option β}(h:Le o p)(q:∀s,Le (k s) (g s))(t:∀v,Le (l v) (j v)):Le (ek o k l) (ek p g j):=by
 intro r e;cases o with
 |none=>cases e
 |some x=>
  rw [h x rfl];cases x with
  |inl s=>exact q s r e|inr v=>exact t v r e
theorem Wb{σ ρ:Type}{f g:σ->Option (CC σ ρ)}(h:∀s,Le (f s) (g s)):∀(n:Nat)(s:σ)(o:σ ⊕ ρ),Rd f n s=some o->NB g s o
 |0,_,_,e=>by cases e
 |n+1,s,o,e=>by
  unfold Rd at e;cases hf:f s with
  |none=>rw[hf]at e;cases e
  |some c=>
   rw [hf]at e;have j:=h s c hf;cases c with
   |next s'=>exact .next j (Wb h n s' o e)|brk s'=>cases e;exact .brk j
   |ret v=>cases e;exact .ret j
abbrev eN(N:Nat):Ev:=⟨some N⟩
theorem LW{σ ρ:Type}{f g:σ->Option (CC σ ρ)}{N:Nat}{s:σ}(h:∀s,Le (f s) (g s)):Le (@EG (eN N) _ _ f s) (@EG EZ _ _ g s):=fun _ e=>(Wb h N s _ e).eq
theorem LL{α:Type}{a:Option α}{g:Nat->Option α}(N:Nat)(h:∀n,N<=n->Le a (g n)):Le a (@JF EZ _ g):=fun r e=>Dd N fun n j=>h n j r e
class Sw(α:Type)where
 le:α->α->Prop
instance{β:Type}:Sw (Option β):=⟨Le⟩
instance{α β:Type}[Sw β]:Sw (α->β):=⟨fun f g=>∀x,Sw.le (f x) (g x)⟩
class Mo{α:Type}[Sw α](a b:α):Prop where
 le:Sw.le a b
class MF{α:Type}[Sw α](f:Ev->α):Prop where
 le:∀N,Sw.le (f (eN N)) (f EZ)
instance{α:Type}(a:Option α):Mo a a:=⟨Le.refl a⟩
instance{α β:Type}[Sw β]{F G:α->β}[h:Mo F G](x:α):Mo (F x) (G x):=⟨h.le x⟩
instance{α:Type}[Sw α]{f:Ev->α}[MF f]{N:Nat}:Mo (f (eN N)) (f EZ):=⟨MF.le N⟩
variable{β:Type}
theorem LO{a b:Option β}(h:Sw.le a b):Le a b:=h
theorem Le.Aaq{α:Type}{f g:α->K1}(h:∀p,Le (f p) (g p)):∀(l:List α),Le (Go.Sf.Aaq f l) (Go.Sf.Aaq g l)
 |[]=>Le.refl _|p::r=>(h p).bind fun _=>(Le.Aaq h r).bind fun _=>Le.refl _
theorem lx{P:Prop}(p:P:=by
 with_reducible repeat' first|exact Le.refl _|refine Le.bind ?_ fun _=>?_|refine Le.ite ?_ ?_|refine Le.ek ?_ (fun _=>?_) fun _=>?_|refine Le.ne fun _ _=>?_|refine Le.hT fun _ _=>?_|refine LW fun _=>?_|refine Le.Aaq (fun _=>?_) _|exact LO Mo.le):P:=p
theorem ly{a b:Option β}(p:Le a b):Sw.le a b:=p
end Go.Sf
