/- Plain lemmas about the loops and lists of typed functions. No program, no memory. -/
import Derived.Test.YtfcfkigfmofniaaGreatSfStep
import Derived.Test.YtfcfkigfmofniaaGreatSfF
set_option linter.all false
namespace Go.Sf
theorem bs{α β:Type}(a:α)(f:α->Option β):(some a).bind f=f a:=rfl
section loops
variable{σ ρ:Type}
variable{f:Int->σ->Option (Bf σ ρ)}{n:Nat}{i:Int}{s:σ}
theorem EP:x9 f (n+1) i s=(match f i s with
  |none=>none|some (.next s')=>x9 f n (i+1) s'|some (.brk s')=>some (.inl s')|some (.ret r)=>some (.inr r)):=rfl
def Em(c:Int->Option ρ):Nat->Int->Option ρ
 |0,_=>none|n+1,i=>match c i with
  |some r=>some r|none=>Em c n (i+1)
def fst(c:Int->Option ρ)(a b:Int):Option ρ:=Em c (b-a).toNat a
def nH(o:Option ρ):Unit ⊕ ρ:=match o with
 |none=>.inl ()|some r=>.inr r
def QV(o:Option ρ):Bf Unit ρ:=match o with
 |none=>.next ()|some r=>.ret r
theorem YC{f:Int->Unit->Option (Bf Unit ρ)}(c:Int->Option ρ):∀(n:Nat)(a:Int),
  (∀i,a<=i->i<a+n->(∀j,a<=j->j<i->c j=none)->f i ()=some (QV (c i)))->x9 f n a ()=some (nH (Em c n a))
 |0,_,_=>rfl|n+1,a,h=>by
  have k:=h a (Int.le_refl _) (by omega) (fun j e g=>by omega);rw[EP,k,Em];cases v:c a with
  |some r=>rfl|none=>
   simp [QV];refine YC c n (a+1) (fun i e g q=>h i (by omega) (by omega) (fun j t u=>?_))
   grind
variable{a b:Int}
theorem BF{f:Int->Unit->Option (Bf Unit ρ)}(c:Int->Option ρ)(h:∀i,a<=i->i<b->(∀j,a<=j->j<i->c j=none)->f i ()=some (QV (c i))):kg f a b ()=some (nH (fst c a b)):=by grind[kg,fst,YC]
variable{c:Int->Option ρ}
theorem SS:∀{n:Nat}{a:Int},Em c n a=none↔∀i,a<=i->i<a+n->c i=none
 |0,a=>by simp[Em];intro i g j;omega|n+1,a=>by
  rw [Em];constructor
  .intro h;cases e:c a with
   |some r=>rw[e]at h;cases h
   |none=>
    rw [e]at h;intro i g j;by_cases hi:i=a
    .subst hi;exact e
    .exact(SS.1 h) i (by omega) (by omega)
  .intro h;rw[h a (Int.le_refl _) (by omega)];exact SS.2 (fun i g j=>h i (by omega) (by omega))
theorem Ay:fst c a b=none↔∀i,a<=i->i<b->c i=none:=by grind[fst,SS]
variable{d:Int->Option ρ}
theorem VC:∀{n:Nat}{a:Int},(∀i,a<=i->i<a+n->(∀j,a<=j->j<i->c j=none)->c i=d i)->Em c n a=Em d n a
 |0,_,_=>rfl|n+1,a,h=>by
  have k:=h a (Int.le_refl _) (by omega) (fun j e g=>by omega);rw[Em,Em,<-k];cases v:c a with
  |some r=>rfl|none=>
   refine VC (fun i e g q=>h i (by omega) (by omega) (fun j t u=>?_))
   grind
theorem gk(h:∀i,a<=i->i<b->(∀j,a<=j->j<i->c j=none)->c i=d i):fst c a b=fst d a b:=
 VC (fun i e k g=>h i e (by omega) g)
def mt(p:Int->Bool)(a b:Int):Bool:=(fst (fun i=>if p i then some ()else none) a b).isSome
variable{p:Int->Bool}
theorem CM:mt p a b=true↔∃i,a<=i/\i<b/\p i=true:=by grind[mt,Option.isSome_iff_ne_none,Ay]
theorem Bt:mt p a b=false↔∀i,a<=i->i<b->p i=false:=by
 rw [<-Bool.not_eq_true,CM]
 grind
theorem M8{v:ρ}:fst (fun i=>if p i then some v else none) a b=if mt p a b then some v else none:=by
 by_cases h:mt p a b=true
 .rw[ae h];have e:fst (fun i=>if p i then some v else none) a b≠none:=by
   grind [Ay,CM]
  unfold fst at e|-;revert e;generalize (b-a).toNat=n;intro e;clear h
  induction n generalizing a with
  |zero=>exact(e rfl).elim|succ n g=>
   grind [Em]
 .rw[az h];rw[Bool.not_eq_true,Bt]at h
  grind [Ay]
theorem BW{f:Int->Unit->Option (Bf Unit ρ)}(p:Int->Bool)(v:ρ)(h:∀i,a<=i->i<b->(∀j,a<=j->j<i->p j=false)->f i ()=some (if p i=true then .ret v else .next ())):kg f a b ()=some (if mt p a b=true then .inr v else .inl ()):=by
 rw [BF (fun i=>if p i then some v else none),M8]
 .cases mt p a b<;>rfl
 .intro i e g r;rw[h i e g (fun j k q=>by
   grind)]
  cases p i<;>rfl
theorem V7{p q:Int->Bool}(h:∀i,a<=i->i<b->p i=q i):mt p a b=mt q a b:=by grind[mt,gk]
theorem WK{f:Int->σ->Option σ}(I:Int->σ->Prop):∀(n:Nat)(a:Int)(s:σ),I a s->(∀i s,a<=i->i<a+n->I i s->∃s',f i s=some s'/\I (i+1) s')->∃s',yy f n a s=some s'/\I (a+n) s'
 |0,a,s,h,_=>⟨s,rfl,by simpa using h⟩|n+1,a,s,h,e=>by
  obtain ⟨s',r,g⟩:=e a s (Int.le_refl _) (by omega) h;obtain⟨j,t,u⟩:=WK I n (a+1) s' g (fun i s k q=>e i s (by omega) (by omega))
  grind [yy]
theorem Mv{f:Int->σ->Option σ}(I:Int->σ->Prop)(e:a<=b)(g:I a s)(h:∀i s,a<=i->i<b->I i s->∃s',f i s=some s'/\I (i+1) s'):∃s',nd f a b s=some s'/\I b s':=by
 obtain ⟨s',k,q⟩:=WK I (b-a).toNat a s g (fun i s j r=>h i s j (by omega));exact⟨s',k,by rwa[show a+((b-a).toNat:Int)=b by omega]at q⟩
theorem BY{f:Int->σ->Option σ}(g:Int->σ)(e:a<=b)(j:g a=s)(h:∀i,a<=i->i<b->f i (g i)=some (g (i+1))):nd f a b s=some (g b):=by
 obtain ⟨s',t,rfl⟩:=Mv (fun i s=>s=g i) e j.symm (fun i s k q r=>⟨g (i+1),by rw[r];exact h i k q,rfl⟩);exact t
theorem gm(h:b<=a):fst c a b=none:=by
 unfold fst;rw[show(b-a).toNat=0 by omega];rfl
theorem YD(I:Int->σ->Prop)(B:σ->Prop)(R:ρ->Prop):∀(n:Nat)(a:Int)(s:σ),I a s ->
  (∀i s,a<=i->i<a+n->I i s->(∃s',f i s=some (.next s')/\I (i+1) s')\/(∃s',f i s=some (.brk s')/\B s')\/∃r,f i s=some (.ret r)/\R r) ->
  (∃s',x9 f n a s=some (.inl s')/\(I (a+n) s'\/B s'))\/∃r,x9 f n a s=some (.inr r)/\R r
 |0,a,s,h,_=>.inl ⟨s,rfl,.inl (by simpa using h)⟩|n+1,a,s,h,j=>by
  rw [EP];rcases j a s (Int.le_refl _) (by omega) h with⟨s',e,g⟩|⟨s',e,g⟩|⟨r,e,g⟩
  .rw[e];have:=YD I B R n (a+1) s' g (fun i s k q=>j i s (by omega) (by omega))
   grind
  .grind
  grind
theorem SR(I:Int->σ->Prop)(B:σ->Prop)(R:ρ->Prop)(e:a<=b)(g:I a s)
  (h:∀i s,a<=i->i<b->I i s->(∃s',f i s=some (.next s')/\I (i+1) s')\/(∃s',f i s=some (.brk s')/\B s')\/∃r,f i s=some (.ret r)/\R r):
  (∃s',kg f a b s=some (.inl s')/\(I b s'\/B s'))\/∃r,kg f a b s=some (.inr r)/\R r:=by
 have:=YD I B R (b-a).toNat a s g (fun i s j k=>h i s j (by omega))
 rwa [show a+((b-a).toNat:Int)=b by omega]at this
end loops
section lists
variable{α:Type}
def AA[Inhabited α](l:List α)(i:Int):α:=l.getD i.toNat default
variable{l:List α}{i:Int}
theorem AC[Inhabited α](e:0<=i)(g:i<l.length):idx l i=some (AA l i):=by
 unfold idx AA
 grind
variable{x:α}
theorem Z8(h:idx l i=some x):0<=i/\i<l.length/\l[i.toNat]?=some x:=by
 unfold idx at h
 grind
theorem AF[Inhabited α](e:0<=i)(g:i<l.length):AA l i∈l:=by
 have h:=AC e g;exact List.mem_of_getElem? (Z8 h).2.2
theorem BR[Inhabited α](h:x∈l):∃i:Int,0<=i/\i<l.length/\AA l i=x:=by
 obtain ⟨n,e⟩:=List.getElem?_of_mem h;have g:=(List.getElem?_eq_some_iff.1 e).1;refine⟨n,by omega,by omega,?_⟩;unfold AA
 grind
theorem H0[Inhabited α]{p:α->Bool}:l.any p=mt (fun i=>p (AA l i)) 0 l.length:=by
 rw [Bool.eq_iff_iff,List.any_eq_true,CM]
 grind [BR,AF]
variable{b:Int}
theorem DT(e:0<=b)(g:b<=l.length):y9 l 0 b=some (l.take b.toNat):=by
 unfold y9
 grind
variable{n:Nat}
theorem KE[Inhabited α](h:i.toNat<n):AA (l.take n) i=AA l i:=by
 unfold AA
 grind
theorem QW[Inhabited α]{p:α->Bool}(e:0<=b)(g:b<=l.length):(l.take b.toNat).any p=mt (fun i=>p (AA l i)) 0 b:=by grind[H0,cE,V7,KE]
variable{m:List α}
theorem AQ(h:l.length+m.length<=AU):AT l m=some (l++m):=by grind[AT]
theorem gN[Inhabited α](h:l.length=m.length)(e:∀i:Int,0<=i->i<l.length->AA l i=AA m i):l=m:=by
 refine List.ext_getElem h (fun n g j=>?_);have:=e n (by omega) (by omega);unfold AA at this
 grind
theorem M4[Inhabited α]:AA (l++m) i=if i.toNat<l.length then AA l i else m.getD (i.toNat-l.length) default:=by
 unfold AA
 grind
variable{β:Type}
theorem PK[Inhabited α][Inhabited β]{g:α->β}(e:0<=i)(h:i<l.length):AA (l.map g) i=g (AA l i):=by grind[AC,Z8,AA]
end lists
section wh
variable{σ ρ:Type}
inductive L3(f:σ->Option (Bf σ ρ)):σ->σ ⊕ ρ->Prop where
 |next {s s':σ} {o:σ ⊕ ρ} (h:f s=some (.next s')) (k:L3 f s' o):L3 f s o
 |brk {s s':σ} (h:f s=some (.brk s')):L3 f s (.inl s')
 |ret {s:σ} {r:ρ} (h:f s=some (.ret r)):L3 f s (.inr r)
variable{s:σ}{o:σ ⊕ ρ}
theorem L3.go{f:σ->Option (Bf σ ρ)}(h:L3 f s o):∃N,∀n,N<=n->Rc f n s=some o:=by
 induction h with
 |next h k j=>
  obtain ⟨N,g⟩:=j;refine⟨N+1,fun n e=>?_⟩;cases n with
  |zero=>omega|succ n=>rw[Rc,h];exact g n (by omega)
 |brk h=>
  refine ⟨1,fun n e=>?_⟩;cases n with
  |zero=>omega|succ n=>rw[Rc,h]
 |ret h=>
  refine ⟨1,fun n e=>?_⟩;cases n with
  |zero=>omega|succ n=>rw[Rc,h]
theorem L3.eq{f:σ->Option (Bf σ ρ)}(h:L3 f s o):Ca f s=some o:=by
 obtain ⟨N,e⟩:=h.go;exact Dy N e
def EH(i:Int)(c:Option (Int ⊕ ρ)):Bf Int ρ:=match c with
 |none=>.next (i+1)|some (.inl x)=>.brk x|some (.inr r)=>.ret r
theorem bZ{f:Int->Option (Bf Int ρ)}(c:Int->Option (Int ⊕ ρ)):∀(n:Nat)(a:Int),(∀i,a<=i->i<a+n->(∀j,a<=j->j<i->c j=none)->f i=some (EH i (c i)))->f (a+n)=some (.brk (a+n))->L3 f a ((Em c n a).getD (.inl (a+n)))
 |0,a,_,g=>by
  simp [Em];exact .brk (by simpa using g)
 |n+1,a,h,g=>by
  have e:=h a (Int.le_refl _) (by omega) (fun j q t=>by omega);rw[Em];cases k:c a with
  |some r=>
   rw [k]at e;cases r with
   |inl x=>exact .brk e|inr r=>exact .ret e
  |none=>
   rw [k]at e;rw[show a+((n+1:Nat):Int)=a+1+n by omega]at g|-;refine .next e (bZ c n (a+1) (fun i q t u=>h i (by omega) (by omega) (fun j v w=>?_)) g)
   grind
variable{a b:Int}
theorem NM{f:Int->Option (Bf Int ρ)}(c:Int->Option (Int ⊕ ρ))(g:a<=b)(h:∀i,a<=i->i<b->(∀j,a<=j->j<i->c j=none)->f i=some (EH i (c i)))(k:f b=some (.brk b)):Ca f a=some ((fst c a b).getD (.inl b)):=by
 have e:a+((b-a).toNat:Int)=b:=by omega
 have:=bZ c (b-a).toNat a (fun i q t r=>h i q (by omega) r) (by rw[e];exact k);rw[e]at this;exact this.eq
end wh
section bytes
instance:LawfulBEq ByteArray where
 eq_of_beq {a b} h:=by
  cases a;cases b;exact congrArg ByteArray.mk (eq_of_beq (show((_:Array UInt8)==_)=true from h))
 rfl {a}:=show(a.data==a.data)=true from beq_self_eq_true _
def bt(s:ByteArray)(i:Int):Int:=((s.data.toList.getD i.toNat 0).toNat:Int)
variable{i:Int}
theorem QO{s:ByteArray}(g:0<=i)(h:i<s.size):za s i=some (bt s i):=by
 have e:i.toNat<s.data.size:=by
  have:s.size=s.data.size:=rfl;omega
 unfold za bt;rw[ae g,getElem?_pos s i.toNat e];simp[List.getD_eq_getElem?_getD,Array.getElem?_toList,Array.getElem?_eq_getElem e];rfl
variable{a b:Int}
theorem IP{s:ByteArray}(e:0<=a)(g:a<=b)(h:b<=s.size):yu s a b=some (s.extract a.toNat b.toNat):=by grind[yu]
theorem Y6{s:ByteArray}(e:0<=a)(g:a<=b)(h:b<=s.size):((s.extract a.toNat b.toNat).size:Int)=b-a:=by grind[ByteArray.size_extract]
end bytes
end Go.Sf
namespace Go.Sf
def Le{α:Type}(a b:Option α):Prop:=∀r,a=some r->b=some r
theorem Le.refl{α:Type}(a:Option α):Le a a:=fun _ h=>h
theorem Le.none{α:Type}(b:Option α):Le Option.none b:=fun _ h=>by cases h
theorem Le.bind{α β:Type}{a b:Option α}{f g:α->Option β}(h:Le a b)(k:∀x,Le (f x) (g x)):Le (a.bind f) (b.bind g):=by
 intro r e;obtain⟨x,j,q⟩:=Option.bind_eq_some_iff.1 e;rw[h x j,Option.bind_some];exact k x r q
theorem Le.ite{α:Type}{c:Prop}[Decidable c]{a b a' e:Option α}(h:Le a b)(k:Le a' e):Le (if c then a else a') (if c then b else e):=by grind
theorem Le.yy{σ:Type}{f g:Int->σ->Option σ}(h:∀i s,Le (f i s) (g i s)):∀(n:Nat)(i:Int)(s:σ),Le (yy f n i s) (yy g n i s)
 |0,_,_=>Le.refl _|n+1,i,s=>by
  intro r e;unfold Go.Sf.yy at e|-;cases hf:f i s with
  |none=>rw[hf]at e;cases e
  |some s'=>
   rw [hf]at e;rw[h i s s' hf];exact Le.yy h n (i+1) s' r e
variable{a b:Int}
theorem Le.nd{σ:Type}{f g:Int->σ->Option σ}{s:σ}(h:∀i s,Le (f i s) (g i s)):Le (nd f a b s) (nd g a b s):=Le.yy h _ _ _
theorem Le.x9{σ ρ:Type}{f g:Int->σ->Option (Bf σ ρ)}(h:∀i s,Le (f i s) (g i s)):∀(n:Nat)(i:Int)(s:σ),Le (x9 f n i s) (x9 g n i s)
 |0,_,_=>Le.refl _|n+1,i,s=>by
  intro r e;unfold Go.Sf.x9 at e|-;cases hf:f i s with
  |none=>rw[hf]at e;cases e
  |some c=>
   rw [hf]at e;rw[h i s c hf];cases c with
   |next s'=>exact Le.x9 h n (i+1) s' r e|brk s'=>exact e|ret v=>exact e
theorem Le.kg{σ ρ:Type}{f g:Int->σ->Option (Bf σ ρ)}{s:σ}(h:∀i s,Le (f i s) (g i s)):Le (kg f a b s) (kg g a b s):=Le.x9 h _ _ _
theorem Le.ek{σ ρ β:Type}{o p:Option (σ ⊕ ρ)}{k g:σ->Option β}{l j:ρ->Option β}(h:Le o p)(q:∀s,Le (k s) (g s))(t:∀v,Le (l v) (j v)):Le (ek o k l) (ek p g j):=by
 intro r e;cases o with
 |none=>cases e
 |some x=>
  rw [h x rfl];cases x with
  |inl s=>exact q s r e|inr v=>exact t v r e
theorem XF{σ ρ:Type}{f g:σ->Option (Bf σ ρ)}(h:∀s,Le (f s) (g s)):∀(n:Nat)(s:σ)(o:σ ⊕ ρ),Rc f n s=some o->L3 g s o
 |0,_,_,e=>by cases e
 |n+1,s,o,e=>by
  unfold Rc at e;cases hf:f s with
  |none=>rw[hf]at e;cases e
  |some c=>
   rw [hf]at e;have j:=h s c hf;cases c with
   |next s'=>exact .next j (XF h n s' o e)|brk s'=>cases e;exact .brk j
   |ret v=>cases e;exact .ret j
abbrev eN(N:Nat):Ev:=⟨some N⟩
theorem LW{σ ρ:Type}{f g:σ->Option (Bf σ ρ)}{N:Nat}{s:σ}(h:∀s,Le (f s) (g s)):Le (@Ca (eN N) _ _ f s) (@Ca ID _ _ g s):=fun _ e=>(XF h N s _ e).eq
theorem LL{α:Type}{a:Option α}{g:Nat->Option α}(N:Nat)(h:∀n,N<=n->Le a (g n)):Le a (@Kh ID _ g):=fun r e=>Dy N fun n j=>h n j r e
class TQ(α:Type)where
 le:α->α->Prop
instance{β:Type}:TQ (Option β):=⟨Le⟩
instance{α β:Type}[TQ β]:TQ (α->β):=⟨fun f g=>∀x,TQ.le (f x) (g x)⟩
class Mo{α:Type}[TQ α](a b:α):Prop where
 le:TQ.le a b
class MF{α:Type}[TQ α](f:Ev->α):Prop where
 le:∀N,TQ.le (f (eN N)) (f ID)
instance{α:Type}(a:Option α):Mo a a:=⟨Le.refl a⟩
instance{α β:Type}[TQ β]{F G:α->β}[h:Mo F G](x:α):Mo (F x) (G x):=⟨h.le x⟩
instance{α:Type}[TQ α]{f:Ev->α}[MF f]{N:Nat}:Mo (f (eN N)) (f ID):=⟨MF.le N⟩
variable{β:Type}
theorem LO{a b:Option β}(h:TQ.le a b):Le a b:=h
theorem Le.zk{α:Type}{f g:α->K1}(h:∀p,Le (f p) (g p)):∀(l:List α),Le (Go.Sf.zk f l) (Go.Sf.zk g l)
 |[]=>Le.refl _|p::r=>(h p).bind fun _=>(Le.zk h r).bind fun _=>Le.refl _
theorem lx{P:Prop}(p:P:=by
 with_reducible repeat' first|exact Le.refl _|refine Le.bind ?_ fun _=>?_|refine Le.ite ?_ ?_|refine Le.ek ?_ (fun _=>?_) fun _=>?_|refine Le.nd fun _ _=>?_|refine Le.kg fun _ _=>?_|refine LW fun _=>?_|refine Le.zk (fun _=>?_) _|exact LO Mo.le):P:=p
theorem ly{a b:Option β}(p:Le a b):TQ.le a b:=p
end Go.Sf
