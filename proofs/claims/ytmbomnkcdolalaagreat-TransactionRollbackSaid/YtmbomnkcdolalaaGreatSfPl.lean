/- Plain lemmas about the loops and lists of typed functions. No program, no memory. -/
import Derived.Test.YtmbomnkcdolalaaGreatSfStep
import Derived.Test.YtmbomnkcdolalaaGreatSfF
set_option linter.all false
namespace Go.Sf
theorem bs{α β:Type}(a:α)(f:α->Option β):(some a).bind f=f a:=rfl
section loops
variable{σ ρ:Type}
variable{f:Int->σ->Option (Bv σ ρ)}{n:Nat}{i:Int}{s:σ}
theorem Ft:Aad f (n+1) i s=(match f i s with
  |none=>none|some (.next s')=>Aad f n (i+1) s'|some (.brk s')=>some (.inl s')|some (.ret r)=>some (.inr r)):=rfl
def E4(c:Int->Option ρ):Nat->Int->Option ρ
 |0,_=>none|n+1,i=>match c i with
  |some r=>some r|none=>E4 c n (i+1)
def fst(c:Int->Option ρ)(a b:Int):Option ρ:=E4 c (b-a).toNat a
def mK(o:Option ρ):Unit ⊕ ρ:=match o with
 |none=>.inl ()|some r=>.inr r
def PN(o:Option ρ):Bv Unit ρ:=match o with
 |none=>.next ()|some r=>.ret r
theorem YC{f:Int->Unit->Option (Bv Unit ρ)}(c:Int->Option ρ):∀(n:Nat)(a:Int),
  (∀i,a<=i->i<a+n->(∀j,a<=j->j<i->c j=none)->f i ()=some (PN (c i)))->Aad f n a ()=some (mK (E4 c n a))
 |0,_,_=>rfl|n+1,a,h=>by
  have k:=h a (Int.le_refl _) (by omega) (fun j e g=>by omega);rw[Ft,k,E4];cases v:c a with
  |some r=>rfl|none=>
   simp only[PN];refine YC c n (a+1) (fun i e g q=>h i (by omega) (by omega) (fun j t u=>?_))
   grind
variable{a b:Int}
theorem BX{f:Int->Unit->Option (Bv Unit ρ)}(c:Int->Option ρ)(h:∀i,a<=i->i<b->(∀j,a<=j->j<i->c j=none)->f i ()=some (PN (c i))):kq f a b ()=some (mK (fst c a b)):=by grind[kq,fst,YC]
variable{c:Int->Option ρ}
theorem Rm:∀{n:Nat}{a:Int},E4 c n a=none↔∀i,a<=i->i<a+n->c i=none
 |0,a=>by simp[E4];intro i g j;omega|n+1,a=>by
  rw [E4];constructor
  .intro h;cases e:c a with
   |some r=>rw[e]at h;cases h
   |none=>
    rw [e]at h;intro i g j;by_cases hi:i=a
    .subst hi;exact e
    .exact(Rm.1 h) i (by omega) (by omega)
  .intro h;rw[h a (Int.le_refl _) (by omega)];exact Rm.2 (fun i g j=>h i (by omega) (by omega))
theorem Bz:fst c a b=none↔∀i,a<=i->i<b->c i=none:=by grind[fst,Rm]
variable{d:Int->Option ρ}
theorem VD:∀{n:Nat}{a:Int},(∀i,a<=i->i<a+n->(∀j,a<=j->j<i->c j=none)->c i=d i)->E4 c n a=E4 d n a
 |0,_,_=>rfl|n+1,a,h=>by
  have k:=h a (Int.le_refl _) (by omega) (fun j e g=>by omega);rw[E4,E4,<-k];cases v:c a with
  |some r=>rfl|none=>
   refine VD (fun i e g q=>h i (by omega) (by omega) (fun j t u=>?_))
   grind
theorem gT(h:∀i,a<=i->i<b->(∀j,a<=j->j<i->c j=none)->c i=d i):fst c a b=fst d a b:=
 VD (fun i e k g=>h i e (by omega) g)
def pc(p:Int->Bool)(a b:Int):Bool:=(fst (fun i=>if p i then some ()else none) a b).isSome
variable{p:Int->Bool}
theorem EE:pc p a b=true↔∃i,a<=i/\i<b/\p i=true:=by grind[pc,Option.isSome_iff_ne_none,Bz]
theorem Bk:pc p a b=false↔∀i,a<=i->i<b->p i=false:=by
 rw [<-Bool.not_eq_true,EE]
 grind
theorem L7{v:ρ}:fst (fun i=>if p i then some v else none) a b=if pc p a b then some v else none:=by
 by_cases h:pc p a b=true
 .rw[a6 h];have e:fst (fun i=>if p i then some v else none) a b≠none:=by
   grind [Bz,EE]
  unfold fst at e|-;revert e;generalize (b-a).toNat=n;intro e;clear h
  induction n generalizing a with
  |zero=>exact(e rfl).elim|succ n g=>
   grind [E4]
 .rw[ae h];rw[Bool.not_eq_true,Bk]at h
  grind [Bz]
theorem BS{f:Int->Unit->Option (Bv Unit ρ)}(p:Int->Bool)(v:ρ)(h:∀i,a<=i->i<b->(∀j,a<=j->j<i->p j=false)->f i ()=some (if p i=true then .ret v else .next ())):kq f a b ()=some (if pc p a b=true then .inr v else .inl ()):=by
 rw [BX (fun i=>if p i then some v else none),L7]
 .cases pc p a b<;>rfl
 .intro i e g r;rw[h i e g (fun j k q=>by
   grind)]
  cases p i<;>rfl
theorem V9{p q:Int->Bool}(h:∀i,a<=i->i<b->p i=q i):pc p a b=pc q a b:=by grind[pc,gT]
theorem WR{f:Int->σ->Option σ}(I:Int->σ->Prop):∀(n:Nat)(a:Int)(s:σ),I a s->(∀i s,a<=i->i<a+n->I i s->∃s',f i s=some s'/\I (i+1) s')->∃s',Aav f n a s=some s'/\I (a+n) s'
 |0,a,s,h,_=>⟨s,rfl,by simpa using h⟩|n+1,a,s,h,e=>by
  obtain ⟨s',r,g⟩:=e a s (Int.le_refl _) (by omega) h;obtain⟨j,t,u⟩:=WR I n (a+1) s' g (fun i s k q=>e i s (by omega) (by omega))
  grind [Aav]
theorem Rk{f:Int->σ->Option σ}(I:Int->σ->Prop)(e:a<=b)(g:I a s)(h:∀i s,a<=i->i<b->I i s->∃s',f i s=some s'/\I (i+1) s'):∃s',tc f a b s=some s'/\I b s':=by
 obtain ⟨s',k,q⟩:=WR I (b-a).toNat a s g (fun i s j r=>h i s j (by omega));exact⟨s',k,by rwa[show a+((b-a).toNat:Int)=b by omega]at q⟩
theorem Bt{f:Int->σ->Option σ}(g:Int->σ)(e:a<=b)(j:g a=s)(h:∀i,a<=i->i<b->f i (g i)=some (g (i+1))):tc f a b s=some (g b):=by
 obtain ⟨s',t,rfl⟩:=Rk (fun i s=>s=g i) e j.symm (fun i s k q r=>⟨g (i+1),by rw[r];exact h i k q,rfl⟩);exact t
theorem gU(h:b<=a):fst c a b=none:=by
 unfold fst;rw[show(b-a).toNat=0 by omega];rfl
theorem YD(I:Int->σ->Prop)(B:σ->Prop)(R:ρ->Prop):∀(n:Nat)(a:Int)(s:σ),I a s ->
  (∀i s,a<=i->i<a+n->I i s->(∃s',f i s=some (.next s')/\I (i+1) s')\/(∃s',f i s=some (.brk s')/\B s')\/∃r,f i s=some (.ret r)/\R r) ->
  (∃s',Aad f n a s=some (.inl s')/\(I (a+n) s'\/B s'))\/∃r,Aad f n a s=some (.inr r)/\R r
 |0,a,s,h,_=>.inl ⟨s,rfl,.inl (by simpa using h)⟩|n+1,a,s,h,j=>by
  rw [Ft];rcases j a s (Int.le_refl _) (by omega) h with⟨s',e,g⟩|⟨s',e,g⟩|⟨r,e,g⟩
  .rw[e];have:=YD I B R n (a+1) s' g (fun i s k q=>j i s (by omega) (by omega))
   grind
  .grind
  grind
theorem Rl(I:Int->σ->Prop)(B:σ->Prop)(R:ρ->Prop)(e:a<=b)(g:I a s)
  (h:∀i s,a<=i->i<b->I i s->(∃s',f i s=some (.next s')/\I (i+1) s')\/(∃s',f i s=some (.brk s')/\B s')\/∃r,f i s=some (.ret r)/\R r):
  (∃s',kq f a b s=some (.inl s')/\(I b s'\/B s'))\/∃r,kq f a b s=some (.inr r)/\R r:=by
 have:=YD I B R (b-a).toNat a s g (fun i s j k=>h i s j (by omega))
 rwa [show a+((b-a).toNat:Int)=b by omega]at this
end loops
section lists
variable{α:Type}
def AA[Inhabited α](l:List α)(i:Int):α:=l.getD i.toNat default
variable{l:List α}{i:Int}
theorem AE[Inhabited α](e:0<=i)(g:i<l.length):idx l i=some (AA l i):=by
 unfold idx AA
 grind
variable{x:α}
theorem Z0(h:idx l i=some x):0<=i/\i<l.length/\l[i.toNat]?=some x:=by
 unfold idx at h
 grind
theorem AM[Inhabited α](e:0<=i)(g:i<l.length):AA l i∈l:=by
 have h:=AE e g;exact List.mem_of_getElem? (Z0 h).2.2
theorem Be[Inhabited α](h:x∈l):∃i:Int,0<=i/\i<l.length/\AA l i=x:=by
 obtain ⟨n,e⟩:=List.getElem?_of_mem h;have g:=(List.getElem?_eq_some_iff.1 e).1;refine⟨n,by omega,by omega,?_⟩;unfold AA
 grind
theorem Hp[Inhabited α]{p:α->Bool}:l.any p=pc (fun i=>p (AA l i)) 0 l.length:=by
 rw [Bool.eq_iff_iff,List.any_eq_true,EE]
 grind [Be,AM]
variable{b:Int}
theorem GU(e:0<=b)(g:b<=l.length):slc l 0 b=some (l.take b.toNat):=by
 unfold slc
 grind
variable{n:Nat}
theorem Jq[Inhabited α](h:i.toNat<n):AA (l.take n) i=AA l i:=by
 unfold AA
 grind
theorem PO[Inhabited α]{p:α->Bool}(e:0<=b)(g:b<=l.length):(l.take b.toNat).any p=pc (fun i=>p (AA l i)) 0 b:=by grind[Hp,cE,V9,Jq]
variable{m:List α}
theorem Ai(h:l.length+m.length<=Ah):Ak l m=some (l++m):=by grind[Ak]
theorem gE[Inhabited α](h:l.length=m.length)(e:∀i:Int,0<=i->i<l.length->AA l i=AA m i):l=m:=by
 refine List.ext_getElem h (fun n g j=>?_);have:=e n (by omega) (by omega);unfold AA at this
 grind
theorem L4[Inhabited α]:AA (l++m) i=if i.toNat<l.length then AA l i else m.getD (i.toNat-l.length) default:=by
 unfold AA
 grind
variable{β:Type}
theorem N9[Inhabited α][Inhabited β]{g:α->β}(e:0<=i)(h:i<l.length):AA (l.map g) i=g (AA l i):=by grind[AE,Z0,AA]
end lists
section wh
variable{σ ρ:Type}
inductive Lu(f:σ->Option (Bv σ ρ)):σ->σ ⊕ ρ->Prop where
 |next {s s':σ} {o:σ ⊕ ρ} (h:f s=some (.next s')) (k:Lu f s' o):Lu f s o
 |brk {s s':σ} (h:f s=some (.brk s')):Lu f s (.inl s')
 |ret {s:σ} {r:ρ} (h:f s=some (.ret r)):Lu f s (.inr r)
variable{s:σ}{o:σ ⊕ ρ}
theorem Lu.go{f:σ->Option (Bv σ ρ)}(h:Lu f s o):∃N,∀n,N<=n->Q4 f n s=some o:=by
 induction h with
 |next h k j=>
  obtain ⟨N,g⟩:=j;refine⟨N+1,fun n e=>?_⟩;cases n with
  |zero=>omega|succ n=>rw[Q4,h];exact g n (by omega)
 |brk h=>
  refine ⟨1,fun n e=>?_⟩;cases n with
  |zero=>omega|succ n=>rw[Q4,h]
 |ret h=>
  refine ⟨1,fun n e=>?_⟩;cases n with
  |zero=>omega|succ n=>rw[Q4,h]
theorem Lu.eq{f:σ->Option (Bv σ ρ)}(h:Lu f s o):Ep f s=some o:=by
 obtain ⟨N,e⟩:=h.go;exact EZ N e
def Eo(i:Int)(c:Option (Int ⊕ ρ)):Bv Int ρ:=match c with
 |none=>.next (i+1)|some (.inl x)=>.brk x|some (.inr r)=>.ret r
theorem bg{f:Int->Option (Bv Int ρ)}(c:Int->Option (Int ⊕ ρ)):∀(n:Nat)(a:Int),(∀i,a<=i->i<a+n->(∀j,a<=j->j<i->c j=none)->f i=some (Eo i (c i)))->f (a+n)=some (.brk (a+n))->Lu f a ((E4 c n a).getD (.inl (a+n)))
 |0,a,_,g=>by
  simp only[E4,Option.getD];exact .brk (by simpa using g)
 |n+1,a,h,g=>by
  have e:=h a (Int.le_refl _) (by omega) (fun j q t=>by omega);rw[E4];cases k:c a with
  |some r=>
   rw [k]at e;cases r with
   |inl x=>exact .brk e|inr r=>exact .ret e
  |none=>
   rw [k]at e;rw[show a+((n+1:Nat):Int)=a+1+n by omega]at g|-;refine .next e (bg c n (a+1) (fun i q t u=>h i (by omega) (by omega) (fun j v w=>?_)) g)
   grind
variable{a b:Int}
theorem MG{f:Int->Option (Bv Int ρ)}(c:Int->Option (Int ⊕ ρ))(g:a<=b)(h:∀i,a<=i->i<b->(∀j,a<=j->j<i->c j=none)->f i=some (Eo i (c i)))(k:f b=some (.brk b)):Ep f a=some ((fst c a b).getD (.inl b)):=by
 have e:a+((b-a).toNat:Int)=b:=by omega
 have:=bg c (b-a).toNat a (fun i q t r=>h i q (by omega) r) (by rw[e];exact k);rw[e]at this;exact this.eq
end wh
section bytes
instance:LawfulBEq ByteArray where
 eq_of_beq {a b} h:=by
  cases a;cases b;exact congrArg ByteArray.mk (eq_of_beq (show((_:Array UInt8)==_)=true from h))
 rfl {a}:=show(a.data==a.data)=true from beq_self_eq_true _
def bt(s:ByteArray)(i:Int):Int:=((s.data.toList.getD i.toNat 0).toNat:Int)
variable{i:Int}
theorem PG{s:ByteArray}(g:0<=i)(h:i<s.size):AaC s i=some (bt s i):=by
 have e:i.toNat<s.data.size:=by
  have:s.size=s.data.size:=rfl;omega
 unfold AaC bt;rw[a6 g,getElem?_pos s i.toNat e];simp only[Option.map_some,List.getD_eq_getElem?_getD,Array.getElem?_toList,Array.getElem?_eq_getElem e,Option.getD_some];rfl
variable{a b:Int}
theorem MF{s:ByteArray}(e:0<=a)(g:a<=b)(h:b<=s.size):AaJ s a b=some (s.extract a.toNat b.toNat):=by grind[AaJ]
theorem Y2{s:ByteArray}(e:0<=a)(g:a<=b)(h:b<=s.size):((s.extract a.toNat b.toNat).size:Int)=b-a:=by grind[ByteArray.size_extract]
end bytes
end Go.Sf
namespace Go.Sf
def Le{α:Type}(a b:Option α):Prop:=∀r,a=some r->b=some r
theorem Le.refl{α:Type}(a:Option α):Le a a:=fun _ h=>h
theorem Le.none{α:Type}(b:Option α):Le Option.none b:=fun _ h=>by cases h
theorem Le.bind{α β:Type}{a b:Option α}{f g:α->Option β}(h:Le a b)(k:∀x,Le (f x) (g x)):Le (a.bind f) (b.bind g):=by
 intro r e;obtain⟨x,j,q⟩:=Option.bind_eq_some_iff.1 e;rw[h x j,Option.bind_some];exact k x r q
theorem Le.ite{α:Type}{c:Prop}[Decidable c]{a b a' e:Option α}(h:Le a b)(k:Le a' e):Le (if c then a else a') (if c then b else e):=by grind
theorem Le.Aav{σ:Type}{f g:Int->σ->Option σ}(h:∀i s,Le (f i s) (g i s)):∀(n:Nat)(i:Int)(s:σ),Le (Aav f n i s) (Aav g n i s)
 |0,_,_=>Le.refl _|n+1,i,s=>by
  intro r e;unfold Go.Sf.Aav at e|-;cases hf:f i s with
  |none=>rw[hf]at e;cases e
  |some s'=>
   rw [hf]at e;rw[h i s s' hf];exact Le.Aav h n (i+1) s' r e
variable{a b:Int}
theorem Le.tc{σ:Type}{f g:Int->σ->Option σ}{s:σ}(h:∀i s,Le (f i s) (g i s)):Le (tc f a b s) (tc g a b s):=Le.Aav h _ _ _
theorem Le.Aad{σ ρ:Type}{f g:Int->σ->Option (Bv σ ρ)}(h:∀i s,Le (f i s) (g i s)):∀(n:Nat)(i:Int)(s:σ),Le (Aad f n i s) (Aad g n i s)
 |0,_,_=>Le.refl _|n+1,i,s=>by
  intro r e;unfold Go.Sf.Aad at e|-;cases hf:f i s with
  |none=>rw[hf]at e;cases e
  |some c=>
   rw [hf]at e;rw[h i s c hf];cases c with
   |next s'=>exact Le.Aad h n (i+1) s' r e|brk s'=>exact e|ret v=>exact e
theorem Le.kq{σ ρ:Type}{f g:Int->σ->Option (Bv σ ρ)}{s:σ}(h:∀i s,Le (f i s) (g i s)):Le (kq f a b s) (kq g a b s):=Le.Aad h _ _ _
theorem Le.gp{σ ρ β:Type}{o p:Option (σ ⊕ ρ)}{k g:σ->Option β}{l j:ρ->Option β}(h:Le o p)(q:∀s,Le (k s) (g s))(t:∀v,Le (l v) (j v)):Le (gp o k l) (gp p g j):=by
 intro r e;cases o with
 |none=>cases e
 |some x=>
  rw [h x rfl];cases x with
  |inl s=>exact q s r e|inr v=>exact t v r e
theorem XP{σ ρ:Type}{f g:σ->Option (Bv σ ρ)}(h:∀s,Le (f s) (g s)):∀(n:Nat)(s:σ)(o:σ ⊕ ρ),Q4 f n s=some o->Lu g s o
 |0,_,_,e=>by cases e
 |n+1,s,o,e=>by
  unfold Q4 at e;cases hf:f s with
  |none=>rw[hf]at e;cases e
  |some c=>
   rw [hf]at e;have j:=h s c hf;cases c with
   |next s'=>exact .next j (XP h n s' o e)|brk s'=>cases e;exact .brk j
   |ret v=>cases e;exact .ret j
abbrev eN(N:Nat):Ev:=⟨some N⟩
theorem LW{σ ρ:Type}{f g:σ->Option (Bv σ ρ)}{N:Nat}{s:σ}(h:∀s,Le (f s) (g s)):Le (@Ep (eN N) _ _ f s) (@Ep BN _ _ g s):=fun _ e=>(XP h N s _ e).eq
theorem LL{α:Type}{a:Option α}{g:Nat->Option α}(N:Nat)(h:∀n,N<=n->Le a (g n)):Le a (@KC BN _ g):=fun r e=>EZ N fun n j=>h n j r e
class Mo{α:Type}(a b:Option α):Prop where
 le:Le a b
instance{α:Type}(a:Option α):Mo a a:=⟨Le.refl a⟩
theorem Le.AaS{α:Type}{f g:α->K1}(h:∀p,Le (f p) (g p)):∀(l:List α),Le (Go.Sf.AaS f l) (Go.Sf.AaS g l)
 |[]=>Le.refl _|p::r=>(h p).bind fun _=>(Le.AaS h r).bind fun _=>Le.refl _
theorem lx{P:Prop}(p:P:=by
 with_reducible repeat' first|exact Le.refl _|exact Mo.le|refine Le.bind ?_ fun _=>?_|refine Le.ite ?_ ?_|refine Le.gp ?_ (fun _=>?_) fun _=>?_|refine Le.tc fun _ _=>?_|refine Le.kq fun _ _=>?_|refine LW fun _=>?_|refine Le.AaS (fun _=>?_) _):P:=p
end Go.Sf
