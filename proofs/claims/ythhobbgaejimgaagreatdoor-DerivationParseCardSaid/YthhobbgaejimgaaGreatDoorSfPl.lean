/- Plain lemmas about the loops and lists of typed functions. No program, no memory. -/
import Derived.Test.YthhobbgaejimgaaGreatDoorSfStep
import Derived.Test.YthhobbgaejimgaaGreatDoorSfF
set_option linter.all false
namespace Go.Sf
theorem bs{α β:Type}(a:α)(f:α->Option β):(some a).bind f=f a:=rfl
section loops
variable{σ ρ:Type}
variable{f:Int->σ->Option (Bk σ ρ)}{n:Nat}{i:Int}{s:σ}
theorem Pp:rM f (n+1) i s=(match f i s with
  |none=>none|some (.next s')=>rM f n (i+1) s'|some (.brk s')=>some (.inl s')|some (.ret r)=>some (.inr r)):=rfl
def EA(c:Int->Option ρ):Nat->Int->Option ρ
 |0,_=>none|n+1,i=>match c i with
  |some r=>some r|none=>EA c n (i+1)
def fst(c:Int->Option ρ)(a b:Int):Option ρ:=EA c (b-a).toNat a
def Y3(o:Option ρ):Unit ⊕ ρ:=match o with
 |none=>.inl ()|some r=>.inr r
def LQ(o:Option ρ):Bk Unit ρ:=match o with
 |none=>.next ()|some r=>.ret r
theorem Qv{f:Int->Unit->Option (Bk Unit ρ)}(c:Int->Option ρ):∀(n:Nat)(a:Int),
  (∀i,a<=i->i<a+n->(∀j,a<=j->j<i->c j=none)->f i ()=some (LQ (c i)))->rM f n a ()=some (Y3 (EA c n a))
 |0,_,_=>rfl|n+1,a,h=>by
  have k:=h a (Int.le_refl _) (by omega) (fun j e g=>by omega);rw[Pp,k,EA];cases v:c a with
  |some r=>rfl|none=>
   simp [LQ];refine Qv c n (a+1) (fun i e g q=>h i (by omega) (by omega) (fun j t u=>?_))
   grind
variable{a b:Int}
theorem DK{f:Int->Unit->Option (Bk Unit ρ)}(c:Int->Option ρ)(h:∀i,a<=i->i<b->(∀j,a<=j->j<i->c j=none)->f i ()=some (LQ (c i))):pq f a b ()=some (Y3 (fst c a b)):=by grind[pq,fst,Qv]
variable{c:Int->Option ρ}
theorem ML:∀{n:Nat}{a:Int},EA c n a=none↔∀i,a<=i->i<a+n->c i=none
 |0,a=>by simp[EA];intro i g j;omega|n+1,a=>by
  rw [EA];constructor
  .intro h;cases e:c a with
   |some r=>rw[e]at h;cases h
   |none=>
    rw [e]at h;intro i g j;by_cases hi:i=a
    .subst hi;exact e
    .exact(ML.1 h) i (by omega) (by omega)
  .intro h;rw[h a (Int.le_refl _) (by omega)];exact ML.2 (fun i g j=>h i (by omega) (by omega))
theorem B0:fst c a b=none↔∀i,a<=i->i<b->c i=none:=by grind[fst,ML]
variable{d:Int->Option ρ}
theorem Ol:∀{n:Nat}{a:Int},(∀i,a<=i->i<a+n->(∀j,a<=j->j<i->c j=none)->c i=d i)->EA c n a=EA d n a
 |0,_,_=>rfl|n+1,a,h=>by
  have k:=h a (Int.le_refl _) (by omega) (fun j e g=>by omega);rw[EA,EA,<-k];cases v:c a with
  |some r=>rfl|none=>
   refine Ol (fun i e g q=>h i (by omega) (by omega) (fun j t u=>?_))
   grind
theorem V2(h:∀i,a<=i->i<b->(∀j,a<=j->j<i->c j=none)->c i=d i):fst c a b=fst d a b:=
 Ol (fun i e k g=>h i e (by omega) g)
def ra(p:Int->Bool)(a b:Int):Bool:=(fst (fun i=>if p i then some ()else none) a b).isSome
variable{p:Int->Bool}
theorem O0:ra p a b=true↔∃i,a<=i/\i<b/\p i=true:=by grind[ra,Option.isSome_iff_ne_none,B0]
theorem CW:ra p a b=false↔∀i,a<=i->i<b->p i=false:=by
 rw [<-Bool.not_eq_true,O0]
 grind
theorem Qy{v:ρ}:fst (fun i=>if p i then some v else none) a b=if ra p a b then some v else none:=by
 by_cases h:ra p a b=true
 .rw[QQ h];have e:fst (fun i=>if p i then some v else none) a b≠none:=by
   grind [B0,O0]
  unfold fst at e|-;revert e;generalize (b-a).toNat=n;intro e;clear h
  induction n generalizing a with
  |zero=>exact(e rfl).elim|succ n g=>
   grind [EA]
 .rw[a6 h];rw[Bool.not_eq_true,CW]at h
  grind [B0]
theorem Dh{f:Int->Unit->Option (Bk Unit ρ)}(p:Int->Bool)(v:ρ)(h:∀i,a<=i->i<b->(∀j,a<=j->j<i->p j=false)->f i ()=some (if p i=true then .ret v else .next ())):pq f a b ()=some (if ra p a b=true then .inr v else .inl ()):=by
 rw [DK (fun i=>if p i then some v else none),Qy]
 .cases ra p a b<;>rfl
 .intro i e g r;rw[h i e g (fun j k q=>by
   grind)]
  cases p i<;>rfl
theorem UN{p q:Int->Bool}(h:∀i,a<=i->i<b->p i=q i):ra p a b=ra q a b:=by grind[ra,V2]
theorem Pn{f:Int->σ->Option σ}(I:Int->σ->Prop):∀(n:Nat)(a:Int)(s:σ),I a s->(∀i s,a<=i->i<a+n->I i s->∃s',f i s=some s'/\I (i+1) s')->∃s',rV f n a s=some s'/\I (a+n) s'
 |0,a,s,h,_=>⟨s,rfl,by simpa using h⟩|n+1,a,s,h,e=>by
  obtain ⟨s',r,g⟩:=e a s (Int.le_refl _) (by omega) h;obtain⟨j,t,u⟩:=Pn I n (a+1) s' g (fun i s k q=>e i s (by omega) (by omega))
  grind [rV]
theorem O7{f:Int->σ->Option σ}(I:Int->σ->Prop)(e:a<=b)(g:I a s)(h:∀i s,a<=i->i<b->I i s->∃s',f i s=some s'/\I (i+1) s'):∃s',rl f a b s=some s'/\I b s':=by
 obtain ⟨s',k,q⟩:=Pn I (b-a).toNat a s g (fun i s j r=>h i s j (by omega));exact⟨s',k,by rwa[show a+((b-a).toNat:Int)=b by omega]at q⟩
theorem QZ{f:Int->σ->Option σ}(g:Int->σ)(e:a<=b)(j:g a=s)(h:∀i,a<=i->i<b->f i (g i)=some (g (i+1))):rl f a b s=some (g b):=by
 obtain ⟨s',t,rfl⟩:=O7 (fun i s=>s=g i) e j.symm (fun i s k q r=>⟨g (i+1),by rw[r];exact h i k q,rfl⟩);exact t
theorem Qw(I:Int->σ->Prop)(B:σ->Prop)(R:ρ->Prop):∀(n:Nat)(a:Int)(s:σ),I a s ->
  (∀i s,a<=i->i<a+n->I i s->(∃s',f i s=some (.next s')/\I (i+1) s')\/(∃s',f i s=some (.brk s')/\B s')\/∃r,f i s=some (.ret r)/\R r) ->
  (∃s',rM f n a s=some (.inl s')/\(I (a+n) s'\/B s'))\/∃r,rM f n a s=some (.inr r)/\R r
 |0,a,s,h,_=>.inl ⟨s,rfl,.inl (by simpa using h)⟩|n+1,a,s,h,j=>by
  rw [Pp];rcases j a s (Int.le_refl _) (by omega) h with⟨s',e,g⟩|⟨s',e,g⟩|⟨r,e,g⟩
  .rw[e];have:=Qw I B R n (a+1) s' g (fun i s k q=>j i s (by omega) (by omega))
   grind
  .grind
  grind
theorem SA(I:Int->σ->Prop)(B:σ->Prop)(R:ρ->Prop)(e:a<=b)(g:I a s)
  (h:∀i s,a<=i->i<b->I i s->(∃s',f i s=some (.next s')/\I (i+1) s')\/(∃s',f i s=some (.brk s')/\B s')\/∃r,f i s=some (.ret r)/\R r):
  (∃s',pq f a b s=some (.inl s')/\(I b s'\/B s'))\/∃r,pq f a b s=some (.inr r)/\R r:=by
 have:=Qw I B R (b-a).toNat a s g (fun i s j k=>h i s j (by omega))
 rwa [show a+((b-a).toNat:Int)=b by omega]at this
end loops
section lists
variable{α:Type}
def at'[Inhabited α](l:List α)(i:Int):α:=l.getD i.toNat default
variable{l:List α}{i:Int}
theorem As[Inhabited α](e:0<=i)(g:i<l.length):idx l i=some (at' l i):=by
 unfold idx at'
 grind
variable{x:α}
theorem SE(h:idx l i=some x):0<=i/\i<l.length/\l[i.toNat]?=some x:=by
 unfold idx at h
 grind
theorem BC[Inhabited α](e:0<=i)(g:i<l.length):at' l i∈l:=by
 have h:=As e g;exact List.mem_of_getElem? (SE h).2.2
theorem Cf[Inhabited α](h:x∈l):∃i:Int,0<=i/\i<l.length/\at' l i=x:=by
 obtain ⟨n,e⟩:=List.getElem?_of_mem h;have g:=(List.getElem?_eq_some_iff.1 e).1;refine⟨n,by omega,by omega,?_⟩;unfold at'
 grind
theorem PZ[Inhabited α]{p:α->Bool}:l.any p=ra (fun i=>p (at' l i)) 0 l.length:=by
 rw [Bool.eq_iff_iff,List.any_eq_true,O0]
 grind [Cf,BC]
variable{b:Int}
theorem Mm(e:0<=b)(g:b<=l.length):sM l 0 b=some (l.take b.toNat):=by
 unfold sM
 grind
variable{n:Nat}
theorem Zv[Inhabited α](h:i.toNat<n):at' (l.take n) i=at' l i:=by
 unfold at'
 grind
theorem L4[Inhabited α]{p:α->Bool}(e:0<=b)(g:b<=l.length):(l.take b.toNat).any p=ra (fun i=>p (at' l i)) 0 b:=by grind[PZ,b6,UN,Zv]
variable{m:List α}
theorem DM(h:l.length+m.length<=Bi):Aj l m=some (l++m):=by grind[Aj]
theorem cU[Inhabited α](h:l.length=m.length)(e:∀i:Int,0<=i->i<l.length->at' l i=at' m i):l=m:=by
 refine List.ext_getElem h (fun n g j=>?_);have:=e n (by omega) (by omega);unfold at' at this
 grind
theorem NR[Inhabited α]:at' (l++m) i=if i.toNat<l.length then at' l i else m.getD (i.toNat-l.length) default:=by
 unfold at'
 grind
variable{β:Type}
theorem Lb[Inhabited α][Inhabited β]{g:α->β}(e:0<=i)(h:i<l.length):at' (l.map g) i=g (at' l i):=by grind[As,SE,at']
end lists
section wh
variable{σ ρ:Type}
inductive Fk(f:σ->Option (Bk σ ρ)):σ->σ ⊕ ρ->Prop where
 |next {s s':σ} {o:σ ⊕ ρ} (h:f s=some (.next s')) (k:Fk f s' o):Fk f s o
 |brk {s s':σ} (h:f s=some (.brk s')):Fk f s (.inl s')
 |ret {s:σ} {r:ρ} (h:f s=some (.ret r)):Fk f s (.inr r)
variable{s:σ}{o:σ ⊕ ρ}
theorem Fk.go{f:σ->Option (Bk σ ρ)}(h:Fk f s o):∃N,∀n,N<=n->LY f n s=some o:=by
 induction h with
 |next h k j=>
  obtain ⟨N,g⟩:=j;refine⟨N+1,fun n e=>?_⟩;cases n with
  |zero=>omega|succ n=>rw[LY,h];exact g n (by omega)
 |brk h=>
  refine ⟨1,fun n e=>?_⟩;cases n with
  |zero=>omega|succ n=>rw[LY,h]
 |ret h=>
  refine ⟨1,fun n e=>?_⟩;cases n with
  |zero=>omega|succ n=>rw[LY,h]
theorem Fk.eq{f:σ->Option (Bk σ ρ)}(h:Fk f s o):Dy f s=some o:=by
 obtain ⟨N,e⟩:=h.go;exact Nx N e
def Eu(i:Int)(c:Option (Int ⊕ ρ)):Bk Int ρ:=match c with
 |none=>.next (i+1)|some (.inl x)=>.brk x|some (.inr r)=>.ret r
theorem Sv{f:Int->Option (Bk Int ρ)}(c:Int->Option (Int ⊕ ρ)):∀(n:Nat)(a:Int),(∀i,a<=i->i<a+n->(∀j,a<=j->j<i->c j=none)->f i=some (Eu i (c i)))->f (a+n)=some (.brk (a+n))->Fk f a ((EA c n a).getD (.inl (a+n)))
 |0,a,_,g=>by
  simp [EA];exact .brk (by simpa using g)
 |n+1,a,h,g=>by
  have e:=h a (Int.le_refl _) (by omega) (fun j q t=>by omega);rw[EA];cases k:c a with
  |some r=>
   rw [k]at e;cases r with
   |inl x=>exact .brk e|inr r=>exact .ret e
  |none=>
   rw [k]at e;rw[show a+((n+1:Nat):Int)=a+1+n by omega]at g|-;refine .next e (Sv c n (a+1) (fun i q t u=>h i (by omega) (by omega) (fun j v w=>?_)) g)
   grind
variable{a b:Int}
theorem Kh{f:Int->Option (Bk Int ρ)}(c:Int->Option (Int ⊕ ρ))(g:a<=b)(h:∀i,a<=i->i<b->(∀j,a<=j->j<i->c j=none)->f i=some (Eu i (c i)))(k:f b=some (.brk b)):Dy f a=some ((fst c a b).getD (.inl b)):=by
 have e:a+((b-a).toNat:Int)=b:=by omega
 have:=Sv c (b-a).toNat a (fun i q t r=>h i q (by omega) r) (by rw[e];exact k);rw[e]at this;exact this.eq
end wh
section bytes
instance:LawfulBEq ByteArray where
 eq_of_beq {a b} h:=by
  cases a;cases b;exact congrArg ByteArray.mk (eq_of_beq (show((_:Array UInt8)==_)=true from h))
 rfl {a}:=show(a.data==a.data)=true from beq_self_eq_true _
def bt(s:ByteArray)(i:Int):Int:=((s.data.toList.getD i.toNat 0).toNat:Int)
variable{i:Int}
theorem Dp{s:ByteArray}(g:0<=i)(h:i<s.size):rx s i=some (bt s i):=by
 have e:i.toNat<s.data.size:=by
  have:s.size=s.data.size:=rfl;omega
 unfold rx bt;rw[QQ g,getElem?_pos s i.toNat e];simp[List.getD_eq_getElem?_getD,Array.getElem?_toList,Array.getElem?_eq_getElem e];rfl
variable{a b:Int}
theorem Cs{s:ByteArray}(e:0<=a)(g:a<=b)(h:b<=s.size):rB s a b=some (s.extract a.toNat b.toNat):=by grind[rB]
theorem FM{s:ByteArray}(e:0<=a)(g:a<=b)(h:b<=s.size):((s.extract a.toNat b.toNat).size:Int)=b-a:=by grind[ByteArray.size_extract]
theorem Pe{s:ByteArray}(g:0<=a)(h:a<=b)(j:b<=s.size)(hi:0<=i)(e:i<b-a):bt (s.extract a.toNat b.toNat) i=bt s (a+i):=by grind[bt,ByteArray.data_extract,Array.getElem?_extract]
end bytes
end Go.Sf
namespace Go.Sf
def Le{α:Type}(a b:Option α):Prop:=∀r,a=some r->b=some r
theorem Le.refl{α:Type}(a:Option α):Le a a:=fun _ h=>h
theorem Le.none{α:Type}(b:Option α):Le Option.none b:=fun _ h=>by cases h
theorem Le.bind{α β:Type}{a b:Option α}{f g:α->Option β}(h:Le a b)(k:∀x,Le (f x) (g x)):Le (a.bind f) (b.bind g):=by
 intro r e;obtain⟨x,j,q⟩:=Option.bind_eq_some_iff.1 e;rw[h x j,Option.bind_some];exact k x r q
theorem Le.ite{α:Type}{c:Prop}[Decidable c]{a b a' e:Option α}(h:Le a b)(k:Le a' e):Le (if c then a else a') (if c then b else e):=by grind
theorem Le.rV{σ:Type}{f g:Int->σ->Option σ}(h:∀i s,Le (f i s) (g i s)):∀(n:Nat)(i:Int)(s:σ),Le (rV f n i s) (rV g n i s)
 |0,_,_=>Le.refl _|n+1,i,s=>by
  intro r e;unfold Go.Sf.rV at e|-;cases hf:f i s with
  |none=>rw[hf]at e;cases e
  |some s'=>
   rw [hf]at e;rw[h i s s' hf];exact Le.rV h n (i+1) s' r e
variable{a b:Int}
theorem Le.rl{σ:Type}{f g:Int->σ->Option σ}{s:σ}(h:∀i s,Le (f i s) (g i s)):Le (rl f a b s) (rl g a b s):=Le.rV h _ _ _
theorem Le.rM{σ ρ:Type}{f g:Int->σ->Option (Bk σ ρ)}(h:∀i s,Le (f i s) (g i s)):∀(n:Nat)(i:Int)(s:σ),Le (rM f n i s) (rM g n i s)
 |0,_,_=>Le.refl _|n+1,i,s=>by
  intro r e;unfold Go.Sf.rM at e|-;cases hf:f i s with
  |none=>rw[hf]at e;cases e
  |some c=>
   rw [hf]at e;rw[h i s c hf];cases c with
   |next s'=>exact Le.rM h n (i+1) s' r e|brk s'=>exact e|ret v=>exact e
theorem Le.pq{σ ρ:Type}{f g:Int->σ->Option (Bk σ ρ)}{s:σ}(h:∀i s,Le (f i s) (g i s)):Le (pq f a b s) (pq g a b s):=Le.rM h _ _ _
theorem Le.hV{σ ρ β:Type}{o p:Option (σ ⊕ ρ)}{k g:σ->Option β}{l j:ρ->Option β}(h:Le o p)(q:∀s,Le (k s) (g s))(t:∀v,Le (l v) (j v)):Le (hV o k l) (hV p g j):=by
 intro r e;cases o with
 |none=>cases e
 |some x=>
  rw [h x rfl];cases x with
  |inl s=>exact q s r e|inr v=>exact t v r e
theorem QR{σ ρ:Type}{f g:σ->Option (Bk σ ρ)}(h:∀s,Le (f s) (g s)):∀(n:Nat)(s:σ)(o:σ ⊕ ρ),LY f n s=some o->Fk g s o
 |0,_,_,e=>by cases e
 |n+1,s,o,e=>by
  unfold LY at e;cases hf:f s with
  |none=>rw[hf]at e;cases e
  |some c=>
   rw [hf]at e;have j:=h s c hf;cases c with
   |next s'=>exact .next j (QR h n s' o e)|brk s'=>cases e;exact .brk j
   |ret v=>cases e;exact .ret j
abbrev eN(N:Nat):Ev:=⟨some N⟩
theorem LW{σ ρ:Type}{f g:σ->Option (Bk σ ρ)}{N:Nat}{s:σ}(h:∀s,Le (f s) (g s)):Le (@Dy (eN N) _ _ f s) (@Dy A1 _ _ g s):=fun _ e=>(QR h N s _ e).eq
theorem LL{α:Type}{a:Option α}{g:Nat->Option α}(N:Nat)(h:∀n,N<=n->Le a (g n)):Le a (@LG A1 _ g):=fun r e=>Nx N fun n j=>h n j r e
class Mo{α:Type}(a b:Option α):Prop where
 le:Le a b
instance{α:Type}(a:Option α):Mo a a:=⟨Le.refl a⟩
theorem Le.sN{α:Type}{f g:α->Fp}(h:∀p,Le (f p) (g p)):∀(l:List α),Le (Go.Sf.sN f l) (Go.Sf.sN g l)
 |[]=>Le.refl _|p::r=>(h p).bind fun _=>(Le.sN h r).bind fun _=>Le.refl _
theorem lx{P:Prop}(p:P:=by
 with_reducible repeat' first|exact Le.refl _|exact Mo.le|refine Le.bind ?_ fun _=>?_|refine Le.ite ?_ ?_|refine Le.hV ?_ (fun _=>?_) fun _=>?_|refine Le.rl fun _ _=>?_|refine Le.pq fun _ _=>?_|refine LW fun _=>?_|refine Le.sN (fun _=>?_) _):P:=p
end Go.Sf
