/- Plain lemmas about the loops and lists of typed functions. No program, no memory. -/
import Derived.Test.YtbmogdodchhhlaaGreatSfStep
import Derived.Test.YtbmogdodchhhlaaGreatSfF
set_option linter.all false
namespace Go.Sf
theorem bs{α β:Type}(a:α)(f:α->Option β):(some a).bind f=f a:=rfl
section loops
variable{σ ρ:Type}
variable{i:Int}{s:σ}
theorem Ug{f:Int->σ->Option (C9 σ ρ)}{n:Nat}:tc f (n+1) i s=(match f i s with
  |none=>none|some (.next s')=>tc f n (i+1) s'|some (.brk s')=>some (.inl s')|some (.ret r)=>some (.inr r)):=rfl
def H4(c:Int->Option ρ):Nat->Int->Option ρ
 |0,_=>none|n+1,i=>match c i with
  |some r=>some r|none=>H4 c n (i+1)
def fst(c:Int->Option ρ)(a b:Int):Option ρ:=H4 c (b-a).toNat a
def iW(o:Option ρ):Unit ⊕ ρ:=match o with
 |none=>.inl ()|some r=>.inr r
def XD(o:Option ρ):C9 Unit ρ:=match o with
 |none=>.next ()|some r=>.ret r
theorem RP{f:Int->Unit->Option (C9 Unit ρ)}(c:Int->Option ρ):∀(n:Nat)(a:Int),
  (∀i,a<=i->i<a+n->(∀j,a<=j->j<i->c j=none)->f i ()=some (XD (c i)))->tc f n a ()=some (iW (H4 c n a))
 |0,_,_=>rfl|n+1,a,h=>by
  have g:=h a (Int.le_refl _) (by omega) (fun j d e=>by omega);rw[Ug,g,H4];cases u:c a with
  |some r=>rfl|none=>
   simp [XD];refine RP c n (a+1) (fun i d e k=>h i (by omega) (by omega) (fun j q t=>?_))
   grind
variable{a b:Int}
theorem XR{f:Int->Unit->Option (C9 Unit ρ)}(c:Int->Option ρ)(h:∀i,a<=i->i<b->(∀j,a<=j->j<i->c j=none)->f i ()=some (XD (c i))):qo f a b ()=some (iW (fst c a b)):=by grind[qo,fst,RP]
variable{c:Int->Option ρ}
theorem M6:∀{n:Nat}{a:Int},H4 c n a=none↔∀i,a<=i->i<a+n->c i=none
 |0,a=>by simp[H4];intro i e g;omega|n+1,a=>by
  rw [H4];constructor
  .intro h;cases d:c a with
   |some r=>rw[d]at h;cases h
   |none=>
    rw [d]at h;intro i e g;by_cases hi:i=a
    .subst hi;exact d
    .exact(M6.1 h) i (by omega) (by omega)
  .intro h;rw[h a (Int.le_refl _) (by omega)];exact M6.2 (fun i e g=>h i (by omega) (by omega))
theorem Cu:fst c a b=none↔∀i,a<=i->i<b->c i=none:=by grind[fst,M6]
def Dv(p:Int->Bool)(a b:Int):Bool:=(fst (fun i=>if p i then some ()else none) a b).isSome
variable{p:Int->Bool}
theorem SP:Dv p a b=true↔∃i,a<=i/\i<b/\p i=true:=by grind[Dv,Option.isSome_iff_ne_none,Cu]
theorem Ef:Dv p a b=false↔∀i,a<=i->i<b->p i=false:=by
 rw [<-Bool.not_eq_true,SP]
 grind
theorem Vv{v:ρ}:fst (fun i=>if p i then some v else none) a b=if Dv p a b then some v else none:=by
 by_cases h:Dv p a b=true
 .rw[ae h];have d:fst (fun i=>if p i then some v else none) a b≠none:=by
   grind [Cu,SP]
  unfold fst at d|-;revert d;generalize (b-a).toNat=n;intro d;clear h
  induction n generalizing a with
  |zero=>exact(d rfl).elim|succ n e=>
   grind [H4]
 .rw[az h];rw[Bool.not_eq_true,Ef]at h
  grind [Cu]
theorem PA{f:Int->Unit->Option (C9 Unit ρ)}(p:Int->Bool)(v:ρ)(h:∀i,a<=i->i<b->(∀j,a<=j->j<i->p j=false)->f i ()=some (if p i=true then .ret v else .next ())):qo f a b ()=some (if Dv p a b=true then .inr v else .inl ()):=by
 rw [XR (fun i=>if p i then some v else none),Vv]
 .cases Dv p a b<;>rfl
 .intro i d e n;rw[h i d e (fun j g k=>by
   grind)]
  cases p i<;>rfl
variable{f:Int->σ->Option σ}
theorem Pr(I:Int->σ->Prop):∀(n:Nat)(a:Int)(s:σ),I a s->(∀i s,a<=i->i<a+n->I i s->∃d,f i s=some d/\I (i+1) d)->∃d,sT f n a s=some d/\I (a+n) d
 |0,a,s,h,_=>⟨s,rfl,by simpa using h⟩|n+1,a,s,h,e=>by
  obtain ⟨d,r,g⟩:=e a s (Int.le_refl _) (by omega) h;obtain⟨j,t,u⟩:=Pr I n (a+1) d g (fun i s k q=>e i s (by omega) (by omega))
  grind [sT]
theorem Se(I:Int->σ->Prop)(e:a<=b)(g:I a s)(h:∀i s,a<=i->i<b->I i s->∃d,f i s=some d/\I (i+1) d):∃d,ry f a b s=some d/\I b d:=by
 obtain ⟨d,k,n⟩:=Pr I (b-a).toNat a s g (fun i s j q=>h i s j (by omega));exact⟨d,k,by rwa[show a+((b-a).toNat:Int)=b by omega]at n⟩
end loops
section lists
variable{α:Type}
def AE[Inhabited α](l:List α)(i:Int):α:=l.getD i.toNat default
variable{l:List α}{i:Int}
theorem F8[Inhabited α](d:0<=i)(e:i<l.length):idx l i=some (AE l i):=by
 unfold idx AE
 grind
variable{x:α}
theorem Si(h:idx l i=some x):0<=i/\i<l.length/\l[i.toNat]?=some x:=by
 unfold idx at h
 grind
theorem Ci[Inhabited α](d:0<=i)(e:i<l.length):AE l i∈l:=by
 have h:=F8 d e;exact List.mem_of_getElem? (Si h).2.2
theorem Ec[Inhabited α](h:x∈l):∃i:Int,0<=i/\i<l.length/\AE l i=x:=by
 obtain ⟨n,d⟩:=List.getElem?_of_mem h;have e:=(List.getElem?_eq_some_iff.1 d).1;refine⟨n,by omega,by omega,?_⟩;unfold AE
 grind
variable{m:List α}
theorem RB(h:l.length+m.length<=CX):Ao l m=some (l++m):=by grind[Ao]
theorem Vj[Inhabited α](h:l.length=m.length)(d:∀i:Int,0<=i->i<l.length->AE l i=AE m i):l=m:=by
 refine List.ext_getElem h (fun n e g=>?_);have:=d n (by omega) (by omega);unfold AE at this
 grind
theorem Nk[Inhabited α]:AE (l++m) i=if i.toNat<l.length then AE l i else m.getD (i.toNat-l.length) default:=by
 unfold AE
 grind
variable{β:Type}
theorem Me[Inhabited α][Inhabited β]{g:α->β}(d:0<=i)(e:i<l.length):AE (l.map g) i=g (AE l i):=by grind[F8,Si,AE]
end lists
section wh
variable{σ ρ:Type}
inductive MM(f:σ->Option (C9 σ ρ)):σ->σ ⊕ ρ->Prop where
 |next {s s':σ} {o:σ ⊕ ρ} (h:f s=some (.next s')) (k:MM f s' o):MM f s o
 |brk {s s':σ} (h:f s=some (.brk s')):MM f s (.inl s')
 |ret {s:σ} {r:ρ} (h:f s=some (.ret r)):MM f s (.inr r)
variable{s:σ}{o:σ ⊕ ρ}
theorem MM.go{f:σ->Option (C9 σ ρ)}(h:MM f s o):∃N,∀n,N<=n->Mb f n s=some o:=by
 induction h with
 |next h k g=>
  obtain ⟨N,e⟩:=g;refine⟨N+1,fun n d=>?_⟩;cases n with
  |zero=>omega|succ n=>rw[Mb,h];exact e n (by omega)
 |brk h=>
  refine ⟨1,fun n d=>?_⟩;cases n with
  |zero=>omega|succ n=>rw[Mb,h]
 |ret h=>
  refine ⟨1,fun n d=>?_⟩;cases n with
  |zero=>omega|succ n=>rw[Mb,h]
theorem MM.eq{f:σ->Option (C9 σ ρ)}(h:MM f s o):GO f s=some o:=by
 obtain ⟨N,d⟩:=h.go;exact V1 N d
def Fo(i:Int)(c:Option (Int ⊕ ρ)):C9 Int ρ:=match c with
 |none=>.next (i+1)|some (.inl x)=>.brk x|some (.inr r)=>.ret r
theorem TJ{f:Int->Option (C9 Int ρ)}(c:Int->Option (Int ⊕ ρ)):∀(n:Nat)(a:Int),(∀i,a<=i->i<a+n->(∀j,a<=j->j<i->c j=none)->f i=some (Fo i (c i)))->f (a+n)=some (.brk (a+n))->MM f a ((H4 c n a).getD (.inl (a+n)))
 |0,a,_,e=>by
  simp [H4];exact .brk (by simpa using e)
 |n+1,a,h,e=>by
  have d:=h a (Int.le_refl _) (by omega) (fun j k q=>by omega);rw[H4];cases g:c a with
  |some r=>
   rw [g]at d;cases r with
   |inl x=>exact .brk d|inr r=>exact .ret d
  |none=>
   rw [g]at d;rw[show a+((n+1:Nat):Int)=a+1+n by omega]at e|-;refine .next d (TJ c n (a+1) (fun i k q t=>h i (by omega) (by omega) (fun j u v=>?_)) e)
   grind
variable{a b:Int}
theorem af{f:Int->Option (C9 Int ρ)}(c:Int->Option (Int ⊕ ρ))(d:a<=b)(h:∀i,a<=i->i<b->(∀j,a<=j->j<i->c j=none)->f i=some (Fo i (c i)))(g:f b=some (.brk b)):GO f a=some ((fst c a b).getD (.inl b)):=by
 have e:a+((b-a).toNat:Int)=b:=by omega
 have:=TJ c (b-a).toNat a (fun i k q n=>h i k (by omega) n) (by rw[e];exact g);rw[e]at this;exact this.eq
end wh
section bytes
instance:LawfulBEq ByteArray where
 eq_of_beq {a b} h:=by
  cases a;cases b;exact congrArg ByteArray.mk (eq_of_beq (show((_:Array UInt8)==_)=true from h))
 rfl {a}:=show(a.data==a.data)=true from beq_self_eq_true _
def bt(s:ByteArray)(i:Int):Int:=((s.data.toList.getD i.toNat 0).toNat:Int)
end bytes
end Go.Sf
namespace Go.Sf
def Le{α:Type}(a b:Option α):Prop:=∀r,a=some r->b=some r
theorem Le.refl{α:Type}(a:Option α):Le a a:=fun _ h=>h
theorem Le.none{α:Type}(b:Option α):Le Option.none b:=fun _ h=>by cases h
theorem Le.bind{α β:Type}{a b:Option α}{f g:α->Option β}(h:Le a b)(k:∀x,Le (f x) (g x)):Le (a.bind f) (b.bind g):=by
 intro r d;obtain⟨x,e,j⟩:=Option.bind_eq_some_iff.1 d;rw[h x e,Option.bind_some];exact k x r j
theorem Le.ite{α:Type}{c:Prop}[Decidable c]{a b a' d:Option α}(h:Le a b)(k:Le a' d):Le (if c then a else a') (if c then b else d):=by grind
theorem Le.sT{σ:Type}{f g:Int->σ->Option σ}(h:∀i s,Le (f i s) (g i s)):∀(n:Nat)(i:Int)(s:σ),Le (sT f n i s) (sT g n i s)
 |0,_,_=>Le.refl _|n+1,i,s=>by
  intro r d;unfold Go.Sf.sT at d|-;cases hf:f i s with
  |none=>rw[hf]at d;cases d
  |some e=>
   rw [hf]at d;rw[h i s e hf];exact Le.sT h n (i+1) e r d
variable{a b:Int}
theorem Le.ry{σ:Type}{f g:Int->σ->Option σ}{s:σ}(h:∀i s,Le (f i s) (g i s)):Le (ry f a b s) (ry g a b s):=Le.sT h _ _ _
theorem Le.tc{σ ρ:Type}{f g:Int->σ->Option (C9 σ ρ)}(h:∀i s,Le (f i s) (g i s)):∀(n:Nat)(i:Int)(s:σ),Le (tc f n i s) (tc g n i s)
 |0,_,_=>Le.refl _|n+1,i,s=>by
  intro r d;unfold Go.Sf.tc at d|-;cases hf:f i s with
  |none=>rw[hf]at d;cases d
  |some c=>
   rw [hf]at d;rw[h i s c hf];cases c with
   |next e=>exact Le.tc h n (i+1) e r d|brk e=>exact d|ret v=>exact d
theorem Le.qo{σ ρ:Type}{f g:Int->σ->Option (C9 σ ρ)}{s:σ}(h:∀i s,Le (f i s) (g i s)):Le (qo f a b s) (qo g a b s):=Le.tc h _ _ _
theorem Le.og{σ ρ β:Type}{o p:Option (σ ⊕ ρ)}{k e:σ->Option β}{l g:ρ->Option β}(h:Le o p)(j:∀s,Le (k s) (e s))(n:∀v,Le (l v) (g v)):Le (og o k l) (og p e g):=by
 intro r d;cases o with
 |none=>cases d
 |some x=>
  rw [h x rfl];cases x with
  |inl s=>exact j s r d|inr v=>exact n v r d
theorem QU{σ ρ:Type}{f g:σ->Option (C9 σ ρ)}(h:∀s,Le (f s) (g s)):∀(n:Nat)(s:σ)(o:σ ⊕ ρ),Mb f n s=some o->MM g s o
 |0,_,_,d=>by cases d
 |n+1,s,o,d=>by
  unfold Mb at d;cases hf:f s with
  |none=>rw[hf]at d;cases d
  |some c=>
   rw [hf]at d;have e:=h s c hf;cases c with
   |next j=>exact .next e (QU h n j o d)|brk j=>cases d;exact .brk e
   |ret v=>cases d;exact .ret e
abbrev eN(N:Nat):Ev:=⟨some N⟩
theorem LW{σ ρ:Type}{f g:σ->Option (C9 σ ρ)}{N:Nat}{s:σ}(h:∀s,Le (f s) (g s)):Le (@GO (eN N) _ _ f s) (@GO AW _ _ g s):=fun _ d=>(QU h N s _ d).eq
theorem LL{α:Type}{a:Option α}{g:Nat->Option α}(N:Nat)(h:∀n,N<=n->Le a (g n)):Le a (@Ht AW _ g):=fun r d=>V1 N fun n e=>h n e r d
class Mo{α:Type}(a b:Option α):Prop where
 le:Le a b
instance{α:Type}(a:Option α):Mo a a:=⟨Le.refl a⟩
theorem Le.tU{α:Type}{f g:α->K1}(h:∀p,Le (f p) (g p)):∀(l:List α),Le (Go.Sf.tU f l) (Go.Sf.tU g l)
 |[]=>Le.refl _|p::r=>(h p).bind fun _=>(Le.tU h r).bind fun _=>Le.refl _
theorem lx{P:Prop}(p:P:=by
 with_reducible repeat' first|exact Le.refl _|exact Mo.le|refine Le.bind ?_ fun _=>?_|refine Le.ite ?_ ?_|refine Le.og ?_ (fun _=>?_) fun _=>?_|refine Le.ry fun _ _=>?_|refine Le.qo fun _ _=>?_|refine LW fun _=>?_|refine Le.tU (fun _=>?_) _):P:=p
end Go.Sf
