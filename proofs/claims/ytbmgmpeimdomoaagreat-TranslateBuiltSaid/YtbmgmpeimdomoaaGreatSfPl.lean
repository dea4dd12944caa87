/- Plain lemmas about the loops and lists of typed functions. No program, no memory. -/
import Derived.Test.YtbmgmpeimdomoaaGreatSfF
set_option linter.all false
open Option renaming some->Y,none->W
open Int renaming le_refl->w!
namespace Go.Sf
theorem bs{α β:Type}(a:α)(f:α->Option β):(Y a).bind f=f a:=rfl
section loops
variable{σ ρ:Type}
variable{n:Nat}{i:Int}{s:σ}
theorem FH{f:Int->σ->Option (B2 σ ρ)}:tc f (n+1) i s=(match f i s with
  |none=>W|some (.next s')=>tc f n (i+1) s'|some (.brk s')=>Y (.inl s')|some (.ret r)=>Y (.inr r)):=rfl
def Fh(c:Int->Option ρ):Nat->Int->Option ρ
 |0,_=>W|n+1,i=>match c i with
  |some r=>Y r|none=>Fh c n (i+1)
def fst(c:Int->Option ρ)(a b:Int):Option ρ:=Fh c (b-a).toNat a
def qO(o:Option ρ):Unit ⊕ ρ:=match o with
 |none=>.inl ()|some r=>.inr r
def NY(o:Option ρ):B2 Unit ρ:=match o with
 |none=>.next ()|some r=>.ret r
theorem ZS{f:Int->Unit->Option (B2 Unit ρ)}(c:Int->Option ρ):∀(n:Nat)(a:Int),
  (∀i,a<=i->i<a+n->(∀j,a<=j->j<i->c j=W)->f i ()=Y (NY (c i)))->tc f n a ()=Y (qO (Fh c n a))
 |0,_,_=>rfl|n+1,a,h=>by
  have k:=h a (w! _) U (λj e g=>U);rw[FH,k,Fh];cases v:c a with
  |some r=>rfl|none=>
   simp [NY];refine ZS c n (a+1) (λi e g q=>h i U U (λj t u=>?_))
   grind
variable{a b:Int}
theorem BU{f:Int->Unit->Option (B2 Unit ρ)}(c:Int->Option ρ)(h:∀i,a<=i->i<b->(∀j,a<=j->j<i->c j=W)->f i ()=Y (NY (c i))):eE f a b ()=Y (qO (fst c a b)):=by grind[eE,fst,ZS]
variable{c:Int->Option ρ}
theorem TI:∀{n:Nat}{a:Int},Fh c n a=W↔∀i,a<=i->i<a+n->c i=W
 |0,a=>by simp[Fh];intro i g j;omega|n+1,a=>by
  rw [Fh];constructor
  .intro h;cases e:c a with
   |some r=>rw[e]at h;cases h
   |none=>
    rw [e]at h;intro i g j;by_cases hi:i=a
    .subst hi;exact e
    .exact(TI.1 h) i U U
  .intro h;rw[h a (w! _) U];exact TI.2 (λi g j=>h i U U)
theorem Bc:fst c a b=W↔∀i,a<=i->i<b->c i=W:=by grind[fst,TI]
variable{d:Int->Option ρ}
theorem WB:∀{n:Nat}{a:Int},(∀i,a<=i->i<a+n->(∀j,a<=j->j<i->c j=W)->c i=d i)->Fh c n a=Fh d n a
 |0,_,_=>rfl|n+1,a,h=>by
  have k:=h a (w! _) U (λj e g=>U);rw[Fh,Fh,<-k];cases v:c a with
  |some r=>rfl|none=>
   refine WB (λi e g q=>h i U U (λj t u=>?_))
   grind
theorem kZ(h:∀i,a<=i->i<b->(∀j,a<=j->j<i->c j=W)->c i=d i):fst c a b=fst d a b:=
 WB (λi e k g=>h i e U g)
def fu(p:Int->Bool)(a b:Int):Bool:=(fst (λi=>if p i then Y ()else W) a b).isSome
variable{p:Int->Bool}
theorem Dn:fu p a b=true↔∃i,a<=i/\i<b/\p i=true:=by grind[fu,Option.isSome_iff_ne_none,Bc]
theorem Bg:fu p a b=false↔∀i,a<=i->i<b->p i=false:=by
 rw [<-Bool.not_eq_true,Dn]
 grind
theorem Nq{v:ρ}:fst (λi=>if p i then Y v else W) a b=if fu p a b then Y v else W:=by
 by_cases h:fu p a b=true
 .rw[Ne h];have e:fst (λi=>if p i then Y v else W) a b≠W:=by
   grind [Bc,Dn]
  unfold fst at e|-;revert e;generalize (b-a).toNat=n;intro e;clear h
  induction n generalizing a with
  |zero=>exact(e rfl).elim|succ n g=>
   grind [Fh]
 .rw[QQ h];rw[Bool.not_eq_true,Bg]at h
  grind [Bc]
theorem BN{f:Int->Unit->Option (B2 Unit ρ)}(p:Int->Bool)(v:ρ)(h:∀i,a<=i->i<b->(∀j,a<=j->j<i->p j=false)->f i ()=Y (if p i=true then .ret v else .next ())):eE f a b ()=Y (if fu p a b=true then .inr v else .inl ()):=by
 rw [BU (λi=>if p i then Y v else W),Nq]
 .cases fu p a b<;>rfl
 .intro i e g r;rw[h i e g (λj k q=>by
   grind)]
  cases p i<;>rfl
theorem XR{p q:Int->Bool}(h:∀i,a<=i->i<b->p i=q i):fu p a b=fu q a b:=by grind[fu,kZ]
variable{f:Int->σ->Option σ}
theorem Xh(I:Int->σ->Prop):∀(n:Nat)(a:Int)(s:σ),I a s->(∀i s,a<=i->i<a+n->I i s->∃s',f i s=Y s'/\I (i+1) s')->∃s',Aaf f n a s=Y s'/\I (a+n) s'
 |0,a,s,h,_=>⟨s,rfl,c_⟩|n+1,a,s,h,e=>by
  obtain ⟨s',r,g⟩:=e a s (w! _) U h;obtain⟨j,t,u⟩:=Xh I n (a+1) s' g (λi s k q=>e i s U U)
  grind [Aaf]
theorem PB(I:Int->σ->Prop)(e:a<=b)(g:I a s)(h:∀i s,a<=i->i<b->I i s->∃s',f i s=Y s'/\I (i+1) s'):∃s',gp f a b s=Y s'/\I b s':=by
 obtain ⟨s',k,q⟩:=Xh I (b-a).toNat a s g (λi s j r=>h i s j U);exact⟨s',k,by rwa[show a+((b-a).toNat:Int)=b by omega]at q⟩
theorem BZ(g:Int->σ)(e:a<=b)(j:g a=s)(h:∀i,a<=i->i<b->f i (g i)=Y (g (i+1))):gp f a b s=Y (g b):=by
 obtain ⟨s',t,rfl⟩:=PB (λi s=>s=g i) e j.symm (λi s k q r=>⟨g (i+1),by rw[r];exact h i k q,rfl⟩);exact t
theorem ii(h:b<=a):gp f a b s=Y s:=by
 unfold gp;rw[show(b-a).toNat=0 by omega];rfl
theorem ZT{f:Int->σ->Option (B2 σ ρ)}(I:Int->σ->Prop)(B:σ->Prop)(R:ρ->Prop):∀(n:Nat)(a:Int)(s:σ),I a s ->
  (∀i s,a<=i->i<a+n->I i s->(∃s',f i s=Y (.next s')/\I (i+1) s')\/(∃s',f i s=Y (.brk s')/\B s')\/∃r,f i s=Y (.ret r)/\R r) ->
  (∃s',tc f n a s=Y (.inl s')/\(I (a+n) s'\/B s'))\/∃r,tc f n a s=Y (.inr r)/\R r
 |0,a,s,h,_=>.inl ⟨s,rfl,.inl c_⟩|n+1,a,s,h,j=>by
  rw [FH];rcases j a s (w! _) U h with⟨s',e,g⟩|⟨s',e,g⟩|⟨r,e,g⟩
  .rw[e];have:=ZT I B R n (a+1) s' g (λi s k q=>j i s U U)
   grind
  .grind
  grind
theorem Wf{f:Int->σ->Option (B2 σ ρ)}(I:Int->σ->Prop)(B:σ->Prop)(R:ρ->Prop)(e:a<=b)(g:I a s)
  (h:∀i s,a<=i->i<b->I i s->(∃s',f i s=Y (.next s')/\I (i+1) s')\/(∃s',f i s=Y (.brk s')/\B s')\/∃r,f i s=Y (.ret r)/\R r):
  (∃s',eE f a b s=Y (.inl s')/\(I b s'\/B s'))\/∃r,eE f a b s=Y (.inr r)/\R r:=by
 have:=ZT I B R (b-a).toNat a s g (λi s j k=>h i s j U)
 rwa [show a+((b-a).toNat:Int)=b by omega]at this
end loops
section lists
variable{α:Type}
def AA[Inhabited α](l:List α)(i:Int):α:=l.getD i.toNat default
variable{l:List α}{i:Int}
theorem AD[Inhabited α](e:0<=i)(g:i<l.length):idx l i=Y (AA l i):=by
 unfold idx AA
 grind
variable{x:α}
theorem cI(h:idx l i=Y x):0<=i/\i<l.length/\l[i.toNat]?=Y x:=by
 unfold idx at h
 grind
theorem AG[Inhabited α](e:0<=i)(g:i<l.length):AA l i∈l:=by
 have h:=AD e g;exact List.mem_of_getElem? (cI h).2.2
theorem BC[Inhabited α](h:x∈l):∃i:Int,0<=i/\i<l.length/\AA l i=x:=by
 obtain ⟨n,e⟩:=List.getElem?_of_mem h;have g:=(List.getElem?_eq_some_iff.1 e).1;refine⟨n,U,U,?_⟩;unfold AA
 grind
theorem GV[Inhabited α]{p:α->Bool}:l.any p=fu (λi=>p (AA l i)) 0 l.length:=by
 rw [Bool.eq_iff_iff,List.any_eq_true,Dn]
 grind [BC,AG]
variable{b:Int}
theorem L7(e:0<=b)(g:b<=l.length):slc l 0 b=Y (l.take b.toNat):=by
 unfold slc
 grind
variable{n:Nat}
theorem Qu[Inhabited α](h:i.toNat<n):AA (l.take n) i=AA l i:=by
 unfold AA
 grind
theorem RC[Inhabited α]{p:α->Bool}(e:0<=b)(g:b<=l.length):(l.take b.toNat).any p=fu (λi=>p (AA l i)) 0 b:=by grind[GV,aN,XR,Qu]
variable{m:List α}
theorem AV(h:l.length+m.length<=AX):Ak l m=Y (l++m):=by grind[Ak]
theorem bQ[Inhabited α](h:l.length=m.length)(e:∀i:Int,0<=i->i<l.length->AA l i=AA m i):l=m:=by
 refine List.ext_getElem h (λn g j=>?_);have:=e n U U;unfold AA at this
 grind
theorem Gy[Inhabited α]:AA (l++m) i=if i.toNat<l.length then AA l i else m.getD (i.toNat-l.length) default:=by
 unfold AA
 grind
variable{β:Type}
theorem OB[Inhabited α][Inhabited β]{g:α->β}(e:0<=i)(h:i<l.length):AA (l.map g) i=g (AA l i):=by grind[AD,cI,AA]
end lists
section wh
variable{σ ρ:Type}
inductive LV(f:σ->Option (B2 σ ρ)):σ->σ ⊕ ρ->Prop where
 |next {s s':σ} {o:σ ⊕ ρ} (h:f s=Y (.next s')) (k:LV f s' o):LV f s o
 |brk {s s':σ} (h:f s=Y (.brk s')):LV f s (.inl s')
 |ret {s:σ} {r:ρ} (h:f s=Y (.ret r)):LV f s (.inr r)
variable{s:σ}{o:σ ⊕ ρ}
theorem LV.go{f:σ->Option (B2 σ ρ)}(h:LV f s o):∃N,∀n,N<=n->SQ f n s=Y o:=by
 induction h with
 |next h k j=>
  obtain ⟨N,g⟩:=j;refine⟨N+1,λn e=>?_⟩;cases n with
  |zero=>omega|succ n=>rw[SQ,h];exact g n U
 |brk h=>
  refine ⟨1,λn e=>?_⟩;cases n with
  |zero=>omega|succ n=>rw[SQ,h]
 |ret h=>
  refine ⟨1,λn e=>?_⟩;cases n with
  |zero=>omega|succ n=>rw[SQ,h]
theorem LV.eq{f:σ->Option (B2 σ ρ)}(h:LV f s o):FK f s=Y o:=by
 obtain ⟨N,e⟩:=h.go;exact GZ N e
def F2(i:Int)(c:Option (Int ⊕ ρ)):B2 Int ρ:=match c with
 |none=>.next (i+1)|some (.inl x)=>.brk x|some (.inr r)=>.ret r
theorem dx{f:Int->Option (B2 Int ρ)}(c:Int->Option (Int ⊕ ρ)):∀(n:Nat)(a:Int),(∀i,a<=i->i<a+n->(∀j,a<=j->j<i->c j=W)->f i=Y (F2 i (c i)))->f (a+n)=Y (.brk (a+n))->LV f a ((Fh c n a).getD (.inl (a+n)))
 |0,a,_,g=>by
  simp [Fh];exact .brk o?
 |n+1,a,h,g=>by
  have e:=h a (w! _) U (λj q t=>U);rw[Fh];cases k:c a with
  |some r=>
   rw [k]at e;cases r with
   |inl x=>exact .brk e|inr r=>exact .ret e
  |none=>
   rw [k]at e;rw[show a+((n+1:Nat):Int)=a+1+n by omega]at g|-;refine .next e (dx c n (a+1) (λi q t u=>h i U U (λj v w=>?_)) g)
   grind
variable{a b:Int}
theorem Q5{f:Int->Option (B2 Int ρ)}(c:Int->Option (Int ⊕ ρ))(g:a<=b)(h:∀i,a<=i->i<b->(∀j,a<=j->j<i->c j=W)->f i=Y (F2 i (c i)))(k:f b=Y (.brk b)):FK f a=Y ((fst c a b).getD (.inl b)):=by
 have e:a+((b-a).toNat:Int)=b:=U
 have:=dx c (b-a).toNat a (λi q t r=>h i q U r) (by rw[e];exact k);rw[e]at this;exact this.eq
end wh
section bytes
instance:LawfulBEq ByteArray where
 eq_of_beq {a b} h:=by
  cases a;cases b;exact congrArg ByteArray.mk (eq_of_beq (show((_:Array UInt8)==_)=true from h))
 rfl {a}:=show(a.data==a.data)=true from beq_self_eq_true _
def bt(s:ByteArray)(i:Int):Int:=((s.data.toList.getD i.toNat 0).toNat:Int)
variable{i:Int}
theorem Q3{s:ByteArray}(g:0<=i)(h:i<s.size):Aas s i=Y (bt s i):=by
 have e:i.toNat<s.data.size:=by
  have:s.size=s.data.size:=rfl;omega
 unfold Aas bt;rw[Ne g,getElem?_pos s i.toNat e];simp[List.getD_eq_getElem?_getD,Array.getElem?_toList,Array.getElem?_eq_getElem e];rfl
variable{a b:Int}
theorem N3{s:ByteArray}(e:0<=a)(g:a<=b)(h:b<=s.size):Aau s a b=Y (s.extract a.toNat b.toNat):=by grind[Aau]
theorem aQ{s:ByteArray}(e:0<=a)(g:a<=b)(h:b<=s.size):((s.extract a.toNat b.toNat).size:Int)=b-a:=by grind[ByteArray.size_extract]
end bytes
end Go.Sf
namespace Go.Sf
def Le{α:Type}(a b:Option α):Prop:=∀r,a=Y r->b=Y r
theorem Le.refl{α:Type}(a:Option α):Le a a:=λ_ h=>h
theorem Le.none{α:Type}(b:Option α):Le Option.none b:=λ_ h=>c?
theorem Le.bind{α β:Type}{a b:Option α}{f g:α->Option β}(h:Le a b)(k:∀x,Le (f x) (g x)):Le (a.bind f) (b.bind g):=by
 intro r e;obtain⟨x,j,q⟩:=Option.bind_eq_some_iff.1 e;rw[h x j,Option.bind_some];exact k x r q
theorem Le.ite{α:Type}{c:Prop}[Decidable c]{a b a' e:Option α}(h:Le a b)(k:Le a' e):Le (if c then a else a') (if c then b else e):=o2
theorem Le.Aaf{σ:Type}{f g:Int->σ->Option σ}(h:∀i s,Le (f i s) (g i s)):∀(n:Nat)(i:Int)(s:σ),Le (Aaf f n i s) (Aaf g n i s)
 |0,_,_=>Le.refl _|n+1,i,s=>by
  intro r e;unfold Go.Sf.Aaf at e|-;cases hf:f i s with
  |none=>rw[hf]at e;cases e
  |some s'=>
   rw [hf]at e;rw[h i s s' hf];exact Le.Aaf h n (i+1) s' r e
variable{a b:Int}
theorem Le.gp{σ:Type}{f g:Int->σ->Option σ}{s:σ}(h:∀i s,Le (f i s) (g i s)):Le (gp f a b s) (gp g a b s):=Le.Aaf h _ _ _
theorem Le.tc{σ ρ:Type}{f g:Int->σ->Option (B2 σ ρ)}(h:∀i s,Le (f i s) (g i s)):∀(n:Nat)(i:Int)(s:σ),Le (tc f n i s) (tc g n i s)
 |0,_,_=>Le.refl _|n+1,i,s=>by
  intro r e;unfold Go.Sf.tc at e|-;cases hf:f i s with
  |none=>rw[hf]at e;cases e
  |some c=>
   rw [hf]at e;rw[h i s c hf];cases c with
   |next s'=>exact Le.tc h n (i+1) s' r e|brk s'=>exact e|ret v=>exact e
theorem Le.eE{σ ρ:Type}{f g:Int->σ->Option (B2 σ ρ)}{s:σ}(h:∀i s,Le (f i s) (g i s)):Le (eE f a b s) (eE g a b s):=Le.tc h _ _ _
theorem Le.d6{σ ρ β:Type}{o p:Option (σ ⊕ ρ)}{k g:σ->Option β}{l j:ρ->Option β}(h:Le o p)(q:∀s,Le (k s) (g s))(t:∀v,Le (l v) (j v)):Le (d6 o k l) (d6 p g j):=by
 intro r e;cases o with
 |none=>cases e
 |some x=>
  rw [h x rfl];cases x with
  |inl s=>exact q s r e|inr v=>exact t v r e
theorem YU{σ ρ:Type}{f g:σ->Option (B2 σ ρ)}(h:∀s,Le (f s) (g s)):∀(n:Nat)(s:σ)(o:σ ⊕ ρ),SQ f n s=Y o->LV g s o
 |0,_,_,e=>m?
 |n+1,s,o,e=>by
  unfold SQ at e;cases hf:f s with
  |none=>rw[hf]at e;cases e
  |some c=>
   rw [hf]at e;have j:=h s c hf;cases c with
   |next s'=>exact .next j (YU h n s' o e)|brk s'=>cases e;exact .brk j
   |ret v=>cases e;exact .ret j
abbrev eN(N:Nat):Ev:=⟨Y N⟩
theorem LW{σ ρ:Type}{f g:σ->Option (B2 σ ρ)}{N:Nat}{s:σ}(h:∀s,Le (f s) (g s)):Le (@FK (eN N) _ _ f s) (@FK HH _ _ g s):=λ_ e=>(YU h N s _ e).eq
theorem LL{α:Type}{a:Option α}{g:Nat->Option α}(N:Nat)(h:∀n,N<=n->Le a (g n)):Le a (@Lc HH _ g):=λr e=>GZ N λn j=>h n j r e
class Tx(α:Type)where
 le:α->α->Prop
instance{β:Type}:Tx (Option β):=⟨Le⟩
instance{α β:Type}[Tx β]:Tx (α->β):=⟨λf g=>∀x,Tx.le (f x) (g x)⟩
class Mo{α:Type}[Tx α](a b:α):Prop where
 le:Tx.le a b
class MF{α:Type}[Tx α](f:Ev->α):Prop where
 le:∀N,Tx.le (f (eN N)) (f HH)
instance{α:Type}(a:Option α):Mo a a:=⟨Le.refl a⟩
instance{α β:Type}[Tx β]{F G:α->β}[h:Mo F G](x:α):Mo (F x) (G x):=⟨h.le x⟩
instance{α:Type}[Tx α]{f:Ev->α}[MF f]{N:Nat}:Mo (f (eN N)) (f HH):=⟨MF.le N⟩
variable{β:Type}
theorem LO{a b:Option β}(h:Tx.le a b):Le a b:=h
theorem Le.Aaz{α:Type}{f g:α->I1}(h:∀p,Le (f p) (g p)):∀(l:List α),Le (Go.Sf.Aaz f l) (Go.Sf.Aaz g l)
 |[]=>Le.refl _|p::r=>(h p).bind λ_=>(Le.Aaz h r).bind λ_=>Le.refl _
theorem lx{P:Prop}(p:P:=by
 with_reducible repeat' first|exact Le.refl _|refine Le.bind ?_ λ_=>?_|refine Le.ite ?_ ?_|refine Le.d6 ?_ (λ_=>?_) λ_=>?_|refine Le.gp λ_ _=>?_|refine Le.eE λ_ _=>?_|refine LW λ_=>?_|refine Le.Aaz (λ_=>?_) _|exact LO Mo.le):P:=p
theorem ly{a b:Option β}(p:Le a b):Tx.le a b:=p
end Go.Sf
