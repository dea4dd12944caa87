/- Plain lemmas about the loops and lists of typed functions. No program, no memory. -/
import Derived.Test.YtagcclhejecceaaGreatSfStep
import Derived.Test.YtagcclhejecceaaGreatSfF
set_option linter.all false
namespace Go.Sf
theorem bs{α β:Type}(a:α)(f:α->Option β):(some a).bind f=f a:=rfl
section loops
variable{σ ρ:Type}
variable{f:Int->σ->Option (Bx σ ρ)}{n:Nat}{i:Int}{s:σ}
theorem E9:wo f (n+1) i s=(match f i s with
  |none=>none|some (.next s')=>wo f n (i+1) s'|some (.brk s')=>some (.inl s')|some (.ret r)=>some (.inr r)):=rfl
def Ew(c:Int->Option ρ):Nat->Int->Option ρ
 |0,_=>none|n+1,i=>match c i with
  |some r=>some r|none=>Ew c n (i+1)
def fst(c:Int->Option ρ)(a b:Int):Option ρ:=Ew c (b-a).toNat a
def kh(o:Option ρ):Unit ⊕ ρ:=match o with
 |none=>.inl ()|some r=>.inr r
def L6(o:Option ρ):Bx Unit ρ:=match o with
 |none=>.next ()|some r=>.ret r
theorem XY{f:Int->Unit->Option (Bx Unit ρ)}(c:Int->Option ρ):∀(n:Nat)(a:Int),
  (∀i,a<=i->i<a+n->(∀j,a<=j->j<i->c j=none)->f i ()=some (L6 (c i)))->wo f n a ()=some (kh (Ew c n a))
 |0,_,_=>rfl|n+1,a,h=>by
  have k:=h a (Int.le_refl _) (by omega) (fun j e g=>by omega);rw[E9,k,Ew];cases v:c a with
  |some r=>rfl|none=>
   simp [L6];refine XY c n (a+1) (fun i e g q=>h i (by omega) (by omega) (fun j t u=>?_))
   grind
variable{a b:Int}
theorem BR{f:Int->Unit->Option (Bx Unit ρ)}(c:Int->Option ρ)(h:∀i,a<=i->i<b->(∀j,a<=j->j<i->c j=none)->f i ()=some (L6 (c i))):jj f a b ()=some (kh (fst c a b)):=by grind[jj,fst,XY]
variable{c:Int->Option ρ}
theorem RG:∀{n:Nat}{a:Int},Ew c n a=none↔∀i,a<=i->i<a+n->c i=none
 |0,a=>by simp[Ew];intro i g j;omega|n+1,a=>by
  rw [Ew];constructor
  .intro h;cases e:c a with
   |some r=>rw[e]at h;cases h
   |none=>
    rw [e]at h;intro i g j;by_cases hi:i=a
    .subst hi;exact e
    .exact(RG.1 h) i (by omega) (by omega)
  .intro h;rw[h a (Int.le_refl _) (by omega)];exact RG.2 (fun i g j=>h i (by omega) (by omega))
theorem CW:fst c a b=none↔∀i,a<=i->i<b->c i=none:=by grind[fst,RG]
variable{d:Int->Option ρ}
theorem Uj:∀{n:Nat}{a:Int},(∀i,a<=i->i<a+n->(∀j,a<=j->j<i->c j=none)->c i=d i)->Ew c n a=Ew d n a
 |0,_,_=>rfl|n+1,a,h=>by
  have k:=h a (Int.le_refl _) (by omega) (fun j e g=>by omega);rw[Ew,Ew,<-k];cases v:c a with
  |some r=>rfl|none=>
   refine Uj (fun i e g q=>h i (by omega) (by omega) (fun j t u=>?_))
   grind
theorem fB(h:∀i,a<=i->i<b->(∀j,a<=j->j<i->c j=none)->c i=d i):fst c a b=fst d a b:=
 Uj (fun i e k g=>h i e (by omega) g)
def kx(p:Int->Bool)(a b:Int):Bool:=(fst (fun i=>if p i then some ()else none) a b).isSome
variable{p:Int->Bool}
theorem D9:kx p a b=true↔∃i,a<=i/\i<b/\p i=true:=by grind[kx,Option.isSome_iff_ne_none,CW]
theorem By:kx p a b=false↔∀i,a<=i->i<b->p i=false:=by
 rw [<-Bool.not_eq_true,D9]
 grind
theorem MI{v:ρ}:fst (fun i=>if p i then some v else none) a b=if kx p a b then some v else none:=by
 by_cases h:kx p a b=true
 .rw[a6 h];have e:fst (fun i=>if p i then some v else none) a b≠none:=by
   grind [CW,D9]
  unfold fst at e|-;revert e;generalize (b-a).toNat=n;intro e;clear h
  induction n generalizing a with
  |zero=>exact(e rfl).elim|succ n g=>
   grind [Ew]
 .rw[ae h];rw[Bool.not_eq_true,By]at h
  grind [CW]
theorem BJ{f:Int->Unit->Option (Bx Unit ρ)}(p:Int->Bool)(v:ρ)(h:∀i,a<=i->i<b->(∀j,a<=j->j<i->p j=false)->f i ()=some (if p i=true then .ret v else .next ())):jj f a b ()=some (if kx p a b=true then .inr v else .inl ()):=by
 rw [BR (fun i=>if p i then some v else none),MI]
 .cases kx p a b<;>rfl
 .intro i e g r;rw[h i e g (fun j k q=>by
   grind)]
  cases p i<;>rfl
theorem Vg{p q:Int->Bool}(h:∀i,a<=i->i<b->p i=q i):kx p a b=kx q a b:=by grind[kx,fB]
theorem Vt{f:Int->σ->Option σ}(I:Int->σ->Prop):∀(n:Nat)(a:Int)(s:σ),I a s->(∀i s,a<=i->i<a+n->I i s->∃s',f i s=some s'/\I (i+1) s')->∃s',wT f n a s=some s'/\I (a+n) s'
 |0,a,s,h,_=>⟨s,rfl,by simpa using h⟩|n+1,a,s,h,e=>by
  obtain ⟨s',r,g⟩:=e a s (Int.le_refl _) (by omega) h;obtain⟨j,t,u⟩:=Vt I n (a+1) s' g (fun i s k q=>e i s (by omega) (by omega))
  grind [wT]
theorem Pd{f:Int->σ->Option σ}(I:Int->σ->Prop)(e:a<=b)(g:I a s)(h:∀i s,a<=i->i<b->I i s->∃s',f i s=some s'/\I (i+1) s'):∃s',o4 f a b s=some s'/\I b s':=by
 obtain ⟨s',k,q⟩:=Vt I (b-a).toNat a s g (fun i s j r=>h i s j (by omega));exact⟨s',k,by rwa[show a+((b-a).toNat:Int)=b by omega]at q⟩
theorem B0{f:Int->σ->Option σ}(g:Int->σ)(e:a<=b)(j:g a=s)(h:∀i,a<=i->i<b->f i (g i)=some (g (i+1))):o4 f a b s=some (g b):=by
 obtain ⟨s',t,rfl⟩:=Pd (fun i s=>s=g i) e j.symm (fun i s k q r=>⟨g (i+1),by rw[r];exact h i k q,rfl⟩);exact t
theorem XZ(I:Int->σ->Prop)(B:σ->Prop)(R:ρ->Prop):∀(n:Nat)(a:Int)(s:σ),I a s ->
  (∀i s,a<=i->i<a+n->I i s->(∃s',f i s=some (.next s')/\I (i+1) s')\/(∃s',f i s=some (.brk s')/\B s')\/∃r,f i s=some (.ret r)/\R r) ->
  (∃s',wo f n a s=some (.inl s')/\(I (a+n) s'\/B s'))\/∃r,wo f n a s=some (.inr r)/\R r
 |0,a,s,h,_=>.inl ⟨s,rfl,.inl (by simpa using h)⟩|n+1,a,s,h,j=>by
  rw [E9];rcases j a s (Int.le_refl _) (by omega) h with⟨s',e,g⟩|⟨s',e,g⟩|⟨r,e,g⟩
  .rw[e];have:=XZ I B R n (a+1) s' g (fun i s k q=>j i s (by omega) (by omega))
   grind
  .grind
  grind
theorem U6(I:Int->σ->Prop)(B:σ->Prop)(R:ρ->Prop)(e:a<=b)(g:I a s)
  (h:∀i s,a<=i->i<b->I i s->(∃s',f i s=some (.next s')/\I (i+1) s')\/(∃s',f i s=some (.brk s')/\B s')\/∃r,f i s=some (.ret r)/\R r):
  (∃s',jj f a b s=some (.inl s')/\(I b s'\/B s'))\/∃r,jj f a b s=some (.inr r)/\R r:=by
 have:=XZ I B R (b-a).toNat a s g (fun i s j k=>h i s j (by omega))
 rwa [show a+((b-a).toNat:Int)=b by omega]at this
end loops
section lists
variable{α:Type}
def AA[Inhabited α](l:List α)(i:Int):α:=l.getD i.toNat default
variable{l:List α}{i:Int}
theorem AD[Inhabited α](e:0<=i)(g:i<l.length):idx l i=some (AA l i):=by
 unfold idx AA
 grind
variable{x:α}
theorem ZQ(h:idx l i=some x):0<=i/\i<l.length/\l[i.toNat]?=some x:=by
 unfold idx at h
 grind
theorem AJ[Inhabited α](e:0<=i)(g:i<l.length):AA l i∈l:=by
 have h:=AD e g;exact List.mem_of_getElem? (ZQ h).2.2
theorem Be[Inhabited α](h:x∈l):∃i:Int,0<=i/\i<l.length/\AA l i=x:=by
 obtain ⟨n,e⟩:=List.getElem?_of_mem h;have g:=(List.getElem?_eq_some_iff.1 e).1;refine⟨n,by omega,by omega,?_⟩;unfold AA
 grind
theorem FX[Inhabited α]{p:α->Bool}:l.any p=kx (fun i=>p (AA l i)) 0 l.length:=by
 rw [Bool.eq_iff_iff,List.any_eq_true,D9]
 grind [Be,AJ]
variable{b:Int}
theorem MB(e:0<=b)(g:b<=l.length):xu l 0 b=some (l.take b.toNat):=by
 unfold xu
 grind
variable{n:Nat}
theorem PH[Inhabited α](h:i.toNat<n):AA (l.take n) i=AA l i:=by
 unfold AA
 grind
theorem PZ[Inhabited α]{p:α->Bool}(e:0<=b)(g:b<=l.length):(l.take b.toNat).any p=kx (fun i=>p (AA l i)) 0 b:=by grind[FX,bq,Vg,PH]
variable{m:List α}
theorem Aq(h:l.length+m.length<=Aj):Ai l m=some (l++m):=by grind[Ai]
theorem Ys[Inhabited α](h:l.length=m.length)(e:∀i:Int,0<=i->i<l.length->AA l i=AA m i):l=m:=by
 refine List.ext_getElem h (fun n g j=>?_);have:=e n (by omega) (by omega);unfold AA at this
 grind
theorem Pv[Inhabited α]:AA (l++m) i=if i.toNat<l.length then AA l i else m.getD (i.toNat-l.length) default:=by
 unfold AA
 grind
variable{β:Type}
theorem OO[Inhabited α][Inhabited β]{g:α->β}(e:0<=i)(h:i<l.length):AA (l.map g) i=g (AA l i):=by grind[AD,ZQ,AA]
end lists
section wh
variable{σ ρ:Type}
inductive NY(f:σ->Option (Bx σ ρ)):σ->σ ⊕ ρ->Prop where
 |next {s s':σ} {o:σ ⊕ ρ} (h:f s=some (.next s')) (k:NY f s' o):NY f s o
 |brk {s s':σ} (h:f s=some (.brk s')):NY f s (.inl s')
 |ret {s:σ} {r:ρ} (h:f s=some (.ret r)):NY f s (.inr r)
variable{s:σ}{o:σ ⊕ ρ}
theorem NY.go{f:σ->Option (Bx σ ρ)}(h:NY f s o):∃N,∀n,N<=n->QX f n s=some o:=by
 induction h with
 |next h k j=>
  obtain ⟨N,g⟩:=j;refine⟨N+1,fun n e=>?_⟩;cases n with
  |zero=>omega|succ n=>rw[QX,h];exact g n (by omega)
 |brk h=>
  refine ⟨1,fun n e=>?_⟩;cases n with
  |zero=>omega|succ n=>rw[QX,h]
 |ret h=>
  refine ⟨1,fun n e=>?_⟩;cases n with
  |zero=>omega|succ n=>rw[QX,h]
theorem NY.eq{f:σ->Option (Bx σ ρ)}(h:NY f s o):Gf f s=some o:=by
 obtain ⟨N,e⟩:=h.go;exact Fa N e
def FY(i:Int)(c:Option (Int ⊕ ρ)):Bx Int ρ:=match c with
 |none=>.next (i+1)|some (.inl x)=>.brk x|some (.inr r)=>.ret r
theorem aO{f:Int->Option (Bx Int ρ)}(c:Int->Option (Int ⊕ ρ)):∀(n:Nat)(a:Int),(∀i,a<=i->i<a+n->(∀j,a<=j->j<i->c j=none)->f i=some (FY i (c i)))->f (a+n)=some (.brk (a+n))->NY f a ((Ew c n a).getD (.inl (a+n)))
 |0,a,_,g=>by
  simp [Ew];exact .brk (by simpa using g)
 |n+1,a,h,g=>by
  have e:=h a (Int.le_refl _) (by omega) (fun j q t=>by omega);rw[Ew];cases k:c a with
  |some r=>
   rw [k]at e;cases r with
   |inl x=>exact .brk e|inr r=>exact .ret e
  |none=>
   rw [k]at e;rw[show a+((n+1:Nat):Int)=a+1+n by omega]at g|-;refine .next e (aO c n (a+1) (fun i q t u=>h i (by omega) (by omega) (fun j v w=>?_)) g)
   grind
variable{a b:Int}
theorem PS{f:Int->Option (Bx Int ρ)}(c:Int->Option (Int ⊕ ρ))(g:a<=b)(h:∀i,a<=i->i<b->(∀j,a<=j->j<i->c j=none)->f i=some (FY i (c i)))(k:f b=some (.brk b)):Gf f a=some ((fst c a b).getD (.inl b)):=by
 have e:a+((b-a).toNat:Int)=b:=by omega
 have:=aO c (b-a).toNat a (fun i q t r=>h i q (by omega) r) (by rw[e];exact k);rw[e]at this;exact this.eq
end wh
section bytes
instance:LawfulBEq ByteArray where
 eq_of_beq {a b} h:=by
  cases a;cases b;exact congrArg ByteArray.mk (eq_of_beq (show((_:Array UInt8)==_)=true from h))
 rfl {a}:=show(a.data==a.data)=true from beq_self_eq_true _
def bt(s:ByteArray)(i:Int):Int:=((s.data.toList.getD i.toNat 0).toNat:Int)
variable{i:Int}
theorem PP{s:ByteArray}(g:0<=i)(h:i<s.size):xc s i=some (bt s i):=by
 have e:i.toNat<s.data.size:=by
  have:s.size=s.data.size:=rfl;omega
 unfold xc bt;rw[a6 g,getElem?_pos s i.toNat e];simp[List.getD_eq_getElem?_getD,Array.getElem?_toList,Array.getElem?_eq_getElem e];rfl
variable{a b:Int}
theorem MV{s:ByteArray}(e:0<=a)(g:a<=b)(h:b<=s.size):xi s a b=some (s.extract a.toNat b.toNat):=by grind[xi]
theorem YL{s:ByteArray}(e:0<=a)(g:a<=b)(h:b<=s.size):((s.extract a.toNat b.toNat).size:Int)=b-a:=by grind[ByteArray.size_extract]
end bytes
end Go.Sf
namespace Go.Sf
def Le{α:Type}(a b:Option α):Prop:=∀r,a=some r->b=some r
theorem Le.refl{α:Type}(a:Option α):Le a a:=fun _ h=>h
theorem Le.none{α:Type}(b:Option α):Le Option.none b:=fun _ h=>by cases h
theorem Le.bind{α β:Type}{a b:Option α}{f g:α->Option β}(h:Le a b)(k:∀x,Le (f x) (g x)):Le (a.bind f) (b.bind g):=by
 intro r e;obtain⟨x,j,q⟩:=Option.bind_eq_some_iff.1 e;rw[h x j,Option.bind_some];exact k x r q
theorem Le.ite{α:Type}{c:Prop}[Decidable c]{a b a' e:Option α}(h:Le a b)(k:Le a' e):Le (if c then a else a') (if c then b else e):=by grind
theorem Le.wT{σ:Type}{f g:Int->σ->Option σ}(h:∀i s,Le (f i s) (g i s)):∀(n:Nat)(i:Int)(s:σ),Le (wT f n i s) (wT g n i s)
 |0,_,_=>Le.refl _|n+1,i,s=>by
  intro r e;unfold Go.Sf.wT at e|-;cases hf:f i s with
  |none=>rw[hf]at e;cases e
  |some s'=>
   rw [hf]at e;rw[h i s s' hf];exact Le.wT h n (i+1) s' r e
variable{a b:Int}
theorem Le.o4{σ:Type}{f g:Int->σ->Option σ}{s:σ}(h:∀i s,Le (f i s) (g i s)):Le (o4 f a b s) (o4 g a b s):=Le.wT h _ _ _
theorem Le.wo{σ ρ:Type}{f g:Int->σ->Option (Bx σ ρ)}(h:∀i s,Le (f i s) (g i s)):∀(n:Nat)(i:Int)(s:σ),Le (wo f n i s) (wo g n i s)
 |0,_,_=>Le.refl _|n+1,i,s=>by
  intro r e;unfold Go.Sf.wo at e|-;cases hf:f i s with
  |none=>rw[hf]at e;cases e
  |some c=>
   rw [hf]at e;rw[h i s c hf];cases c with
   |next s'=>exact Le.wo h n (i+1) s' r e|brk s'=>exact e|ret v=>exact e
theorem Le.jj{σ ρ:Type}{f g:Int->σ->Option (Bx σ ρ)}{s:σ}(h:∀i s,Le (f i s) (g i s)):Le (jj f a b s) (jj g a b s):=Le.wo h _ _ _
theorem Le.ek{σ ρ β:Type}{o p:Option (σ ⊕ ρ)}{k g:σ->Option β}{l j:ρ->Option β}(h:Le o p)(q:∀s,Le (k s) (g s))(t:∀v,Le (l v) (j v)):Le (ek o k l) (ek p g j):=by
 intro r e;cases o with
 |none=>cases e
 |some x=>
  rw [h x rfl];cases x with
  |inl s=>exact q s r e|inr v=>exact t v r e
theorem Wd{σ ρ:Type}{f g:σ->Option (Bx σ ρ)}(h:∀s,Le (f s) (g s)):∀(n:Nat)(s:σ)(o:σ ⊕ ρ),QX f n s=some o->NY g s o
 |0,_,_,e=>by cases e
 |n+1,s,o,e=>by
  unfold QX at e;cases hf:f s with
  |none=>rw[hf]at e;cases e
  |some c=>
   rw [hf]at e;have j:=h s c hf;cases c with
   |next s'=>exact .next j (Wd h n s' o e)|brk s'=>cases e;exact .brk j
   |ret v=>cases e;exact .ret j
abbrev eN(N:Nat):Ev:=⟨some N⟩
theorem LW{σ ρ:Type}{f g:σ->Option (Bx σ ρ)}{N:Nat}{s:σ}(h:∀s,Le (f s) (g s)):Le (@Gf (eN N) _ _ f s) (@Gf GN _ _ g s):=fun _ e=>(Wd h N s _ e).eq
theorem LL{α:Type}{a:Option α}{g:Nat->Option α}(N:Nat)(h:∀n,N<=n->Le a (g n)):Le a (@KN GN _ g):=fun r e=>Fa N fun n j=>h n j r e
class Rt(α:Type)where
 le:α->α->Prop
instance{β:Type}:Rt (Option β):=⟨Le⟩
instance{α β:Type}[Rt β]:Rt (α->β):=⟨fun f g=>∀x,Rt.le (f x) (g x)⟩
class Mo{α:Type}[Rt α](a b:α):Prop where
 le:Rt.le a b
class MF{α:Type}[Rt α](f:Ev->α):Prop where
 le:∀N,Rt.le (f (eN N)) (f GN)
instance{α:Type}(a:Option α):Mo a a:=⟨Le.refl a⟩
instance{α β:Type}[Rt β]{F G:α->β}[h:Mo F G](x:α):Mo (F x) (G x):=⟨h.le x⟩
instance{α:Type}[Rt α]{f:Ev->α}[MF f]{N:Nat}:Mo (f (eN N)) (f GN):=⟨MF.le N⟩
variable{β:Type}
theorem LO{a b:Option β}(h:Rt.le a b):Le a b:=h
theorem Le.xm{α:Type}{f g:α->K1}(h:∀p,Le (f p) (g p)):∀(l:List α),Le (Go.Sf.xm f l) (Go.Sf.xm g l)
 |[]=>Le.refl _|p::r=>(h p).bind fun _=>(Le.xm h r).bind fun _=>Le.refl _
theorem lx{P:Prop}(p:P:=by
 with_reducible repeat' first|exact Le.refl _|refine Le.bind ?_ fun _=>?_|refine Le.ite ?_ ?_|refine Le.ek ?_ (fun _=>?_) fun _=>?_|refine Le.o4 fun _ _=>?_|refine Le.jj fun _ _=>?_|refine LW fun _=>?_|refine Le.xm (fun _=>?_) _|exact LO Mo.le):P:=p
theorem ly{a b:Option β}(p:Le a b):Rt.le a b:=p
end Go.Sf
