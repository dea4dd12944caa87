/- Plain lemmas about the loops and lists of typed functions. No program, no memory. -/
import Derived.Test.YthcncnllajfkfaaGreatSfF
set_option linter.all false
open Option renaming some->Y,none->W
open Int renaming le_refl->w_
namespace Go.Sf
theorem bs{α β:Type}(a:α)(f:α->Option β):(Y a).bind f=f a:=rfl
section loops
variable{σ ρ:Type}
variable{f:Int->σ->Option (B0 σ ρ)}{n:Nat}{i:Int}{s:σ}
theorem GF:z1 f (n+1) i s=(match f i s with
  |none=>W|some (.next s')=>z1 f n (i+1) s'|some (.brk s')=>Y (.inl s')|some (.ret r)=>Y (.inr r)):=rfl
def FM(c:Int->Option ρ):Nat->Int->Option ρ
 |0,_=>W|n+1,i=>match c i with
  |some r=>Y r|none=>FM c n (i+1)
def fst(c:Int->Option ρ)(a b:Int):Option ρ:=FM c (b-a).toNat a
def su(o:Option ρ):Unit ⊕ ρ:=match o with
 |none=>.inl ()|some r=>.inr r
def TM(o:Option ρ):B0 Unit ρ:=match o with
 |none=>.next ()|some r=>.ret r
theorem aM{f:Int->Unit->Option (B0 Unit ρ)}(c:Int->Option ρ):∀(n:Nat)(a:Int),
  (∀i,a<=i->i<a+n->(∀j,a<=j->j<i->c j=W)->f i ()=Y (TM (c i)))->z1 f n a ()=Y (su (FM c n a))
 |0,_,_=>rfl|n+1,a,h=>by
  have k:=h a (w_ _) U (λj e g=>U);rw[GF,k,FM];cases v:c a with
  |some r=>rfl|none=>
   simp [TM];refine aM c n (a+1) (λi e g q=>h i U U (λj t u=>?_))
   grind
variable{a b:Int}
theorem Bj{f:Int->Unit->Option (B0 Unit ρ)}(c:Int->Option ρ)(h:∀i,a<=i->i<b->(∀j,a<=j->j<i->c j=W)->f i ()=Y (TM (c i))):jj f a b ()=Y (su (fst c a b)):=by grind[jj,fst,aM]
variable{c:Int->Option ρ}
theorem UL:∀{n:Nat}{a:Int},FM c n a=W↔∀i,a<=i->i<a+n->c i=W
 |0,a=>by simp[FM];intro i g j;omega|n+1,a=>by
  rw [FM];constructor
  .intro h;cases e:c a with
   |some r=>rw[e]at h;cases h
   |none=>
    rw [e]at h;intro i g j;by_cases hi:i=a
    .subst hi;exact e
    .exact(UL.1 h) i U U
  .intro h;rw[h a (w_ _) U];exact UL.2 (λi g j=>h i U U)
theorem BH:fst c a b=W↔∀i,a<=i->i<b->c i=W:=by grind[fst,UL]
variable{d:Int->Option ρ}
theorem Wt:∀{n:Nat}{a:Int},(∀i,a<=i->i<a+n->(∀j,a<=j->j<i->c j=W)->c i=d i)->FM c n a=FM d n a
 |0,_,_=>rfl|n+1,a,h=>by
  have k:=h a (w_ _) U (λj e g=>U);rw[FM,FM,<-k];cases v:c a with
  |some r=>rfl|none=>
   refine Wt (λi e g q=>h i U U (λj t u=>?_))
   grind
theorem aQ(h:∀i,a<=i->i<b->(∀j,a<=j->j<i->c j=W)->c i=d i):fst c a b=fst d a b:=
 Wt (λi e k g=>h i e U g)
def l3(p:Int->Bool)(a b:Int):Bool:=(fst (λi=>if p i then Y ()else W) a b).isSome
variable{p:Int->Bool}
theorem Cu:l3 p a b=true↔∃i,a<=i/\i<b/\p i=true:=by grind[l3,Option.isSome_iff_ne_none,BH]
theorem By:l3 p a b=false↔∀i,a<=i->i<b->p i=false:=by
 rw [<-Bool.not_eq_true,Cu]
 grind
theorem Ou{v:ρ}:fst (λi=>if p i then Y v else W) a b=if l3 p a b then Y v else W:=by
 by_cases h:l3 p a b=true
 .rw[ac h];have e:fst (λi=>if p i then Y v else W) a b≠W:=by
   grind [BH,Cu]
  unfold fst at e|-;revert e;generalize (b-a).toNat=n;intro e;clear h
  induction n generalizing a with
  |zero=>exact(e rfl).elim|succ n g=>
   grind [FM]
 .rw[ae h];rw[Bool.not_eq_true,By]at h
  grind [BH]
theorem Bf{f:Int->Unit->Option (B0 Unit ρ)}(p:Int->Bool)(v:ρ)(h:∀i,a<=i->i<b->(∀j,a<=j->j<i->p j=false)->f i ()=Y (if p i=true then .ret v else .next ())):jj f a b ()=Y (if l3 p a b=true then .inr v else .inl ()):=by
 rw [Bj (λi=>if p i then Y v else W),Ou]
 .cases l3 p a b<;>rfl
 .intro i e g r;rw[h i e g (λj k q=>by
   grind)]
  cases p i<;>rfl
theorem T7{p q:Int->Bool}(h:∀i,a<=i->i<b->p i=q i):l3 p a b=l3 q a b:=by grind[l3,aQ]
theorem YJ{f:Int->σ->Option σ}(I:Int->σ->Prop):∀(n:Nat)(a:Int)(s:σ),I a s->(∀i s,a<=i->i<a+n->I i s->∃s',f i s=Y s'/\I (i+1) s')->∃s',Aar f n a s=Y s'/\I (a+n) s'
 |0,a,s,h,_=>⟨s,rfl,b?⟩|n+1,a,s,h,e=>by
  obtain ⟨s',r,g⟩:=e a s (w_ _) U h;obtain⟨j,t,u⟩:=YJ I n (a+1) s' g (λi s k q=>e i s U U)
  grind [Aar]
theorem QG{f:Int->σ->Option σ}(I:Int->σ->Prop)(e:a<=b)(g:I a s)(h:∀i s,a<=i->i<b->I i s->∃s',f i s=Y s'/\I (i+1) s'):∃s',n8 f a b s=Y s'/\I b s':=by
 obtain ⟨s',k,q⟩:=YJ I (b-a).toNat a s g (λi s j r=>h i s j U);exact⟨s',k,by rwa[show a+((b-a).toNat:Int)=b by omega]at q⟩
theorem CC{f:Int->σ->Option σ}(g:Int->σ)(e:a<=b)(j:g a=s)(h:∀i,a<=i->i<b->f i (g i)=Y (g (i+1))):n8 f a b s=Y (g b):=by
 obtain ⟨s',t,rfl⟩:=QG (λi s=>s=g i) e j.symm (λi s k q r=>⟨g (i+1),by rw[r];exact h i k q,rfl⟩);exact t
theorem nF(h:b<=a):fst c a b=W:=by
 unfold fst;rw[show(b-a).toNat=0 by omega];rfl
theorem aN(I:Int->σ->Prop)(B:σ->Prop)(R:ρ->Prop):∀(n:Nat)(a:Int)(s:σ),I a s ->
  (∀i s,a<=i->i<a+n->I i s->(∃s',f i s=Y (.next s')/\I (i+1) s')\/(∃s',f i s=Y (.brk s')/\B s')\/∃r,f i s=Y (.ret r)/\R r) ->
  (∃s',z1 f n a s=Y (.inl s')/\(I (a+n) s'\/B s'))\/∃r,z1 f n a s=Y (.inr r)/\R r
 |0,a,s,h,_=>.inl ⟨s,rfl,.inl b?⟩|n+1,a,s,h,j=>by
  rw [GF];rcases j a s (w_ _) U h with⟨s',e,g⟩|⟨s',e,g⟩|⟨r,e,g⟩
  .rw[e];have:=aN I B R n (a+1) s' g (λi s k q=>j i s U U)
   grind
  .grind
  grind
theorem XR(I:Int->σ->Prop)(B:σ->Prop)(R:ρ->Prop)(e:a<=b)(g:I a s)
  (h:∀i s,a<=i->i<b->I i s->(∃s',f i s=Y (.next s')/\I (i+1) s')\/(∃s',f i s=Y (.brk s')/\B s')\/∃r,f i s=Y (.ret r)/\R r):
  (∃s',jj f a b s=Y (.inl s')/\(I b s'\/B s'))\/∃r,jj f a b s=Y (.inr r)/\R r:=by
 have:=aN I B R (b-a).toNat a s g (λi s j k=>h i s j U)
 rwa [show a+((b-a).toNat:Int)=b by omega]at this
end loops
section lists
variable{α:Type}
def AA[Inhabited α](l:List α)(i:Int):α:=l.getD i.toNat default
variable{l:List α}{i:Int}
theorem AD[Inhabited α](e:0<=i)(g:i<l.length):idx l i=Y (AA l i):=by
 unfold idx AA
 grind
variable{x:α}
theorem eM(h:idx l i=Y x):0<=i/\i<l.length/\l[i.toNat]?=Y x:=by
 unfold idx at h
 grind
theorem AF[Inhabited α](e:0<=i)(g:i<l.length):AA l i∈l:=by
 have h:=AD e g;exact List.mem_of_getElem? (eM h).2.2
theorem BT[Inhabited α](h:x∈l):∃i:Int,0<=i/\i<l.length/\AA l i=x:=by
 obtain ⟨n,e⟩:=List.getElem?_of_mem h;have g:=(List.getElem?_eq_some_iff.1 e).1;refine⟨n,U,U,?_⟩;unfold AA
 grind
theorem JO[Inhabited α]{p:α->Bool}:l.any p=l3 (λi=>p (AA l i)) 0 l.length:=by
 rw [Bool.eq_iff_iff,List.any_eq_true,Cu]
 grind [BT,AF]
variable{b:Int}
theorem Iv(e:0<=b)(g:b<=l.length):slc l 0 b=Y (l.take b.toNat):=by
 unfold slc
 grind
variable{n:Nat}
theorem x8[Inhabited α](h:i.toNat<n):AA (l.take n) i=AA l i:=by
 unfold AA
 grind
theorem SG[Inhabited α]{p:α->Bool}(e:0<=b)(g:b<=l.length):(l.take b.toNat).any p=l3 (λi=>p (AA l i)) 0 b:=by grind[JO,bk,T7,x8]
variable{m:List α}
theorem AS(h:l.length+m.length<=AX):AY l m=Y (l++m):=by grind[AY]
theorem dX[Inhabited α](h:l.length=m.length)(e:∀i:Int,0<=i->i<l.length->AA l i=AA m i):l=m:=by
 refine List.ext_getElem h (λn g j=>?_);have:=e n U U;unfold AA at this
 grind
theorem On[Inhabited α]:AA (l++m) i=if i.toNat<l.length then AA l i else m.getD (i.toNat-l.length) default:=by
 unfold AA
 grind
variable{β:Type}
theorem Gg[Inhabited α][Inhabited β]{g:α->β}(e:0<=i)(h:i<l.length):AA (l.map g) i=g (AA l i):=by grind[AD,eM,AA]
end lists
section wh
variable{σ ρ:Type}
inductive MU(f:σ->Option (B0 σ ρ)):σ->σ ⊕ ρ->Prop where
 |next {s s':σ} {o:σ ⊕ ρ} (h:f s=Y (.next s')) (k:MU f s' o):MU f s o
 |brk {s s':σ} (h:f s=Y (.brk s')):MU f s (.inl s')
 |ret {s:σ} {r:ρ} (h:f s=Y (.ret r)):MU f s (.inr r)
variable{s:σ}{o:σ ⊕ ρ}
theorem MU.go{f:σ->Option (B0 σ ρ)}(h:MU f s o):∃N,∀n,N<=n->TZ f n s=Y o:=by
 induction h with
 |next h k j=>
  obtain ⟨N,g⟩:=j;refine⟨N+1,λn e=>?_⟩;cases n with
  |zero=>omega|succ n=>rw[TZ,h];exact g n U
 |brk h=>
  refine ⟨1,λn e=>?_⟩;cases n with
  |zero=>omega|succ n=>rw[TZ,h]
 |ret h=>
  refine ⟨1,λn e=>?_⟩;cases n with
  |zero=>omega|succ n=>rw[TZ,h]
theorem MU.eq{f:σ->Option (B0 σ ρ)}(h:MU f s o):C3 f s=Y o:=by
 obtain ⟨N,e⟩:=h.go;exact D0 N e
def Dv(i:Int)(c:Option (Int ⊕ ρ)):B0 Int ρ:=match c with
 |none=>.next (i+1)|some (.inl x)=>.brk x|some (.inr r)=>.ret r
theorem gf{f:Int->Option (B0 Int ρ)}(c:Int->Option (Int ⊕ ρ)):∀(n:Nat)(a:Int),(∀i,a<=i->i<a+n->(∀j,a<=j->j<i->c j=W)->f i=Y (Dv i (c i)))->f (a+n)=Y (.brk (a+n))->MU f a ((FM c n a).getD (.inl (a+n)))
 |0,a,_,hb=>by
  simp [FM];exact .brk (by simpa using hb)
 |n+1,a,h,hb=>by
  have e:=h a (w_ _) U (λj k q=>U);rw[FM];cases g:c a with
  |some r=>
   rw [g]at e;cases r with
   |inl x=>exact .brk e|inr r=>exact .ret e
  |none=>
   rw [g]at e;rw[show a+((n+1:Nat):Int)=a+1+n by omega]at hb|-;refine .next e (gf c n (a+1) (λi k q t=>h i U U (λj u v=>?_)) hb)
   grind
variable{a b:Int}
theorem O5{f:Int->Option (B0 Int ρ)}(c:Int->Option (Int ⊕ ρ))(g:a<=b)(h:∀i,a<=i->i<b->(∀j,a<=j->j<i->c j=W)->f i=Y (Dv i (c i)))(hb:f b=Y (.brk b)):C3 f a=Y ((fst c a b).getD (.inl b)):=by
 have e:a+((b-a).toNat:Int)=b:=U
 have:=gf c (b-a).toNat a (λi k r q=>h i k U q) (by rw[e];exact hb);rw[e]at this;exact this.eq
end wh
section bytes
instance:LawfulBEq ByteArray where
 eq_of_beq {a b} h:=by
  cases a;cases b;exact congrArg ByteArray.mk (eq_of_beq (show((_:Array UInt8)==_)=true from h))
 rfl {a}:=show(a.data==a.data)=true from beq_self_eq_true _
def bt(s:ByteArray)(i:Int):Int:=((s.data.toList.getD i.toNat 0).toNat:Int)
variable{i:Int}
theorem R8{s:ByteArray}(g:0<=i)(h:i<s.size):AaB s i=Y (bt s i):=by
 have e:i.toNat<s.data.size:=by
  have:s.size=s.data.size:=rfl;omega
 unfold AaB bt;rw[ac g,getElem?_pos s i.toNat e];simp[List.getD_eq_getElem?_getD,Array.getElem?_toList,Array.getElem?_eq_getElem e];rfl
variable{a b:Int}
theorem Jo{s:ByteArray}(e:0<=a)(g:a<=b)(h:b<=s.size):Aam s a b=Y (s.extract a.toNat b.toNat):=by grind[Aam]
theorem cX{s:ByteArray}(e:0<=a)(g:a<=b)(h:b<=s.size):((s.extract a.toNat b.toNat).size:Int)=b-a:=by grind[ByteArray.size_extract]
end bytes
end Go.Sf
namespace Go.Sf
def Le{α:Type}(a b:Option α):Prop:=∀r,a=Y r->b=Y r
theorem Le.refl{α:Type}(a:Option α):Le a a:=λ_ h=>h
theorem Le.none{α:Type}(b:Option α):Le Option.none b:=λ_ h=>d_
theorem Le.bind{α β:Type}{a b:Option α}{f g:α->Option β}(h:Le a b)(k:∀x,Le (f x) (g x)):Le (a.bind f) (b.bind g):=by
 intro r hr;obtain⟨x,e,j⟩:=Option.bind_eq_some_iff.1 hr;rw[h x e,Option.bind_some];exact k x r j
theorem Le.ite{α:Type}{c:Prop}[Decidable c]{a b a' e:Option α}(h:Le a b)(k:Le a' e):Le (if c then a else a') (if c then b else e):=m?
theorem Le.Aar{σ:Type}{f g:Int->σ->Option σ}(h:∀i s,Le (f i s) (g i s)):∀(n:Nat)(i:Int)(s:σ),Le (Aar f n i s) (Aar g n i s)
 |0,_,_=>Le.refl _|n+1,i,s=>by
  intro r hr;unfold Go.Sf.Aar at hr|-;cases hf:f i s with
  |none=>rw[hf]at hr;cases hr
  |some s'=>
   rw [hf]at hr;rw[h i s s' hf];exact Le.Aar h n (i+1) s' r hr
variable{a b:Int}
theorem Le.n8{σ:Type}{f g:Int->σ->Option σ}{s:σ}(h:∀i s,Le (f i s) (g i s)):Le (n8 f a b s) (n8 g a b s):=Le.Aar h _ _ _
theorem Le.z1{σ ρ:Type}{f g:Int->σ->Option (B0 σ ρ)}(h:∀i s,Le (f i s) (g i s)):∀(n:Nat)(i:Int)(s:σ),Le (z1 f n i s) (z1 g n i s)
 |0,_,_=>Le.refl _|n+1,i,s=>by
  intro r hr;unfold Go.Sf.z1 at hr|-;cases hf:f i s with
  |none=>rw[hf]at hr;cases hr
  |some c=>
   rw [hf]at hr;rw[h i s c hf];cases c with
   |next s'=>exact Le.z1 h n (i+1) s' r hr|brk s'=>exact hr|ret v=>exact hr
theorem Le.jj{σ ρ:Type}{f g:Int->σ->Option (B0 σ ρ)}{s:σ}(h:∀i s,Le (f i s) (g i s)):Le (jj f a b s) (jj g a b s):=Le.z1 h _ _ _
theorem Le.em{σ ρ β:Type}{o p:Option (σ ⊕ ρ)}{k e:σ->Option β}{l g:ρ->Option β}(h:Le o p)(j:∀s,Le (k s) (e s))(q:∀v,Le (l v) (g v)):Le (em o k l) (em p e g):=by
 intro r hr;cases o with
 |none=>cases hr
 |some x=>
  rw [h x rfl];cases x with
  |inl s=>exact j s r hr|inr v=>exact q v r hr
theorem Y7{σ ρ:Type}{f g:σ->Option (B0 σ ρ)}(h:∀s,Le (f s) (g s)):∀(n:Nat)(s:σ)(o:σ ⊕ ρ),TZ f n s=Y o->MU g s o
 |0,_,_,hr=>by cases hr
 |n+1,s,o,hr=>by
  unfold TZ at hr;cases hf:f s with
  |none=>rw[hf]at hr;cases hr
  |some c=>
   rw [hf]at hr;have e:=h s c hf;cases c with
   |next s'=>exact .next e (Y7 h n s' o hr)|brk s'=>cases hr;exact .brk e
   |ret v=>cases hr;exact .ret e
abbrev eN(N:Nat):Ev:=⟨Y N⟩
theorem LW{σ ρ:Type}{f g:σ->Option (B0 σ ρ)}{N:Nat}{s:σ}(h:∀s,Le (f s) (g s)):Le (@C3 (eN N) _ _ f s) (@C3 E6 _ _ g s):=λ_ hr=>(Y7 h N s _ hr).eq
theorem LL{α:Type}{a:Option α}{g:Nat->Option α}(N:Nat)(h:∀n,N<=n->Le a (g n)):Le a (@KZ E6 _ g):=λr hr=>D0 N λn e=>h n e r hr
class Ux(α:Type)where
 le:α->α->Prop
instance{β:Type}:Ux (Option β):=⟨Le⟩
instance{α β:Type}[Ux β]:Ux (α->β):=⟨λf g=>∀x,Ux.le (f x) (g x)⟩
class Mo{α:Type}[Ux α](a b:α):Prop where
 le:Ux.le a b
class MF{α:Type}[Ux α](f:Ev->α):Prop where
 le:∀N,Ux.le (f (eN N)) (f E6)
instance{α:Type}(a:Option α):Mo a a:=⟨Le.refl a⟩
instance{α β:Type}[Ux β]{F G:α->β}[h:Mo F G](x:α):Mo (F x) (G x):=⟨h.le x⟩
instance{α:Type}[Ux α]{f:Ev->α}[MF f]{N:Nat}:Mo (f (eN N)) (f E6):=⟨MF.le N⟩
variable{β:Type}
theorem LO{a b:Option β}(h:Ux.le a b):Le a b:=h
theorem Le.AaH{α:Type}{f g:α->K1}(h:∀p,Le (f p) (g p)):∀(l:List α),Le (Go.Sf.AaH f l) (Go.Sf.AaH g l)
 |[]=>Le.refl _|p::r=>(h p).bind λ_=>(Le.AaH h r).bind λ_=>Le.refl _
theorem lx{P:Prop}(p:P:=by
 with_reducible repeat' first|exact Le.refl _|refine Le.bind ?_ λ_=>?_|refine Le.ite ?_ ?_|refine Le.em ?_ (λ_=>?_) λ_=>?_|refine Le.n8 λ_ _=>?_|refine Le.jj λ_ _=>?_|refine LW λ_=>?_|refine Le.AaH (λ_=>?_) _|exact LO Mo.le):P:=p
theorem ly{a b:Option β}(p:Le a b):Ux.le a b:=p
end Go.Sf
