/- Plain lemmas about the loops and lists of typed functions. No program, no memory. -/
import Derived.Test.YtfcfkigfmofniaaGreatSfF
set_option linter.all false
open Option renaming some->Y,none->W
open Int renaming le_refl->u!
namespace Go.Sf
theorem bs{α β:Type}(a:α)(f:α->Option β):(Y a).bind f=f a:=rfl
section loops
variable{σ ρ:Type}
variable{f:Int->σ->Option (Be σ ρ)}{n:Nat}{i:Int}{s:σ}
theorem EW:yf f (n+1) i s=(match f i s with
  |none=>W|some (.next s')=>yf f n (i+1) s'|some (.brk s')=>Y (.inl s')|some (.ret r)=>Y (.inr r)):=rfl
def Ew(c:Int->Option ρ):Nat->Int->Option ρ
 |0,_=>W|n+1,i=>match c i with
  |some r=>Y r|none=>Ew c n (i+1)
def fst(c:Int->Option ρ)(a b:Int):Option ρ:=Ew c (b-a).toNat a
def nT(o:Option ρ):Unit ⊕ ρ:=match o with
 |none=>.inl ()|some r=>.inr r
def Qd(o:Option ρ):Be Unit ρ:=match o with
 |none=>.next ()|some r=>.ret r
theorem YM{f:Int->Unit->Option (Be Unit ρ)}(c:Int->Option ρ):∀(n:Nat)(a:Int),
  (∀i,a<=i->i<a+n->(∀j,a<=j->j<i->c j=W)->f i ()=Y (Qd (c i)))->yf f n a ()=Y (nT (Ew c n a))
 |0,_,_=>rfl|n+1,a,h=>by
  have k:=h a (u! _) U (λj e g=>U);rw[EW,k,Ew];cases v:c a with
  |some r=>rfl|none=>
   simp [Qd];refine YM c n (a+1) (λi e g q=>h i U U (λj t u=>?_))
   grind
variable{a b:Int}
theorem BF{f:Int->Unit->Option (Be Unit ρ)}(c:Int->Option ρ)(h:∀i,a<=i->i<b->(∀j,a<=j->j<i->c j=W)->f i ()=Y (Qd (c i))):kl f a b ()=Y (nT (fst c a b)):=by grind[kl,fst,YM]
variable{c:Int->Option ρ}
theorem ST:∀{n:Nat}{a:Int},Ew c n a=W↔∀i,a<=i->i<a+n->c i=W
 |0,a=>by simp[Ew];intro i g j;omega|n+1,a=>by
  rw [Ew];constructor
  .intro h;cases e:c a with
   |some r=>rw[e]at h;cases h
   |none=>
    rw [e]at h;intro i g j;by_cases hi:i=a
    .subst hi;exact e
    .exact(ST.1 h) i U U
  .intro h;rw[h a (u! _) U];exact ST.2 (λi g j=>h i U U)
theorem Az:fst c a b=W↔∀i,a<=i->i<b->c i=W:=by grind[fst,ST]
variable{d:Int->Option ρ}
theorem VM:∀{n:Nat}{a:Int},(∀i,a<=i->i<a+n->(∀j,a<=j->j<i->c j=W)->c i=d i)->Ew c n a=Ew d n a
 |0,_,_=>rfl|n+1,a,h=>by
  have k:=h a (u! _) U (λj e g=>U);rw[Ew,Ew,<-k];cases v:c a with
  |some r=>rfl|none=>
   refine VM (λi e g q=>h i U U (λj t u=>?_))
   grind
theorem iH(h:∀i,a<=i->i<b->(∀j,a<=j->j<i->c j=W)->c i=d i):fst c a b=fst d a b:=
 VM (λi e k g=>h i e U g)
def nd(p:Int->Bool)(a b:Int):Bool:=(fst (λi=>if p i then Y ()else W) a b).isSome
variable{p:Int->Bool}
theorem CN:nd p a b=true↔∃i,a<=i/\i<b/\p i=true:=by grind[nd,Option.isSome_iff_ne_none,Az]
theorem Br:nd p a b=false↔∀i,a<=i->i<b->p i=false:=by
 rw [<-Bool.not_eq_true,CN]
 grind
theorem M9{v:ρ}:fst (λi=>if p i then Y v else W) a b=if nd p a b then Y v else W:=by
 by_cases h:nd p a b=true
 .rw[ae h];have e:fst (λi=>if p i then Y v else W) a b≠W:=by
   grind [Az,CN]
  unfold fst at e|-;revert e;generalize (b-a).toNat=n;intro e;clear h
  induction n generalizing a with
  |zero=>exact(e rfl).elim|succ n g=>
   grind [Ew]
 .rw[az h];rw[Bool.not_eq_true,Br]at h
  grind [Az]
theorem BT{f:Int->Unit->Option (Be Unit ρ)}(p:Int->Bool)(v:ρ)(h:∀i,a<=i->i<b->(∀j,a<=j->j<i->p j=false)->f i ()=Y (if p i=true then .ret v else .next ())):kl f a b ()=Y (if nd p a b=true then .inr v else .inl ()):=by
 rw [BF (λi=>if p i then Y v else W),M9]
 .cases nd p a b<;>rfl
 .intro i e g r;rw[h i e g (λj k q=>by
   grind)]
  cases p i<;>rfl
theorem WI{p q:Int->Bool}(h:∀i,a<=i->i<b->p i=q i):nd p a b=nd q a b:=by grind[nd,iH]
theorem WX{f:Int->σ->Option σ}(I:Int->σ->Prop):∀(n:Nat)(a:Int)(s:σ),I a s->(∀i s,a<=i->i<a+n->I i s->∃s',f i s=Y s'/\I (i+1) s')->∃s',y7 f n a s=Y s'/\I (a+n) s'
 |0,a,s,h,_=>⟨s,rfl,c_⟩|n+1,a,s,h,e=>by
  obtain ⟨s',r,g⟩:=e a s (u! _) U h;obtain⟨j,t,u⟩:=WX I n (a+1) s' g (λi s k q=>e i s U U)
  grind [y7]
theorem Mw{f:Int->σ->Option σ}(I:Int->σ->Prop)(e:a<=b)(g:I a s)(h:∀i s,a<=i->i<b->I i s->∃s',f i s=Y s'/\I (i+1) s'):∃s',ns f a b s=Y s'/\I b s':=by
 obtain ⟨s',k,q⟩:=WX I (b-a).toNat a s g (λi s j r=>h i s j U);exact⟨s',k,by rwa[show a+((b-a).toNat:Int)=b by omega]at q⟩
theorem BY{f:Int->σ->Option σ}(g:Int->σ)(e:a<=b)(j:g a=s)(h:∀i,a<=i->i<b->f i (g i)=Y (g (i+1))):ns f a b s=Y (g b):=by
 obtain ⟨s',t,rfl⟩:=Mw (λi s=>s=g i) e j.symm (λi s k q r=>⟨g (i+1),by rw[r];exact h i k q,rfl⟩);exact t
theorem iI(h:b<=a):fst c a b=W:=by
 unfold fst;rw[show(b-a).toNat=0 by omega];rfl
theorem YN(I:Int->σ->Prop)(B:σ->Prop)(R:ρ->Prop):∀(n:Nat)(a:Int)(s:σ),I a s ->
  (∀i s,a<=i->i<a+n->I i s->(∃s',f i s=Y (.next s')/\I (i+1) s')\/(∃s',f i s=Y (.brk s')/\B s')\/∃r,f i s=Y (.ret r)/\R r) ->
  (∃s',yf f n a s=Y (.inl s')/\(I (a+n) s'\/B s'))\/∃r,yf f n a s=Y (.inr r)/\R r
 |0,a,s,h,_=>.inl ⟨s,rfl,.inl c_⟩|n+1,a,s,h,j=>by
  rw [EW];rcases j a s (u! _) U h with⟨s',e,g⟩|⟨s',e,g⟩|⟨r,e,g⟩
  .rw[e];have:=YN I B R n (a+1) s' g (λi s k q=>j i s U U)
   grind
  .grind
  grind
theorem Qk(I:Int->σ->Prop)(B:σ->Prop)(R:ρ->Prop)(e:a<=b)(g:I a s)
  (h:∀i s,a<=i->i<b->I i s->(∃s',f i s=Y (.next s')/\I (i+1) s')\/(∃s',f i s=Y (.brk s')/\B s')\/∃r,f i s=Y (.ret r)/\R r):
  (∃s',kl f a b s=Y (.inl s')/\(I b s'\/B s'))\/∃r,kl f a b s=Y (.inr r)/\R r:=by
 have:=YN I B R (b-a).toNat a s g (λi s j k=>h i s j U)
 rwa [show a+((b-a).toNat:Int)=b by omega]at this
end loops
section lists
variable{α:Type}
def AA[Inhabited α](l:List α)(i:Int):α:=l.getD i.toNat default
variable{l:List α}{i:Int}
theorem AC[Inhabited α](e:0<=i)(g:i<l.length):idx l i=Y (AA l i):=by
 unfold idx AA
 grind
variable{x:α}
theorem aN(h:idx l i=Y x):0<=i/\i<l.length/\l[i.toNat]?=Y x:=by
 unfold idx at h
 grind
theorem AF[Inhabited α](e:0<=i)(g:i<l.length):AA l i∈l:=by
 have h:=AC e g;exact List.mem_of_getElem? (aN h).2.2
theorem BR[Inhabited α](h:x∈l):∃i:Int,0<=i/\i<l.length/\AA l i=x:=by
 obtain ⟨n,e⟩:=List.getElem?_of_mem h;have g:=(List.getElem?_eq_some_iff.1 e).1;refine⟨n,U,U,?_⟩;unfold AA
 grind
theorem H8[Inhabited α]{p:α->Bool}:l.any p=nd (λi=>p (AA l i)) 0 l.length:=by
 rw [Bool.eq_iff_iff,List.any_eq_true,CN]
 grind [BR,AF]
variable{b:Int}
theorem DV(e:0<=b)(g:b<=l.length):zq l 0 b=Y (l.take b.toNat):=by
 unfold zq
 grind
variable{n:Nat}
theorem KI[Inhabited α](h:i.toNat<n):AA (l.take n) i=AA l i:=by
 unfold AA
 grind
theorem Qe[Inhabited α]{p:α->Bool}(e:0<=b)(g:b<=l.length):(l.take b.toNat).any p=nd (λi=>p (AA l i)) 0 b:=by grind[H8,cE,WI,KI]
variable{m:List α}
theorem AQ(h:l.length+m.length<=AU):AT l m=Y (l++m):=by grind[AT]
theorem gm[Inhabited α](h:l.length=m.length)(e:∀i:Int,0<=i->i<l.length->AA l i=AA m i):l=m:=by
 refine List.ext_getElem h (λn g j=>?_);have:=e n U U;unfold AA at this
 grind
theorem M5[Inhabited α]:AA (l++m) i=if i.toNat<l.length then AA l i else m.getD (i.toNat-l.length) default:=by
 unfold AA
 grind
variable{β:Type}
theorem PO[Inhabited α][Inhabited β]{g:α->β}(e:0<=i)(h:i<l.length):AA (l.map g) i=g (AA l i):=by grind[AC,aN,AA]
end lists
section wh
variable{σ ρ:Type}
inductive Ks(f:σ->Option (Be σ ρ)):σ->σ ⊕ ρ->Prop where
 |next {s s':σ} {o:σ ⊕ ρ} (h:f s=Y (.next s')) (k:Ks f s' o):Ks f s o
 |brk {s s':σ} (h:f s=Y (.brk s')):Ks f s (.inl s')
 |ret {s:σ} {r:ρ} (h:f s=Y (.ret r)):Ks f s (.inr r)
variable{s:σ}{o:σ ⊕ ρ}
theorem Ks.go{f:σ->Option (Be σ ρ)}(h:Ks f s o):∃N,∀n,N<=n->Ri f n s=Y o:=by
 induction h with
 |next h k j=>
  obtain ⟨N,g⟩:=j;refine⟨N+1,λn e=>?_⟩;cases n with
  |zero=>omega|succ n=>rw[Ri,h];exact g n U
 |brk h=>
  refine ⟨1,λn e=>?_⟩;cases n with
  |zero=>omega|succ n=>rw[Ri,h]
 |ret h=>
  refine ⟨1,λn e=>?_⟩;cases n with
  |zero=>omega|succ n=>rw[Ri,h]
theorem Ks.eq{f:σ->Option (Be σ ρ)}(h:Ks f s o):CY f s=Y o:=by
 obtain ⟨N,e⟩:=h.go;exact D3 N e
def EN(i:Int)(c:Option (Int ⊕ ρ)):Be Int ρ:=match c with
 |none=>.next (i+1)|some (.inl x)=>.brk x|some (.inr r)=>.ret r
theorem bu{f:Int->Option (Be Int ρ)}(c:Int->Option (Int ⊕ ρ)):∀(n:Nat)(a:Int),(∀i,a<=i->i<a+n->(∀j,a<=j->j<i->c j=W)->f i=Y (EN i (c i)))->f (a+n)=Y (.brk (a+n))->Ks f a ((Ew c n a).getD (.inl (a+n)))
 |0,a,_,g=>by
  simp [Ew];exact .brk t!
 |n+1,a,h,g=>by
  have e:=h a (u! _) U (λj q t=>U);rw[Ew];cases k:c a with
  |some r=>
   rw [k]at e;cases r with
   |inl x=>exact .brk e|inr r=>exact .ret e
  |none=>
   rw [k]at e;rw[show a+((n+1:Nat):Int)=a+1+n by omega]at g|-;refine .next e (bu c n (a+1) (λi q t u=>h i U U (λj v w=>?_)) g)
   grind
variable{a b:Int}
theorem NN{f:Int->Option (Be Int ρ)}(c:Int->Option (Int ⊕ ρ))(g:a<=b)(h:∀i,a<=i->i<b->(∀j,a<=j->j<i->c j=W)->f i=Y (EN i (c i)))(k:f b=Y (.brk b)):CY f a=Y ((fst c a b).getD (.inl b)):=by
 have e:a+((b-a).toNat:Int)=b:=U
 have:=bu c (b-a).toNat a (λi q t r=>h i q U r) (by rw[e];exact k);rw[e]at this;exact this.eq
end wh
section bytes
instance:LawfulBEq ByteArray where
 eq_of_beq {a b} h:=by
  cases a;cases b;exact congrArg ByteArray.mk (eq_of_beq (show((_:Array UInt8)==_)=true from h))
 rfl {a}:=show(a.data==a.data)=true from beq_self_eq_true _
def bt(s:ByteArray)(i:Int):Int:=((s.data.toList.getD i.toNat 0).toNat:Int)
variable{i:Int}
theorem QX{s:ByteArray}(g:0<=i)(h:i<s.size):zr s i=Y (bt s i):=by
 have e:i.toNat<s.data.size:=by
  have:s.size=s.data.size:=rfl;omega
 unfold zr bt;rw[ae g,getElem?_pos s i.toNat e];simp[List.getD_eq_getElem?_getD,Array.getElem?_toList,Array.getElem?_eq_getElem e];rfl
variable{a b:Int}
theorem IV{s:ByteArray}(e:0<=a)(g:a<=b)(h:b<=s.size):y6 s a b=Y (s.extract a.toNat b.toNat):=by grind[y6]
theorem ZL{s:ByteArray}(e:0<=a)(g:a<=b)(h:b<=s.size):((s.extract a.toNat b.toNat).size:Int)=b-a:=by grind[ByteArray.size_extract]
end bytes
end Go.Sf
namespace Go.Sf
def Le{α:Type}(a b:Option α):Prop:=∀r,a=Y r->b=Y r
theorem Le.refl{α:Type}(a:Option α):Le a a:=λ_ h=>h
theorem Le.none{α:Type}(b:Option α):Le Option.none b:=λ_ h=>c?
theorem Le.bind{α β:Type}{a b:Option α}{f g:α->Option β}(h:Le a b)(k:∀x,Le (f x) (g x)):Le (a.bind f) (b.bind g):=by
 intro r e;obtain⟨x,j,q⟩:=Option.bind_eq_some_iff.1 e;rw[h x j,Option.bind_some];exact k x r q
theorem Le.ite{α:Type}{c:Prop}[Decidable c]{a b a' e:Option α}(h:Le a b)(k:Le a' e):Le (if c then a else a') (if c then b else e):=l!
theorem Le.y7{σ:Type}{f g:Int->σ->Option σ}(h:∀i s,Le (f i s) (g i s)):∀(n:Nat)(i:Int)(s:σ),Le (y7 f n i s) (y7 g n i s)
 |0,_,_=>Le.refl _|n+1,i,s=>by
  intro r e;unfold Go.Sf.y7 at e|-;cases hf:f i s with
  |none=>rw[hf]at e;cases e
  |some s'=>
   rw [hf]at e;rw[h i s s' hf];exact Le.y7 h n (i+1) s' r e
variable{a b:Int}
theorem Le.ns{σ:Type}{f g:Int->σ->Option σ}{s:σ}(h:∀i s,Le (f i s) (g i s)):Le (ns f a b s) (ns g a b s):=Le.y7 h _ _ _
theorem Le.yf{σ ρ:Type}{f g:Int->σ->Option (Be σ ρ)}(h:∀i s,Le (f i s) (g i s)):∀(n:Nat)(i:Int)(s:σ),Le (yf f n i s) (yf g n i s)
 |0,_,_=>Le.refl _|n+1,i,s=>by
  intro r e;unfold Go.Sf.yf at e|-;cases hf:f i s with
  |none=>rw[hf]at e;cases e
  |some c=>
   rw [hf]at e;rw[h i s c hf];cases c with
   |next s'=>exact Le.yf h n (i+1) s' r e|brk s'=>exact e|ret v=>exact e
theorem Le.kl{σ ρ:Type}{f g:Int->σ->Option (Be σ ρ)}{s:σ}(h:∀i s,Le (f i s) (g i s)):Le (kl f a b s) (kl g a b s):=Le.yf h _ _ _
theorem Le.ek{σ ρ β:Type}{o p:Option (σ ⊕ ρ)}{k g:σ->Option β}{l j:ρ->Option β}(h:Le o p)(q:∀s,Le (k s) (g s))(t:∀v,Le (l v) (j v)):Le (ek o k l) (ek p g j):=by
 intro r e;cases o with
 |none=>cases e
 |some x=>
  rw [h x rfl];cases x with
  |inl s=>exact q s r e|inr v=>exact t v r e
theorem XP{σ ρ:Type}{f g:σ->Option (Be σ ρ)}(h:∀s,Le (f s) (g s)):∀(n:Nat)(s:σ)(o:σ ⊕ ρ),Ri f n s=Y o->Ks g s o
 |0,_,_,e=>o_
 |n+1,s,o,e=>by
  unfold Ri at e;cases hf:f s with
  |none=>rw[hf]at e;cases e
  |some c=>
   rw [hf]at e;have j:=h s c hf;cases c with
   |next s'=>exact .next j (XP h n s' o e)|brk s'=>cases e;exact .brk j
   |ret v=>cases e;exact .ret j
abbrev eN(N:Nat):Ev:=⟨Y N⟩
theorem LW{σ ρ:Type}{f g:σ->Option (Be σ ρ)}{N:Nat}{s:σ}(h:∀s,Le (f s) (g s)):Le (@CY (eN N) _ _ f s) (@CY II _ _ g s):=λ_ e=>(XP h N s _ e).eq
theorem LL{α:Type}{a:Option α}{g:Nat->Option α}(N:Nat)(h:∀n,N<=n->Le a (g n)):Le a (@Kl II _ g):=λr e=>D3 N λn j=>h n j r e
class TA(α:Type)where
 le:α->α->Prop
instance{β:Type}:TA (Option β):=⟨Le⟩
instance{α β:Type}[TA β]:TA (α->β):=⟨λf g=>∀x,TA.le (f x) (g x)⟩
class Mo{α:Type}[TA α](a b:α):Prop where
 le:TA.le a b
class MF{α:Type}[TA α](f:Ev->α):Prop where
 le:∀N,TA.le (f (eN N)) (f II)
instance{α:Type}(a:Option α):Mo a a:=⟨Le.refl a⟩
instance{α β:Type}[TA β]{F G:α->β}[h:Mo F G](x:α):Mo (F x) (G x):=⟨h.le x⟩
instance{α:Type}[TA α]{f:Ev->α}[MF f]{N:Nat}:Mo (f (eN N)) (f II):=⟨MF.le N⟩
variable{β:Type}
theorem LO{a b:Option β}(h:TA.le a b):Le a b:=h
theorem Le.zB{α:Type}{f g:α->K1}(h:∀p,Le (f p) (g p)):∀(l:List α),Le (Go.Sf.zB f l) (Go.Sf.zB g l)
 |[]=>Le.refl _|p::r=>(h p).bind λ_=>(Le.zB h r).bind λ_=>Le.refl _
theorem lx{P:Prop}(p:P:=by
 with_reducible repeat' first|exact Le.refl _|refine Le.bind ?_ λ_=>?_|refine Le.ite ?_ ?_|refine Le.ek ?_ (λ_=>?_) λ_=>?_|refine Le.ns λ_ _=>?_|refine Le.kl λ_ _=>?_|refine LW λ_=>?_|refine Le.zB (λ_=>?_) _|exact LO Mo.le):P:=p
theorem ly{a b:Option β}(p:Le a b):TA.le a b:=p
end Go.Sf
