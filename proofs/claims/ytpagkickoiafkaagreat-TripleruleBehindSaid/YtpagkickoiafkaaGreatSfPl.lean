/- Plain lemmas about the loops and lists of typed functions. No program, no memory. -/
import Derived.Test.YtpagkickoiafkaaGreatSfStep
set_option linter.all false
open Option renaming some->Y,none->W
open Int renaming le_refl->v?
namespace Go.Sf
theorem bs{α β:Type}(a:α)(f:α->Option β):(Y a).bind f=f a:=rfl
section loops
variable{σ ρ:Type}
variable{n:Nat}{i:Int}{s:σ}
theorem Em{f:Int->σ->Option (B3 σ ρ)}:FR f (n+1) i s=(match f i s with
  |none=>W|some (.next s')=>FR f n (i+1) s'|some (.brk s')=>Y (.inl s')|some (.ret r)=>Y (.inr r)):=rfl
def FG(c:Int->Option ρ):Nat->Int->Option ρ
 |0,_=>W|n+1,i=>match c i with
  |some r=>Y r|none=>FG c n (i+1)
def fst(c:Int->Option ρ)(a b:Int):Option ρ:=FG c (b-a).toNat a
def ql(o:Option ρ):Unit ⊕ ρ:=match o with
 |none=>.inl ()|some r=>.inr r
def SB(o:Option ρ):B3 Unit ρ:=match o with
 |none=>.next ()|some r=>.ret r
theorem ZW{f:Int->Unit->Option (B3 Unit ρ)}(c:Int->Option ρ):∀(n:Nat)(a:Int),
  (∀i,a<=i->i<a+n->(∀j,a<=j->j<i->c j=W)->f i ()=Y (SB (c i)))->FR f n a ()=Y (ql (FG c n a))
 |0,_,_=>rfl|n+1,a,h=>by
  have k:=h a (v? _) U (λj e g=>U);rw[Em,k,FG];cases v:c a with
  |some r=>rfl|none=>
   simp [SB];refine ZW c n (a+1) (λi e g q=>h i U U (λj t u=>?_))
   grind
variable{a b:Int}
theorem Bk{f:Int->Unit->Option (B3 Unit ρ)}(c:Int->Option ρ)(h:∀i,a<=i->i<b->(∀j,a<=j->j<i->c j=W)->f i ()=Y (SB (c i))):Aj f a b ()=Y (ql (fst c a b)):=by grind[Aj,fst,ZW]
variable{c:Int->Option ρ}
theorem TM:∀{n:Nat}{a:Int},FG c n a=W↔∀i,a<=i->i<a+n->c i=W
 |0,a=>by simp[FG];intro i g j;omega|n+1,a=>by
  rw [FG];constructor
  .intro h;cases e:c a with
   |some r=>rw[e]at h;cases h
   |none=>
    rw [e]at h;intro i g j;by_cases hi:i=a
    .subst hi;exact e
    .exact(TM.1 h) i U U
  .intro h;rw[h a (v? _) U];exact TM.2 (λi g j=>h i U U)
theorem BQ:fst c a b=W↔∀i,a<=i->i<b->c i=W:=by grind[fst,TM]
variable{d:Int->Option ρ}
theorem V9:∀{n:Nat}{a:Int},(∀i,a<=i->i<a+n->(∀j,a<=j->j<i->c j=W)->c i=d i)->FG c n a=FG d n a
 |0,_,_=>rfl|n+1,a,h=>by
  have k:=h a (v? _) U (λj e g=>U);rw[FG,FG,<-k];cases v:c a with
  |some r=>rfl|none=>
   refine V9 (λi e g q=>h i U U (λj t u=>?_))
   grind
theorem ku(h:∀i,a<=i->i<b->(∀j,a<=j->j<i->c j=W)->c i=d i):fst c a b=fst d a b:=
 V9 (λi e k g=>h i e U g)
def gp(p:Int->Bool)(a b:Int):Bool:=(fst (λi=>if p i then Y ()else W) a b).isSome
variable{p:Int->Bool}
theorem C3:gp p a b=true↔∃i,a<=i/\i<b/\p i=true:=by grind[gp,Option.isSome_iff_ne_none,BQ]
theorem BY:gp p a b=false↔∀i,a<=i->i<b->p i=false:=by
 rw [<-Bool.not_eq_true,C3]
 grind
theorem NC{v:ρ}:fst (λi=>if p i then Y v else W) a b=if gp p a b then Y v else W:=by
 by_cases h:gp p a b=true
 .rw[QQ h];have e:fst (λi=>if p i then Y v else W) a b≠W:=by
   grind [BQ,C3]
  unfold fst at e|-;revert e;generalize (b-a).toNat=n;intro e;clear h
  induction n generalizing a with
  |zero=>exact(e rfl).elim|succ n g=>
   grind [FG]
 .rw[aE h];rw[Bool.not_eq_true,BY]at h
  grind [BQ]
theorem BT{f:Int->Unit->Option (B3 Unit ρ)}(p:Int->Bool)(v:ρ)(h:∀i,a<=i->i<b->(∀j,a<=j->j<i->p j=false)->f i ()=Y (if p i=true then .ret v else .next ())):Aj f a b ()=Y (if gp p a b=true then .inr v else .inl ()):=by
 rw [Bk (λi=>if p i then Y v else W),NC]
 .cases gp p a b<;>rfl
 .intro i e g r;rw[h i e g (λj k q=>by
   grind)]
  cases p i<;>rfl
theorem XC{p q:Int->Bool}(h:∀i,a<=i->i<b->p i=q i):gp p a b=gp q a b:=by grind[gp,ku]
variable{f:Int->σ->Option σ}
theorem XU(I:Int->σ->Prop):∀(n:Nat)(a:Int)(s:σ),I a s->(∀i s,a<=i->i<a+n->I i s->∃s',f i s=Y s'/\I (i+1) s')->∃s',RE f n a s=Y s'/\I (a+n) s'
 |0,a,s,h,_=>⟨s,rfl,c?⟩|n+1,a,s,h,e=>by
  obtain ⟨s',r,g⟩:=e a s (v? _) U h;obtain⟨j,t,u⟩:=XU I n (a+1) s' g (λi s k q=>e i s U U)
  grind [RE]
theorem Ok(I:Int->σ->Prop)(e:a<=b)(g:I a s)(h:∀i s,a<=i->i<b->I i s->∃s',f i s=Y s'/\I (i+1) s'):∃s',BB f a b s=Y s'/\I b s':=by
 obtain ⟨s',k,q⟩:=XU I (b-a).toNat a s g (λi s j r=>h i s j U);exact⟨s',k,by rwa[show a+((b-a).toNat:Int)=b by omega]at q⟩
theorem BR(g:Int->σ)(e:a<=b)(j:g a=s)(h:∀i,a<=i->i<b->f i (g i)=Y (g (i+1))):BB f a b s=Y (g b):=by
 obtain ⟨s',t,rfl⟩:=Ok (λi s=>s=g i) e j.symm (λi s k q r=>⟨g (i+1),by rw[r];exact h i k q,rfl⟩);exact t
theorem jC(h:b<=a):BB f a b s=Y s:=by
 unfold BB;rw[show(b-a).toNat=0 by omega];rfl
theorem ZX{f:Int->σ->Option (B3 σ ρ)}(I:Int->σ->Prop)(B:σ->Prop)(R:ρ->Prop):∀(n:Nat)(a:Int)(s:σ),I a s ->
  (∀i s,a<=i->i<a+n->I i s->(∃s',f i s=Y (.next s')/\I (i+1) s')\/(∃s',f i s=Y (.brk s')/\B s')\/∃r,f i s=Y (.ret r)/\R r) ->
  (∃s',FR f n a s=Y (.inl s')/\(I (a+n) s'\/B s'))\/∃r,FR f n a s=Y (.inr r)/\R r
 |0,a,s,h,_=>.inl ⟨s,rfl,.inl c?⟩|n+1,a,s,h,j=>by
  rw [Em];rcases j a s (v? _) U h with⟨s',e,g⟩|⟨s',e,g⟩|⟨r,e,g⟩
  .rw[e];have:=ZX I B R n (a+1) s' g (λi s k q=>j i s U U)
   grind
  .grind
  grind
theorem Wc{f:Int->σ->Option (B3 σ ρ)}(I:Int->σ->Prop)(B:σ->Prop)(R:ρ->Prop)(e:a<=b)(g:I a s)
  (h:∀i s,a<=i->i<b->I i s->(∃s',f i s=Y (.next s')/\I (i+1) s')\/(∃s',f i s=Y (.brk s')/\B s')\/∃r,f i s=Y (.ret r)/\R r):
  (∃s',Aj f a b s=Y (.inl s')/\(I b s'\/B s'))\/∃r,Aj f a b s=Y (.inr r)/\R r:=by
 have:=ZX I B R (b-a).toNat a s g (λi s j k=>h i s j U)
 rwa [show a+((b-a).toNat:Int)=b by omega]at this
end loops
section lists
variable{α:Type}
def AA[Inhabited α](l:List α)(i:Int):α:=l.getD i.toNat default
variable{l:List α}{i:Int}
theorem AD[Inhabited α](e:0<=i)(g:i<l.length):idx l i=Y (AA l i):=by
 unfold idx AA
 grind
variable{x:α}
theorem Wf(h:idx l i=Y x):0<=i/\i<l.length/\l[i.toNat]?=Y x:=by
 unfold idx at h
 grind
theorem AG[Inhabited α](e:0<=i)(g:i<l.length):AA l i∈l:=by
 have h:=AD e g;exact List.mem_of_getElem? (Wf h).2.2
theorem A9[Inhabited α](h:x∈l):∃i:Int,0<=i/\i<l.length/\AA l i=x:=by
 obtain ⟨n,hn⟩:=List.getElem?_of_mem h;have e:=(List.getElem?_eq_some_iff.1 hn).1;refine⟨n,U,U,?_⟩;unfold AA
 grind
theorem He[Inhabited α]{p:α->Bool}:l.any p=gp (λi=>p (AA l i)) 0 l.length:=by
 rw [Bool.eq_iff_iff,List.any_eq_true,C3]
 grind [A9,AG]
variable{b:Int}
theorem Lb(e:0<=b)(g:b<=l.length):slc l 0 b=Y (l.take b.toNat):=by
 unfold slc
 grind
variable{a:Int}
theorem Ww(e:0<=a)(g:a<=l.length):slc l a l.length=Y (l.drop a.toNat):=by
 unfold slc;rw[QQ ⟨⟨e,g⟩,v? _⟩,Int.toNat_natCast,List.take_length]
variable{n:Nat}
theorem Qr[Inhabited α](h:i.toNat<n):AA (l.take n) i=AA l i:=by
 unfold AA
 grind
theorem Q8[Inhabited α]{p:α->Bool}(e:0<=b)(g:b<=l.length):(l.take b.toNat).any p=gp (λi=>p (AA l i)) 0 b:=by grind[He,a6,XC,Qr]
variable{m:List α}
theorem AU(h:l.length+m.length<=AY):Al l m=Y (l++m):=by grind[Al]
theorem Uh[Inhabited α](h:l.length=m.length)(e:∀i:Int,0<=i->i<l.length->AA l i=AA m i):l=m:=by
 refine List.ext_getElem h (λn g j=>?_);have:=e n U U;unfold AA at this
 grind
theorem IN[Inhabited α]:AA (l++m) i=if i.toNat<l.length then AA l i else m.getD (i.toNat-l.length) default:=by
 unfold AA
 grind
variable{β:Type}
theorem Nd[Inhabited α][Inhabited β]{g:α->β}(e:0<=i)(h:i<l.length):AA (l.map g) i=g (AA l i):=by grind[AD,Wf,AA]
end lists
section wh
variable{σ ρ:Type}
inductive LB(f:σ->Option (B3 σ ρ)):σ->σ ⊕ ρ->Prop where
 |next {s s':σ} {o:σ ⊕ ρ} (h:f s=Y (.next s')) (k:LB f s' o):LB f s o
 |brk {s s':σ} (h:f s=Y (.brk s')):LB f s (.inl s')
 |ret {s:σ} {r:ρ} (h:f s=Y (.ret r)):LB f s (.inr r)
variable{s:σ}{o:σ ⊕ ρ}
theorem LB.go{f:σ->Option (B3 σ ρ)}(h:LB f s o):∃N,∀n,N<=n->VT f n s=Y o:=by
 induction h with
 |next h k g=>
  obtain ⟨N,e⟩:=g;refine⟨N+1,λn hn=>?_⟩;cases n with
  |zero=>omega|succ n=>rw[VT,h];exact e n U
 |brk h=>
  refine ⟨1,λn hn=>?_⟩;cases n with
  |zero=>omega|succ n=>rw[VT,h]
 |ret h=>
  refine ⟨1,λn hn=>?_⟩;cases n with
  |zero=>omega|succ n=>rw[VT,h]
theorem LB.eq{f:σ->Option (B3 σ ρ)}(h:LB f s o):EI f s=Y o:=by
 obtain ⟨N,e⟩:=h.go;exact EG N e
def DM(i:Int)(c:Option (Int ⊕ ρ)):B3 Int ρ:=match c with
 |none=>.next (i+1)|some (.inl x)=>.brk x|some (.inr r)=>.ret r
theorem dy{f:Int->Option (B3 Int ρ)}(c:Int->Option (Int ⊕ ρ)):∀(n:Nat)(a:Int),(∀i,a<=i->i<a+n->(∀j,a<=j->j<i->c j=W)->f i=Y (DM i (c i)))->f (a+n)=Y (.brk (a+n))->LB f a ((FG c n a).getD (.inl (a+n)))
 |0,a,_,g=>by
  simp [FG];exact .brk t!
 |n+1,a,h,g=>by
  have e:=h a (v? _) U (λj q t=>U);rw[FG];cases k:c a with
  |some r=>
   rw [k]at e;cases r with
   |inl x=>exact .brk e|inr r=>exact .ret e
  |none=>
   rw [k]at e;rw[show a+((n+1:Nat):Int)=a+1+n by omega]at g|-;refine .next e (dy c n (a+1) (λi q t u=>h i U U (λj v w=>?_)) g)
   grind
variable{a b:Int}
theorem Q1{f:Int->Option (B3 Int ρ)}(c:Int->Option (Int ⊕ ρ))(g:a<=b)(h:∀i,a<=i->i<b->(∀j,a<=j->j<i->c j=W)->f i=Y (DM i (c i)))(k:f b=Y (.brk b)):EI f a=Y ((fst c a b).getD (.inl b)):=by
 have e:a+((b-a).toNat:Int)=b:=U
 have:=dy c (b-a).toNat a (λi q t r=>h i q U r) (by rw[e];exact k);rw[e]at this;exact this.eq
end wh
section bytes
instance:LawfulBEq ByteArray where
 eq_of_beq {a b} h:=by
  cases a;cases b;exact congrArg ByteArray.mk (eq_of_beq (show((_:Array UInt8)==_)=true from h))
 rfl {a}:=show(a.data==a.data)=true from beq_self_eq_true _
def bt(s:ByteArray)(i:Int):Int:=((s.data.toList.getD i.toNat 0).toNat:Int)
variable{i:Int}
theorem Qz{s:ByteArray}(g:0<=i)(h:i<s.size):Aac s i=Y (bt s i):=by
 have e:i.toNat<s.data.size:=by
  have:s.size=s.data.size:=rfl;omega
 unfold Aac bt;rw[QQ g,getElem?_pos s i.toNat e];simp[List.getD_eq_getElem?_getD,Array.getElem?_toList,Array.getElem?_eq_getElem e];rfl
variable{a b:Int}
theorem NW{s:ByteArray}(e:0<=a)(g:a<=b)(h:b<=s.size):Aag s a b=Y (s.extract a.toNat b.toNat):=by grind[Aag]
theorem af{s:ByteArray}(e:0<=a)(g:a<=b)(h:b<=s.size):((s.extract a.toNat b.toNat).size:Int)=b-a:=by grind[ByteArray.size_extract]
end bytes
end Go.Sf
