/- Plain lemmas about the loops and lists of typed functions. No program, no memory. -/
import Derived.Test.YtdnblcjdhbadaaaGreatSfStep
set_option linter.all false
namespace Go.Sf
theorem bs{α β:Type}(a:α)(f:α->Option β):(some a).bind f=f a:=rfl
section loops
variable{σ ρ:Type}
variable{f:Int->σ->Option (B0 σ ρ)}{n:Nat}{i:Int}{s:σ}
theorem FG:FE f (n+1) i s=(match f i s with
  |none=>none|some (.next s')=>FE f n (i+1) s'|some (.brk s')=>some (.inl s')|some (.ret r)=>some (.inr r)):=rfl
def EQ(c:Int->Option ρ):Nat->Int->Option ρ
 |0,_=>none|n+1,i=>match c i with
  |some r=>some r|none=>EQ c n (i+1)
def fst(c:Int->Option ρ)(a b:Int):Option ρ:=EQ c (b-a).toNat a
def kU(o:Option ρ):Unit ⊕ ρ:=match o with
 |none=>.inl ()|some r=>.inr r
def Lk(o:Option ρ):B0 Unit ρ:=match o with
 |none=>.next ()|some r=>.ret r
theorem Wq{f:Int->Unit->Option (B0 Unit ρ)}(c:Int->Option ρ):∀(n:Nat)(a:Int),
  (∀i,a<=i->i<a+n->(∀j,a<=j->j<i->c j=none)->f i ()=some (Lk (c i)))->FE f n a ()=some (kU (EQ c n a))
 |0,_,_=>rfl|n+1,a,h=>by
  have k:=h a (Int.le_refl _) (by omega) (fun j e g=>by omega);rw[FG,k,EQ];cases v:c a with
  |some r=>rfl|none=>
   simp only[Lk];refine Wq c n (a+1) (fun i e g q=>h i (by omega) (by omega) (fun j t u=>?_))
   grind
variable{a b:Int}
theorem BV{f:Int->Unit->Option (B0 Unit ρ)}(c:Int->Option ρ)(h:∀i,a<=i->i<b->(∀j,a<=j->j<i->c j=none)->f i ()=some (Lk (c i))):Ag f a b ()=some (kU (fst c a b)):=by grind[Ag,fst,Wq]
variable{c:Int->Option ρ}
theorem RK:∀{n:Nat}{a:Int},EQ c n a=none↔∀i,a<=i->i<a+n->c i=none
 |0,a=>by simp[EQ];intro i g j;omega|n+1,a=>by
  rw [EQ];constructor
  .intro h;cases e:c a with
   |some r=>rw[e]at h;cases h
   |none=>
    rw [e]at h;intro i g j;by_cases hi:i=a
    .subst hi;exact e
    .exact(RK.1 h) i (by omega) (by omega)
  .intro h;rw[h a (Int.le_refl _) (by omega)];exact RK.2 (fun i g j=>h i (by omega) (by omega))
theorem CH:fst c a b=none↔∀i,a<=i->i<b->c i=none:=by grind[fst,RK]
variable{d:Int->Option ρ}
theorem UF:∀{n:Nat}{a:Int},(∀i,a<=i->i<a+n->(∀j,a<=j->j<i->c j=none)->c i=d i)->EQ c n a=EQ d n a
 |0,_,_=>rfl|n+1,a,h=>by
  have k:=h a (Int.le_refl _) (by omega) (fun j e g=>by omega);rw[EQ,EQ,<-k];cases v:c a with
  |some r=>rfl|none=>
   refine UF (fun i e g q=>h i (by omega) (by omega) (fun j t u=>?_))
   grind
theorem eV(h:∀i,a<=i->i<b->(∀j,a<=j->j<i->c j=none)->c i=d i):fst c a b=fst d a b:=
 UF (fun i e k g=>h i e (by omega) g)
def ns(p:Int->Bool)(a b:Int):Bool:=(fst (fun i=>if p i then some ()else none) a b).isSome
variable{p:Int->Bool}
theorem Dj:ns p a b=true↔∃i,a<=i/\i<b/\p i=true:=by grind[ns,Option.isSome_iff_ne_none,CH]
theorem Bp:ns p a b=false↔∀i,a<=i->i<b->p i=false:=by
 rw [<-Bool.not_eq_true,Dj]
 grind
theorem Lx{v:ρ}:fst (fun i=>if p i then some v else none) a b=if ns p a b then some v else none:=by
 by_cases h:ns p a b=true
 .rw[a6 h];have e:fst (fun i=>if p i then some v else none) a b≠none:=by
   grind [CH,Dj]
  unfold fst at e|-;revert e;generalize (b-a).toNat=n;intro e;clear h
  induction n generalizing a with
  |zero=>exact(e rfl).elim|succ n g=>
   grind [EQ]
 .rw[ae h];rw[Bool.not_eq_true,Bp]at h
  grind [CH]
theorem BE{f:Int->Unit->Option (B0 Unit ρ)}(p:Int->Bool)(v:ρ)(h:∀i,a<=i->i<b->(∀j,a<=j->j<i->p j=false)->f i ()=some (if p i=true then .ret v else .next ())):Ag f a b ()=some (if ns p a b=true then .inr v else .inl ()):=by
 rw [BV (fun i=>if p i then some v else none),Lx]
 .cases ns p a b<;>rfl
 .intro i e g r;rw[h i e g (fun j k q=>by
   grind)]
  cases p i<;>rfl
theorem U1{p q:Int->Bool}(h:∀i,a<=i->i<b->p i=q i):ns p a b=ns q a b:=by grind[ns,eV]
theorem VF{f:Int->σ->Option σ}(I:Int->σ->Prop):∀(n:Nat)(a:Int)(s:σ),I a s->(∀i s,a<=i->i<a+n->I i s->∃s',f i s=some s'/\I (i+1) s')->∃s',Pc f n a s=some s'/\I (a+n) s'
 |0,a,s,h,_=>⟨s,rfl,by simpa using h⟩|n+1,a,s,h,e=>by
  obtain ⟨s',r,g⟩:=e a s (Int.le_refl _) (by omega) h;obtain⟨j,t,u⟩:=VF I n (a+1) s' g (fun i s k q=>e i s (by omega) (by omega))
  grind [Pc]
theorem Pd{f:Int->σ->Option σ}(I:Int->σ->Prop)(e:a<=b)(g:I a s)(h:∀i s,a<=i->i<b->I i s->∃s',f i s=some s'/\I (i+1) s'):∃s',A9 f a b s=some s'/\I b s':=by
 obtain ⟨s',k,q⟩:=VF I (b-a).toNat a s g (fun i s j r=>h i s j (by omega));exact⟨s',k,by rwa[show a+((b-a).toNat:Int)=b by omega]at q⟩
theorem BM{f:Int->σ->Option σ}(g:Int->σ)(e:a<=b)(j:g a=s)(h:∀i,a<=i->i<b->f i (g i)=some (g (i+1))):A9 f a b s=some (g b):=by
 obtain ⟨s',t,rfl⟩:=Pd (fun i s=>s=g i) e j.symm (fun i s k q r=>⟨g (i+1),by rw[r];exact h i k q,rfl⟩);exact t
theorem Wr(I:Int->σ->Prop)(B:σ->Prop)(R:ρ->Prop):∀(n:Nat)(a:Int)(s:σ),I a s ->
  (∀i s,a<=i->i<a+n->I i s->(∃s',f i s=some (.next s')/\I (i+1) s')\/(∃s',f i s=some (.brk s')/\B s')\/∃r,f i s=some (.ret r)/\R r) ->
  (∃s',FE f n a s=some (.inl s')/\(I (a+n) s'\/B s'))\/∃r,FE f n a s=some (.inr r)/\R r
 |0,a,s,h,_=>.inl ⟨s,rfl,.inl (by simpa using h)⟩|n+1,a,s,h,j=>by
  rw [FG];rcases j a s (Int.le_refl _) (by omega) h with⟨s',e,g⟩|⟨s',e,g⟩|⟨r,e,g⟩
  .rw[e];have:=Wr I B R n (a+1) s' g (fun i s k q=>j i s (by omega) (by omega))
   grind
  .grind
  grind
theorem Yg(I:Int->σ->Prop)(B:σ->Prop)(R:ρ->Prop)(e:a<=b)(g:I a s)
  (h:∀i s,a<=i->i<b->I i s->(∃s',f i s=some (.next s')/\I (i+1) s')\/(∃s',f i s=some (.brk s')/\B s')\/∃r,f i s=some (.ret r)/\R r):
  (∃s',Ag f a b s=some (.inl s')/\(I b s'\/B s'))\/∃r,Ag f a b s=some (.inr r)/\R r:=by
 have:=Wr I B R (b-a).toNat a s g (fun i s j k=>h i s j (by omega))
 rwa [show a+((b-a).toNat:Int)=b by omega]at this
end loops
section lists
variable{α:Type}
def AA[Inhabited α](l:List α)(i:Int):α:=l.getD i.toNat default
variable{l:List α}{i:Int}
theorem AD[Inhabited α](e:0<=i)(g:i<l.length):idx l i=some (AA l i):=by
 unfold idx AA
 grind
variable{x:α}
theorem Yj(h:idx l i=some x):0<=i/\i<l.length/\l[i.toNat]?=some x:=by
 unfold idx at h
 grind
theorem AI[Inhabited α](e:0<=i)(g:i<l.length):AA l i∈l:=by
 have h:=AD e g;exact List.mem_of_getElem? (Yj h).2.2
theorem BZ[Inhabited α](h:x∈l):∃i:Int,0<=i/\i<l.length/\AA l i=x:=by
 obtain ⟨n,e⟩:=List.getElem?_of_mem h;have g:=(List.getElem?_eq_some_iff.1 e).1;refine⟨n,by omega,by omega,?_⟩;unfold AA
 grind
theorem FM[Inhabited α]{p:α->Bool}:l.any p=ns (fun i=>p (AA l i)) 0 l.length:=by
 rw [Bool.eq_iff_iff,List.any_eq_true,Dj]
 grind [BZ,AI]
variable{b:Int}
theorem Lq(e:0<=b)(g:b<=l.length):slc l 0 b=some (l.take b.toNat):=by
 unfold slc
 grind
variable{a:Int}
theorem Zh(e:0<=a)(g:a<=l.length):slc l a l.length=some (l.drop a.toNat):=by
 unfold slc;rw[a6 ⟨⟨e,g⟩,Int.le_refl _⟩,Int.toNat_natCast,List.take_length]
variable{n:Nat}
theorem PE[Inhabited α](h:i.toNat<n):AA (l.take n) i=AA l i:=by
 unfold AA
 grind
theorem PW[Inhabited α]{p:α->Bool}(e:0<=b)(g:b<=l.length):(l.take b.toNat).any p=ns (fun i=>p (AA l i)) 0 b:=by grind[FM,cE,U1,PE]
variable{m:List α}
theorem AT(h:l.length+m.length<=AW):Aj l m=some (l++m):=by grind[Aj]
theorem YH[Inhabited α](h:l.length=m.length)(e:∀i:Int,0<=i->i<l.length->AA l i=AA m i):l=m:=by
 refine List.ext_getElem h (fun n g j=>?_);have:=e n (by omega) (by omega);unfold AA at this
 grind
theorem Lv[Inhabited α]:AA (l++m) i=if i.toNat<l.length then AA l i else m.getD (i.toNat-l.length) default:=by
 unfold AA
 grind
variable{β:Type}
theorem N8[Inhabited α][Inhabited β]{g:α->β}(e:0<=i)(h:i<l.length):AA (l.map g) i=g (AA l i):=by grind[AD,Yj,AA]
end lists
section wh
variable{σ ρ:Type}
inductive Lj(f:σ->Option (B0 σ ρ)):σ->σ ⊕ ρ->Prop where
 |next {s s':σ} {o:σ ⊕ ρ} (h:f s=some (.next s')) (k:Lj f s' o):Lj f s o
 |brk {s s':σ} (h:f s=some (.brk s')):Lj f s (.inl s')
 |ret {s:σ} {r:ρ} (h:f s=some (.ret r)):Lj f s (.inr r)
variable{s:σ}{o:σ ⊕ ρ}
theorem Lj.go{f:σ->Option (B0 σ ρ)}(h:Lj f s o):∃N,∀n,N<=n->Tg f n s=some o:=by
 induction h with
 |next h k j=>
  obtain ⟨N,g⟩:=j;refine⟨N+1,fun n e=>?_⟩;cases n with
  |zero=>omega|succ n=>rw[Tg,h];exact g n (by omega)
 |brk h=>
  refine ⟨1,fun n e=>?_⟩;cases n with
  |zero=>omega|succ n=>rw[Tg,h]
 |ret h=>
  refine ⟨1,fun n e=>?_⟩;cases n with
  |zero=>omega|succ n=>rw[Tg,h]
theorem Lj.eq{f:σ->Option (B0 σ ρ)}(h:Lj f s o):ER f s=some o:=by
 obtain ⟨N,e⟩:=h.go;exact Dw N e
def C7(i:Int)(c:Option (Int ⊕ ρ)):B0 Int ρ:=match c with
 |none=>.next (i+1)|some (.inl x)=>.brk x|some (.inr r)=>.ret r
theorem Zt{f:Int->Option (B0 Int ρ)}(c:Int->Option (Int ⊕ ρ)):∀(n:Nat)(a:Int),(∀i,a<=i->i<a+n->(∀j,a<=j->j<i->c j=none)->f i=some (C7 i (c i)))->f (a+n)=some (.brk (a+n))->Lj f a ((EQ c n a).getD (.inl (a+n)))
 |0,a,_,g=>by
  simp only[EQ,Option.getD];exact .brk (by simpa using g)
 |n+1,a,h,g=>by
  have e:=h a (Int.le_refl _) (by omega) (fun j q t=>by omega);rw[EQ];cases k:c a with
  |some r=>
   rw [k]at e;cases r with
   |inl x=>exact .brk e|inr r=>exact .ret e
  |none=>
   rw [k]at e;rw[show a+((n+1:Nat):Int)=a+1+n by omega]at g|-;refine .next e (Zt c n (a+1) (fun i q t u=>h i (by omega) (by omega) (fun j v w=>?_)) g)
   grind
variable{a b:Int}
theorem PP{f:Int->Option (B0 Int ρ)}(c:Int->Option (Int ⊕ ρ))(g:a<=b)(h:∀i,a<=i->i<b->(∀j,a<=j->j<i->c j=none)->f i=some (C7 i (c i)))(k:f b=some (.brk b)):ER f a=some ((fst c a b).getD (.inl b)):=by
 have e:a+((b-a).toNat:Int)=b:=by omega
 have:=Zt c (b-a).toNat a (fun i q t r=>h i q (by omega) r) (by rw[e];exact k);rw[e]at this;exact this.eq
end wh
section bytes
instance:LawfulBEq ByteArray where
 eq_of_beq {a b} h:=by
  cases a;cases b;exact congrArg ByteArray.mk (eq_of_beq (show((_:Array UInt8)==_)=true from h))
 rfl {a}:=show(a.data==a.data)=true from beq_self_eq_true _
def bt(s:ByteArray)(i:Int):Int:=((s.data.toList.getD i.toNat 0).toNat:Int)
variable{i:Int}
theorem PN{s:ByteArray}(g:0<=i)(h:i<s.size):Aat s i=some (bt s i):=by
 have e:i.toNat<s.data.size:=by
  have:s.size=s.data.size:=rfl;omega
 unfold Aat bt;rw[a6 g,getElem?_pos s i.toNat e];simp only[Option.map_some,List.getD_eq_getElem?_getD,Array.getElem?_toList,Array.getElem?_eq_getElem e,Option.getD_some];rfl
variable{a b:Int}
theorem MD{s:ByteArray}(e:0<=a)(g:a<=b)(h:b<=s.size):Aax s a b=some (s.extract a.toNat b.toNat):=by grind[Aax]
theorem Xk{s:ByteArray}(e:0<=a)(g:a<=b)(h:b<=s.size):((s.extract a.toNat b.toNat).size:Int)=b-a:=by grind[ByteArray.size_extract]
end bytes
end Go.Sf
