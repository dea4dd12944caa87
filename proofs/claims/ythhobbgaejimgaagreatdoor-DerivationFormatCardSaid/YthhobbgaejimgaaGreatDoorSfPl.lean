/- Plain lemmas about the loops and lists of typed functions. No program, no memory. -/
import Derived.Test.YthhobbgaejimgaaGreatDoorSfStep
import Derived.Test.YthhobbgaejimgaaGreatDoorSfF
set_option linter.all false
namespace Go.Sf
theorem bs{α β:Type}(a:α)(f:α->Option β):(some a).bind f=f a:=rfl
section loops
variable{σ ρ:Type}
variable{f:Int->σ->Option (B2 σ ρ)}{i:Int}{s:σ}
theorem Mf{n:Nat}:rX f (n+1) i s=(match f i s with
  |none=>none|some (.next s')=>rX f n (i+1) s'|some (.brk s')=>some (.inl s')|some (.ret r)=>some (.inr r)):=rfl
def FN(c:Int->Option ρ):Nat->Int->Option ρ
 |0,_=>none|n+1,i=>match c i with
  |some r=>some r|none=>FN c n (i+1)
def fst(c:Int->Option ρ)(a b:Int):Option ρ:=FN c (b-a).toNat a
def jc(o:Option ρ):Unit ⊕ ρ:=match o with
 |none=>.inl ()|some r=>.inr r
def Xj(o:Option ρ):B2 Unit ρ:=match o with
 |none=>.next ()|some r=>.ret r
theorem Qs{f:Int->Unit->Option (B2 Unit ρ)}(c:Int->Option ρ):∀(n:Nat)(a:Int),
  (∀i,a<=i->i<a+n->(∀j,a<=j->j<i->c j=none)->f i ()=some (Xj (c i)))->rX f n a ()=some (jc (FN c n a))
 |0,_,_=>rfl|n+1,a,h=>by
  have g:=h a (Int.le_refl _) (by omega) (fun j d e=>by omega);rw[Mf,g,FN];cases u:c a with
  |some r=>rfl|none=>
   simp [Xj];refine Qs c n (a+1) (fun i d e k=>h i (by omega) (by omega) (fun j q t=>?_))
   grind
variable{a b:Int}
theorem SF{f:Int->Unit->Option (B2 Unit ρ)}(c:Int->Option ρ)(h:∀i,a<=i->i<b->(∀j,a<=j->j<i->c j=none)->f i ()=some (Xj (c i))):rb f a b ()=some (jc (fst c a b)):=by grind[rb,fst,Qs]
variable{c:Int->Option ρ}
theorem Mh:∀{n:Nat}{a:Int},FN c n a=none↔∀i,a<=i->i<a+n->c i=none
 |0,a=>by simp[FN];intro i e g;omega|n+1,a=>by
  rw [FN];constructor
  .intro h;cases d:c a with
   |some r=>rw[d]at h;cases h
   |none=>
    rw [d]at h;intro i e g;by_cases hi:i=a
    .subst hi;exact d
    .exact(Mh.1 h) i (by omega) (by omega)
  .intro h;rw[h a (Int.le_refl _) (by omega)];exact Mh.2 (fun i e g=>h i (by omega) (by omega))
theorem Cb:fst c a b=none↔∀i,a<=i->i<b->c i=none:=by grind[fst,Mh]
def DM(p:Int->Bool)(a b:Int):Bool:=(fst (fun i=>if p i then some ()else none) a b).isSome
variable{p:Int->Bool}
theorem Ow:DM p a b=true↔∃i,a<=i/\i<b/\p i=true:=by grind[DM,Option.isSome_iff_ne_none,Cb]
theorem D4:DM p a b=false↔∀i,a<=i->i<b->p i=false:=by
 rw [<-Bool.not_eq_true,Ow]
 grind
theorem WI{v:ρ}:fst (fun i=>if p i then some v else none) a b=if DM p a b then some v else none:=by
 by_cases h:DM p a b=true
 .rw[az h];have d:fst (fun i=>if p i then some v else none) a b≠none:=by
   grind [Cb,Ow]
  unfold fst at d|-;revert d;generalize (b-a).toNat=n;intro d;clear h
  induction n generalizing a with
  |zero=>exact(d rfl).elim|succ n e=>
   grind [FN]
 .rw[bk h];rw[Bool.not_eq_true,D4]at h
  grind [Cb]
theorem Mg{f:Int->Unit->Option (B2 Unit ρ)}(p:Int->Bool)(v:ρ)(h:∀i,a<=i->i<b->(∀j,a<=j->j<i->p j=false)->f i ()=some (if p i=true then .ret v else .next ())):rb f a b ()=some (if DM p a b=true then .inr v else .inl ()):=by
 rw [SF (fun i=>if p i then some v else none),WI]
 .cases DM p a b<;>rfl
 .intro i d e n;rw[h i d e (fun j g k=>by
   grind)]
  cases p i<;>rfl
theorem Pg{f:Int->σ->Option σ}(I:Int->σ->Prop):∀(n:Nat)(a:Int)(s:σ),I a s->(∀i s,a<=i->i<a+n->I i s->∃s',f i s=some s'/\I (i+1) s')->∃s',sr f n a s=some s'/\I (a+n) s'
 |0,a,s,h,_=>⟨s,rfl,by simpa using h⟩|n+1,a,s,h,d=>by
  obtain ⟨s',q,e⟩:=d a s (Int.le_refl _) (by omega) h;obtain⟨g,r,t⟩:=Pg I n (a+1) s' e (fun i s j k=>d i s (by omega) (by omega))
  grind [sr]
theorem SE{f:Int->σ->Option σ}(I:Int->σ->Prop)(d:a<=b)(e:I a s)(h:∀i s,a<=i->i<b->I i s->∃s',f i s=some s'/\I (i+1) s'):∃s',rz f a b s=some s'/\I b s':=by
 obtain ⟨s',j,k⟩:=Pg I (b-a).toNat a s e (fun i s g n=>h i s g (by omega));exact⟨s',j,by rwa[show a+((b-a).toNat:Int)=b by omega]at k⟩
theorem KH{f:Int->σ->Option σ}(g:Int->σ)(d:a<=b)(e:g a=s)(h:∀i,a<=i->i<b->f i (g i)=some (g (i+1))):rz f a b s=some (g b):=by
 obtain ⟨s',q,rfl⟩:=SE (fun i s=>s=g i) d e.symm (fun i s j k n=>⟨g (i+1),by rw[n];exact h i j k,rfl⟩);exact q
theorem Qt(I:Int->σ->Prop)(B:σ->Prop)(R:ρ->Prop):∀(n:Nat)(a:Int)(s:σ),I a s ->
  (∀i s,a<=i->i<a+n->I i s->(∃s',f i s=some (.next s')/\I (i+1) s')\/(∃s',f i s=some (.brk s')/\B s')\/∃r,f i s=some (.ret r)/\R r) ->
  (∃s',rX f n a s=some (.inl s')/\(I (a+n) s'\/B s'))\/∃r,rX f n a s=some (.inr r)/\R r
 |0,a,s,h,_=>.inl ⟨s,rfl,.inl (by simpa using h)⟩|n+1,a,s,h,g=>by
  rw [Mf];rcases g a s (Int.le_refl _) (by omega) h with⟨s',d,e⟩|⟨s',d,e⟩|⟨r,d,e⟩
  .rw[d];have:=Qt I B R n (a+1) s' e (fun i s j k=>g i s (by omega) (by omega))
   grind
  .grind
  grind
theorem Xy(I:Int->σ->Prop)(B:σ->Prop)(R:ρ->Prop)(d:a<=b)(e:I a s)
  (h:∀i s,a<=i->i<b->I i s->(∃s',f i s=some (.next s')/\I (i+1) s')\/(∃s',f i s=some (.brk s')/\B s')\/∃r,f i s=some (.ret r)/\R r):
  (∃s',rb f a b s=some (.inl s')/\(I b s'\/B s'))\/∃r,rb f a b s=some (.inr r)/\R r:=by
 have:=Qt I B R (b-a).toNat a s e (fun i s g j=>h i s g (by omega))
 rwa [show a+((b-a).toNat:Int)=b by omega]at this
end loops
section lists
variable{α:Type}
def at'[Inhabited α](l:List α)(i:Int):α:=l.getD i.toNat default
variable{l:List α}{i:Int}
theorem Ds[Inhabited α](d:0<=i)(e:i<l.length):idx l i=some (at' l i):=by
 unfold idx at'
 grind
variable{x:α}
theorem SJ(h:idx l i=some x):0<=i/\i<l.length/\l[i.toNat]?=some x:=by
 unfold idx at h
 grind
theorem B6[Inhabited α](d:0<=i)(e:i<l.length):at' l i∈l:=by
 have h:=Ds d e;exact List.mem_of_getElem? (SJ h).2.2
theorem DY[Inhabited α](h:x∈l):∃i:Int,0<=i/\i<l.length/\at' l i=x:=by
 obtain ⟨n,d⟩:=List.getElem?_of_mem h;have e:=(List.getElem?_eq_some_iff.1 d).1;refine⟨n,by omega,by omega,?_⟩;unfold at'
 grind
theorem cw[Inhabited α]{p:α->Bool}:l.any p=DM (fun i=>p (at' l i)) 0 l.length:=by
 rw [Bool.eq_iff_iff,List.any_eq_true,Ow]
 grind [DY,B6]
variable{m:List α}
theorem F6(h:l.length+m.length<=Br):Am l m=some (l++m):=by grind[Am]
theorem cz[Inhabited α](h:l.length=m.length)(d:∀i:Int,0<=i->i<l.length->at' l i=at' m i):l=m:=by
 refine List.ext_getElem h (fun n e g=>?_);have:=d n (by omega) (by omega);unfold at' at this
 grind
theorem NS[Inhabited α]:at' (l++m) i=if i.toNat<l.length then at' l i else m.getD (i.toNat-l.length) default:=by
 unfold at'
 grind
variable{β:Type}
theorem La[Inhabited α][Inhabited β]{g:α->β}(d:0<=i)(e:i<l.length):at' (l.map g) i=g (at' l i):=by grind[Ds,SJ,at']
end lists
section wh
variable{σ ρ:Type}
inductive F9(f:σ->Option (B2 σ ρ)):σ->σ ⊕ ρ->Prop where
 |next {s s':σ} {o:σ ⊕ ρ} (h:f s=some (.next s')) (k:F9 f s' o):F9 f s o
 |brk {s s':σ} (h:f s=some (.brk s')):F9 f s (.inl s')
 |ret {s:σ} {r:ρ} (h:f s=some (.ret r)):F9 f s (.inr r)
variable{s:σ}{o:σ ⊕ ρ}
theorem F9.go{f:σ->Option (B2 σ ρ)}(h:F9 f s o):∃N,∀n,N<=n->LX f n s=some o:=by
 induction h with
 |next h k g=>
  obtain ⟨N,e⟩:=g;refine⟨N+1,fun n d=>?_⟩;cases n with
  |zero=>omega|succ n=>rw[LX,h];exact e n (by omega)
 |brk h=>
  refine ⟨1,fun n d=>?_⟩;cases n with
  |zero=>omega|succ n=>rw[LX,h]
 |ret h=>
  refine ⟨1,fun n d=>?_⟩;cases n with
  |zero=>omega|succ n=>rw[LX,h]
theorem F9.eq{f:σ->Option (B2 σ ρ)}(h:F9 f s o):E5 f s=some o:=by
 obtain ⟨N,d⟩:=h.go;exact SU N d
def FA(i:Int)(c:Option (Int ⊕ ρ)):B2 Int ρ:=match c with
 |none=>.next (i+1)|some (.inl x)=>.brk x|some (.inr r)=>.ret r
theorem TF{f:Int->Option (B2 Int ρ)}(c:Int->Option (Int ⊕ ρ)):∀(n:Nat)(a:Int),(∀i,a<=i->i<a+n->(∀j,a<=j->j<i->c j=none)->f i=some (FA i (c i)))->f (a+n)=some (.brk (a+n))->F9 f a ((FN c n a).getD (.inl (a+n)))
 |0,a,_,e=>by
  simp [FN];exact .brk (by simpa using e)
 |n+1,a,h,e=>by
  have d:=h a (Int.le_refl _) (by omega) (fun j k q=>by omega);rw[FN];cases g:c a with
  |some r=>
   rw [g]at d;cases r with
   |inl x=>exact .brk d|inr r=>exact .ret d
  |none=>
   rw [g]at d;rw[show a+((n+1:Nat):Int)=a+1+n by omega]at e|-;refine .next d (TF c n (a+1) (fun i k q t=>h i (by omega) (by omega) (fun j u v=>?_)) e)
   grind
variable{a b:Int}
theorem UX{f:Int->Option (B2 Int ρ)}(c:Int->Option (Int ⊕ ρ))(d:a<=b)(h:∀i,a<=i->i<b->(∀j,a<=j->j<i->c j=none)->f i=some (FA i (c i)))(g:f b=some (.brk b)):E5 f a=some ((fst c a b).getD (.inl b)):=by
 have e:a+((b-a).toNat:Int)=b:=by omega
 have:=TF c (b-a).toNat a (fun i k q n=>h i k (by omega) n) (by rw[e];exact g);rw[e]at this;exact this.eq
end wh
section bytes
instance:LawfulBEq ByteArray where
 eq_of_beq {a b} h:=by
  cases a;cases b;exact congrArg ByteArray.mk (eq_of_beq (show((_:Array UInt8)==_)=true from h))
 rfl {a}:=show(a.data==a.data)=true from beq_self_eq_true _
def bt(s:ByteArray)(i:Int):Int:=((s.data.toList.getD i.toNat 0).toNat:Int)
variable{i:Int}
theorem FH{s:ByteArray}(e:0<=i)(g:i<s.size):rP s i=some (bt s i):=by
 have d:i.toNat<s.data.size:=by
  have:s.size=s.data.size:=rfl;omega
 unfold rP bt;rw[az e,getElem?_pos s i.toNat d];simp[List.getD_eq_getElem?_getD,Array.getElem?_toList,Array.getElem?_eq_getElem d];rfl
variable{a b:Int}
theorem El{s:ByteArray}(d:0<=a)(e:a<=b)(g:b<=s.size):rR s a b=some (s.extract a.toNat b.toNat):=by grind[rR]
theorem Ge{s:ByteArray}(d:0<=a)(e:a<=b)(g:b<=s.size):((s.extract a.toNat b.toNat).size:Int)=b-a:=by grind[ByteArray.size_extract]
theorem PX{s:ByteArray}(e:0<=a)(g:a<=b)(h:b<=s.size)(hi:0<=i)(d:i<b-a):bt (s.extract a.toNat b.toNat) i=bt s (a+i):=by grind[bt,ByteArray.data_extract,Array.getElem?_extract]
end bytes
end Go.Sf
namespace Go.Sf
def Le{α:Type}(a b:Option α):Prop:=∀r,a=some r->b=some r
theorem Le.refl{α:Type}(a:Option α):Le a a:=fun _ h=>h
theorem Le.none{α:Type}(b:Option α):Le Option.none b:=fun _ h=>by cases h
theorem Le.bind{α β:Type}{a b:Option α}{f g:α->Option β}(h:Le a b)(k:∀x,Le (f x) (g x)):Le (a.bind f) (b.bind g):=by
 intro r d;obtain⟨x,e,j⟩:=Option.bind_eq_some_iff.1 d;rw[h x e,Option.bind_some];exact k x r j
theorem Le.ite{α:Type}{c:Prop}[Decidable c]{a b a' d:Option α}(h:Le a b)(k:Le a' d):Le (if c then a else a') (if c then b else d):=by grind
theorem Le.sr{σ:Type}{f g:Int->σ->Option σ}(h:∀i s,Le (f i s) (g i s)):∀(n:Nat)(i:Int)(s:σ),Le (sr f n i s) (sr g n i s)
 |0,_,_=>Le.refl _|n+1,i,s=>by
  intro r d;unfold Go.Sf.sr at d|-;cases hf:f i s with
  |none=>rw[hf]at d;cases d
  |some s'=>
   rw [hf]at d;rw[h i s s' hf];exact Le.sr h n (i+1) s' r d
variable{a b:Int}
theorem Le.rz{σ:Type}{f g:Int->σ->Option σ}{s:σ}(h:∀i s,Le (f i s) (g i s)):Le (rz f a b s) (rz g a b s):=Le.sr h _ _ _
theorem Le.rX{σ ρ:Type}{f g:Int->σ->Option (B2 σ ρ)}(h:∀i s,Le (f i s) (g i s)):∀(n:Nat)(i:Int)(s:σ),Le (rX f n i s) (rX g n i s)
 |0,_,_=>Le.refl _|n+1,i,s=>by
  intro r d;unfold Go.Sf.rX at d|-;cases hf:f i s with
  |none=>rw[hf]at d;cases d
  |some c=>
   rw [hf]at d;rw[h i s c hf];cases c with
   |next s'=>exact Le.rX h n (i+1) s' r d|brk s'=>exact d|ret v=>exact d
theorem Le.rb{σ ρ:Type}{f g:Int->σ->Option (B2 σ ρ)}{s:σ}(h:∀i s,Le (f i s) (g i s)):Le (rb f a b s) (rb g a b s):=Le.rX h _ _ _
theorem Le.o4{σ ρ β:Type}{o p:Option (σ ⊕ ρ)}{k e:σ->Option β}{l g:ρ->Option β}(h:Le o p)(j:∀s,Le (k s) (e s))(n:∀v,Le (l v) (g v)):Le (o4 o k l) (o4 p e g):=by
 intro r d;cases o with
 |none=>cases d
 |some x=>
  rw [h x rfl];cases x with
  |inl s=>exact j s r d|inr v=>exact n v r d
theorem QI{σ ρ:Type}{f g:σ->Option (B2 σ ρ)}(h:∀s,Le (f s) (g s)):∀(n:Nat)(s:σ)(o:σ ⊕ ρ),LX f n s=some o->F9 g s o
 |0,_,_,d=>by cases d
 |n+1,s,o,d=>by
  unfold LX at d;cases hf:f s with
  |none=>rw[hf]at d;cases d
  |some c=>
   rw [hf]at d;have e:=h s c hf;cases c with
   |next s'=>exact .next e (QI h n s' o d)|brk s'=>cases d;exact .brk e
   |ret v=>cases d;exact .ret e
abbrev eN(N:Nat):Ev:=⟨some N⟩
theorem LW{σ ρ:Type}{f g:σ->Option (B2 σ ρ)}{N:Nat}{s:σ}(h:∀s,Le (f s) (g s)):Le (@E5 (eN N) _ _ f s) (@E5 Ax _ _ g s):=fun _ d=>(QI h N s _ d).eq
theorem LL{α:Type}{a:Option α}{g:Nat->Option α}(N:Nat)(h:∀n,N<=n->Le a (g n)):Le a (@KV Ax _ g):=fun r d=>SU N fun n e=>h n e r d
class Mo{α:Type}(a b:Option α):Prop where
 le:Le a b
instance{α:Type}(a:Option α):Mo a a:=⟨Le.refl a⟩
theorem Le.tq{α:Type}{f g:α->K1}(h:∀p,Le (f p) (g p)):∀(l:List α),Le (Go.Sf.tq f l) (Go.Sf.tq g l)
 |[]=>Le.refl _|p::r=>(h p).bind fun _=>(Le.tq h r).bind fun _=>Le.refl _
theorem lx{P:Prop}(p:P:=by
 with_reducible repeat' first|exact Le.refl _|exact Mo.le|refine Le.bind ?_ fun _=>?_|refine Le.ite ?_ ?_|refine Le.o4 ?_ (fun _=>?_) fun _=>?_|refine Le.rz fun _ _=>?_|refine Le.rb fun _ _=>?_|refine LW fun _=>?_|refine Le.tq (fun _=>?_) _):P:=p
end Go.Sf
