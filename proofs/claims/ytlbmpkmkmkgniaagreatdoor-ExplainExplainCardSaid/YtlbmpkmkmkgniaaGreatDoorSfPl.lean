/- Plain lemmas about the loops and lists of typed functions. No program, no memory. -/
import Derived.Test.YtlbmpkmkmkgniaaGreatDoorSfStep
set_option linter.all false
namespace Go.Sf
theorem bs {α β:Type} (a:α) (f:α->Option β):(some a).bind f=f a:=rfl
section loops
variable {σ ρ:Type}
variable {f:Int->σ->Option (CZ σ ρ)} {n:Nat} {i:Int} {s:σ}
theorem H6:forGo f (n+1) i s=(match f i s with
  | none=>none
  | some (.next s')=>forGo f n (i+1) s'
  | some (.brk s')=>some (.inl s')
  | some (.ret r)=>some (.inr r)):=rfl
def FH (c:Int->Option ρ):Nat->Int->Option ρ
 | 0,_=>none
 | n+1,i=>match c i with
  | some r=>some r
  | none=>FH c n (i+1)
def fst (c:Int->Option ρ) (a b:Int):Option ρ:=FH c (b - a).toNat a
def dy (o:Option ρ):Unit ⊕ ρ:=match o with
 | none=>.inl ()
 | some r=>.inr r
def Pg (o:Option ρ):CZ Unit ρ:=match o with
 | none=>.next ()
 | some r=>.ret r
theorem U0 {f:Int->Unit->Option (CZ Unit ρ)} (c:Int->Option ρ):∀ (n:Nat) (a:Int),
  (∀ i,a<=i->i<a+n->(∀ j,a<=j->j<i->c j=none)->f i ()=some (Pg (c i)))->forGo f n a ()=some (dy (FH c n a))
 | 0,_,_=>rfl
 | n+1,a,h=>by
  have t:=h a (Int.le_refl _) (by omega) (fun j e g=>by omega);rw [H6,t,FH];cases u:c a with
  | some r=>rfl
  | none=>
   simp only [Pg];refine U0 c n (a+1) (fun i e g k=>h i (by omega) (by omega) (fun j w q=>?_));by_cases v:j=a
   ·subst v; exact u
   ·exact k j (by omega) q
variable {a b:Int}
theorem C5 {f:Int->Unit->Option (CZ Unit ρ)} (c:Int->Option ρ) (h:∀ i,a<=i->i<b->(∀ j,a<=j->j<i->c j=none)->f i ()=some (Pg (c i))):forR f a b ()=some (dy (fst c a b)):=by
 unfold forR fst;refine U0 c _ a (fun i e k g=>h i e (by omega) g)
variable {c:Int->Option ρ}
theorem QR:∀ {n:Nat} {a:Int},FH c n a=none↔∀ i,a<=i->i<a+n->c i=none
 | 0,a=>by simp [FH]; intro i g j; omega
 | n+1,a=>by
  rw [FH];constructor
  ·intro h;cases e:c a with
   | some r=>rw [e] at h; cases h
   | none=>
    rw [e] at h;intro i g j;by_cases hi:i=a
    ·subst hi; exact e
    ·exact (QR.1 h) i (by omega) (by omega)
  ·intro h;rw [h a (Int.le_refl _) (by omega)];exact QR.2 (fun i g j=>h i (by omega) (by omega))
theorem DA:fst c a b=none↔∀ i,a<=i->i<b->c i=none:=by
 unfold fst;rw [QR];exact ⟨fun h i e g=>h i e (by omega),fun h i e g=>h i e (by omega)⟩
variable {d:Int->Option ρ}
theorem Sn:∀ {n:Nat} {a:Int},(∀ i,a<=i->i<a+n->(∀ j,a<=j->j<i->c j=none)->c i=d i)->FH c n a=FH d n a
 | 0,_,_=>rfl
 | n+1,a,h=>by
  have t:=h a (Int.le_refl _) (by omega) (fun j e g=>by omega);rw [FH,FH,←t];cases u:c a with
  | some r=>rfl
  | none=>
   refine Sn (fun i e g k=>h i (by omega) (by omega) (fun j w q=>?_));by_cases v:j=a
   ·subst v; exact u
   ·exact k j (by omega) q
theorem aH (h:∀ i,a<=i->i<b->(∀ j,a<=j->j<i->c j=none)->c i=d i):fst c a b=fst d a b:=
 Sn (fun i e k g=>h i e (by omega) g)
def anyR (p:Int->Bool) (a b:Int):Bool:=(fst (fun i=>if p i then some () else none) a b).isSome
variable {p:Int->Bool}
theorem IW:anyR p a b=true↔∃ i,a<=i∧i<b∧p i=true:=by
 unfold anyR;rw [Option.isSome_iff_ne_none,ne_eq,DA];constructor
 ·intro h;by_cases j:∃ i,a<=i∧i<b∧p i=true
  ·exact j
  ·exact (h (fun i e g=>by
    rw [d2]; intro k; exact j ⟨i,e,g,k⟩)).elim
 ·rintro ⟨i,e,g,q⟩ h;have:=h i e g;rw [d1 q] at this;cases this
theorem ET:anyR p a b=false↔∀ i,a<=i->i<b->p i=false:=by
 rw [←Bool.not_eq_true,IW];constructor
 ·intro h i e g;rw [←Bool.not_eq_true];exact fun k=>h ⟨i,e,g,k⟩
 ·rintro h ⟨i,e,g,j⟩;rw [h i e g] at j;cases j
theorem PM {v:ρ}:fst (fun i=>if p i then some v else none) a b=if anyR p a b then some v else none:=by
 by_cases h:anyR p a b=true
 ·rw [d1 h];have e:fst (fun i=>if p i then some v else none) a b≠none:=by
   intro j;rw [DA] at j;obtain ⟨i,g,e,q⟩:=IW.1 h;have:=j i g e;rw [d1 q] at this;cases this
  unfold fst at e ⊢;revert e;generalize (b - a).toNat=n;intro e;clear h
  induction n generalizing a with
  | zero=>exact (e rfl).elim
  | succ n r=>
   rw [FH] at e ⊢;by_cases k:p a=true
   ·simp [k]
   ·simp [k] at e ⊢;exact r e
 ·rw [d2 h];rw [Bool.not_eq_true,ET] at h;exact DA.2 (fun i g e=>by simp [h i g e])
theorem CR {f:Int->Unit->Option (CZ Unit ρ)} (p:Int->Bool) (v:ρ) (h:∀ i,a<=i->i<b->(∀ j,a<=j->j<i->p j=false)->f i ()=some (if p i=true then .ret v else .next ())):forR f a b ()=some (if anyR p a b=true then .inr v else .inl ()):=by
 rw [C5 (fun i=>if p i then some v else none),PM]
 ·cases anyR p a b <;> rfl
 ·intro i k q r;rw [h i k q (fun j e g=>by
   have:=r j e g;cases t:p j
   ·rfl
   ·simp [t] at this)]
  cases p i <;> rfl
theorem TQ {p q:Int->Bool} (h:∀ i,a<=i->i<b->p i=q i):anyR p a b=anyR q a b:=by
 unfold anyR;rw [aH (fun i e g _=>by rw [h i e g])]
theorem Tj {f:Int->σ->Option σ} (I:Int->σ->Prop):∀ (n:Nat) (a:Int) (s:σ),I a s->(∀ i s,a<=i->i<a+n->I i s->∃ s',f i s=some s'∧I (i+1) s')->∃ s',forAGo f n a s=some s'∧I (a+n) s'
 | 0,a,s,h,_=>⟨s,rfl,by simpa using h⟩
 | n+1,a,s,h,g=>by
  obtain ⟨s',j,k⟩:=g a s (Int.le_refl _) (by omega) h;obtain ⟨e,q,r⟩:=Tj I n (a+1) s' k (fun i s t u=>g i s (by omega) (by omega));refine ⟨e,?_,by rw [show a+((n+1:Nat):Int)=a+1+n by omega]; exact r⟩;rw [forAGo,j]; exact q
theorem WM {f:Int->σ->Option σ} (I:Int->σ->Prop) (e:a<=b) (g:I a s) (h:∀ i s,a<=i->i<b->I i s->∃ s',f i s=some s'∧I (i+1) s'):∃ s',forA f a b s=some s'∧I b s':=by
 obtain ⟨s',k,q⟩:=Tj I (b - a).toNat a s g (fun i s j r=>h i s j (by omega));exact ⟨s',k,by rwa [show a+((b - a).toNat:Int)=b by omega] at q⟩
theorem EF {f:Int->σ->Option σ} (g:Int->σ) (e:a<=b) (j:g a=s) (h:∀ i,a<=i->i<b->f i (g i)=some (g (i+1))):forA f a b s=some (g b):=by
 obtain ⟨s',t,rfl⟩:=WM (fun i s=>s=g i) e j.symm (fun i s k q r=>⟨g (i+1),by rw [r]; exact h i k q,rfl⟩);exact t
theorem U1 (I:Int->σ->Prop) (B:σ->Prop) (R:ρ->Prop):∀ (n:Nat) (a:Int) (s:σ),I a s ->
  (∀ i s,a<=i->i<a+n->I i s->(∃ s',f i s=some (.next s')∧I (i+1) s')∨(∃ s',f i s=some (.brk s')∧B s')∨∃ r,f i s=some (.ret r)∧R r) ->
  (∃ s',forGo f n a s=some (.inl s')∧(I (a+n) s'∨B s'))∨∃ r,forGo f n a s=some (.inr r)∧R r
 | 0,a,s,h,_=>.inl ⟨s,rfl,.inl (by simpa using h)⟩
 | n+1,a,s,h,j=>by
  rw [H6];rcases j a s (Int.le_refl _) (by omega) h with ⟨s',e,g⟩ | ⟨s',e,g⟩ | ⟨r,e,g⟩
  ·rw [e];have:=U1 I B R n (a+1) s' g (fun i s k q=>j i s (by omega) (by omega));rw [show a+((n+1:Nat):Int)=a+1+n by omega]; exact this
  ·rw [e]; exact .inl ⟨s',rfl,.inr g⟩
  ·rw [e]; exact .inr ⟨r,rfl,g⟩
theorem WQ (I:Int->σ->Prop) (B:σ->Prop) (R:ρ->Prop) (e:a<=b) (g:I a s)
  (h:∀ i s,a<=i->i<b->I i s->(∃ s',f i s=some (.next s')∧I (i+1) s')∨(∃ s',f i s=some (.brk s')∧B s')∨∃ r,f i s=some (.ret r)∧R r) :
  (∃ s',forR f a b s=some (.inl s')∧(I b s'∨B s'))∨∃ r,forR f a b s=some (.inr r)∧R r:=by
 have:=U1 I B R (b - a).toNat a s g (fun i s j k=>h i s j (by omega))
 rwa [show a+((b - a).toNat:Int)=b by omega] at this
end loops
section lists
variable {α:Type}
def AB [Inhabited α] (l:List α) (i:Int):α:=l.getD i.toNat default
variable {l:List α} {i:Int}
theorem AI [Inhabited α] (e:0<=i) (g:i<l.length):AM l i=some (AB l i):=by
 unfold AM AB;rw [d1 e,List.getD_eq_getElem?_getD,List.getElem?_eq_getElem (by omega)]; rfl
variable {x:α}
theorem cQ (h:AM l i=some x):0<=i∧i<l.length∧l[i.toNat]?=some x:=by
 unfold AM at h;by_cases e:0<=i
 ·rw [d1 e] at h;have:=(List.getElem?_eq_some_iff.1 h).1;exact ⟨e,by omega,h⟩
 ·rw [d2 e] at h; cases h
theorem AP [Inhabited α] (e:0<=i) (g:i<l.length):AB l i∈l:=by
 have h:=AI e g;exact List.mem_of_getElem? (cQ h).2.2
theorem ED [Inhabited α] (h:x∈l):∃ i:Int,0<=i∧i<l.length∧AB l i=x:=by
 obtain ⟨n,e⟩:=List.getElem?_of_mem h;have g:=(List.getElem?_eq_some_iff.1 e).1;refine ⟨n,by omega,by omega,?_⟩;unfold AB;rw [List.getD_eq_getElem?_getD,Int.toNat_natCast,e]; rfl
theorem Kb [Inhabited α] {p:α->Bool}:l.any p=anyR (fun i=>p (AB l i)) 0 l.length:=by
 rw [Bool.eq_iff_iff,List.any_eq_true,IW];constructor
 ·rintro ⟨x,g,h⟩;obtain ⟨i,e,j,rfl⟩:=ED g;exact ⟨i,e,j,h⟩
 ·rintro ⟨i,g,h,e⟩;exact ⟨_,AP g h,e⟩
variable {b:Int}
theorem MS (e:0<=b) (g:b<=l.length):slc l 0 b=some (l.take b.toNat):=by
 unfold slc;rw [d1 ⟨⟨Int.le_refl _,e⟩,g⟩]; rfl
variable {a:Int}
theorem Qs (e:0<=a) (g:a<=l.length):slc l a l.length=some (l.drop a.toNat):=by
 unfold slc;rw [d1 ⟨⟨e,g⟩,Int.le_refl _⟩,Int.toNat_natCast,List.take_length]
variable {n:Nat}
theorem X3 [Inhabited α] (h:i.toNat<n):AB (l.take n) i=AB l i:=by
 unfold AB;rw [List.getD_eq_getElem?_getD,List.getD_eq_getElem?_getD,List.getElem?_take,d1 h]
theorem QB [Inhabited α] {p:α->Bool} (e:0<=b) (g:b<=l.length):(l.take b.toNat).any p=anyR (fun i=>p (AB l i)) 0 b:=by
 rw [Kb,d5,show ((min b.toNat l.length:Nat):Int)=b by omega];exact TQ (fun i h j=>by rw [X3 (by omega)])
variable {m:List α}
theorem B7 (h:l.length+m.length<=BM):B0 l m=some (l++m):=by
 unfold B0; rw [d1 h]
theorem Z8 [Inhabited α] (h:l.length=m.length) (e:∀ i:Int,0<=i->i<l.length->AB l i=AB m i):l=m:=by
 refine List.ext_getElem h (fun n g j=>?_);have:=e n (by omega) (by omega);unfold AB at this;simpa [List.getD_eq_getElem?_getD,Int.toNat_natCast,g,j] using this
theorem Uo [Inhabited α]:AB (l++m) i=if i.toNat<l.length then AB l i else m.getD (i.toNat - l.length) default:=by
 unfold AB;rw [List.getD_eq_getElem?_getD,List.getElem?_append];split <;> simp [List.getD_eq_getElem?_getD]
end lists
section wh
variable {σ ρ:Type}
inductive Mj (f:σ->Option (CZ σ ρ)):σ->σ ⊕ ρ->Prop where
 | next {s s':σ} {o:σ ⊕ ρ} (h:f s=some (.next s')) (k:Mj f s' o):Mj f s o
 | brk {s s':σ} (h:f s=some (.brk s')):Mj f s (.inl s')
 | ret {s:σ} {r:ρ} (h:f s=some (.ret r)):Mj f s (.inr r)
variable {s:σ} {o:σ ⊕ ρ}
theorem Mj.go {f:σ->Option (CZ σ ρ)} (h:Mj f s o):∃ N,∀ n,N<=n->Po f n s=some o:=by
 induction h with
 | next h k j=>
  obtain ⟨N,g⟩:=j;refine ⟨N+1,fun n e=>?_⟩;cases n with
  | zero=>omega
  | succ n=>rw [Po,h]; exact g n (by omega)
 | brk h=>
  refine ⟨1,fun n e=>?_⟩;cases n with
  | zero=>omega
  | succ n=>rw [Po,h]
 | ret h=>
  refine ⟨1,fun n e=>?_⟩;cases n with
  | zero=>omega
  | succ n=>rw [Po,h]
theorem Mj.eq {f:σ->Option (CZ σ ρ)} (h:Mj f s o):I7 f s=some o:=by
 obtain ⟨N,e⟩:=h.go;exact E9 N e
def cnt (i:Int) (c:Option (Int ⊕ ρ)):CZ Int ρ:=match c with
 | none=>.next (i+1)
 | some (.inl x)=>.brk x
 | some (.inr r)=>.ret r
theorem XW {f:Int->Option (CZ Int ρ)} (c:Int->Option (Int ⊕ ρ)):∀ (n:Nat) (a:Int),(∀ i,a<=i->i<a+n->(∀ j,a<=j->j<i->c j=none)->f i=some (cnt i (c i)))->f (a+n)=some (.brk (a+n))->Mj f a ((FH c n a).getD (.inl (a+n)))
 | 0,a,_,g=>by
  simp only [FH,Option.getD];exact .brk (by simpa using g)
 | n+1,a,h,g=>by
  have e:=h a (Int.le_refl _) (by omega) (fun j q t=>by omega);rw [FH];cases k:c a with
  | some r=>
   rw [k] at e;cases r with
   | inl x=>exact .brk e
   | inr r=>exact .ret e
  | none=>
   rw [k] at e;rw [show a+((n+1:Nat):Int)=a+1+n by omega] at g ⊢;refine .next e (XW c n (a+1) (fun i q t u=>h i (by omega) (by omega) (fun j y v=>?_)) g)
   by_cases w:j=a
   ·subst w; exact k
   ·exact u j (by omega) v
variable {a b:Int}
theorem P7 {f:Int->Option (CZ Int ρ)} (c:Int->Option (Int ⊕ ρ)) (g:a<=b) (h:∀ i,a<=i->i<b->(∀ j,a<=j->j<i->c j=none)->f i=some (cnt i (c i))) (k:f b=some (.brk b)):I7 f a=some ((fst c a b).getD (.inl b)):=by
 have e:a+((b - a).toNat:Int)=b:=by omega
 have:=XW c (b - a).toNat a (fun i q t r=>h i q (by omega) r) (by rw [e]; exact k);rw [e] at this;exact this.eq
end wh
section bytes
instance:LawfulBEq ByteArray where
 eq_of_beq {a b} h:=by
  cases a; cases b;exact congrArg ByteArray.mk (eq_of_beq (show ((_:Array UInt8)==_)=true from h))
 rfl {a}:=show (a.data==a.data)=true from beq_self_eq_true _
def bt (s:ByteArray) (i:Int):Int:=((s.data.toList.getD i.toNat 0).toNat:Int)
variable {i:Int}
theorem Oh {s:ByteArray} (g:0<=i) (h:i<s.size):sidx s i=some (bt s i):=by
 have e:i.toNat<s.data.size:=by
  have:s.size=s.data.size:=rfl;omega
 unfold sidx bt;rw [d1 g,getElem?_pos s i.toNat e];simp only [Option.map_some,List.getD_eq_getElem?_getD,Array.getElem?_toList,Array.getElem?_eq_getElem e,Option.getD_some];rfl
variable {a b:Int}
theorem Mf {s:ByteArray} (e:0<=a) (g:a<=b) (h:b<=s.size):sslc s a b=some (s.extract a.toNat b.toNat):=by
 unfold sslc; rw [d1 ⟨e,g,h⟩]
theorem Vg {s:ByteArray} (e:0<=a) (g:a<=b) (h:b<=s.size):((s.extract a.toNat b.toNat).size:Int)=b - a:=by
 rw [ByteArray.size_extract]; omega
end bytes
end Go.Sf
