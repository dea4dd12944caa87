/- Plain lemmas about the loops and lists of typed functions. No program, no memory. -/
import Derived.Test.YtlbmpkmkmkgniaaGreatDoorSfStep
set_option linter.all false
namespace Go.Sf
theorem bs {α β:Type} (a:α) (f:α->Option β):(some a).bind f=f a:=rfl
section loops
variable {σ ρ:Type}
theorem H4 {f:Int->σ->Option (CY σ ρ)} {n:Nat} {i:Int} {s:σ}:forGo f (n+1) i s=(match f i s with
  | none=>none
  | some (.next s')=>forGo f n (i+1) s'
  | some (.brk s')=>some (.inl s')
  | some (.ret r)=>some (.inr r)):=rfl
def HC (c:Int->Option ρ):Nat->Int->Option ρ
 | 0,_=>none
 | n+1,i=>match c i with
  | some r=>some r
  | none=>HC c n (i+1)
def fst (c:Int->Option ρ) (a b:Int):Option ρ:=HC c (b - a).toNat a
def eD (o:Option ρ):Unit ⊕ ρ:=match o with
 | none=>.inl ()
 | some r=>.inr r
def Pr (o:Option ρ):CY Unit ρ:=match o with
 | none=>.next ()
 | some r=>.ret r
theorem VD {f:Int->Unit->Option (CY Unit ρ)} (c:Int->Option ρ):∀ (n:Nat) (a:Int),
  (∀ i,a<=i->i<a+n->(∀ j,a<=j->j<i->c j=none)->f i ()=some (Pr (c i)))->forGo f n a ()=some (eD (HC c n a))
 | 0,_,_=>rfl
 | n+1,a,h=>by
  have k:=h a (Int.le_refl _) (by omega) (fun j b d=>by omega);rw [H4,k,HC];cases l:c a with
  | some r=>rfl
  | none=>
   simp only [Pr];refine VD c n (a+1) (fun i b d e=>h i (by omega) (by omega) (fun j o g=>?_));by_cases m:j=a
   ·subst m; exact l
   ·exact e j (by omega) g
theorem C7 {f:Int->Unit->Option (CY Unit ρ)} (c:Int->Option ρ) {a b:Int} (h:∀ i,a<=i->i<b->(∀ j,a<=j->j<i->c j=none)->f i ()=some (Pr (c i))):forR f a b ()=some (eD (fst c a b)):=by
 unfold forR fst;refine VD c _ a (fun i d g e=>h i d (by omega) e)
theorem QY {c:Int->Option ρ}:∀ {n:Nat} {a:Int},HC c n a=none↔∀ i,a<=i->i<a+n->c i=none
 | 0,a=>by simp [HC]; intro i d e; omega
 | n+1,a=>by
  rw [HC];constructor
  ·intro h;cases b:c a with
   | some r=>rw [b] at h; cases h
   | none=>
    rw [b] at h;intro i d e;by_cases hi:i=a
    ·subst hi; exact b
    ·exact (QY.1 h) i (by omega) (by omega)
  ·intro h;rw [h a (Int.le_refl _) (by omega)];exact QY.2 (fun i d e=>h i (by omega) (by omega))
theorem D9 {c:Int->Option ρ} {a b:Int}:fst c a b=none↔∀ i,a<=i->i<b->c i=none:=by
 unfold fst;rw [QY];exact ⟨fun h i d e=>h i d (by omega),fun h i d e=>h i d (by omega)⟩
theorem SQ {c d:Int->Option ρ}:∀ {n:Nat} {a:Int},(∀ i,a<=i->i<a+n->(∀ j,a<=j->j<i->c j=none)->c i=d i)->HC c n a=HC d n a
 | 0,_,_=>rfl
 | n+1,a,h=>by
  have k:=h a (Int.le_refl _) (by omega) (fun j b e=>by omega);rw [HC,HC,←k];cases l:c a with
  | some r=>rfl
  | none=>
   refine SQ (fun i b e f=>h i (by omega) (by omega) (fun j o g=>?_));by_cases m:j=a
   ·subst m; exact l
   ·exact f j (by omega) g
theorem aN {c d:Int->Option ρ} {a b:Int} (h:∀ i,a<=i->i<b->(∀ j,a<=j->j<i->c j=none)->c i=d i):fst c a b=fst d a b:=
 SQ (fun i e g f=>h i e (by omega) f)
def anyR (p:Int->Bool) (a b:Int):Bool:=(fst (fun i=>if p i then some () else none) a b).isSome
theorem IY {p:Int->Bool} {a b:Int}:anyR p a b=true↔∃ i,a<=i∧i<b∧p i=true:=by
 unfold anyR;rw [Option.isSome_iff_ne_none,ne_eq,D9];constructor
 ·intro h;by_cases e:∃ i,a<=i∧i<b∧p i=true
  ·exact e
  ·exact (h (fun i c d=>by
    rw [d2]; intro f; exact e ⟨i,c,d,f⟩)).elim
 ·rintro ⟨i,c,d,g⟩ h;have:=h i c d;rw [d1 g] at this;cases this
theorem E6 {p:Int->Bool} {a b:Int}:anyR p a b=false↔∀ i,a<=i->i<b->p i=false:=by
 rw [←Bool.not_eq_true,IY];constructor
 ·intro h i c d;rw [←Bool.not_eq_true];exact fun f=>h ⟨i,c,d,f⟩
 ·rintro h ⟨i,c,d,e⟩;rw [h i c d] at e;cases e
theorem PV {p:Int->Bool} {a b:Int} {v:ρ}:fst (fun i=>if p i then some v else none) a b=if anyR p a b then some v else none:=by
 by_cases h:anyR p a b=true
 ·rw [d1 h];have c:fst (fun i=>if p i then some v else none) a b≠none:=by
   intro e;rw [D9] at e;obtain ⟨i,d,c,g⟩:=IY.1 h;have:=e i d c;rw [d1 g] at this;cases this
  unfold fst at c ⊢;revert c;generalize (b - a).toNat=n;intro c;clear h
  induction n generalizing a with
  | zero=>exact (c rfl).elim
  | succ n j=>
   rw [HC] at c ⊢;by_cases f:p a=true
   ·simp [f]
   ·simp [f] at c ⊢;exact j c
 ·rw [d2 h];rw [Bool.not_eq_true,E6] at h;exact D9.2 (fun i d c=>by simp [h i d c])
theorem CR {f:Int->Unit->Option (CY Unit ρ)} (p:Int->Bool) (v:ρ) {a b:Int} (h:∀ i,a<=i->i<b->(∀ j,a<=j->j<i->p j=false)->f i ()=some (if p i=true then .ret v else .next ())):forR f a b ()=some (if anyR p a b=true then .inr v else .inl ()):=by
 rw [C7 (fun i=>if p i then some v else none),PV]
 ·cases anyR p a b <;> rfl
 ·intro i e g k;rw [h i e g (fun j c d=>by
   have:=k j c d;cases l:p j
   ·rfl
   ·simp [l] at this)]
  cases p i <;> rfl
theorem TZ {p q:Int->Bool} {a b:Int} (h:∀ i,a<=i->i<b->p i=q i):anyR p a b=anyR q a b:=by
 unfold anyR;rw [aN (fun i c d _=>by rw [h i c d])]
theorem Tt {f:Int->σ->Option σ} (I:Int->σ->Prop):∀ (n:Nat) (a:Int) (s:σ),I a s->(∀ i s,a<=i->i<a+n->I i s->∃ s',f i s=some s'∧I (i+1) s')->∃ s',forAGo f n a s=some s'∧I (a+n) s'
 | 0,a,s,h,_=>⟨s,rfl,by simpa using h⟩
 | n+1,a,s,h,c=>by
  obtain ⟨s',d,e⟩:=c a s (Int.le_refl _) (by omega) h;obtain ⟨b,g,j⟩:=Tt I n (a+1) s' e (fun i s k l=>c i s (by omega) (by omega));refine ⟨b,?_,by rw [show a+((n+1:Nat):Int)=a+1+n by omega]; exact j⟩;rw [forAGo,d]; exact g
theorem WW {f:Int->σ->Option σ} (I:Int->σ->Prop) {a b:Int} {s:σ} (c:a<=b) (d:I a s) (h:∀ i s,a<=i->i<b->I i s->∃ s',f i s=some s'∧I (i+1) s'):∃ s',forA f a b s=some s'∧I b s':=by
 obtain ⟨s',g,j⟩:=Tt I (b - a).toNat a s d (fun i s e k=>h i s e (by omega));exact ⟨s',g,by rwa [show a+((b - a).toNat:Int)=b by omega] at j⟩
theorem DO {f:Int->σ->Option σ} (g:Int->σ) {a b:Int} {s:σ} (c:a<=b) (d:g a=s) (h:∀ i,a<=i->i<b->f i (g i)=some (g (i+1))):forA f a b s=some (g b):=by
 obtain ⟨s',l,rfl⟩:=WW (fun i s=>s=g i) c d.symm (fun i s e j k=>⟨g (i+1),by rw [k]; exact h i e j,rfl⟩);exact l
theorem VE {f:Int->σ->Option (CY σ ρ)} (I:Int->σ->Prop) (B:σ->Prop) (R:ρ->Prop):∀ (n:Nat) (a:Int) (s:σ),I a s ->
  (∀ i s,a<=i->i<a+n->I i s->(∃ s',f i s=some (.next s')∧I (i+1) s')∨(∃ s',f i s=some (.brk s')∧B s')∨∃ r,f i s=some (.ret r)∧R r) ->
  (∃ s',forGo f n a s=some (.inl s')∧(I (a+n) s'∨B s'))∨∃ r,forGo f n a s=some (.inr r)∧R r
 | 0,a,s,h,_=>.inl ⟨s,rfl,.inl (by simpa using h)⟩
 | n+1,a,s,h,d=>by
  rw [H4];rcases d a s (Int.le_refl _) (by omega) h with ⟨s',b,c⟩ | ⟨s',b,c⟩ | ⟨r,b,c⟩
  ·rw [b];have:=VE I B R n (a+1) s' c (fun i s e g=>d i s (by omega) (by omega));rw [show a+((n+1:Nat):Int)=a+1+n by omega]; exact this
  ·rw [b]; exact .inl ⟨s',rfl,.inr c⟩
  ·rw [b]; exact .inr ⟨r,rfl,c⟩
theorem WY {f:Int->σ->Option (CY σ ρ)} (I:Int->σ->Prop) (B:σ->Prop) (R:ρ->Prop) {a b:Int} {s:σ} (c:a<=b) (d:I a s)
  (h:∀ i s,a<=i->i<b->I i s->(∃ s',f i s=some (.next s')∧I (i+1) s')∨(∃ s',f i s=some (.brk s')∧B s')∨∃ r,f i s=some (.ret r)∧R r) :
  (∃ s',forR f a b s=some (.inl s')∧(I b s'∨B s'))∨∃ r,forR f a b s=some (.inr r)∧R r:=by
 have:=VE I B R (b - a).toNat a s d (fun i s e g=>h i s e (by omega))
 rwa [show a+((b - a).toNat:Int)=b by omega] at this
end loops
section lists
variable {α:Type}
def AB [Inhabited α] (l:List α) (i:Int):α:=l.getD i.toNat default
theorem AI [Inhabited α] {l:List α} {i:Int} (a:0<=i) (b:i<l.length):AM l i=some (AB l i):=by
 unfold AM AB;rw [d1 a,List.getD_eq_getElem?_getD,List.getElem?_eq_getElem (by omega)]; rfl
theorem cV {l:List α} {i:Int} {x:α} (h:AM l i=some x):0<=i∧i<l.length∧l[i.toNat]?=some x:=by
 unfold AM at h;by_cases a:0<=i
 ·rw [d1 a] at h;have:=(List.getElem?_eq_some_iff.1 h).1;exact ⟨a,by omega,h⟩
 ·rw [d2 a] at h; cases h
theorem AQ [Inhabited α] {l:List α} {i:Int} (a:0<=i) (b:i<l.length):AB l i∈l:=by
 have h:=AI a b;exact List.mem_of_getElem? (cV h).2.2
theorem EH [Inhabited α] {l:List α} {x:α} (h:x∈l):∃ i:Int,0<=i∧i<l.length∧AB l i=x:=by
 obtain ⟨n,a⟩:=List.getElem?_of_mem h;have b:=(List.getElem?_eq_some_iff.1 a).1;refine ⟨n,by omega,by omega,?_⟩;unfold AB;rw [List.getD_eq_getElem?_getD,Int.toNat_natCast,a]; rfl
theorem Kd [Inhabited α] {l:List α} {p:α->Bool}:l.any p=anyR (fun i=>p (AB l i)) 0 l.length:=by
 rw [Bool.eq_iff_iff,List.any_eq_true,IY];constructor
 ·rintro ⟨x,b,c⟩;obtain ⟨i,a,d,rfl⟩:=EH b;exact ⟨i,a,d,c⟩
 ·rintro ⟨i,b,c,a⟩;exact ⟨_,AQ b c,a⟩
theorem MV {l:List α} {b:Int} (a:0<=b) (c:b<=l.length):slc l 0 b=some (l.take b.toNat):=by
 unfold slc;rw [d1 ⟨⟨Int.le_refl _,a⟩,c⟩]; rfl
theorem O9 {l:List α} {a:Int} (b:0<=a) (c:a<=l.length):slc l a l.length=some (l.drop a.toNat):=by
 unfold slc;rw [d1 ⟨⟨b,c⟩,Int.le_refl _⟩,Int.toNat_natCast,List.take_length]
theorem X4 [Inhabited α] {l:List α} {n:Nat} {i:Int} (h:i.toNat<n):AB (l.take n) i=AB l i:=by
 unfold AB;rw [List.getD_eq_getElem?_getD,List.getD_eq_getElem?_getD,List.getElem?_take,d1 h]
theorem QM [Inhabited α] {l:List α} {p:α->Bool} {b:Int} (a:0<=b) (c:b<=l.length):(l.take b.toNat).any p=anyR (fun i=>p (AB l i)) 0 b:=by
 rw [Kd,d5,show ((min b.toNat l.length:Nat):Int)=b by omega];exact TZ (fun i d e=>by rw [X4 (by omega)])
theorem CF {l m:List α} (h:l.length+m.length<=BN):BV l m=some (l++m):=by
 unfold BV; rw [d1 h]
theorem aC [Inhabited α] {l m:List α} (h:l.length=m.length) (a:∀ i:Int,0<=i->i<l.length->AB l i=AB m i):l=m:=by
 refine List.ext_getElem h (fun n b c=>?_);have:=a n (by omega) (by omega);unfold AB at this;simpa [List.getD_eq_getElem?_getD,Int.toNat_natCast,b,c] using this
theorem Ux [Inhabited α] {l m:List α} {i:Int}:AB (l++m) i=if i.toNat<l.length then AB l i else m.getD (i.toNat - l.length) default:=by
 unfold AB;rw [List.getD_eq_getElem?_getD,List.getElem?_append];split <;> simp [List.getD_eq_getElem?_getD]
end lists
section wh
variable {σ ρ:Type}
inductive Mp (f:σ->Option (CY σ ρ)):σ->σ ⊕ ρ->Prop where
 | next {s s':σ} {o:σ ⊕ ρ} (h:f s=some (.next s')) (k:Mp f s' o):Mp f s o
 | brk {s s':σ} (h:f s=some (.brk s')):Mp f s (.inl s')
 | ret {s:σ} {r:ρ} (h:f s=some (.ret r)):Mp f s (.inr r)
theorem Mp.go {f:σ->Option (CY σ ρ)} {s:σ} {o:σ ⊕ ρ} (h:Mp f s o):∃ N,∀ n,N<=n->Pz f n s=some o:=by
 induction h with
 | next h k c=>
  obtain ⟨N,b⟩:=c;refine ⟨N+1,fun n a=>?_⟩;cases n with
  | zero=>omega
  | succ n=>rw [Pz,h]; exact b n (by omega)
 | brk h=>
  refine ⟨1,fun n a=>?_⟩;cases n with
  | zero=>omega
  | succ n=>rw [Pz,h]
 | ret h=>
  refine ⟨1,fun n a=>?_⟩;cases n with
  | zero=>omega
  | succ n=>rw [Pz,h]
theorem Mp.eq {f:σ->Option (CY σ ρ)} {s:σ} {o:σ ⊕ ρ} (h:Mp f s o):It f s=some o:=by
 obtain ⟨N,a⟩:=h.go;exact FJ N a
def cnt (i:Int) (c:Option (Int ⊕ ρ)):CY Int ρ:=match c with
 | none=>.next (i+1)
 | some (.inl x)=>.brk x
 | some (.inr r)=>.ret r
theorem Xa {f:Int->Option (CY Int ρ)} (c:Int->Option (Int ⊕ ρ)):∀ (n:Nat) (a:Int),(∀ i,a<=i->i<a+n->(∀ j,a<=j->j<i->c j=none)->f i=some (cnt i (c i)))->f (a+n)=some (.brk (a+n))->Mp f a ((HC c n a).getD (.inl (a+n)))
 | 0,a,_,d=>by
  simp only [HC,Option.getD];exact .brk (by simpa using d)
 | n+1,a,h,d=>by
  have b:=h a (Int.le_refl _) (by omega) (fun j g k=>by omega);rw [HC];cases e:c a with
  | some r=>
   rw [e] at b;cases r with
   | inl x=>exact .brk b
   | inr r=>exact .ret b
  | none=>
   rw [e] at b;rw [show a+((n+1:Nat):Int)=a+1+n by omega] at d ⊢;refine .next b (Xa c n (a+1) (fun i g k l=>h i (by omega) (by omega) (fun j p m=>?_)) d)
   by_cases o:j=a
   ·subst o; exact e
   ·exact l j (by omega) m
theorem QJ {f:Int->Option (CY Int ρ)} (c:Int->Option (Int ⊕ ρ)) {a b:Int} (d:a<=b) (h:∀ i,a<=i->i<b->(∀ j,a<=j->j<i->c j=none)->f i=some (cnt i (c i))) (g:f b=some (.brk b)):It f a=some ((fst c a b).getD (.inl b)):=by
 have e:a+((b - a).toNat:Int)=b:=by omega
 have:=Xa c (b - a).toNat a (fun i k m l=>h i k (by omega) l) (by rw [e]; exact g);rw [e] at this;exact this.eq
end wh
section bytes
instance:LawfulBEq ByteArray where
 eq_of_beq {a b} h:=by
  cases a; cases b;exact congrArg ByteArray.mk (eq_of_beq (show ((_:Array UInt8)==_)=true from h))
 rfl {a}:=show (a.data==a.data)=true from beq_self_eq_true _
def bt (s:ByteArray) (i:Int):Int:=((s.data.toList.getD i.toNat 0).toNat:Int)
theorem Ol {s:ByteArray} {i:Int} (b:0<=i) (c:i<s.size):sidx s i=some (bt s i):=by
 have a:i.toNat<s.data.size:=by
  have:s.size=s.data.size:=rfl;omega
 unfold sidx bt;rw [d1 b,getElem?_pos s i.toNat a];simp only [Option.map_some,List.getD_eq_getElem?_getD,Array.getElem?_toList,Array.getElem?_eq_getElem a,Option.getD_some];rfl
theorem Mj {s:ByteArray} {a b:Int} (c:0<=a) (d:a<=b) (e:b<=s.size):sslc s a b=some (s.extract a.toNat b.toNat):=by
 unfold sslc; rw [d1 ⟨c,d,e⟩]
theorem Vt {s:ByteArray} {a b:Int} (c:0<=a) (d:a<=b) (e:b<=s.size):((s.extract a.toNat b.toNat).size:Int)=b - a:=by
 rw [ByteArray.size_extract]; omega
end bytes
end Go.Sf
