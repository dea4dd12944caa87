/- Plain lemmas about the loops and lists of typed functions. No program, no memory. -/
import Derived.Test.YtlbmpkmkmkgniaaGreatDoorSfStep
namespace Go.Sf
theorem bs {α β:Type} (a:α) (f:α->Option β):(some a).bind f=f a:=rfl
section loops
variable {σ ρ:Type}
theorem G5 {f:Int->σ->Option (CY σ ρ)} {n:Nat} {i:Int} {s:σ}:forGo f (n+1) i s=(match f i s with
  | none=>none
  | some (.next s')=>forGo f n (i+1) s'
  | some (.brk s')=>some (.inl s')
  | some (.ret r)=>some (.inr r)):=rfl
def GB (c:Int->Option ρ):Nat->Int->Option ρ
 | 0,_=>none
 | n+1,i=>match c i with
  | some r=>some r
  | none=>GB c n (i+1)
def fst (c:Int->Option ρ) (a b:Int):Option ρ:=GB c (b - a).toNat a
def aW (o:Option ρ):Unit ⊕ ρ:=match o with
 | none=>.inl ()
 | some r=>.inr r
def Nz (o:Option ρ):CY Unit ρ:=match o with
 | none=>.next ()
 | some r=>.ret r
theorem Sx {f:Int->Unit->Option (CY Unit ρ)} (c:Int->Option ρ):∀ (n:Nat) (a:Int),
  (∀ i,a<=i->i<a+n->(∀ j,a<=j->j<i->c j=none)->f i ()=some (Nz (c i)))->forGo f n a ()=some (aW (GB c n a))
 | 0,_,_=>rfl
 | n+1,a,h=>by
  have h0:=h a (Int.le_refl _) (by omega) (fun j h1 h2=>by omega)
  rw [G5,h0,GB]
  cases hc:c a with
  | some r=>rfl
  | none=>
   simp only [Nz]
   refine Sx c n (a+1) (fun i h1 h2 h3=>h i (by omega) (by omega) (fun j h4 h5=>?_))
   by_cases hj:j=a
   ·subst hj; exact hc
   ·exact h3 j (by omega) h5
theorem DO {f:Int->Unit->Option (CY Unit ρ)} (c:Int->Option ρ) {a b:Int} (h:∀ i,a<=i->i<b->(∀ j,a<=j->j<i->c j=none)->f i ()=some (Nz (c i))):forR f a b ()=some (aW (fst c a b)):=by
 unfold forR fst
 refine Sx c _ a (fun i h1 h2 h3=>h i h1 (by omega) h3)
theorem OZ {c:Int->Option ρ}:∀ {n:Nat} {a:Int},GB c n a=none↔∀ i,a<=i->i<a+n->c i=none
 | 0,a=>by simp [GB]; intro i h1 h2; omega
 | n+1,a=>by
  rw [GB]
  constructor
  ·intro h
   cases hc:c a with
   | some r=>rw [hc] at h; cases h
   | none=>
    rw [hc] at h
    intro i h1 h2
    by_cases hi:i=a
    ·subst hi; exact hc
    ·exact (OZ.1 h) i (by omega) (by omega)
  ·intro h
   rw [h a (Int.le_refl _) (by omega)]
   exact OZ.2 (fun i h1 h2=>h i (by omega) (by omega))
theorem DF {c:Int->Option ρ} {a b:Int}:fst c a b=none↔∀ i,a<=i->i<b->c i=none:=by
 unfold fst
 rw [OZ]
 exact ⟨fun h i h1 h2=>h i h1 (by omega),fun h i h1 h2=>h i h1 (by omega)⟩
theorem QD {c d:Int->Option ρ}:∀ {n:Nat} {a:Int},(∀ i,a<=i->i<a+n->(∀ j,a<=j->j<i->c j=none)->c i=d i)->GB c n a=GB d n a
 | 0,_,_=>rfl
 | n+1,a,h=>by
  have h0:=h a (Int.le_refl _) (by omega) (fun j h1 h2=>by omega)
  rw [GB,GB,←h0]
  cases hc:c a with
  | some r=>rfl
  | none=>
   refine QD (fun i h1 h2 h3=>h i (by omega) (by omega) (fun j h4 h5=>?_))
   by_cases hj:j=a
   ·subst hj; exact hc
   ·exact h3 j (by omega) h5
theorem S1 {c d:Int->Option ρ} {a b:Int} (h:∀ i,a<=i->i<b->(∀ j,a<=j->j<i->c j=none)->c i=d i):fst c a b=fst d a b:=
 QD (fun i h1 h2 h3=>h i h1 (by omega) h3)
def anyR (p:Int->Bool) (a b:Int):Bool:=(fst (fun i=>if p i then some () else none) a b).isSome
theorem JF {p:Int->Bool} {a b:Int}:anyR p a b=true↔∃ i,a<=i∧i<b∧p i=true:=by
 unfold anyR
 rw [Option.isSome_iff_ne_none,ne_eq,DF]
 constructor
 ·intro h
  by_cases hx:∃ i,a<=i∧i<b∧p i=true
  ·exact hx
  ·exact (h (fun i h1 h2=>by
    rw [if_neg]; intro hp; exact hx ⟨i,h1,h2,hp⟩)).elim
 ·rintro ⟨i,h1,h2,h3⟩ h
  have:=h i h1 h2
  rw [if_pos h3] at this
  cases this
theorem EJ {p:Int->Bool} {a b:Int}:anyR p a b=false↔∀ i,a<=i->i<b->p i=false:=by
 rw [←Bool.not_eq_true,JF]
 constructor
 ·intro h i h1 h2
  rw [←Bool.not_eq_true]
  exact fun hp=>h ⟨i,h1,h2,hp⟩
 ·rintro h ⟨i,h1,h2,h3⟩
  rw [h i h1 h2] at h3
  cases h3
theorem Nd {p:Int->Bool} {a b:Int} {v:ρ}:fst (fun i=>if p i then some v else none) a b=if anyR p a b then some v else none:=by
 by_cases h:anyR p a b=true
 ·rw [if_pos h]
  have h2:fst (fun i=>if p i then some v else none) a b≠none:=by
   intro hn
   rw [DF] at hn
   obtain ⟨i,h1,h2,h3⟩:=JF.1 h
   have:=hn i h1 h2
   rw [if_pos h3] at this
   cases this
  unfold fst at h2 ⊢
  revert h2
  generalize (b - a).toNat=n
  intro h2
  clear h
  induction n generalizing a with
  | zero=>exact (h2 rfl).elim
  | succ n ih=>
   rw [GB] at h2 ⊢
   by_cases hp:p a=true
   ·simp [hp]
   ·simp [hp] at h2 ⊢
    exact ih h2
 ·rw [if_neg h]
  rw [Bool.not_eq_true,EJ] at h
  exact DF.2 (fun i h1 h2=>by simp [h i h1 h2])
theorem C7 {f:Int->Unit->Option (CY Unit ρ)} (p:Int->Bool) (v:ρ) {a b:Int} (h:∀ i,a<=i->i<b->(∀ j,a<=j->j<i->p j=false)->f i ()=some (if p i=true then .ret v else .next ())):forR f a b ()=some (if anyR p a b=true then .inr v else .inl ()):=by
 rw [DO (fun i=>if p i then some v else none),Nd]
 ·cases anyR p a b <;> rfl
 ·intro i h1 h2 h3
  rw [h i h1 h2 (fun j h4 h5=>by
   have:=h3 j h4 h5
   cases hp:p j
   ·rfl
   ·simp [hp] at this)]
  cases p i <;> rfl
theorem Qs {p q:Int->Bool} {a b:Int} (h:∀ i,a<=i->i<b->p i=q i):anyR p a b=anyR q a b:=by
 unfold anyR
 rw [S1 (fun i h1 h2 _=>by rw [h i h1 h2])]
theorem RX {f:Int->σ->Option σ} (I:Int->σ->Prop):∀ (n:Nat) (a:Int) (s:σ),I a s->(∀ i s,a<=i->i<a+n->I i s->∃ s',f i s=some s'∧I (i+1) s')->∃ s',forAGo f n a s=some s'∧I (a+n) s'
 | 0,a,s,h,_=>⟨s,rfl,by simpa using h⟩
 | n+1,a,s,h,hs=>by
  obtain ⟨s',h1,h2⟩:=hs a s (Int.le_refl _) (by omega) h
  obtain ⟨s'',h3,h4⟩:=RX I n (a+1) s' h2 (fun i s k1 k2=>hs i s (by omega) (by omega))
  refine ⟨s'',?_,by rw [show a+((n+1:Nat):Int)=a+1+n by omega]; exact h4⟩
  rw [forAGo,h1]; exact h3
theorem UE {f:Int->σ->Option σ} (I:Int->σ->Prop) {a b:Int} {s:σ} (hab:a<=b) (h0:I a s) (h:∀ i s,a<=i->i<b->I i s->∃ s',f i s=some s'∧I (i+1) s'):∃ s',forA f a b s=some s'∧I b s':=by
 obtain ⟨s',h1,h2⟩:=RX I (b - a).toNat a s h0 (fun i s k1 k2=>h i s k1 (by omega))
 exact ⟨s',h1,by rwa [show a+((b - a).toNat:Int)=b by omega] at h2⟩
theorem Hx {f:Int->σ->Option σ} (g:Int->σ) {a b:Int} {s:σ} (hab:a<=b) (h0:g a=s) (h:∀ i,a<=i->i<b->f i (g i)=some (g (i+1))):forA f a b s=some (g b):=by
 obtain ⟨s',h1,rfl⟩:=UE (fun i s=>s=g i) hab h0.symm (fun i s k1 k2 hs=>⟨g (i+1),by rw [hs]; exact h i k1 k2,rfl⟩)
 exact h1
theorem Sz {f:Int->σ->Option (CY σ ρ)} (I:Int->σ->Prop) (B:σ->Prop) (R:ρ->Prop):∀ (n:Nat) (a:Int) (s:σ),I a s ->
  (∀ i s,a<=i->i<a+n->I i s->(∃ s',f i s=some (.next s')∧I (i+1) s')∨(∃ s',f i s=some (.brk s')∧B s')∨∃ r,f i s=some (.ret r)∧R r) ->
  (∃ s',forGo f n a s=some (.inl s')∧(I (a+n) s'∨B s'))∨∃ r,forGo f n a s=some (.inr r)∧R r
 | 0,a,s,h,_=>.inl ⟨s,rfl,.inl (by simpa using h)⟩
 | n+1,a,s,h,hs=>by
  rw [G5]
  rcases hs a s (Int.le_refl _) (by omega) h with ⟨s',h1,h2⟩ | ⟨s',h1,h2⟩ | ⟨r,h1,h2⟩
  ·rw [h1]
   have:=Sz I B R n (a+1) s' h2 (fun i s k1 k2=>hs i s (by omega) (by omega))
   rw [show a+((n+1:Nat):Int)=a+1+n by omega]; exact this
  ·rw [h1]; exact .inl ⟨s',rfl,.inr h2⟩
  ·rw [h1]; exact .inr ⟨r,rfl,h2⟩
theorem UG {f:Int->σ->Option (CY σ ρ)} (I:Int->σ->Prop) (B:σ->Prop) (R:ρ->Prop) {a b:Int} {s:σ} (hab:a<=b) (h0:I a s)
  (h:∀ i s,a<=i->i<b->I i s->(∃ s',f i s=some (.next s')∧I (i+1) s')∨(∃ s',f i s=some (.brk s')∧B s')∨∃ r,f i s=some (.ret r)∧R r) :
  (∃ s',forR f a b s=some (.inl s')∧(I b s'∨B s'))∨∃ r,forR f a b s=some (.inr r)∧R r:=by
 have:=Sz I B R (b - a).toNat a s h0 (fun i s k1 k2=>h i s k1 (by omega))
 rwa [show a+((b - a).toNat:Int)=b by omega] at this
end loops
section lists
variable {α:Type}
def AB [Inhabited α] (l:List α) (i:Int):α:=l.getD i.toNat default
theorem AM [Inhabited α] {l:List α} {i:Int} (h0:0<=i) (h1:i<l.length):AL l i=some (AB l i):=by
 unfold AL AB
 rw [if_pos h0,List.getD_eq_getElem?_getD,List.getElem?_eq_getElem (by omega)]; rfl
theorem ZI {l:List α} {i:Int} {x:α} (h:AL l i=some x):0<=i∧i<l.length∧l[i.toNat]?=some x:=by
 unfold AL at h
 by_cases h0:0<=i
 ·rw [if_pos h0] at h
  have:=(List.getElem?_eq_some_iff.1 h).1
  exact ⟨h0,by omega,h⟩
 ·rw [if_neg h0] at h; cases h
theorem AV [Inhabited α] {l:List α} {i:Int} (h0:0<=i) (h1:i<l.length):AB l i∈l:=by
 have h:=AM h0 h1
 exact List.mem_of_getElem? (ZI h).2.2
theorem EX [Inhabited α] {l:List α} {x:α} (h:x∈l):∃ i:Int,0<=i∧i<l.length∧AB l i=x:=by
 obtain ⟨n,hn⟩:=List.getElem?_of_mem h
 have h1:=(List.getElem?_eq_some_iff.1 hn).1
 refine ⟨n,by omega,by omega,?_⟩
 unfold AB
 rw [List.getD_eq_getElem?_getD,Int.toNat_natCast,hn]; rfl
theorem JW [Inhabited α] {l:List α} {p:α->Bool}:l.any p=anyR (fun i=>p (AB l i)) 0 l.length:=by
 rw [Bool.eq_iff_iff,List.any_eq_true,JF]
 constructor
 ·rintro ⟨x,h1,h2⟩
  obtain ⟨i,h3,h4,rfl⟩:=EX h1
  exact ⟨i,h3,h4,h2⟩
 ·rintro ⟨i,h1,h2,h3⟩
  exact ⟨_,AV h1 h2,h3⟩
theorem L6 {l:List α} {b:Int} (h0:0<=b) (h1:b<=l.length):slc l 0 b=some (l.take b.toNat):=by
 unfold slc
 rw [if_pos ⟨⟨Int.le_refl _,h0⟩,h1⟩]; rfl
theorem ba [Inhabited α] {l:List α} {n:Nat} {i:Int} (h:i.toNat<n):AB (l.take n) i=AB l i:=by
 unfold AB
 rw [List.getD_eq_getElem?_getD,List.getD_eq_getElem?_getD,List.getElem?_take,if_pos h]
theorem OO [Inhabited α] {l:List α} {p:α->Bool} {b:Int} (h0:0<=b) (h1:b<=l.length):(l.take b.toNat).any p=anyR (fun i=>p (AB l i)) 0 b:=by
 rw [JW,List.length_take,show ((min b.toNat l.length:Nat):Int)=b by omega]
 exact Qs (fun i h2 h3=>by rw [ba (by omega)])
theorem DY {l m:List α} (h:l.length+m.length<=B9):CX l m=some (l++m):=by
 unfold CX; rw [if_pos h]
theorem Xh [Inhabited α] {l m:List α} (h:l.length=m.length) (h2:∀ i:Int,0<=i->i<l.length->AB l i=AB m i):l=m:=by
 refine List.ext_getElem h (fun n h1 h3=>?_)
 have:=h2 n (by omega) (by omega)
 unfold AB at this
 simpa [List.getD_eq_getElem?_getD,Int.toNat_natCast,h1,h3] using this
theorem Sg [Inhabited α] {l m:List α} {i:Int}:AB (l++m) i=if i.toNat<l.length then AB l i else m.getD (i.toNat - l.length) default:=by
 unfold AB
 rw [List.getD_eq_getElem?_getD,List.getElem?_append]
 split <;> simp [List.getD_eq_getElem?_getD]
end lists
section wh
variable {σ ρ:Type}
inductive Ls (f:σ->Option (CY σ ρ)):σ->σ ⊕ ρ->Prop where
 | next {s s':σ} {o:σ ⊕ ρ} (h:f s=some (.next s')) (k:Ls f s' o):Ls f s o
 | brk {s s':σ} (h:f s=some (.brk s')):Ls f s (.inl s')
 | ret {s:σ} {r:ρ} (h:f s=some (.ret r)):Ls f s (.inr r)
theorem Ls.go {f:σ->Option (CY σ ρ)} {s:σ} {o:σ ⊕ ρ} (h:Ls f s o):∃ N,∀ n,N<=n->N4 f n s=some o:=by
 induction h with
 | next h k ih=>
  obtain ⟨N,hN⟩:=ih
  refine ⟨N+1,fun n hn=>?_⟩
  cases n with
  | zero=>omega
  | succ n=>rw [N4,h]; exact hN n (by omega)
 | brk h=>
  refine ⟨1,fun n hn=>?_⟩
  cases n with
  | zero=>omega
  | succ n=>rw [N4,h]
 | ret h=>
  refine ⟨1,fun n hn=>?_⟩
  cases n with
  | zero=>omega
  | succ n=>rw [N4,h]
theorem Ls.eq {f:σ->Option (CY σ ρ)} {s:σ} {o:σ ⊕ ρ} (h:Ls f s o):JB f s=some o:=by
 obtain ⟨N,hN⟩:=h.go
 exact GY N hN
def cnt (i:Int) (c:Option (Int ⊕ ρ)):CY Int ρ:=match c with
 | none=>.next (i+1)
 | some (.inl x)=>.brk x
 | some (.inr r)=>.ret r
theorem VB {f:Int->Option (CY Int ρ)} (c:Int->Option (Int ⊕ ρ)):∀ (n:Nat) (a:Int),(∀ i,a<=i->i<a+n->(∀ j,a<=j->j<i->c j=none)->f i=some (cnt i (c i)))->f (a+n)=some (.brk (a+n))->Ls f a ((GB c n a).getD (.inl (a+n)))
 | 0,a,_,hb=>by
  simp only [GB,Option.getD]
  exact .brk (by simpa using hb)
 | n+1,a,h,hb=>by
  have h0:=h a (Int.le_refl _) (by omega) (fun j h1 h2=>by omega)
  rw [GB]
  cases hc:c a with
  | some r=>
   rw [hc] at h0
   cases r with
   | inl x=>exact .brk h0
   | inr r=>exact .ret h0
  | none=>
   rw [hc] at h0
   rw [show a+((n+1:Nat):Int)=a+1+n by omega] at hb ⊢
   refine .next h0 (VB c n (a+1) (fun i h1 h2 h3=>h i (by omega) (by omega) (fun j h4 h5=>?_)) hb)
   by_cases hj:j=a
   ·subst hj; exact hc
   ·exact h3 j (by omega) h5
theorem OL {f:Int->Option (CY Int ρ)} (c:Int->Option (Int ⊕ ρ)) {a b:Int} (hab:a<=b) (h:∀ i,a<=i->i<b->(∀ j,a<=j->j<i->c j=none)->f i=some (cnt i (c i))) (hb:f b=some (.brk b)):JB f a=some ((fst c a b).getD (.inl b)):=by
 have e:a+((b - a).toNat:Int)=b:=by omega
 have:=VB c (b - a).toNat a (fun i h1 h2 h3=>h i h1 (by omega) h3) (by rw [e]; exact hb)
 rw [e] at this
 exact this.eq
end wh
section bytes
instance:LawfulBEq ByteArray where
 eq_of_beq {a b} h:=by
  cases a; cases b
  exact congrArg ByteArray.mk (eq_of_beq (show ((_:Array UInt8)==_)=true from h))
 rfl {a}:=show (a.data==a.data)=true from beq_self_eq_true _
def bt (s:ByteArray) (i:Int):Int:=((s.data.toList.getD i.toNat 0).toNat:Int)
theorem M0 {s:ByteArray} {i:Int} (h0:0<=i) (h1:i<s.size):sidx s i=some (bt s i):=by
 have hlt:i.toNat<s.data.size:=by
  have:s.size=s.data.size:=rfl
  omega
 unfold sidx bt
 rw [if_pos h0,getElem?_pos s i.toNat hlt]
 simp only [Option.map_some,List.getD_eq_getElem?_getD,Array.getElem?_toList,Array.getElem?_eq_getElem hlt,Option.getD_some]
 rfl
theorem LA {s:ByteArray} {a b:Int} (h0:0<=a) (h1:a<=b) (h2:b<=s.size):sslc s a b=some (s.extract a.toNat b.toNat):=by
 unfold sslc; rw [if_pos ⟨h0,h1,h2⟩]
theorem Ta {s:ByteArray} {a b:Int} (h0:0<=a) (h1:a<=b) (h2:b<=s.size):((s.extract a.toNat b.toNat).size:Int)=b - a:=by
 rw [ByteArray.size_extract]; omega
end bytes
end Go.Sf
