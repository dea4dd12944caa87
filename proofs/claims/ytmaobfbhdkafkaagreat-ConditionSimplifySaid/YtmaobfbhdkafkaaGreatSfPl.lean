/- Plain lemmas about the loops and lists of typed functions. No program, no memory. -/
import Derived.Test.YtmaobfbhdkafkaaGreatSfStep
namespace Go.Sf
theorem bs {α β:Type} (a:α) (f:α->Option β):(some a).bind f=f a:=rfl
section loops
variable {σ ρ:Type}
theorem forGo_step {f:Int->σ->Option (Ctl σ ρ)} {n:Nat} {i:Int} {s:σ}:forGo f (n+1) i s=(match f i s with
  | none=>none
  | some (.next s')=>forGo f n (i+1) s'
  | some (.brk s')=>some (.inl s')
  | some (.ret r)=>some (.inr r)):=rfl
def fstGo (c:Int->Option ρ):Nat->Int->Option ρ
 | 0,_=>none
 | n+1,i=>match c i with
  | some r=>some r
  | none=>fstGo c n (i+1)
def fst (c:Int->Option ρ) (a b:Int):Option ρ:=fstGo c (b - a).toNat a
def ans (o:Option ρ):Unit ⊕ ρ:=match o with
 | none=>.inl ()
 | some r=>.inr r
def ansC (o:Option ρ):Ctl Unit ρ:=match o with
 | none=>.next ()
 | some r=>.ret r
theorem forGo_fst {f:Int->Unit->Option (Ctl Unit ρ)} (c:Int->Option ρ):∀ (n:Nat) (a:Int),
  (∀ i,a<=i->i<a+n->(∀ j,a<=j->j<i->c j=none)->f i ()=some (ansC (c i)))->forGo f n a ()=some (ans (fstGo c n a))
 | 0,_,_=>rfl
 | n+1,a,h=>by
  have h0:=h a (Int.le_refl _) (by omega) (fun j h1 h2=>by omega)
  rw [forGo_step,h0,fstGo]
  cases hc:c a with
  | some r=>rfl
  | none=>
   simp only [ansC]
   refine forGo_fst c n (a+1) (fun i h1 h2 h3=>h i (by omega) (by omega) (fun j h4 h5=>?_))
   by_cases hj:j=a
   ·subst hj; exact hc
   ·exact h3 j (by omega) h5
theorem forR_fst {f:Int->Unit->Option (Ctl Unit ρ)} (c:Int->Option ρ) {a b:Int} (h:∀ i,a<=i->i<b->(∀ j,a<=j->j<i->c j=none)->f i ()=some (ansC (c i))):forR f a b ()=some (ans (fst c a b)):=by
 unfold forR fst
 refine forGo_fst c _ a (fun i h1 h2 h3=>h i h1 (by omega) h3)
theorem fstGo_none {c:Int->Option ρ}:∀ {n:Nat} {a:Int},fstGo c n a=none↔∀ i,a<=i->i<a+n->c i=none
 | 0,a=>by simp [fstGo]; intro i h1 h2; omega
 | n+1,a=>by
  rw [fstGo]
  constructor
  ·intro h
   cases hc:c a with
   | some r=>rw [hc] at h; cases h
   | none=>
    rw [hc] at h
    intro i h1 h2
    by_cases hi:i=a
    ·subst hi; exact hc
    ·exact (fstGo_none.1 h) i (by omega) (by omega)
  ·intro h
   rw [h a (Int.le_refl _) (by omega)]
   exact fstGo_none.2 (fun i h1 h2=>h i (by omega) (by omega))
theorem fst_none {c:Int->Option ρ} {a b:Int}:fst c a b=none↔∀ i,a<=i->i<b->c i=none:=by
 unfold fst
 rw [fstGo_none]
 exact ⟨fun h i h1 h2=>h i h1 (by omega),fun h i h1 h2=>h i h1 (by omega)⟩
def anyR (p:Int->Bool) (a b:Int):Bool:=(fst (fun i=>if p i then some () else none) a b).isSome
theorem anyR_iff {p:Int->Bool} {a b:Int}:anyR p a b=true↔∃ i,a<=i∧i<b∧p i=true:=by
 unfold anyR
 rw [Option.isSome_iff_ne_none,ne_eq,fst_none]
 constructor
 ·intro h
  by_cases hx:∃ i,a<=i∧i<b∧p i=true
  ·exact hx
  ·exact (h (fun i h1 h2=>by
    rw [if_neg]; intro hp; exact hx ⟨i,h1,h2,hp⟩)).elim
 ·rintro ⟨i,h1,h2,h3⟩ h
  have:=h i h1 h2
  rw [if_pos h3] at this
  cases this
theorem anyR_false {p:Int->Bool} {a b:Int}:anyR p a b=false↔∀ i,a<=i->i<b->p i=false:=by
 rw [←Bool.not_eq_true,anyR_iff]
 constructor
 ·intro h i h1 h2
  rw [←Bool.not_eq_true]
  exact fun hp=>h ⟨i,h1,h2,hp⟩
 ·rintro h ⟨i,h1,h2,h3⟩
  rw [h i h1 h2] at h3
  cases h3
theorem fst_const {p:Int->Bool} {a b:Int} {v:ρ}:fst (fun i=>if p i then some v else none) a b=if anyR p a b then some v else none:=by
 by_cases h:anyR p a b=true
 ·rw [if_pos h]
  have h2:fst (fun i=>if p i then some v else none) a b≠none:=by
   intro hn
   rw [fst_none] at hn
   obtain ⟨i,h1,h2,h3⟩:=anyR_iff.1 h
   have:=hn i h1 h2
   rw [if_pos h3] at this
   cases this
  unfold fst at h2 ⊢
  revert h2
  generalize (b - a).toNat=n
  intro h2
  clear h
  induction n generalizing a with
  | zero=>exact (h2 rfl).elim
  | succ n ih=>
   rw [fstGo] at h2 ⊢
   by_cases hp:p a=true
   ·simp [hp]
   ·simp [hp] at h2 ⊢
    exact ih h2
 ·rw [if_neg h]
  rw [Bool.not_eq_true,anyR_false] at h
  exact fst_none.2 (fun i h1 h2=>by simp [h i h1 h2])
theorem forR_any {f:Int->Unit->Option (Ctl Unit ρ)} (p:Int->Bool) (v:ρ) {a b:Int} (h:∀ i,a<=i->i<b->(∀ j,a<=j->j<i->p j=false)->f i ()=some (if p i=true then .ret v else .next ())):forR f a b ()=some (if anyR p a b=true then .inr v else .inl ()):=by
 rw [forR_fst (fun i=>if p i then some v else none),fst_const]
 ·cases anyR p a b <;> rfl
 ·intro i h1 h2 h3
  rw [h i h1 h2 (fun j h4 h5=>by
   have:=h3 j h4 h5
   cases hp:p j
   ·rfl
   ·simp [hp] at this)]
  cases p i <;> rfl
theorem forAGo_inv {f:Int->σ->Option σ} (I:Int->σ->Prop):∀ (n:Nat) (a:Int) (s:σ),I a s->(∀ i s,a<=i->i<a+n->I i s->∃ s',f i s=some s'∧I (i+1) s')->∃ s',forAGo f n a s=some s'∧I (a+n) s'
 | 0,a,s,h,_=>⟨s,rfl,by simpa using h⟩
 | n+1,a,s,h,hs=>by
  obtain ⟨s',h1,h2⟩:=hs a s (Int.le_refl _) (by omega) h
  obtain ⟨s'',h3,h4⟩:=forAGo_inv I n (a+1) s' h2 (fun i s k1 k2=>hs i s (by omega) (by omega))
  refine ⟨s'',?_,by rw [show a+((n+1:Nat):Int)=a+1+n by omega]; exact h4⟩
  rw [forAGo,h1]; exact h3
theorem forA_inv {f:Int->σ->Option σ} (I:Int->σ->Prop) {a b:Int} {s:σ} (hab:a<=b) (h0:I a s) (h:∀ i s,a<=i->i<b->I i s->∃ s',f i s=some s'∧I (i+1) s'):∃ s',forA f a b s=some s'∧I b s':=by
 obtain ⟨s',h1,h2⟩:=forAGo_inv I (b - a).toNat a s h0 (fun i s k1 k2=>h i s k1 (by omega))
 exact ⟨s',h1,by rwa [show a+((b - a).toNat:Int)=b by omega] at h2⟩
theorem forA_fn {f:Int->σ->Option σ} (g:Int->σ) {a b:Int} {s:σ} (hab:a<=b) (h0:g a=s) (h:∀ i,a<=i->i<b->f i (g i)=some (g (i+1))):forA f a b s=some (g b):=by
 obtain ⟨s',h1,rfl⟩:=forA_inv (fun i s=>s=g i) hab h0.symm (fun i s k1 k2 hs=>⟨g (i+1),by rw [hs]; exact h i k1 k2,rfl⟩)
 exact h1
end loops
section lists
variable {α:Type}
def at' [Inhabited α] (l:List α) (i:Int):α:=l.getD i.toNat default
theorem idx_at [Inhabited α] {l:List α} {i:Int} (h0:0<=i) (h1:i<l.length):idx l i=some (at' l i):=by
 unfold idx at'
 rw [if_pos h0,List.getD_eq_getElem?_getD,List.getElem?_eq_getElem (by omega)]; rfl
theorem idx_some {l:List α} {i:Int} {x:α} (h:idx l i=some x):0<=i∧i<l.length∧l[i.toNat]?=some x:=by
 unfold idx at h
 by_cases h0:0<=i
 ·rw [if_pos h0] at h
  have:=(List.getElem?_eq_some_iff.1 h).1
  exact ⟨h0,by omega,h⟩
 ·rw [if_neg h0] at h; cases h
theorem at_mem [Inhabited α] {l:List α} {i:Int} (h0:0<=i) (h1:i<l.length):at' l i∈l:=by
 have h:=idx_at h0 h1
 exact List.mem_of_getElem? (idx_some h).2.2
theorem mem_at [Inhabited α] {l:List α} {x:α} (h:x∈l):∃ i:Int,0<=i∧i<l.length∧at' l i=x:=by
 obtain ⟨n,hn⟩:=List.getElem?_of_mem h
 have h1:=(List.getElem?_eq_some_iff.1 hn).1
 refine ⟨n,by omega,by omega,?_⟩
 unfold at'
 rw [List.getD_eq_getElem?_getD,Int.toNat_natCast,hn]; rfl
theorem any_at [Inhabited α] {l:List α} {p:α->Bool}:l.any p=anyR (fun i=>p (at' l i)) 0 l.length:=by
 rw [Bool.eq_iff_iff,List.any_eq_true,anyR_iff]
 constructor
 ·rintro ⟨x,h1,h2⟩
  obtain ⟨i,h3,h4,rfl⟩:=mem_at h1
  exact ⟨i,h3,h4,h2⟩
 ·rintro ⟨i,h1,h2,h3⟩
  exact ⟨_,at_mem h1 h2,h3⟩
theorem appC_some {l m:List α} (h:l.length+m.length<=nmax):appC l m=some (l++m):=by
 unfold appC; rw [if_pos h]
theorem at_ext [Inhabited α] {l m:List α} (h:l.length=m.length) (h2:∀ i:Int,0<=i->i<l.length->at' l i=at' m i):l=m:=by
 refine List.ext_getElem h (fun n h1 h3=>?_)
 have:=h2 n (by omega) (by omega)
 unfold at' at this
 simpa [List.getD_eq_getElem?_getD,Int.toNat_natCast,h1,h3] using this
end lists
section wh
variable {σ ρ:Type}
inductive WhEv (f:σ->Option (Ctl σ ρ)):σ->σ ⊕ ρ->Prop where
 | next {s s':σ} {o:σ ⊕ ρ} (h:f s=some (.next s')) (k:WhEv f s' o):WhEv f s o
 | brk {s s':σ} (h:f s=some (.brk s')):WhEv f s (.inl s')
 | ret {s:σ} {r:ρ} (h:f s=some (.ret r)):WhEv f s (.inr r)
theorem WhEv.go {f:σ->Option (Ctl σ ρ)} {s:σ} {o:σ ⊕ ρ} (h:WhEv f s o):∃ N,∀ n,N<=n->whGo f n s=some o:=by
 induction h with
 | next h k ih=>
  obtain ⟨N,hN⟩:=ih
  refine ⟨N+1,fun n hn=>?_⟩
  cases n with
  | zero=>omega
  | succ n=>rw [whGo,h]; exact hN n (by omega)
 | brk h=>
  refine ⟨1,fun n hn=>?_⟩
  cases n with
  | zero=>omega
  | succ n=>rw [whGo,h]
 | ret h=>
  refine ⟨1,fun n hn=>?_⟩
  cases n with
  | zero=>omega
  | succ n=>rw [whGo,h]
theorem WhEv.eq {f:σ->Option (Ctl σ ρ)} {s:σ} {o:σ ⊕ ρ} (h:WhEv f s o):whR f s=some o:=by
 obtain ⟨N,hN⟩:=h.go
 exact lim_eq N hN
def cnt (i:Int) (c:Option (Int ⊕ ρ)):Ctl Int ρ:=match c with
 | none=>.next (i+1)
 | some (.inl x)=>.brk x
 | some (.inr r)=>.ret r
end wh
section bytes
instance:LawfulBEq ByteArray where
 eq_of_beq {a b} h:=by
  cases a; cases b
  exact congrArg ByteArray.mk (eq_of_beq (show ((_:Array UInt8)==_)=true from h))
 rfl {a}:=show (a.data==a.data)=true from beq_self_eq_true _
def bt (s:ByteArray) (i:Int):Int:=((s.data.toList.getD i.toNat 0).toNat:Int)
end bytes
end Go.Sf
