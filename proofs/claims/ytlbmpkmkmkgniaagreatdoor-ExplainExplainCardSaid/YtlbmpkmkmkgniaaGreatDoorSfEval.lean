/- Evaluation with fuel: what a text with bounded loops gives, the text gives. -/
import Derived.Test.YtlbmpkmkmkgniaaGreatDoorSfPl
set_option linter.all false
namespace Go.Sf
def Le {α:Type} (a b:Option α):Prop:=∀ r,a=some r->b=some r
variable {α:Type}
theorem Le.refl (a:Option α):Le a a:=fun _ h=>h
theorem Le.none (b:Option α):Le Option.none b:=fun _ h=>by cases h
variable {β:Type} {a b:Option α}
theorem Le.bind {f g:α->Option β} (h:Le a b) (k:∀ x,Le (f x) (g x)):Le (a.bind f) (b.bind g):=by
 intro r c;obtain ⟨x,d,e⟩:=Option.bind_eq_some_iff.1 c;rw [h x d,Option.bind_some];exact k x r e
theorem Le.ite {c:Prop} [Decidable c] {a b e i:Option α} (h:Le a b) (k:Le e i):Le (if c then a else e) (if c then b else i):=by
 by_cases d:c
 ·rw [d1 d,d1 d]; exact h
 ·rw [d2 d,d2 d]; exact k
variable {σ:Type} {f g:Int->σ->Option σ}
theorem Le.forAGo (h:∀ i s,Le (f i s) (g i s)):∀ (n:Nat) (i:Int) (s:σ),Le (forAGo f n i s) (forAGo g n i s)
 | 0,_,_=>Le.refl _
 | n+1,i,s=>by
  intro r c;unfold Go.Sf.forAGo at c ⊢;cases d:f i s with
  | none=>rw [d] at c; cases c
  | some s'=>
   rw [d] at c;rw [h i s s' d];exact Le.forAGo h n (i+1) s' r c
variable {s:σ}
theorem Le.forA {a b:Int} (h:∀ i s,Le (f i s) (g i s)):Le (forA f a b s) (forA g a b s):=Le.forAGo h _ _ _
variable {ρ:Type}
theorem Le.forGo {f g:Int->σ->Option (CZ σ ρ)} (h:∀ i s,Le (f i s) (g i s)):∀ (n:Nat) (i:Int) (s:σ),Le (forGo f n i s) (forGo g n i s)
 | 0,_,_=>Le.refl _
 | n+1,i,s=>by
  intro r d;unfold Go.Sf.forGo at d ⊢;cases e:f i s with
  | none=>rw [e] at d; cases d
  | some c=>
   rw [e] at d;rw [h i s c e];cases c with
   | next s'=>exact Le.forGo h n (i+1) s' r d
   | brk s'=>exact d
   | ret v=>exact d
theorem Le.forR {f g:Int->σ->Option (CZ σ ρ)} {a b:Int} (h:∀ i s,Le (f i s) (g i s)):Le (forR f a b s) (forR g a b s):=Le.forGo h _ _ _
theorem Le.thenR {o p:Option (σ ⊕ ρ)} {k d:σ->Option β} {l e:ρ->Option β} (h:Le o p) (i:∀ s,Le (k s) (d s)) (j:∀ v,Le (l v) (e v)):Le (thenR o k l) (thenR p d e):=by
 intro r c;cases o with
 | none=>cases c
 | some x=>
  rw [h x rfl];cases x with
  | inl s=>exact i s r c
  | inr v=>exact j v r c
theorem UM {f g:σ->Option (CZ σ ρ)} (h:∀ s,Le (f s) (g s)):∀ (n:Nat) (s:σ) (o:σ ⊕ ρ),Po f n s=some o->Mj g s o
 | 0,_,_,d=>by cases d
 | n+1,s,o,d=>by
  unfold Po at d;cases e:f s with
  | none=>rw [e] at d; cases d
  | some c=>
   rw [e] at d;have i:=h s c e;cases c with
   | next s'=>exact .next i (UM h n s' o d)
   | brk s'=>cases d; exact .brk i
   | ret v=>cases d; exact .ret i
abbrev eN (N:Nat):Ev:=⟨some N⟩
theorem LW {f g:σ->Option (CZ σ ρ)} {N:Nat} (h:∀ s,Le (f s) (g s)):Le (@I7 (eN N) _ _ f s) (@I7 B9 _ _ g s):=fun _ c=>(UM h N s _ c).eq
theorem LL {g:Nat->Option α} (N:Nat) (h:∀ n,N<=n->Le a (g n)):Le a (@HH B9 _ g):=fun r c=>E9 N fun n d=>h n d r c
class Mo {α:Type} (a b:Option α):Prop where
 le:Le a b
instance {α:Type} (a:Option α):Mo a a:=⟨Le.refl a⟩
theorem lx {P:Prop} (p:P:=by
 with_reducible repeat' first | exact Le.refl _ | exact Mo.le | refine Le.bind ?_ fun _=>?_ | refine Le.ite ?_ ?_ | refine Le.thenR ?_ (fun _=>?_) fun _=>?_ | refine Le.forA fun _ _=>?_ | refine Le.forR fun _ _=>?_ | refine LW fun _=>?_):P:=p
end Go.Sf
