/- Evaluation with fuel: what a text with bounded loops gives, the text gives. -/
import Derived.Test.YtlbmpkmkmkgniaaGreatDoorSfPl
set_option linter.all false
namespace Go.Sf
def Le {α:Type} (a b:Option α):Prop:=∀ r,a=some r->b=some r
theorem Le.refl {α:Type} (a:Option α):Le a a:=fun _ h=>h
theorem Le.none {α:Type} (b:Option α):Le Option.none b:=fun _ h=>by cases h
theorem Le.bind {α β:Type} {a b:Option α} {f g:α->Option β} (h:Le a b) (k:∀ x,Le (f x) (g x)):Le (a.bind f) (b.bind g):=by
 intro r c;obtain ⟨x,d,e⟩:=Option.bind_eq_some_iff.1 c;rw [h x d,Option.bind_some];exact k x r e
theorem Le.ite {α:Type} {c:Prop} [Decidable c] {a b e f:Option α} (h:Le a b) (k:Le e f):Le (if c then a else e) (if c then b else f):=by
 by_cases d:c
 ·rw [d1 d,d1 d]; exact h
 ·rw [d2 d,d2 d]; exact k
theorem Le.forAGo {σ:Type} {f g:Int->σ->Option σ} (h:∀ i s,Le (f i s) (g i s)):∀ (n:Nat) (i:Int) (s:σ),Le (forAGo f n i s) (forAGo g n i s)
 | 0,_,_=>Le.refl _
 | n+1,i,s=>by
  intro r a;unfold Go.Sf.forAGo at a ⊢;cases b:f i s with
  | none=>rw [b] at a; cases a
  | some s'=>
   rw [b] at a;rw [h i s s' b];exact Le.forAGo h n (i+1) s' r a
theorem Le.forA {σ:Type} {f g:Int->σ->Option σ} {a b:Int} {s:σ} (h:∀ i s,Le (f i s) (g i s)):Le (forA f a b s) (forA g a b s):=Le.forAGo h _ _ _
theorem Le.forGo {σ ρ:Type} {f g:Int->σ->Option (CY σ ρ)} (h:∀ i s,Le (f i s) (g i s)):∀ (n:Nat) (i:Int) (s:σ),Le (forGo f n i s) (forGo g n i s)
 | 0,_,_=>Le.refl _
 | n+1,i,s=>by
  intro r a;unfold Go.Sf.forGo at a ⊢;cases b:f i s with
  | none=>rw [b] at a; cases a
  | some c=>
   rw [b] at a;rw [h i s c b];cases c with
   | next s'=>exact Le.forGo h n (i+1) s' r a
   | brk s'=>exact a
   | ret v=>exact a
theorem Le.forR {σ ρ:Type} {f g:Int->σ->Option (CY σ ρ)} {a b:Int} {s:σ} (h:∀ i s,Le (f i s) (g i s)):Le (forR f a b s) (forR g a b s):=Le.forGo h _ _ _
theorem Le.thenR {σ ρ β:Type} {o p:Option (σ ⊕ ρ)} {k b:σ->Option β} {l c:ρ->Option β} (h:Le o p) (d:∀ s,Le (k s) (b s)) (e:∀ v,Le (l v) (c v)):Le (thenR o k l) (thenR p b c):=by
 intro r a;cases o with
 | none=>cases a
 | some x=>
  rw [h x rfl];cases x with
  | inl s=>exact d s r a
  | inr v=>exact e v r a
theorem UW {σ ρ:Type} {f g:σ->Option (CY σ ρ)} (h:∀ s,Le (f s) (g s)):∀ (n:Nat) (s:σ) (o:σ ⊕ ρ),Pz f n s=some o->Mp g s o
 | 0,_,_,a=>by cases a
 | n+1,s,o,a=>by
  unfold Pz at a;cases b:f s with
  | none=>rw [b] at a; cases a
  | some c=>
   rw [b] at a;have d:=h s c b;cases c with
   | next s'=>exact .next d (UW h n s' o a)
   | brk s'=>cases a; exact .brk d
   | ret v=>cases a; exact .ret d
abbrev eN (N:Nat):Ev:=⟨some N⟩
theorem LW {σ ρ:Type} {f g:σ->Option (CY σ ρ)} {N:Nat} {s:σ} (h:∀ s,Le (f s) (g s)):Le (@It (eN N) _ _ f s) (@It B8 _ _ g s):=fun _ a=>(UW h N s _ a).eq
theorem LL {α:Type} {a:Option α} {g:Nat->Option α} (N:Nat) (h:∀ n,N<=n->Le a (g n)):Le a (@Hu B8 _ g):=fun r b=>FJ N fun n c=>h n c r b
class Mo {α:Type} (a b:Option α):Prop where
 le:Le a b
instance {α:Type} (a:Option α):Mo a a:=⟨Le.refl a⟩
theorem lx {P:Prop} (p:P:=by
 with_reducible repeat' first | exact Le.refl _ | exact Mo.le | refine Le.bind ?_ fun _=>?_ | refine Le.ite ?_ ?_ | refine Le.thenR ?_ (fun _=>?_) fun _=>?_ | refine Le.forA fun _ _=>?_ | refine Le.forR fun _ _=>?_ | refine LW fun _=>?_):P:=p
end Go.Sf
