/- Evaluation with fuel: what a text with bounded loops gives, the text gives. -/
import Derived.Test.YtlbmpkmkmkgniaaGreatDoorSfPl
namespace Go.Sf
def Le {α:Type} (a b:Option α):Prop:=∀ r,a=some r->b=some r
theorem Le.refl {α:Type} (a:Option α):Le a a:=fun _ h=>h
theorem Le.none {α:Type} (b:Option α):Le Option.none b:=fun _ h=>by cases h
theorem Le.bind {α β:Type} {a b:Option α} {f g:α->Option β} (h:Le a b) (k:∀ x,Le (f x) (g x)):Le (a.bind f) (b.bind g):=by
 intro r hr
 obtain ⟨x,h1,h2⟩:=Option.bind_eq_some_iff.1 hr
 rw [h x h1,Option.bind_some]
 exact k x r h2
theorem Le.ite {α:Type} {c:Prop} [Decidable c] {a b a' b':Option α} (h:Le a b) (k:Le a' b'):Le (if c then a else a') (if c then b else b'):=by
 by_cases hc:c
 ·rw [if_pos hc,if_pos hc]; exact h
 ·rw [if_neg hc,if_neg hc]; exact k
theorem Le.forAGo {σ:Type} {f g:Int->σ->Option σ} (h:∀ i s,Le (f i s) (g i s)):∀ (n:Nat) (i:Int) (s:σ),Le (forAGo f n i s) (forAGo g n i s)
 | 0,_,_=>Le.refl _
 | n+1,i,s=>by
  intro r hr
  unfold Go.Sf.forAGo at hr ⊢
  cases hf:f i s with
  | none=>rw [hf] at hr; cases hr
  | some s'=>
   rw [hf] at hr
   rw [h i s s' hf]
   exact Le.forAGo h n (i+1) s' r hr
theorem Le.forA {σ:Type} {f g:Int->σ->Option σ} {a b:Int} {s:σ} (h:∀ i s,Le (f i s) (g i s)):Le (forA f a b s) (forA g a b s):=Le.forAGo h _ _ _
theorem Le.forGo {σ ρ:Type} {f g:Int->σ->Option (CY σ ρ)} (h:∀ i s,Le (f i s) (g i s)):∀ (n:Nat) (i:Int) (s:σ),Le (forGo f n i s) (forGo g n i s)
 | 0,_,_=>Le.refl _
 | n+1,i,s=>by
  intro r hr
  unfold Go.Sf.forGo at hr ⊢
  cases hf:f i s with
  | none=>rw [hf] at hr; cases hr
  | some c=>
   rw [hf] at hr
   rw [h i s c hf]
   cases c with
   | next s'=>exact Le.forGo h n (i+1) s' r hr
   | brk s'=>exact hr
   | ret v=>exact hr
theorem Le.forR {σ ρ:Type} {f g:Int->σ->Option (CY σ ρ)} {a b:Int} {s:σ} (h:∀ i s,Le (f i s) (g i s)):Le (forR f a b s) (forR g a b s):=Le.forGo h _ _ _
theorem Le.thenR {σ ρ β:Type} {o p:Option (σ ⊕ ρ)} {k k':σ->Option β} {l l':ρ->Option β} (h:Le o p) (h1:∀ s,Le (k s) (k' s)) (h2:∀ v,Le (l v) (l' v)):Le (thenR o k l) (thenR p k' l'):=by
 intro r hr
 cases o with
 | none=>cases hr
 | some x=>
  rw [h x rfl]
  cases x with
  | inl s=>exact h1 s r hr
  | inr v=>exact h2 v r hr
theorem SA {σ ρ:Type} {f g:σ->Option (CY σ ρ)} (h:∀ s,Le (f s) (g s)):∀ (n:Nat) (s:σ) (o:σ ⊕ ρ),N4 f n s=some o->Ls g s o
 | 0,_,_,hr=>by cases hr
 | n+1,s,o,hr=>by
  unfold N4 at hr
  cases hf:f s with
  | none=>rw [hf] at hr; cases hr
  | some c=>
   rw [hf] at hr
   have hg:=h s c hf
   cases c with
   | next s'=>exact .next hg (SA h n s' o hr)
   | brk s'=>cases hr; exact .brk hg
   | ret v=>cases hr; exact .ret hg
abbrev eN (N:Nat):Ev:=⟨some N⟩
theorem LW {σ ρ:Type} {f g:σ->Option (CY σ ρ)} {N:Nat} {s:σ} (h:∀ s,Le (f s) (g s)):Le (@JB (eN N) _ _ f s) (@JB BX _ _ g s):=fun _ hr=>(SA h N s _ hr).eq
theorem LL {α:Type} {a:Option α} {g:Nat->Option α} (N:Nat) (h:∀ n,N<=n->Le a (g n)):Le a (@Hn BX _ g):=fun r hr=>GY N fun n hn=>h n hn r hr
class Mo {α:Type} (a b:Option α):Prop where
 le:Le a b
instance {α:Type} (a:Option α):Mo a a:=⟨Le.refl a⟩
theorem lx {P:Prop} (p:P:=by
 with_reducible repeat' first | exact Le.refl _ | exact Mo.le | refine Le.bind ?_ fun _=>?_ | refine Le.ite ?_ ?_ | refine Le.thenR ?_ (fun _=>?_) fun _=>?_ | refine Le.forA fun _ _=>?_ | refine Le.forR fun _ _=>?_ | refine LW fun _=>?_):P:=p
end Go.Sf
