/- Twins of what the kernel cannot reckon as it stands: sorting by structural recursion. -/
import Derived.Test.YtmaobfbhdkafkaaGreatFns
import Derived.Test.YtmaobfbhdkafkaaGreatSfEval
namespace Go.Sf.Sc
open Go Go.Sf
theorem LR {α:Type} (a:Option α):Le a a:=Le.refl a
theorem LB {α β:Type} {a b:Option α} {f g:α->Option β} (h:Le a b) (k:∀ x,Le (f x) (g x)):Le (a.bind f) (b.bind g):=Le.bind h k
theorem LI {α:Type} {c:Prop} [Decidable c] {a b a' b':Option α} (h:Le a b) (k:Le a' b'):Le (if c then a else a') (if c then b else b'):=Le.ite h k
theorem LT {σ ρ β:Type} {o p:Option (σ ⊕ ρ)} {k k':σ->Option β} {l l':ρ->Option β} (h:Le o p) (h1:∀ s,Le (k s) (k' s)) (h2:∀ v,Le (l v) (l' v)):Le (thenR o k l) (thenR p k' l'):=Le.thenR h h1 h2
theorem LA {σ:Type} {f g:Int->σ->Option σ} {a b:Int} {s:σ} (h:∀ i s,Le (f i s) (g i s)):Le (forA f a b s) (forA g a b s):=Le.forA h
theorem LF {σ ρ:Type} {f g:Int->σ->Option (Ctl σ ρ)} {a b:Int} {s:σ} (h:∀ i s,Le (f i s) (g i s)):Le (forR f a b s) (forR g a b s):=Le.forR h
theorem LW {σ ρ:Type} {f g:σ->Option (Ctl σ ρ)} {n:Nat} {s:σ} (h:∀ s,Le (f s) (g s)):Le (Go.Sf.whN n f s) (Go.Sf.whR g s):=Le.whN h
def ins (x:Int):List Int->List Int
 | []=>[x]
 | y::l=>if x<=y then x::y::l else y::ins x l
def isort:List Int->List Int
 | []=>[]
 | x::l=>ins x (isort l)
theorem ins_perm (x:Int):∀ l:List Int,(ins x l).Perm (x::l)
 | []=>List.Perm.refl _
 | y::l=>by
  unfold ins
  split
  ·exact List.Perm.refl _
  ·exact ((ins_perm x l).cons y).trans (List.Perm.swap x y l)
theorem isort_perm:∀ l:List Int,(isort l).Perm l
 | []=>List.Perm.refl _
 | x::l=>(ins_perm x (isort l)).trans ((isort_perm l).cons x)
theorem ins_sorted (x:Int):∀ l:List Int,l.Pairwise (·<=·)->(ins x l).Pairwise (·<=·)
 | [],_=>List.pairwise_singleton _ _
 | y::l,h=>by
  obtain ⟨h1,h2⟩:=List.pairwise_cons.1 h
  unfold ins
  split
  ·rename_i hxy
   refine List.pairwise_cons.2 ⟨fun z hz=>?_,h⟩
   rcases List.mem_cons.1 hz with rfl | hz
   ·exact hxy
   ·exact Int.le_trans hxy (h1 z hz)
  ·rename_i hxy
   refine List.pairwise_cons.2 ⟨fun z hz=>?_,ins_sorted x l h2⟩
   rcases List.mem_cons.1 ((ins_perm x l).mem_iff.1 hz) with rfl | hz
   ·omega
   ·exact h1 z hz
theorem isort_sorted:∀ l:List Int,(isort l).Pairwise (·<=·)
 | []=>List.Pairwise.nil
 | x::l=>ins_sorted x _ (isort_sorted l)
theorem merge_sorted (l:List Int):(l.mergeSort fun x y=>decide (x<=y)).Pairwise (·<=·):=by
 have:=List.pairwise_mergeSort (le:=fun (x y:Int)=>decide (x<=y)) (fun a b c h1 h2=>by simp at *; omega) (fun a b=>by simp; omega) l
 exact this.imp (fun h=>by simpa using h)
theorem isort_eq (l:List Int):(l.mergeSort fun x y=>decide (x<=y))=isort l:=
 List.Perm.eq_of_pairwise (le:=fun x y=>x<=y) (fun a b _ _ h1 h2=>Int.le_antisymm h1 h2) (merge_sorted l) (isort_sorted l) ((List.mergeSort_perm l _).trans (isort_perm l).symm)
def dupB:List Int->Bool
 | []=>false
 | x::l=>l.contains x||dupB l
theorem dupB_iff:∀ l:List Int,dupB l=false↔l.Nodup
 | []=>by simp [dupB]
 | x::l=>by
  rw [dupB,Bool.or_eq_false_iff,dupB_iff l,List.nodup_cons]
  simp
theorem compact_nodup {l:List Int} (hs:l.Pairwise (·<=·)):(Go.Lib.compact l).length=l.length↔l.Nodup:=by
 have e:(Go.Lib.compact l).length=l.length↔∀ j,j<l.length->Go.Lib.keeps l.toArray j=true:=by
  unfold Go.Lib.compact Go.Lib.compactUpTo
  rw [List.length_map]
  have:=List.length_filter_eq_length_iff (p:=Go.Lib.keeps l.toArray) (l:=List.range l.length)
  rw [List.length_range] at this
  rw [this]
  simp only [List.mem_range]
 have g:∀ j (hj:j<l.length),l.toArray[j]! = l[j]:=by
  intro j hj
  rw [getElem!_pos _ _ (by simpa using hj)]
  simp
 have hm:=List.pairwise_iff_getElem.1 hs
 rw [e]
 constructor
 ·intro h
  refine List.pairwise_iff_getElem.2 (fun i j h1 h2 hij heq=>?_)
  have hk:=h (i+1) (by omega)
  simp only [Go.Lib.keeps,decide_eq_true_eq,Nat.add_sub_cancel] at hk
  rw [g (i+1) (by omega),g i h1] at hk
  have hk:=hk.resolve_left (by omega)
  have a1:=hm i (i+1) h1 (by omega) (by omega)
  by_cases hj:j=i+1
  ·subst hj; exact hk heq.symm
  ·have a2:=hm (i+1) j (by omega) h2 (by omega)
   omega
 ·intro h j hj
  simp only [Go.Lib.keeps,decide_eq_true_eq]
  by_cases h0:j=0
  ·exact .inl h0
  ·right
   rw [g _ hj,g _ (by omega)]
   have:=List.pairwise_iff_getElem.1 h (j - 1) j (by omega) hj (by omega)
   exact fun e=>this e.symm
noncomputable def search_twicex (_N:Nat) (l:List Int):Option Bool:=if l.length<=4096 then some (dupB l) else none
theorem search_twice_x (N:Nat) (l:List Int):Le (search_twicex N l) (search_twice l):=by
 have e:decide ((Go.Lib.compact (l.mergeSort fun x y=>decide (x<=y))).length<l.length)=dupB l:=by
  have h1:=compact_nodup (merge_sorted l)
  have h2:=(List.mergeSort_perm l (fun x y=>decide (x<=y))).nodup_iff
  have h3:=dupB_iff l
  have h4:=Go.Lib.compact_length_le (l.mergeSort fun x y=>decide (x<=y))
  rw [List.length_mergeSort] at h1 h4
  cases hd:dupB l with
  | false=>
   have:=h1.2 (h2.2 (h3.1 hd))
   rw [decide_eq_false_iff_not]; omega
  | true=>
   rw [decide_eq_true_eq]
   have:(Go.Lib.compact (l.mergeSort fun x y=>decide (x<=y))).length≠l.length:=fun he=>by
    have:=h3.2 (h2.1 (h1.1 he))
    rw [hd] at this; cases this
   omega
 unfold search_twicex search_twice
 rw [e]
 exact Le.refl _
noncomputable def slices_Sort_intx (_N:Nat) (l:List Int):Option (List Int):=if l.length<=nmax then some (isort l) else none
theorem slices_Sort_int_x (N:Nat) (l:List Int):Le (slices_Sort_intx N l) (slices_Sort_int l):=by
 unfold slices_Sort_intx slices_Sort_int
 rw [isort_eq]
 exact Le.refl _
end Go.Sf.Sc
