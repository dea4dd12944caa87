/- Sorting by structural recursion: what the kernel can reckon. -/
import Derived.Test.YtlbmpkmkmkgniaaGreatDoorSfLib
namespace Go.Sf
def ins (x:Int):List Int->List Int
 | []=>[x]
 | y::l=>if x<=y then x::y::l else y::ins x l
def Nh:List Int->List Int
 | []=>[]
 | x::l=>ins x (Nh l)
theorem Qd (x:Int):∀ l:List Int,(ins x l).Perm (x::l)
 | []=>List.Perm.refl _
 | y::l=>by
  unfold ins
  split
  ·exact List.Perm.refl _
  ·exact ((Qd x l).cons y).trans (List.Perm.swap x y l)
theorem Mp:∀ l:List Int,(Nh l).Perm l
 | []=>List.Perm.refl _
 | x::l=>(Qd x (Nh l)).trans ((Mp l).cons x)
theorem Rf (x:Int):∀ l:List Int,l.Pairwise (·<=·)->(ins x l).Pairwise (·<=·)
 | [],_=>List.pairwise_singleton _ _
 | y::l,h=>by
  obtain ⟨h1,h2⟩:=List.pairwise_cons.1 h
  unfold ins
  split
  ·rename_i hxy
   refine List.pairwise_cons.2 ⟨fun z hz=>?_,h⟩
   rcases List.mem_cons.1 hz with rfl | hz
   ·exact hxy
   ·exact Int.le_trans hxy (h1 z hz)
  ·rename_i hxy
   refine List.pairwise_cons.2 ⟨fun z hz=>?_,Rf x l h2⟩
   rcases List.mem_cons.1 ((Qd x l).mem_iff.1 hz) with rfl | hz
   ·omega
   ·exact h1 z hz
theorem NG:∀ l:List Int,(Nh l).Pairwise (·<=·)
 | []=>List.Pairwise.nil
 | x::l=>Rf x _ (NG l)
theorem Pb (l:List Int):(l.mergeSort fun x y=>decide (x<=y)).Pairwise (·<=·):=by
 have:=List.pairwise_mergeSort (le:=fun (x y:Int)=>decide (x<=y)) (fun a b c h1 h2=>by simp at *; omega) (fun a b=>by simp; omega) l
 exact this.imp (fun h=>by simpa using h)
theorem ZO (l:List Int):(l.mergeSort fun x y=>decide (x<=y))=Nh l:=
 List.Perm.eq_of_pairwise (le:=fun x y=>x<=y) (fun a b _ _ h1 h2=>Int.le_antisymm h1 h2) (Pb l) (NG l) ((List.mergeSort_perm l _).trans (Mp l).symm)
def dupB:List Int->Bool
 | []=>false
 | x::l=>l.contains x||dupB l
theorem QT:∀ l:List Int,dupB l=false↔l.Nodup
 | []=>by simp [dupB]
 | x::l=>by
  rw [dupB,Bool.or_eq_false_iff,QT l,List.nodup_cons]
  simp
theorem O3 {l:List Int} (hs:l.Pairwise (·<=·)):(Go.Lib.compact l).length=l.length↔l.Nodup:=by
 have e:(Go.Lib.compact l).length=l.length↔∀ j,j<l.length->Go.Lib.keeps l.toArray j=true:=by
  unfold Go.Lib.compact Go.Lib.compactUpTo
  rw [List.length_map]
  have:=List.length_filter_eq_length_iff (p:=Go.Lib.keeps l.toArray) (l:=List.range l.length)
  rw [List.length_range] at this
  rw [this]
  simp only [List.mem_range]
 have g:∀ j (hj:j<l.length),l.toArray[j]! = l[j]:=by
  intro j hj
  rw [getElem!_pos _ _ (by simpa using hj)]
  simp
 have hm:=List.pairwise_iff_getElem.1 hs
 rw [e]
 constructor
 ·intro h
  refine List.pairwise_iff_getElem.2 (fun i j h1 h2 hij heq=>?_)
  have hk:=h (i+1) (by omega)
  simp only [Go.Lib.keeps,zzX,Nat.add_sub_cancel] at hk
  rw [g (i+1) (by omega),g i h1] at hk
  have hk:=hk.resolve_left (by omega)
  have a1:=hm i (i+1) h1 (by omega) (by omega)
  by_cases hj:j=i+1
  ·subst hj; exact hk heq.symm
  ·have a2:=hm (i+1) j (by omega) h2 (by omega)
   omega
 ·intro h j hj
  simp only [Go.Lib.keeps,zzX]
  by_cases h0:j=0
  ·exact .inl h0
  ·right
   rw [g _ hj,g _ (by omega)]
   have:=List.pairwise_iff_getElem.1 h (j - 1) j (by omega) hj (by omega)
   exact fun e=>this e.symm
theorem aP (l:List Int):decide ((Go.Lib.compact (l.mergeSort fun x y=>decide (x<=y))).length<l.length)=dupB l:=by
 have h1:=O3 (Pb l)
 have h2:=(List.mergeSort_perm l (fun x y=>decide (x<=y))).nodup_iff
 have h3:=QT l
 have h4:=Go.Lib.compact_length_le (l.mergeSort fun x y=>decide (x<=y))
 rw [List.length_mergeSort] at h1 h4
 cases hd:dupB l with
 | false=>
  have:=h1.2 (h2.2 (h3.1 hd))
  rw [decide_eq_false_iff_not]; omega
 | true=>
  rw [zzX]
  have:(Go.Lib.compact (l.mergeSort fun x y=>decide (x<=y))).length≠l.length:=fun he=>by
   have:=h3.2 (h2.1 (h1.1 he))
   rw [hd] at this; cases this
  omega
end Go.Sf
