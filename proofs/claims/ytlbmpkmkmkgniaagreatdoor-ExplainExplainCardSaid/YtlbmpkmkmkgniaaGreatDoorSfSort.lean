/- Sorting by structural recursion: what the kernel can reckon. -/
import Derived.Test.YtlbmpkmkmkgniaaGreatDoorSfLib
set_option linter.all false
namespace Go.Sf
def ins (x:Int):Ne->Ne
 | []=>[x]
 | y::l=>if x<=y then x::y::l else y::ins x l
def Nk:Ne->Ne
 | []=>[]
 | x::l=>ins x (Nk l)
theorem S8 (x:Int):∀ l:Ne,(ins x l).Perm (x::l)
 | []=>List.Perm.refl _
 | y::l=>by
  unfold ins;split
  ·exact List.Perm.refl _
  ·exact ((S8 x l).cons y).trans (List.Perm.swap x y l)
theorem LX:∀ l:Ne,(Nk l).Perm l
 | []=>List.Perm.refl _
 | x::l=>(S8 x (Nk l)).trans ((LX l).cons x)
theorem Ts (x:Int):∀ l:Ne,l.Pairwise (·<=·)->(ins x l).Pairwise (·<=·)
 | [],_=>List.pairwise_singleton _ _
 | y::l,h=>by
  obtain ⟨c,d⟩:=List.pairwise_cons.1 h;unfold ins;split
  ·rename_i b;refine List.pairwise_cons.2 ⟨fun z a=>?_,h⟩;rcases List.mem_cons.1 a with rfl | a
   ·exact b
   ·exact Int.le_trans b (c z a)
  ·rename_i b;refine List.pairwise_cons.2 ⟨fun z a=>?_,Ts x l d⟩;rcases List.mem_cons.1 ((S8 x l).mem_iff.1 a) with rfl | a
   ·omega
   ·exact c z a
theorem Mz:∀ l:Ne,(Nk l).Pairwise (·<=·)
 | []=>List.Pairwise.nil
 | x::l=>Ts x _ (Mz l)
theorem R8 (l:Ne):(l.mergeSort fun x y=>decide (x<=y)).Pairwise (·<=·):=by
 have:=List.pairwise_mergeSort (le:=fun (x y:Int)=>decide (x<=y)) (fun a b c d e=>by simp at *; omega) (fun a b=>by simp; omega) l;exact this.imp (fun h=>by simpa using h)
theorem cX (l:Ne):(l.mergeSort fun x y=>decide (x<=y))=Nk l:=
 List.Perm.eq_of_pairwise (le:=fun x y=>x<=y) (fun a b _ _ c d=>Int.le_antisymm c d) (R8 l) (Mz l) ((List.mergeSort_perm l _).trans (LX l).symm)
def dupB:Ne->Bool
 | []=>false
 | x::l=>l.contains x||dupB l
theorem S5:∀ l:Ne,dupB l=false↔l.Nodup
 | []=>by simp [dupB]
 | x::l=>by
  rw [dupB,Bool.or_eq_false_iff,S5 l,List.nodup_cons];simp
theorem Q2 {l:Ne} (k:l.Pairwise (·<=·)):(Go.Lib.compact l).length=l.length↔l.Nodup:=by
 have e:(Go.Lib.compact l).length=l.length↔∀ j,j<l.length->Go.Lib.keeps l.toArray j=true:=by
  unfold Go.Lib.compact Go.Lib.compactUpTo;rw [d7];have:=List.length_filter_eq_length_iff (p:=Go.Lib.keeps l.toArray) (l:=List.range l.length);rw [List.length_range] at this;rw [this];simp only [List.mem_range]
 have g:∀ j (a:j<l.length),l.toArray[j]! = l[j]:=by
  intro j a;rw [getElem!_pos _ _ (by simpa using a)];simp
 have f:=List.pairwise_iff_getElem.1 k;rw [e];constructor
 ·intro h;refine List.pairwise_iff_getElem.2 (fun i j d m n c=>?_);have b:=h (i+1) (by omega);simp only [Go.Lib.keeps,zzX,Nat.add_sub_cancel] at b;rw [g (i+1) (by omega),g i d] at b;have b:=b.resolve_left (by omega);have q:=f i (i+1) d (by omega) (by omega);by_cases a:j=i+1
  ·subst a; exact b c.symm
  ·have r:=f (i+1) j (by omega) m (by omega);omega
 ·intro h j a;simp only [Go.Lib.keeps,zzX];by_cases o:j=0
  ·exact .inl o
  ·right;rw [g _ a,g _ (by omega)];have:=List.pairwise_iff_getElem.1 h (j - 1) j (by omega) a (by omega);exact fun e=>this e.symm
theorem dm (l:Ne):decide ((Go.Lib.compact (l.mergeSort fun x y=>decide (x<=y))).length<l.length)=dupB l:=by
 have a:=Q2 (R8 l);have b:=(List.mergeSort_perm l (fun x y=>decide (x<=y))).nodup_iff;have c:=S5 l;have f:=Go.Lib.compact_length_le (l.mergeSort fun x y=>decide (x<=y));rw [List.length_mergeSort] at a f;cases d:dupB l with
 | false=>
  have:=a.2 (b.2 (c.1 d));rw [decide_eq_false_iff_not]; omega
 | true=>
  rw [zzX];have:(Go.Lib.compact (l.mergeSort fun x y=>decide (x<=y))).length≠l.length:=fun e=>by
   have:=c.2 (b.1 (a.1 e));rw [d] at this; cases this
  omega
end Go.Sf
