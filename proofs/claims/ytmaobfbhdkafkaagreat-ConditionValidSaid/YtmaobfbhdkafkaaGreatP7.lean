/- Plain lemmas: what the functions of the program and of the reference compute. -/
import Derived.Test.YtmaobfbhdkafkaaGreatP5
set_option maxRecDepth 100000
namespace Go.Sf
theorem pairwise_at {l:List Int} {R:Int->Int->Prop} (h:l.Pairwise R) {i j:Int} (h0:0<=i) (h1:i<j) (h2:j<l.length):R (at' l i) (at' l j):=by
 have:=(List.pairwise_iff_getElem.1 h) i.toNat j.toNat (by omega) (by omega) (by omega)
 unfold at'
 rw [List.getD_eq_getElem?_getD,List.getD_eq_getElem?_getD,List.getElem?_eq_getElem (by omega),List.getElem?_eq_getElem (by omega)]
 exact this
theorem at_pairwise {l:List Int} {R:Int->Int->Prop} (h:∀ i j:Int,0<=i->i<j->j<l.length->R (at' l i) (at' l j)):l.Pairwise R:=by
 refine List.pairwise_iff_getElem.2 (fun i j h1 h2 h3=>?_)
 have:=h i j (by omega) (by omega) (by omega)
 unfold at' at this
 rw [List.getD_eq_getElem?_getD,List.getD_eq_getElem?_getD,Int.toNat_natCast,Int.toNat_natCast,List.getElem?_eq_getElem h1,List.getElem?_eq_getElem h2] at this
 exact this
end Go.Sf
namespace Go.Sf.Sc
open Go Go.Sf
theorem fst_getD0 {c:Int->Option Int} {a b:Int} (hc:∀ i,c i≠some 0) (h:(fst c a b).getD 0=0):∀ i,a<=i->i<b->c i=none:=by
 have:fst c a b=none:=by
  cases hf:fst c a b with
  | none=>rfl
  | some r=>
   rw [hf] at h
   simp only [Option.getD] at h
   subst h
   obtain ⟨i,_,_,h3,_⟩:=fst_some hf
   exact (hc i h3).elim
 exact fst_none.1 this
end Go.Sf.Sc
namespace Go.Sf.Sc
open Go Go.Sf
def mNodeE (a b:Graph) (m:Morphism) (i:Int):Option Int:=
 if at' m.Nodes i<0∨b.Nodes.length<=at' m.Nodes i then some 6 else if at' b.Nodes (at' m.Nodes i)≠at' a.Nodes i then some 13 else none
def mEdgeE (a b:Graph) (m:Morphism) (i:Int):Option Int:=
 if at' m.Edges i<0∨b.Edges.length<=at' m.Edges i then some 6 else
 if (at' a.Edges i).Type'≠(at' b.Edges (at' m.Edges i)).Type' then some 13 else
 if at' m.Nodes (at' a.Edges i).From≠(at' b.Edges (at' m.Edges i)).From∨at' m.Nodes (at' a.Edges i).To≠(at' b.Edges (at' m.Edges i)).To then some 11 else none
def morE (a b:Graph) (m:Morphism):Int:=
 if graphE a≠0 then graphE a else if graphE b≠0 then graphE b else if m.Nodes.length≠a.Nodes.length∨m.Edges.length≠a.Edges.length then 20 else
 match fst (mNodeE a b m) 0 m.Nodes.length with
 | some e=>e
 | none=>(fst (mEdgeE a b m) 0 m.Edges.length).getD 0
structure MorOk (a b:Graph) (m:Morphism):Prop where
 ga:GraphOk a
 gb:GraphOk b
 nlen:m.Nodes.length=a.Nodes.length
 elen:m.Edges.length=a.Edges.length
 node:∀ i:Int,0<=i->i<m.Nodes.length->(0<=at' m.Nodes i∧at' m.Nodes i<b.Nodes.length)∧at' b.Nodes (at' m.Nodes i)=at' a.Nodes i
 edge:∀ i:Int,0<=i->i<m.Edges.length->(0<=at' m.Edges i∧at' m.Edges i<b.Edges.length)∧(at' a.Edges i).Type'=(at' b.Edges (at' m.Edges i)).Type' ∧
  at' m.Nodes (at' a.Edges i).From=(at' b.Edges (at' m.Edges i)).From∧at' m.Nodes (at' a.Edges i).To=(at' b.Edges (at' m.Edges i)).To
theorem morOk {a b:Graph} {m:Morphism} (h:morE a b m=0):MorOk a b m:=by
 unfold morE at h
 split at h
 ·omega
 split at h
 ·omega
 split at h
 ·cases h
 rename_i h1 h2 h3
 have hn:fst (mNodeE a b m) 0 m.Nodes.length=none:=by
  split at h
  ·rename_i r hr
   obtain ⟨i,_,_,k,_⟩:=fst_some hr
   subst h
   unfold mNodeE at k
   split at k
   ·cases k
   ·split at k <;> cases k
  ·assumption
 rw [hn] at h
 have he:=fst_getD0 (fun i=>by
  unfold mEdgeE
  split
  ·simp
  ·split
   ·simp
   ·split <;> simp) h
 refine ⟨graphOk (by omega),graphOk (by omega),by omega,by omega,fun i i1 i2=>?_,fun i i1 i2=>?_⟩
 ·have:=fst_none.1 hn i i1 i2
  unfold mNodeE at this
  split at this
  ·cases this
  ·split at this
   ·cases this
   ·rename_i x y
    exact ⟨by omega,Classical.not_not.1 y⟩
 ·have:=he i i1 i2
  unfold mEdgeE at this
  split at this
  ·cases this
  ·split at this
   ·cases this
   ·split at this
    ·cases this
    ·rename_i x y z
     exact ⟨by omega,Classical.not_not.1 y,Classical.not_not.1 (fun h=>z (.inl h)),Classical.not_not.1 (fun h=>z (.inr h))⟩
theorem p_mor (a b:Graph) (m:Morphism):morphism_Valid a b m=some (morE a b m):=by
 unfold morphism_Valid morE
 rw [p_Graph,bs,p_Graph,bs]
 refine chE fun ha=>chE fun hb=>chP (by simp; try omega) fun hl=>?_
 have ga:=graphOk ha
 have gb:=graphOk hb
 rw [forR_fst (mNodeE a b m),thenR_ans]
 ·cases hn:fst (mNodeE a b m) 0 m.Nodes.length with
  | some e=>rfl
  | none=>
   have hn2:=fst_none.1 hn
   dsimp only
   rw [forR_fst (mEdgeE a b m),thenR_ans0]
   intro i i1 i2 _
   unfold mEdgeE
   rw [idx_at i1 i2,bs]
   by_cases h1:at' m.Edges i<0∨b.Edges.length<=at' m.Edges i
   ·rw [if_pos (by simpa using h1),if_pos h1]; rfl
   ·have hf:=ga.fit _ (at_mem (l:=a.Edges) i1 (by omega))
    rw [if_neg (by simpa using h1),if_neg h1,idx_at i1 (by omega),bs,idx_at (by omega) (by omega),bs]
    by_cases h2:(at' a.Edges i).Type'=(at' b.Edges (at' m.Edges i)).Type'
    ·rw [if_neg (by simpa using h2),if_neg (by simpa using h2),idx_at (by omega) (by omega),bs]
     by_cases h3:at' m.Nodes (at' a.Edges i).From=(at' b.Edges (at' m.Edges i)).From
     ·rw [if_neg (by simpa using h3),idx_at (by omega) (by omega),bs,bs]
      by_cases h4:at' m.Nodes (at' a.Edges i).To=(at' b.Edges (at' m.Edges i)).To
      ·rw [if_neg (by simpa using h4),if_neg (by simp [h3,h4])]; rfl
      ·rw [if_pos (by simpa using h4),if_pos (.inr h4)]; rfl
     ·rw [if_pos (by simpa using h3),bs,if_pos rfl,if_pos (.inl h3)]; rfl
    ·rw [if_pos (by simpa using h2),if_pos h2]; rfl
 ·intro i i1 i2 _
  unfold mNodeE
  rw [idx_at i1 i2,bs]
  by_cases h1:at' m.Nodes i<0∨b.Nodes.length<=at' m.Nodes i
  ·rw [if_pos (by simpa using h1),if_pos h1]; rfl
  ·rw [if_neg (by simpa using h1),if_neg h1,idx_at (by omega) (by omega),bs,idx_at i1 (by omega),bs]
   by_cases h2:at' b.Nodes (at' m.Nodes i)=at' a.Nodes i
   ·rw [if_neg (by simpa using h2),if_neg (by simpa using h2)]; rfl
   ·rw [if_pos (by simpa using h2),if_pos h2]; rfl
theorem or_ite {x y:Prop} [Decidable x] [Decidable y]:(if decide x=true then some true else some (decide y))=some (decide (x∨y)):=by
 by_cases hx:x <;> simp [hx]
theorem r_mor (a b:Graph) (m:Morphism):ref06_Valid a b m=some (morE a b m):=by
 unfold ref06_Valid morE
 rw [r_Graph,bs,r_Graph,bs]
 refine chE fun ha=>chE fun hb=>chP (by simp; try omega) fun hl=>?_
 have ga:=graphOk ha
 have gb:=graphOk hb
 rw [show (a.Nodes.length:Int)=m.Nodes.length by omega,show (a.Edges.length:Int)=m.Edges.length by omega,forR_fst (mNodeE a b m),thenR_ans]
 ·cases hn:fst (mNodeE a b m) 0 m.Nodes.length with
  | some e=>rfl
  | none=>
   have hn2:=fst_none.1 hn
   dsimp only
   rw [forR_fst (mEdgeE a b m),thenR_ans0]
   intro i i1 i2 _
   unfold mEdgeE
   rw [idx_at i1 i2]
   simp only [bs,or_ite]
   by_cases h1:at' m.Edges i<0∨b.Edges.length<=at' m.Edges i
   ·rw [if_pos (by simpa using h1),if_pos h1]; rfl
   ·have hf:=ga.fit _ (at_mem (l:=a.Edges) i1 (by omega))
    rw [if_neg (by simpa using h1),if_neg h1,idx_at i1 (by omega),bs,idx_at (by omega) (by omega),bs]
    by_cases h2:(at' a.Edges i).Type'=(at' b.Edges (at' m.Edges i)).Type'
    ·rw [if_neg (by simpa using h2),if_neg (by simpa using h2),idx_at (by omega) (by omega),bs]
     by_cases h3:at' m.Nodes (at' a.Edges i).From=(at' b.Edges (at' m.Edges i)).From
     ·rw [if_neg (by simpa using h3),idx_at (by omega) (by omega),bs,bs]
      by_cases h4:at' m.Nodes (at' a.Edges i).To=(at' b.Edges (at' m.Edges i)).To
      ·rw [if_neg (by simpa using h4),if_neg (by simp [h3,h4])]; rfl
      ·rw [if_pos (by simpa using h4),if_pos (.inr h4)]; rfl
     ·rw [if_pos (by simpa using h3),bs,if_pos rfl,if_pos (.inl h3)]; rfl
    ·rw [if_pos (by simpa using h2),if_pos h2]; rfl
 ·intro i i1 i2 _
  unfold mNodeE
  rw [idx_at i1 i2]
  simp only [bs,or_ite]
  by_cases h1:at' m.Nodes i<0∨b.Nodes.length<=at' m.Nodes i
  ·rw [if_pos (by simpa using h1),if_pos h1]; rfl
  ·rw [if_neg (by simpa using h1),if_neg h1,idx_at (by omega) (by omega),bs,idx_at i1 (by omega),bs]
   by_cases h2:at' b.Nodes (at' m.Nodes i)=at' a.Nodes i
   ·rw [if_neg (by simpa using h2),if_neg (by simpa using h2)]; rfl
   ·rw [if_pos (by simpa using h2),if_pos h2]; rfl
def disB (l:List Int):Bool:=!anyR (fun i=>anyR (fun j=>decide (at' l i=at' l j)) 0 i) 0 l.length
theorem disB_iff {l:List Int}:disB l=true↔l.Nodup:=by
 unfold disB
 rw [Bool.not_eq_true',anyR_false]
 constructor
 ·intro h
  refine at_pairwise (fun i j h0 h1 h2=>?_)
  have:=h j (by omega) h2
  rw [anyR_false] at this
  have:=this i h0 h1
  rw [decide_eq_false_iff_not] at this
  exact fun e=>this e.symm
 ·intro h i i1 i2
  rw [anyR_false]
  intro j j1 j2
  rw [decide_eq_false_iff_not]
  exact fun e=>pairwise_at h j1 j2 i2 e.symm
theorem r_dis (l:List Int):ref06_Distinct l=some (disB l):=by
 unfold ref06_Distinct disB
 rw [forR_any (fun i=>anyR (fun j=>decide (at' l i=at' l j)) 0 i) false]
 ·cases anyR (fun i=>anyR (fun j=>decide (at' l i=at' l j)) 0 i) 0 l.length <;> rfl
 ·intro i i1 i2 _
  rw [forR_any (fun j=>decide (at' l i=at' l j)) false]
  ·cases anyR (fun j=>decide (at' l i=at' l j)) 0 i <;> rfl
  ·intro j j1 j2 _
   rw [idx_at i1 i2,bs,idx_at j1 (by omega),bs,if_b]
theorem compact_len {l:List Int} (hs:l.Pairwise (·<=·)):(Go.Lib.compact l).length=l.length↔l.Nodup:=by
 have e:(Go.Lib.compact l).length=l.length↔∀ j,j<l.length->Go.Lib.keeps l.toArray j=true:=by
  unfold Go.Lib.compact Go.Lib.compactUpTo
  rw [List.length_map]
  have:=List.length_filter_eq_length_iff (p:=Go.Lib.keeps l.toArray) (l:=List.range l.length)
  rw [List.length_range] at this
  rw [this]
  simp only [List.mem_range]
 have g:∀ j,j<l.length->l.toArray[j]! = at' l j:=by
  intro j hj
  unfold at'
  rw [getElem!_pos _ _ (by simpa using hj),List.getD_eq_getElem?_getD,Int.toNat_natCast,List.getElem?_eq_getElem hj]
  simp
 rw [e]
 constructor
 ·intro h
  refine at_pairwise (fun i j h0 h1 h2 hij=>?_)
  have hk:=h (i+1).toNat (by omega)
  simp only [Go.Lib.keeps,decide_eq_true_eq] at hk
  rcases hk with hk | hk
  ·omega
  ·rw [g _ (by omega),g _ (by omega)] at hk
   have e1:(((i+1).toNat:Nat):Int)=i+1:=by omega
   have e2:(((i+1).toNat - 1:Nat):Int)=i:=by omega
   rw [e1,e2] at hk
   have a1:=pairwise_at hs h0 (show i<i+1 by omega) (by omega)
   by_cases hj:j=i+1
   ·subst hj; exact hk hij.symm
   ·have a2:=pairwise_at hs (show 0<=i+1 by omega) (show i+1<j by omega) h2
    omega
 ·intro h j hj
  simp only [Go.Lib.keeps,decide_eq_true_eq]
  by_cases h0:j=0
  ·exact .inl h0
  ·right
   rw [g _ hj,g _ (by omega)]
   have:=pairwise_at h (show (0:Int)<=((j - 1:Nat):Int) by omega) (show ((j - 1:Nat):Int)<(j:Int) by omega) (by omega)
   exact fun e=>this e.symm
theorem p_images {l:List Int} (hl:l.length<=1000):∃ k,morphism_images l=some k∧decide (k=(l.length:Int))=disB l:=by
 have hs:(l.mergeSort fun x y=>decide (x<=y)).length=l.length:=List.length_mergeSort _
 refine ⟨((Go.Lib.compact (l.mergeSort fun x y=>decide (x<=y))).length:Int),?_,?_⟩
 ·unfold morphism_images slices_Clone_int slices_Sort_int slices_Compact_int
  rw [appC_nil (by unfold nmax; omega),bs,if_pos (by unfold nmax; omega),bs,if_pos (by rw [hs]; unfold nmax; omega),bs]
 ·have hp:(l.mergeSort fun x y=>decide (x<=y)).Pairwise (·<=·):=by
   have:=List.pairwise_mergeSort (le:=fun (x y:Int)=>decide (x<=y)) (fun a b c h1 h2=>by simp at *; omega) (fun a b=>by simp; omega) l
   exact this.imp (fun h=>by simpa using h)
  rw [Bool.eq_iff_iff,disB_iff,decide_eq_true_eq,←(List.mergeSort_perm l (fun x y=>decide (x<=y))).nodup_iff,←compact_len hp,hs]
  omega
def injB (m:Morphism):Bool:=disB m.Nodes&&disB m.Edges
theorem p_inj {a b:Graph} {m:Morphism} (h:morE a b m=0):morphism_Injective a b m=some (injB m):=by
 have ho:=morOk h
 have:=ho.ga.nodes
 have:=ho.ga.edges
 have:=ho.nlen
 have:=ho.elen
 obtain ⟨k,k1,k2⟩:=p_images (l:=m.Nodes) (by omega)
 obtain ⟨j,j1,j2⟩:=p_images (l:=m.Edges) (by omega)
 unfold morphism_Injective injB
 rw [p_mor,h,bs,if_pos (decide_eq_true rfl),k1]
 simp only [bs,j1,k2,j2]
 cases disB m.Nodes <;> rfl
theorem r_inj {a b:Graph} {m:Morphism} (h:morE a b m=0):ref06_Injective a b m=some (injB m):=by
 unfold ref06_Injective injB
 rw [r_mor,h,bs,if_pos (decide_eq_true rfl),r_dis]
 simp only [bs,r_dis]
 cases disB m.Nodes <;> rfl
end Go.Sf.Sc
