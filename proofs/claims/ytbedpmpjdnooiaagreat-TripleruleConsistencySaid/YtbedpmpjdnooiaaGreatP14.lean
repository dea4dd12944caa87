/- Plain lemmas: what the functions of the program and of the reference compute. -/
import Derived.Test.YtbedpmpjdnooiaaGreatP13
set_option maxRecDepth 100000
namespace Go.Sf
theorem whR_fn {σ ρ:Type} {f:σ->Option (Ctl σ ρ)} (g:Int->σ) {a b:Int} {s:σ} (hab:a<=b) (hs:s=g a) (h:∀ i,a<=i->i<b->f (g i)=some (.next (g (i+1)))) (hb:f (g b)=some (.brk (g b))):whR f s=some (.inl (g b)):=by
 subst hs
 have key:∀ (n:Nat) (i:Int),a<=i->i+n=b->WhEv f (g i) (.inl (g b)):=by
  intro n
  induction n with
  | zero=>
   intro i _ hi
   have:i=b:=by omega
   subst this
   exact .brk hb
  | succ n ih=>
   intro i h1 h2
   exact .next (h i h1 (by omega)) (ih (i+1) (by omega) (by omega))
 exact (key (b - a).toNat a (Int.le_refl _) (by omega)).eq
end Go.Sf
namespace Go.Sf.Sc
open Go Go.Sf
theorem ixS_neg (l:List Int) (v:Int):decide (ixS l v<0)=!hasB l v:=by
 cases h:hasB l v
 ·have hn:¬ v∈l:=fun hm=>by rw [hasB_iff.2 hm] at h; cases h
  unfold ixS
  cases hf:fst (fun i=>if decide (v=at' l i)=true then some i else none) 0 l.length with
  | none=>rfl
  | some k=>
   obtain ⟨i,h1,h2,h3,_⟩:=fst_some hf
   by_cases hv:v=at' l i
   ·exact absurd (hv ▸ at_mem h1 h2) hn
   ·rw [if_neg (by simpa using hv)] at h3; cases h3
 ·have:=(ixS_mem (hasB_iff.1 h)).1
  rw [decide_eq_false (by omega)]; rfl
theorem r_copied {g:Graph} (h1:g.Nodes.length<=1000) (h2:g.Edges.length<=1000):ref05_Copied g=some g:=by
 unfold ref05_Copied
 rw [appC_nil (by unfold nmax; omega),bs,appC_nil (by unfold nmax; omega)]; rfl
theorem r_trans {t:Types} {s:Sorts} {r:Rule} (h:tripE t s r=0) (l:List Int) (a b:Bool) (hl:∀ x,(((decide (x=1))&&a)||((decide (x=3))&&b))=hasB l x):ref53_translating s r a b=some (transR s r l,transP s r l):=by
 unfold ref53_translating
 obtain ⟨hs,ho,l1,l2⟩:=trip_ok h
 have hL:=ho.left
 have hR:=sorted_of hs ho.right ho.rtyped
 have n1:=hL.nodes
 have n2:=hL.edges
 have n3:=ho.right.nodes
 have n4:=ho.right.edges
 rw [r_copied (by omega) (by omega),bs,appC_nil (by unfold nmax; omega),bs,appC_nil (by unfold nmax; omega),bs]
 rw [whR_fn (fun i=>(Graph.mk (r.Left.Graph.Nodes++(selS (newN s r l) i).map (at' r.Right.Graph.Nodes)) r.Left.Graph.Edges,Morphism.mk (r.Into.Nodes++selS (newN s r l) i) r.Into.Edges,Part.mk (markS r.Left.Graph.Nodes.length (selS (newN s r l) i).length) [],i)) (a:=0) (b:=r.Right.Graph.Nodes.length) (by omega) (by simp [selS,markS]),thenR_inl,
  whR_fn (fun i=>(Graph.mk (r.Left.Graph.Nodes++(selN s r l).map (at' r.Right.Graph.Nodes)) (r.Left.Graph.Edges++(selS (newE s r l) i).map (edgeN r (tIntoN s r l))),Morphism.mk (tIntoN s r l) (r.Into.Edges++selS (newE s r l) i),Part.mk (markS r.Left.Graph.Nodes.length (selN s r l).length) (markS r.Left.Graph.Edges.length (selS (newE s r l) i).length),i)) (a:=0) (b:=r.Right.Graph.Edges.length) (by omega) (by simp [selS,markS,tIntoN,selN]),thenR_inl]
 ·have k1:=selS_len (newN s r l) r.Right.Graph.Nodes.length
  have k2:=selS_len (newE s r l) r.Right.Graph.Edges.length
  rw [r_copied (by omega) (by omega),bs,r_made (by simp [selN]; omega)]
  rfl
 ·intro i i1 i2
  have h2:=hR.edge _ (at_mem i1 i2)
  have hk:=selS_len (newE s r l) i
  dsimp only
  rw [if_pos (by simpa using i2),idx_at i1 i2,bs,idx_at h2.1 h2.2,bs,r_ix53,bs,ixS_neg,hl,selS_succ _ i1,w64_id (by omega) (by omega)]
  change (if newE s r l i=true then _ else _)=_
  cases newE s r l i
  ·simp only [Bool.false_eq_true,if_false,List.append_nil]
  ·simp only [if_true,r_ix53,bs]
   rw [appC_some (by simp [markS_len]; unfold nmax; omega),bs,appC_some (by simp; unfold nmax; omega),bs,appC_some (by simp; unfold nmax; omega),bs]
   simp only [List.map_append,List.map_cons,List.map_nil,List.length_append,List.length_map,List.length_cons,List.length_nil,List.append_assoc,Nat.zero_add,markS_succ,Int.natCast_add]
   rfl
 ·rw [if_neg (by simp)]
 ·intro i i1 i2
  have h2:=hR.node _ (at_mem i1 i2)
  have hk:=selS_len (newN s r l) i
  dsimp only
  rw [if_pos (by simpa using i2),idx_at i1 i2,bs,idx_at h2.1 h2.2,bs,r_ix53,bs,ixS_neg,hl,selS_succ _ i1,w64_id (by omega) (by omega)]
  change (if newN s r l i=true then _ else _)=_
  cases newN s r l i
  ·simp only [Bool.false_eq_true,if_false,List.append_nil]
  ·simp only [if_true,bs]
   rw [appC_some (by simp [markS_len]; unfold nmax; omega),bs,appC_some (by simp; unfold nmax; omega),bs,appC_some (by simp; unfold nmax; omega),bs]
   simp only [List.map_append,List.map_cons,List.map_nil,List.length_append,List.length_map,List.length_cons,List.length_nil,List.append_assoc,Nat.zero_add,markS_succ,Int.natCast_add]
 ·rw [if_neg (by simp)]
theorem r_Trans {t:Types} (hf:FewT t) {s:Sorts} {r:Rule} (hr:FewR r) (l:List Int) (a b:Bool) (hl:∀ x,(((decide (x=1))&&a)||((decide (x=3))&&b))=hasB l x):ref53_Translating t s r a b=some (if tripE t s r≠0 then (zeroR,⟨[],[]⟩,tripE t s r) else (transR s r l,transP s r l,0)):=by
 unfold ref53_Translating
 rw [r_trip hf hr,bs]
 refine chE' fun h=>?_
 rw [r_trans h l a b hl]; rfl
theorem has13 (x:Int):(((decide (x=1))&&true)||((decide (x=3))&&true))=hasB [1,3] x:=by simp [hasB]
theorem transR_kids (s:Sorts) (r:Rule) (l:List Int):(transR s r l).Condition.Kids=[]:=rfl
theorem law_few {c:law53_Case} {r:Rule} (sc:(elaw53_Case c).Sm) (sr:(eRule r).Sm):∃ b,ref53_Few c.T c.S r=some b∧(b=true->FewT c.T∧FewR r):=by
 have sc':TV.Sms [_,_,_,_]:=sc
 exact few_all (t:=c.T) (s:=c.S) (r:=r) ⟨sc'.1,sc'.2.1,trivial⟩ sr
end Go.Sf.Sc
