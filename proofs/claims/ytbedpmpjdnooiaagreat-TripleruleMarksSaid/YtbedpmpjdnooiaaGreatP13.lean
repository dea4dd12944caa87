/- Plain lemmas: what the functions of the program and of the reference compute. -/
import Derived.Test.YtbedpmpjdnooiaaGreatP12
set_option maxRecDepth 100000
namespace Go.Sf.Sc
open Go Go.Sf
def markS (a:Int) (k:Nat):List Int:=(List.range k).map fun (j:Nat)=>a+(j:Int)
theorem markS_succ (a:Int) (k:Nat):markS a (k+1)=markS a k++[a+k]:=by
 unfold markS
 rw [List.range_succ,List.map_append]; rfl
theorem markS_len (a:Int) (k:Nat):(markS a k).length=k:=by simp [markS]
def newN (s:Sorts) (r:Rule) (l:List Int) (i:Int):Bool:=!hasB r.Into.Nodes i&&hasB l (at' s.Nodes (at' r.Right.Graph.Nodes i))
def newE (s:Sorts) (r:Rule) (l:List Int) (i:Int):Bool:=!hasB r.Into.Edges i&&hasB l (at' s.Edges (at' r.Right.Graph.Edges i).Type')
def selN (s:Sorts) (r:Rule) (l:List Int):List Int:=selS (newN s r l) r.Right.Graph.Nodes.length
def selE (s:Sorts) (r:Rule) (l:List Int):List Int:=selS (newE s r l) r.Right.Graph.Edges.length
def edgeN (r:Rule) (into:List Int) (i:Int):Edge:=⟨(at' r.Right.Graph.Edges i).Type',ixS into (at' r.Right.Graph.Edges i).From,ixS into (at' r.Right.Graph.Edges i).To⟩
def tIntoN (s:Sorts) (r:Rule) (l:List Int):List Int:=r.Into.Nodes++selN s r l
def transR (s:Sorts) (r:Rule) (l:List Int):Rule:=
 ruleR r.Name ⟨r.Left.Graph.Nodes++(selN s r l).map (at' r.Right.Graph.Nodes),r.Left.Graph.Edges++(selE s r l).map (edgeN r (tIntoN s r l))⟩ r.Right.Graph ⟨tIntoN s r l,r.Into.Edges++selE s r l⟩
def transP (s:Sorts) (r:Rule) (l:List Int):Part:=⟨markS r.Left.Graph.Nodes.length (selN s r l).length,markS r.Left.Graph.Edges.length (selE s r l).length⟩
theorem ct_int' (l:List Int) (v:Int):slices_Contains_int l v=some (hasB l v):=ct_int l v
theorem if_and {b:Bool} {o:Option Bool} {c:Bool} (h:o=some c):(if (!b)=true then o else some false)=some (!b&&c):=by
 subst h; cases b <;> rfl
theorem p_trans {t:Types} (hf:FewT t) {s:Sorts} {r:Rule} (hr:FewR r) (l:List Int):triplerule_translating t s r l=some (if tripE t s r≠0 then (zeroR,⟨[],[]⟩,tripE t s r) else (transR s r l,transP s r l,0)):=by
 unfold triplerule_translating
 rw [p_trip hf hr,bs]
 refine chE' fun h=>?_
 obtain ⟨hs,ho,l1,l2⟩:=trip_ok h
 have hL:=ho.left
 have hR:=sorted_of hs ho.right ho.rtyped
 have n1:=hL.nodes
 have n2:=hL.edges
 have n3:=ho.right.nodes
 have n4:=ho.right.edges
 unfold slices_Clone_int slices_Clone_Edge
 rw [appC_nil (by unfold nmax; omega),bs,appC_nil (by unfold nmax; omega),bs,appC_nil (by unfold nmax; omega),bs,appC_nil (by unfold nmax; omega),bs]
 rw [forA_fn (fun i=>(Graph.mk (r.Left.Graph.Nodes++(selS (newN s r l) i).map (at' r.Right.Graph.Nodes)) r.Left.Graph.Edges,Morphism.mk (r.Into.Nodes++selS (newN s r l) i) r.Into.Edges,Part.mk (markS r.Left.Graph.Nodes.length (selS (newN s r l) i).length) [])) (by omega) (by simp [selS,markS]),bs,
  forA_fn (fun i=>(Graph.mk (r.Left.Graph.Nodes++(selN s r l).map (at' r.Right.Graph.Nodes)) (r.Left.Graph.Edges++(selS (newE s r l) i).map (edgeN r (tIntoN s r l))),Morphism.mk (tIntoN s r l) (r.Into.Edges++selS (newE s r l) i),Part.mk (markS r.Left.Graph.Nodes.length (selN s r l).length) (markS r.Left.Graph.Edges.length (selS (newE s r l) i).length))) (by omega) (by simp [selS,markS,tIntoN,selN]),bs]
 ·have k1:=selS_len (newN s r l) r.Right.Graph.Nodes.length
  have k2:=selS_len (newE s r l) r.Right.Graph.Edges.length
  rw [appC_nil (by unfold nmax; omega),bs,appC_nil (by unfold nmax; omega),bs,p_made (by simp [selN]; omega)]
  rfl
 ·intro i i1 i2
  have h2:=hR.edge _ (at_mem i1 i2)
  have hl:=selS_len (newE s r l) i
  rw [idx_at i1 i2,bs,ct_int',bs,if_and (b:=hasB r.Into.Edges i) (c:=hasB l (at' s.Edges (at' r.Right.Graph.Edges i).Type')) (by rw [idx_at h2.1 h2.2,bs,ct_int']; rfl),bs,selS_succ _ i1]
  change (if newE s r l i=true then _ else _)=_
  cases newE s r l i
  ·simp only [Bool.false_eq_true,if_false,List.append_nil]
  ·simp only [if_true,ix_int',bs]
   rw [appC_some (by simp [markS_len]; unfold nmax; omega),bs,appC_some (by simp; unfold nmax; omega),bs,appC_some (by simp; unfold nmax; omega),bs]
   simp only [List.map_append,List.map_cons,List.map_nil,List.length_append,List.length_map,List.length_cons,List.length_nil,List.append_assoc,Nat.zero_add,markS_succ,Int.natCast_add]
   rfl
 ·intro i i1 i2
  have h2:=hR.node _ (at_mem i1 i2)
  have hl:=selS_len (newN s r l) i
  rw [idx_at i1 i2,bs,ct_int',bs,if_and (b:=hasB r.Into.Nodes i) (c:=hasB l (at' s.Nodes (at' r.Right.Graph.Nodes i))) (by rw [idx_at h2.1 h2.2,bs,ct_int']; rfl),bs,selS_succ _ i1]
  change (if newN s r l i=true then _ else _)=_
  cases newN s r l i
  ·simp only [Bool.false_eq_true,if_false,List.append_nil]
  ·simp only [if_true]
   rw [appC_some (by simp [markS_len]; unfold nmax; omega),bs,appC_some (by simp; unfold nmax; omega),bs,appC_some (by simp; unfold nmax; omega),bs]
   simp only [List.map_append,List.map_cons,List.map_nil,List.length_append,List.length_map,List.length_cons,List.length_nil,List.append_assoc,Nat.zero_add,markS_succ,Int.natCast_add]
theorem same_loop {α:Type} [Inhabited α] [DecidableEq α] (l:List α):forR (ρ:=Bool) (fun (i0:Int) (_:Unit)=>
 (idx l i0).bind fun x19=>
 (idx l i0).bind fun x23=>
 if (!decide (x19=x23))=true then
 some (.ret false)
 else
 some (.next ())) 0 (l.length:Int) ()=some (.inl ()):=by
 rw [forR_any (fun _=>false) false]
 ·rw [anyR_false.2 (fun _ _ _=>rfl)]; rfl
 ·intro i i1 i2 _
  rw [idx_at i1 i2,bs,bs]
  simp
theorem equal_int (l:List Int):slices_Equal_int l l=some true:=by
 unfold slices_Equal_int
 rw [same_loop]; simp [thenR_inl]
def exT:Types:=⟨[⟨⟨#[67,108,97,115,115]⟩,-1,false,[]⟩,⟨⟨#[65,116,116,114,105,98,117,116,101]⟩,-1,false,[]⟩,⟨⟨#[84,97,98,108,101]⟩,-1,false,[]⟩,⟨⟨#[67,111,108,117,109,110]⟩,-1,false,[]⟩,⟨⟨#[77,97,112]⟩,-1,false,[]⟩],
 [⟨⟨#[104,97,115]⟩,0,1,0,-1,0,-1⟩,⟨⟨#[119,105,116,104]⟩,2,3,0,-1,0,-1⟩,⟨⟨#[111,102,67,108,97,115,115]⟩,4,0,0,-1,0,-1⟩,⟨⟨#[111,102,65,116,116,114,105,98,117,116,101]⟩,4,1,0,-1,0,-1⟩,⟨⟨#[116,111,84,97,98,108,101]⟩,4,2,0,-1,0,-1⟩,⟨⟨#[116,111,67,111,108,117,109,110]⟩,4,3,0,-1,0,-1⟩]⟩
def exS:Sorts:=⟨[1,1,3,3,2],[1,3,2,2,2,2]⟩
def exR:Rule:=⟨⟨#[99,108,97,115,115,101,115]⟩,⟨⟨[],[]⟩,[],0,[]⟩,⟨⟨[0,2,4],[⟨2,2,0⟩,⟨4,2,1⟩]⟩,[],0,[]⟩,⟨[],[]⟩,⟨[],[]⟩,true,emptyC 1⟩
theorem exT_eq:ref52_Example=some (exT,exS):=rfl
theorem exR_eq:law53_classes=some exR:=rfl
theorem exT_few:FewT exT:=by
 have h:∀ n∈exT.Nodes,n.Attrs=[]:=by decide
 refine ⟨by decide,by decide,by decide,fun n hn=>?_,fun n hn a ha=>?_,by decide⟩
 ·rw [h n hn]; decide
 ·rw [h n hn] at ha; cases ha
theorem emptyC_few (k:Int):FewC (emptyC k):=.mk _ ⟨Nat.zero_le _,Nat.zero_le _,Nat.zero_le _,Nat.zero_le _⟩ ⟨Nat.zero_le _,Nat.zero_le _⟩ (fun k hk=>by cases hk)
theorem exR_few:FewR exR:=⟨by decide,⟨by decide,by decide,by decide,by decide⟩,⟨by decide,by decide,by decide,by decide⟩,⟨by decide,by decide⟩,⟨by decide,by decide⟩,emptyC_few 1⟩
theorem exE:tripE exT exS exR=0:=by decide +kernel
theorem awake:law53_awake=some true:=by
 unfold law53_awake triplerule_Source triplerule_Forward
 rw [exT_eq,bs,exR_eq,bs]
 dsimp only
 rw [p_tside exT_few exR_few,exE]
 simp only [p_trans exT_few exR_few,exE,ne_eq,not_true_eq_false,if_false,bs,decide_true,if_true]
 rw [show (sideR exS exR 1).Right.Graph.Nodes=[0] by decide,show (transR exS exR [1]).Left.Graph.Nodes=[0] by decide,show (transP exS exR [1]).Nodes=[0] by decide,show (transR exS exR [1]).Right.Graph.Nodes=[0,2,4] by decide,equal_int]
 rfl
end Go.Sf.Sc
