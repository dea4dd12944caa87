/- Plain lemmas: what the functions of the program and of the reference compute. -/
import Derived.Test.YtbedpmpjdnooiaaGreatP6
set_option maxRecDepth 100000
namespace Go.Sf
theorem fst_congr' {ρ:Type} {c d:Int->Option ρ} (h:∀ i,c i=d i) {a b:Int}:fst c a b=fst d a b:=by rw [funext h]
def ixS (l:List Int) (v:Int):Int:=(fst (fun i=>if decide (v=at' l i)=true then some i else none) 0 l.length).getD (-1)
theorem ixS_mem {l:List Int} {v:Int} (h:v∈l):0<=ixS l v∧ixS l v<l.length∧at' l (ixS l v)=v∧∀ j,0<=j->j<ixS l v->at' l j≠v:=by
 unfold ixS
 cases hf:fst (fun i=>if decide (v=at' l i)=true then some i else none) 0 l.length with
 | none=>
  obtain ⟨i,h1,h2,h3⟩:=mem_at h
  have:=fst_none.1 hf i h1 h2
  rw [h3,decide_eq_true rfl] at this
  cases this
 | some k=>
  obtain ⟨i,h1,h2,h3,h4⟩:=fst_some hf
  by_cases hv:v=at' l i
  ·rw [if_pos (by simpa using hv)] at h3
   cases h3
   refine ⟨h1,h2,hv.symm,fun j k1 k2 e=>?_⟩
   have:=h4 j k1 k2
   rw [if_pos (by simpa using e.symm)] at this
   cases this
  ·rw [if_neg (by simpa using hv)] at h3; cases h3
theorem pairwise_at {l:List Int} {R:Int->Int->Prop} (h:l.Pairwise R) {i j:Int} (h0:0<=i) (h1:i<j) (h2:j<l.length):R (at' l i) (at' l j):=by
 have:=(List.pairwise_iff_getElem.1 h) i.toNat j.toNat (by omega) (by omega) (by omega)
 unfold at'
 rw [List.getD_eq_getElem?_getD,List.getD_eq_getElem?_getD,List.getElem?_eq_getElem (by omega),List.getElem?_eq_getElem (by omega)]
 exact this
theorem at_pairwise {l:List Int} {R:Int->Int->Prop} (h:∀ i j:Int,0<=i->i<j->j<l.length->R (at' l i) (at' l j)):l.Pairwise R:=by
 refine List.pairwise_iff_getElem.2 (fun i j h1 h2 h3=>?_)
 have:=h i j (by omega) (by omega) (by omega)
 unfold at' at this
 rw [List.getD_eq_getElem?_getD,List.getD_eq_getElem?_getD,Int.toNat_natCast,Int.toNat_natCast,List.getElem?_eq_getElem h1,List.getElem?_eq_getElem h2] at this
 exact this
theorem count_ix {l:List Int} (hp:l.Pairwise (·<·)) {v:Int} (h:v∈l):(l.countP (fun x=>decide (x<v)):Int)=ixS l v:=by
 obtain ⟨h0,h1,h2,_⟩:=ixS_mem h
 generalize hk:ixS l v=k at h0 h1 h2
 have e:l=l.take k.toNat++l.drop k.toNat:=(List.take_append_drop _ _).symm
 have c1:(l.take k.toNat).countP (fun x=>decide (x<v))=k.toNat:=by
  rw [List.countP_eq_length.2 (fun x hx=>?_),List.length_take]
  ·omega
  ·obtain ⟨i,i1,i2,rfl⟩:=mem_at hx
   rw [List.length_take] at i2
   rw [at_take (by omega),decide_eq_true_eq,←h2]
   exact pairwise_at hp i1 (by omega) h1
 have c2:(l.drop k.toNat).countP (fun x=>decide (x<v))=0:=by
  rw [List.countP_eq_zero]
  intro x hx
  obtain ⟨n,hn⟩:=List.getElem?_of_mem hx
  rw [List.getElem?_drop] at hn
  have hlt:=(List.getElem?_eq_some_iff.1 hn).1
  have hxe:x=at' l (k+n):=by
   unfold at'
   rw [List.getD_eq_getElem?_getD,show (k+(n:Int)).toNat=k.toNat+n by omega,hn]; rfl
  rw [decide_eq_true_eq,hxe,←h2]
  by_cases hn0:n=0
  ·subst hn0; simp
  ·have:=pairwise_at hp h0 (show k<k+(n:Int) by omega) (by omega)
   omega
 rw [e,List.countP_append,c1,c2]
 omega
end Go.Sf
namespace Go.Sf.Sc
open Go Go.Sf
theorem ix_int' (l:List Int) (v:Int):slices_Index_int l v=some (ixS l v):=ix_int l v
theorem ix_loop (l:List Int) (n:Int):(thenR (forR (ρ:=Int) (fun (i0:Int) (_:Unit)=>
 (idx l i0).bind fun x14=>
 if (decide (x14=n))=true then
 some (.ret i0)
 else
 some (.next ())) 0 (l.length:Int) ()) (fun _=>
 some (-1)) (fun v0=>some v0))=some (ixS l n):=by
 have:=index_of (l:=l) (f:=fun x=>some (decide (x=n))) (p:=fun x=>decide (x=n)) (fun _ _=>rfl)
 simp only [bs] at this
 rw [this]
 unfold ixS
 congr 2
 exact fst_congr' fun i=>by simp only [eq_comm]
theorem r_ix07 (l:List Int) (v:Int):ref07_index l v=some (ixS l v):=ix_loop l v
def hasB (l:List Int) (v:Int):Bool:=l.any fun x=>decide (v=x)
theorem hasB_iff {l:List Int} {v:Int}:hasB l v=true↔v∈l:=by
 unfold hasB
 rw [List.any_eq_true]
 simp
theorem has_loop (l:List Int) (n:Int):(thenR (forR (ρ:=Bool) (fun (i0:Int) (_:Unit)=>
 (idx l i0).bind fun x14=>
 if (decide (x14=n))=true then
 some (.ret true)
 else
 some (.next ())) 0 (l.length:Int) ()) (fun _=>
 some false) (fun v0=>some v0))=some (hasB l n):=by
 unfold hasB
 rw [forR_any (fun i=>decide (n=at' l i)) true,any_at]
 ·cases anyR (fun i=>decide (n=at' l i)) 0 l.length <;> rfl
 ·intro i h1 h2 _
  rw [idx_at h1 h2,bs,if_b]
  simp only [eq_comm]
theorem r_has24 (l:List Int) (v:Int):ref24_has l v=some (hasB l v):=has_loop l v
theorem r_has07 (l:List Int) (v:Int):ref07_has l v=some (hasB l v):=has_loop l v
def ascE (l:List Int) (n:Int):Int:=(fst (fun i=>if at' l i<0∨n<=at' l i then some 6 else if 0<i∧at' l i<=at' l (i - 1) then some 12 else none) 0 l.length).getD 0
theorem p_asc {l:List Int} (hl:l.length<=1000) (n:Int):subgraph_list l n=some (ascE l n):=by
 unfold subgraph_list ascE
 rw [forR_fst (fun i=>if at' l i<0∨n<=at' l i then some 6 else if 0<i∧at' l i<=at' l (i - 1) then some 12 else none),thenR_ans0]
 intro i h1 h2 _
 rw [idx_at h1 h2,bs]
 by_cases h:at' l i<0∨n<=at' l i
 ·rw [if_pos (by simpa using h),if_pos h]; rfl
 ·rw [if_neg (by simpa using h),if_neg h]
  by_cases h0:0<i
  ·rw [if_pos (by simpa using h0),w64_id (by omega) (by omega),idx_at (by omega) (by omega),bs,bs]
   by_cases h3:at' l i<=at' l (i - 1)
   ·rw [if_pos (by simpa using h3),if_pos ⟨h0,h3⟩]; rfl
   ·rw [if_neg (by simpa using h3),if_neg (fun h=>h3 h.2)]; rfl
  ·rw [if_neg (by simpa using h0),bs,if_neg (by decide),if_neg (fun h=>h0 h.1)]; rfl
theorem r_asc {l:List Int} (hl:l.length<=1000) (n:Int):ref07_ascending l n=some (ascE l n):=by
 unfold ref07_ascending ascE
 rw [forR_fst (fun i=>if at' l i<0∨n<=at' l i then some 6 else if 0<i∧at' l i<=at' l (i - 1) then some 12 else none),thenR_ans0]
 intro i h1 h2 _
 rw [idx_at h1 h2]
 simp only [bs]
 by_cases h:at' l i<0∨n<=at' l i
 ·have:(if decide (at' l i<0)=true then some true else some (decide (n<=at' l i)))=some true:=by
   rcases h with h | h
   ·simp [h]
   ·by_cases h':at' l i<0 <;> simp [h,h']
  rw [this,bs,if_pos rfl,if_pos h]; rfl
 ·have:(if decide (at' l i<0)=true then some true else some (decide (n<=at' l i)))=some false:=by
   rw [if_neg (by simp; omega),decide_eq_false (by omega)]
  rw [this,bs,if_neg (by decide),if_neg h]
  by_cases h0:0<i
  ·rw [if_pos (by simpa using h0),w64_id (by omega) (by omega),idx_at (by omega) (by omega),bs,bs]
   by_cases h3:at' l i<=at' l (i - 1)
   ·rw [if_pos (by simpa using h3),if_pos ⟨h0,h3⟩]; rfl
   ·rw [if_neg (by simpa using h3),if_neg (fun h=>h3 h.2)]; rfl
  ·rw [if_neg (by simpa using h0),bs,if_neg (by decide),if_neg (fun h=>h0 h.1)]; rfl
theorem fst_getD0 {c:Int->Option Int} {a b:Int} (hc:∀ i,c i≠some 0) (h:(fst c a b).getD 0=0):∀ i,a<=i->i<b->c i=none:=by
 have:fst c a b=none:=by
  cases hf:fst c a b with
  | none=>rfl
  | some r=>
   rw [hf] at h
   simp only [Option.getD] at h
   subst h
   obtain ⟨i,_,_,h3,_⟩:=fst_some hf
   exact (hc i h3).elim
 exact fst_none.1 this
theorem asc_ok {l:List Int} {n:Int} (h:ascE l n=0):(∀ x∈l,0<=x∧x<n)∧l.Pairwise (·<·):=by
 have hc:=fst_getD0 (c:=fun i=>if at' l i<0∨n<=at' l i then some 6 else if 0<i∧at' l i<=at' l (i - 1) then some 12 else none) (fun i=>by
  split
  ·simp
  ·split <;> simp) h
 have h1:∀ i:Int,0<=i->i<l.length->(0<=at' l i∧at' l i<n)∧(0<i->at' l (i - 1)<at' l i):=by
  intro i h0 h2
  have:=hc i h0 h2
  split at this
  ·cases this
  ·split at this
   ·cases this
   ·omega
 refine ⟨fun x hx=>?_,at_pairwise (fun i j h0 hij hj=>?_)⟩
 ·obtain ⟨i,i1,i2,rfl⟩:=mem_at hx
  exact (h1 i i1 i2).1
 ·obtain ⟨k,hk⟩:∃ k:Nat,j=i+1+k:=⟨(j - i - 1).toNat,by omega⟩
  subst hk
  clear hij
  induction k with
  | zero=>
   have:=(h1 (i+1) (by omega) (by omega)).2 (by omega)
   rw [show i+1 - 1=i by omega] at this
   simpa using this
  | succ k ih=>
   have a:=ih (by omega)
   have b:=(h1 (i+1+((k+1:Nat):Int)) (by omega) hj).2 (by omega)
   rw [show i+1+((k+1:Nat):Int) - 1=i+1+k by omega] at b
   omega
theorem p_search {l:List Int} (hl:l.length<=1000) (hp:l.Pairwise (·<·)) (v:Int):slices_BinarySearch_int l v=some (((l.countP (fun x=>decide (x<v)):Nat):Int),hasB l v):=by
 unfold slices_BinarySearch_int
 rw [if_pos ⟨by unfold nmax; omega,hp.imp (fun h=>by omega)⟩]
 congr 2
 rw [Bool.eq_iff_iff,hasB_iff,List.contains_iff_mem]
def partE (g:Graph) (p:Part):Int:=
 if ascE p.Nodes g.Nodes.length≠0 then ascE p.Nodes g.Nodes.length else if ascE p.Edges g.Edges.length≠0 then ascE p.Edges g.Edges.length else
 (fst (fun i=>if (hasB p.Nodes (at' g.Edges (at' p.Edges i)).From&&hasB p.Nodes (at' g.Edges (at' p.Edges i)).To)=true then none else some 14) 0 p.Edges.length).getD 0
structure PartOk (g:Graph) (p:Part):Prop where
 nodes:(∀ x∈p.Nodes,0<=x∧x<g.Nodes.length)∧p.Nodes.Pairwise (·<·)
 edges:(∀ x∈p.Edges,0<=x∧x<g.Edges.length)∧p.Edges.Pairwise (·<·)
 ends : ∀ x ∈ p.Edges, (at' g.Edges x).From ∈ p.Nodes ∧ (at' g.Edges x).To ∈ p.Nodes
theorem partOk {g:Graph} {p:Part} (h:partE g p=0):PartOk g p:=by
 unfold partE at h
 split at h
 ·omega
 ·split at h
  ·omega
  ·rename_i h1 h2
   refine ⟨asc_ok (by omega),asc_ok (by omega),fun x hx=>?_⟩
   obtain ⟨i,i1,i2,rfl⟩:=mem_at hx
   have:=fst_getD0 (c:=fun i=>if (hasB p.Nodes (at' g.Edges (at' p.Edges i)).From&&hasB p.Nodes (at' g.Edges (at' p.Edges i)).To)=true then none else some 14) (fun i=>by
    split <;> simp) h i i1 i2
   split at this
   ·rename_i hb
    rw [Bool.and_eq_true,hasB_iff,hasB_iff] at hb
    exact hb
   ·cases this
def partV (g:Graph) (p:Part):Int:=if graphE g≠0 then graphE g else partE g p
structure FewP (p:Part):Prop where
 nodes:p.Nodes.length<=1000
 edges:p.Edges.length<=1000
theorem p_partV {g:Graph} {p:Part} (hp:FewP p):subgraph_Valid g p=some (partV g p):=by
 unfold subgraph_Valid partV
 rw [p_Graph,bs]
 refine chE fun hg=>?_
 have hgo:=graphOk hg
 unfold subgraph_part partE
 rw [p_asc hp.nodes,bs,p_asc hp.edges,bs,Option.bind_fun_some]
 refine chE fun h1=>chE fun h2=>?_
 obtain ⟨a1,a2⟩:=asc_ok h1
 obtain ⟨b1,b2⟩:=asc_ok h2
 rw [forR_fst (fun i=>if (hasB p.Nodes (at' g.Edges (at' p.Edges i)).From&&hasB p.Nodes (at' g.Edges (at' p.Edges i)).To)=true then none else some 14),thenR_ans0]
 intro i i1 i2 _
 have hb:=b1 _ (at_mem i1 i2)
 unfold subgraph_has
 rw [idx_at i1 i2,bs,idx_at hb.1 hb.2]
 simp only [bs,p_search hp.nodes a2]
 cases hasB p.Nodes (at' g.Edges (at' p.Edges i)).From <;> cases hasB p.Nodes (at' g.Edges (at' p.Edges i)).To <;> rfl
theorem r_partV {g:Graph} {p:Part} (hp:FewP p):ref07_Valid g p=some (partV g p):=by
 unfold ref07_Valid partV
 rw [r_Graph,bs]
 refine chE fun hg=>?_
 have hgo:=graphOk hg
 unfold ref07_Right partE
 rw [r_asc hp.nodes,bs,r_asc hp.edges,bs,Option.bind_fun_some]
 refine chE fun h1=>chE fun h2=>?_
 obtain ⟨b1,b2⟩:=asc_ok h2
 rw [forR_fst (fun i=>if (hasB p.Nodes (at' g.Edges (at' p.Edges i)).From&&hasB p.Nodes (at' g.Edges (at' p.Edges i)).To)=true then none else some 14),thenR_ans0]
 intro i i1 i2 _
 have hb:=b1 _ (at_mem i1 i2)
 rw [idx_at i1 i2,bs,idx_at hb.1 hb.2]
 simp only [bs,r_has07]
 cases hasB p.Nodes (at' g.Edges (at' p.Edges i)).From <;> cases hasB p.Nodes (at' g.Edges (at' p.Edges i)).To <;> rfl
def partG (g:Graph) (p:Part):Graph:=⟨p.Nodes.map (at' g.Nodes),p.Edges.map fun x=>⟨(at' g.Edges x).Type',ixS p.Nodes (at' g.Edges x).From,ixS p.Nodes (at' g.Edges x).To⟩⟩
theorem map_take_succ {α:Type} {l:List Int} {f:Int->α} {i:Int} (h0:0<=i) (h1:i<l.length):(l.take (i+1).toNat).map f=(l.take i.toNat).map f++[f (at' l i)]:=by
 rw [take_succ_at h0 h1,List.map_append]; rfl
theorem grow_nodes {g:Graph} {l:List Int} (hl:l.length<=1000) (h:∀ x∈l,0<=x∧x<g.Nodes.length) (es:List Edge):(forA (fun (i0:Int) (s0:Graph)=>
 (idx l i0).bind fun x27=>
 (idx g.Nodes x27).bind fun x34=>
 (appC s0.Nodes [x34]).bind fun x37=>
 some (Graph.mk x37 s0.Edges)) 0 (l.length:Int) (Graph.mk [] es))=some (Graph.mk (l.map (at' g.Nodes)) es):=by
 rw [forA_fn (fun i=>Graph.mk ((l.take i.toNat).map (at' g.Nodes)) es) (by omega) (by simp)]
 ·rw [Int.toNat_natCast,List.take_length]
 ·intro i i1 i2
  have hx:=h _ (at_mem i1 i2)
  rw [idx_at i1 i2,bs,idx_at hx.1 hx.2,bs,appC_some (by simp; unfold nmax; omega),bs,map_take_succ i1 i2]
theorem grow_edges {g:Graph} {l:List Int} (hl:l.length<=1000) (h:∀ x∈l,0<=x∧x<g.Edges.length) (ns:List Int) (F:Edge->Edge) {f:Edge->List Edge->Option (List Edge)} (hf:∀ x∈l,∀ s,s.length<=1000->f (at' g.Edges x) s=some (s++[F (at' g.Edges x)])):(forA (fun (i0:Int) (s0:Graph)=>
 (idx l i0).bind fun x27=>
 (idx g.Edges x27).bind fun x34=>
 (f x34 s0.Edges).bind fun x37=>
 some (Graph.mk s0.Nodes x37)) 0 (l.length:Int) (Graph.mk ns []))=some (Graph.mk ns (l.map fun x=>F (at' g.Edges x))):=by
 rw [forA_fn (fun i=>Graph.mk ns ((l.take i.toNat).map fun x=>F (at' g.Edges x))) (by omega) (by simp)]
 ·rw [Int.toNat_natCast,List.take_length]
 ·intro i i1 i2
  have hx:=h _ (at_mem i1 i2)
  rw [idx_at i1 i2,bs,idx_at hx.1 hx.2,bs,hf _ (at_mem i1 i2) _ (by simp; omega),bs,map_take_succ i1 i2]
theorem p_Extract {g:Graph} {p:Part} (hp:FewP p):subgraph_Extract g p=some (if partV g p≠0 then (⟨[],[]⟩,⟨[],[]⟩,partV g p) else (partG g p,⟨p.Nodes,p.Edges⟩,0)):=by
 unfold subgraph_Extract
 rw [p_partV hp,bs]
 refine chE' fun h=>?_
 have h2:graphE g=0∧partE g p=0:=by
  unfold partV at h
  split at h
  ·omega
  ·exact ⟨by omega,h⟩
 have ho:=partOk h2.2
 rw [grow_nodes hp.nodes ho.nodes.1,bs]
 have:=grow_edges (g:=g) (l:=p.Edges) hp.edges ho.edges.1 (p.Nodes.map (at' g.Nodes)) (fun x=>⟨x.Type',ixS p.Nodes x.From,ixS p.Nodes x.To⟩) (f:=fun x50 s=>
  (slices_BinarySearch_int p.Nodes x50.From).bind fun x57=>
  (slices_BinarySearch_int p.Nodes x50.To).bind fun x66=>
  appC s [Edge.mk x50.Type' x57.1 x66.1]) (fun x hx s hs=>by
   have he:=ho.ends x hx
   rw [p_search hp.nodes ho.nodes.2,bs,p_search hp.nodes ho.nodes.2,bs,appC_some (by simp; unfold nmax; omega),count_ix ho.nodes.2 he.1,count_ix ho.nodes.2 he.2])
 simp only [Option.bind_assoc] at this
 rw [this,bs]
 unfold slices_Clone_int
 have h3:=hp.nodes
 have h4:=hp.edges
 rw [appC_nil (by unfold nmax; omega),bs,appC_nil (by unfold nmax; omega)]
 rfl
theorem r_Extract {g:Graph} {p:Part} (hp:FewP p):ref07_Extract g p=some (if partV g p≠0 then (⟨[],[]⟩,⟨[],[]⟩,partV g p) else (partG g p,⟨p.Nodes,p.Edges⟩,0)):=by
 unfold ref07_Extract
 rw [r_partV hp,bs]
 refine chE' fun h=>?_
 have h2:graphE g=0∧partE g p=0:=by
  unfold partV at h
  split at h
  ·omega
  ·exact ⟨by omega,h⟩
 have ho:=partOk h2.2
 rw [grow_nodes hp.nodes ho.nodes.1,bs]
 have:=grow_edges (g:=g) (l:=p.Edges) hp.edges ho.edges.1 (p.Nodes.map (at' g.Nodes)) (fun x=>⟨x.Type',ixS p.Nodes x.From,ixS p.Nodes x.To⟩) (f:=fun x50 s=>
  (ref07_index p.Nodes x50.From).bind fun x57=>
  (ref07_index p.Nodes x50.To).bind fun x66=>
  appC s [Edge.mk x50.Type' x57 x66]) (fun x hx s hs=>by
   rw [r_ix07,bs,r_ix07,bs,appC_some (by simp; unfold nmax; omega)])
 simp only [Option.bind_assoc] at this
 rw [this,bs]
 have h3:=hp.nodes
 have h4:=hp.edges
 rw [appC_nil (by unfold nmax; omega),bs,appC_nil (by unfold nmax; omega)]
 rfl
end Go.Sf.Sc
