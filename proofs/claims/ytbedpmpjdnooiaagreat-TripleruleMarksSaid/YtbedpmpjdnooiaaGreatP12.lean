/- Plain lemmas: what the functions of the program and of the reference compute. -/
import Derived.Test.YtbedpmpjdnooiaaGreatP11
set_option maxRecDepth 100000
namespace Go.Sf
def selS (q:Int->Bool) (n:Int):List Int:=((List.range n.toNat).map Int.ofNat).filter q
theorem selS_succ (q:Int->Bool) {i:Int} (h:0<=i):selS q (i+1)=selS q i++if q i=true then [i] else []:=by
 unfold selS
 rw [show (i+1).toNat=i.toNat+1 by omega,List.range_succ,List.map_append,List.filter_append]
 congr 1
 simp only [List.map_cons,List.map_nil,List.filter_cons,List.filter_nil,show Int.ofNat i.toNat=i from Int.toNat_of_nonneg h]
theorem selS_mem {q:Int->Bool} {n x:Int} (h:x∈selS q n):0<=x∧x<n:=by
 unfold selS at h
 obtain ⟨h1,_⟩:=List.mem_filter.1 h
 obtain ⟨k,hk,rfl⟩:=List.mem_map.1 h1
 have:=List.mem_range.1 hk
 constructor
 ·exact Int.natCast_nonneg k
 ·show (k:Int)<n
  omega
theorem selS_len (q:Int->Bool) (n:Int):(selS q n).length<=n.toNat:=by
 unfold selS
 exact Nat.le_trans (List.length_filter_le _ _) (by simp)
def numS (n:Int):List Int:=(List.range n.toNat).map Int.ofNat
theorem numS_succ {i:Int} (h:0<=i):numS (i+1)=numS i++[i]:=by
 unfold numS
 rw [show (i+1).toNat=i.toNat+1 by omega,List.range_succ,List.map_append]
 simp only [List.map_cons,List.map_nil,show Int.ofNat i.toNat=i from Int.toNat_of_nonneg h]
theorem numS_len (n:Int):(numS n).length=n.toNat:=by simp [numS]
end Go.Sf
namespace Go.Sf.Sc
open Go Go.Sf
def nodeQ (s:Sorts) (g:Graph) (sort i:Int):Bool:=decide (at' s.Nodes (at' g.Nodes i)=sort)
def edgeQ (s:Sorts) (g:Graph) (sort i:Int):Bool:=decide (at' s.Edges (at' g.Edges i).Type'=sort)
def sideP (s:Sorts) (g:Graph) (sort:Int):Part:=⟨selS (nodeQ s g sort) g.Nodes.length,selS (edgeQ s g sort) g.Edges.length⟩
structure Sorted (s:Sorts) (g:Graph):Prop where
 ok:GraphOk g
 node:∀ n∈g.Nodes,0<=n∧n<s.Nodes.length
 edge:∀ e∈g.Edges,0<=e.Type'∧e.Type'<s.Edges.length
theorem sorted_of {t:Types} {s:Sorts} {g:Graph} (hs:SortsOk t s) (hg:GraphOk g) (ht:typedB t g=true):Sorted s g:=by
 have:=typed_of hg ht
 refine ⟨hg,fun n hn=>?_,fun e he=>?_⟩
 ·rw [hs.nlen]; exact this.1 n hn
 ·rw [hs.elen]; exact this.2 e he
theorem side_few {s:Sorts} {g:Graph} (h:GraphOk g) (sort:Int):(sideP s g sort).Nodes.length<=1000∧(sideP s g sort).Edges.length<=1000:=by
 have:=h.nodes
 have:=h.edges
 have h1:=selS_len (nodeQ s g sort) g.Nodes.length
 have h2:=selS_len (edgeQ s g sort) g.Edges.length
 unfold sideP
 constructor
 ·show (selS (nodeQ s g sort) g.Nodes.length).length<=1000
  omega
 ·show (selS (edgeQ s g sort) g.Edges.length).length<=1000
  omega
theorem p_side1 {s:Sorts} {g:Graph} (h:Sorted s g) (sort:Int):triplerule_side_1 g s sort=some ⟨partG g (sideP s g sort),(sideP s g sort).Nodes,(sideP s g sort).Edges⟩:=by
 have:=h.ok.nodes
 have:=h.ok.edges
 unfold triplerule_side_1 triplerule_choose
 rw [forA_fn (fun i=>triplerule_chosen.mk ⟨(selS (nodeQ s g sort) i).map (at' g.Nodes),[]⟩ (selS (nodeQ s g sort) i) []) (by omega) (by rfl),bs,
  forA_fn (fun i=>triplerule_chosen.mk ⟨(selS (nodeQ s g sort) g.Nodes.length).map (at' g.Nodes),(selS (edgeQ s g sort) i).map fun x=>⟨(at' g.Edges x).Type',ixS (selS (nodeQ s g sort) g.Nodes.length) (at' g.Edges x).From,ixS (selS (nodeQ s g sort) g.Nodes.length) (at' g.Edges x).To⟩⟩ (selS (nodeQ s g sort) g.Nodes.length) (selS (edgeQ s g sort) i)) (by omega) (by rfl)]
 ·rfl
 ·intro i i1 i2
  have h2:=h.edge _ (at_mem i1 i2)
  have hl:=selS_len (edgeQ s g sort) i
  rw [idx_at i1 i2,bs]
  unfold triplerule_side_1_2
  dsimp only
  rw [idx_at i1 i2,bs,idx_at h2.1 h2.2,bs,bs,selS_succ _ i1]
  change (if edgeQ s g sort i=true then _ else _)=_
  cases edgeQ s g sort i
  ·simp only [Bool.false_eq_true,if_false,List.append_nil]
  ·simp only [if_true,ix_int',bs]
   rw [appC_some (by simp; unfold nmax; omega),bs,appC_some (by simp; unfold nmax; omega),bs,List.map_append]; rfl
 ·intro i i1 i2
  have h2:=h.node _ (at_mem i1 i2)
  have hl:=selS_len (nodeQ s g sort) i
  rw [idx_at i1 i2,bs]
  unfold triplerule_side_1_1
  dsimp only
  rw [idx_at i1 i2,bs,idx_at h2.1 h2.2,bs,bs,selS_succ _ i1]
  change (if nodeQ s g sort i=true then _ else _)=_
  cases nodeQ s g sort i
  ·simp only [Bool.false_eq_true,if_false,List.append_nil]
  ·simp only [if_true]
   rw [appC_some (by simp; unfold nmax; omega),bs,appC_some (by simp; unfold nmax; omega),bs,List.map_append]; rfl
theorem p_whole {g:Graph} (h:g.Nodes.length<=1000∧g.Edges.length<=1000):triplerule_whole g=some ⟨numS g.Nodes.length,numS g.Edges.length⟩:=by
 unfold triplerule_whole
 rw [forA_fn (fun i=>Part.mk (numS i) []) (by omega) (by rfl),bs,forA_fn (fun i=>Part.mk (numS g.Nodes.length) (numS i)) (by omega) (by rfl)]
 ·rfl
 ·intro i i1 i2
  have:=numS_len i
  rw [appC_some (by simp; unfold nmax; omega),numS_succ i1]; rfl
 ·intro i i1 i2
  have:=numS_len i
  rw [appC_some (by simp; unfold nmax; omega),numS_succ i1]; rfl
theorem r_numbers {n:Int} (h0:0<=n) (h1:n<=1000):ref05_Numbers 0 n=some (numS n):=by
 unfold ref05_Numbers
 rw [forA_fn numS h0 (by rfl)]
 ·rfl
 ·intro i i1 i2
  have:=numS_len i
  rw [show (0:Int)+i=i by omega,w64_id (by omega) (by omega),appC_some (by simp; unfold nmax; omega),numS_succ i1]; rfl
theorem r_whole {g:Graph} (h:g.Nodes.length<=1000∧g.Edges.length<=1000):ref53_whole g=some ⟨numS g.Nodes.length,numS g.Edges.length⟩:=by
 unfold ref53_whole
 rw [r_numbers (by omega) (by omega),bs,r_numbers (by omega) (by omega)]; rfl
def emptyC (k:Int):Condition:=⟨k,[],⟨[],[]⟩,⟨⟨[],[]⟩,[],0,[]⟩⟩
def ruleR (name:ByteArray) (l r:Graph) (into:Morphism):Rule:=⟨name,⟨l,[],0,[]⟩,⟨r,[],0,[]⟩,⟨numS l.Nodes.length,numS l.Edges.length⟩,into,true,emptyC 1⟩
def zeroR:Rule:=⟨⟨#[]⟩,⟨⟨[],[]⟩,[],0,[]⟩,⟨⟨[],[]⟩,[],0,[]⟩,⟨[],[]⟩,⟨[],[]⟩,false,emptyC 0⟩
theorem p_made {l:Graph} (h:l.Nodes.length<=1000∧l.Edges.length<=1000) (x:Rule) (r:Graph) (into:Morphism):triplerule_made x l r into=some (ruleR x.Name l r into):=by
 unfold triplerule_made
 rw [p_whole h]; rfl
theorem r_made {l:Graph} (h:l.Nodes.length<=1000∧l.Edges.length<=1000) (x:Rule) (r:Graph) (into:Morphism):ref53_rule x l r into=some (ruleR x.Name l r into):=by
 unfold ref53_rule
 rw [r_whole h]; rfl
def intoS (a b l:List Int):List Int:=a.map fun i=>ixS b (at' l i)
def sideR (s:Sorts) (r:Rule) (sort:Int):Rule:=
 let a:=sideP s r.Left.Graph sort
 let b:=sideP s r.Right.Graph sort
 ruleR r.Name (partG r.Left.Graph a) (partG r.Right.Graph b) ⟨intoS a.Nodes b.Nodes r.Into.Nodes,intoS a.Edges b.Edges r.Into.Edges⟩
theorem trip_ok {t:Types} {s:Sorts} {r:Rule} (h:tripE t s r=0):SortsOk t s∧RuleOk t r∧r.Into.Nodes.length=r.Left.Graph.Nodes.length∧r.Into.Edges.length=r.Left.Graph.Edges.length:=by
 unfold tripE at h
 split at h
 ·omega
 split at h
 ·omega
 split at h
 ·cases h
 rename_i h1 h2 h3
 have hs:=(sorts_ok (t:=t) (s:=s) (by omega)).2
 have hr:=(rule_ok (t:=t) (r:=r) (by omega)).2
 have hc:creaB r=true:=by simpa using h3
 unfold creaB at hc
 simp only [Bool.and_eq_true,decide_eq_true_eq] at hc
 have n1:=hr.mor.nlen
 have n2:=hr.mor.elen
 unfold partG at n1 n2
 simp only [List.length_map] at n1 n2
 exact ⟨hs,hr,by omega,by omega⟩
theorem len_partG (g:Graph) (p:Part):(partG g p).Nodes.length=p.Nodes.length∧(partG g p).Edges.length=p.Edges.length:=by simp [partG]
theorem p_tside {t:Types} (hf:FewT t) {s:Sorts} {r:Rule} (hr:FewR r) (sort:Int):triplerule_side t s r sort=some (if tripE t s r≠0 then (zeroR,tripE t s r) else (sideR s r sort,0)):=by
 unfold triplerule_side
 rw [p_trip hf hr,bs]
 refine chE' fun h=>?_
 obtain ⟨hs,ho,l1,l2⟩:=trip_ok h
 have hL:=sorted_of hs ho.left ho.ltyped
 have hR:=sorted_of hs ho.right ho.rtyped
 have k1:=side_few (s:=s) ho.left sort
 rw [p_side1 hL,bs,p_side1 hR,bs]
 dsimp only
 rw [forA_fn (fun i=>Morphism.mk (intoS ((sideP s r.Left.Graph sort).Nodes.take i.toNat) (sideP s r.Right.Graph sort).Nodes r.Into.Nodes) []) (by omega) (by simp [intoS]),bs,
  forA_fn (fun i=>Morphism.mk (intoS ((sideP s r.Left.Graph sort).Nodes.take (sideP s r.Left.Graph sort).Nodes.length) (sideP s r.Right.Graph sort).Nodes r.Into.Nodes) (intoS ((sideP s r.Left.Graph sort).Edges.take i.toNat) (sideP s r.Right.Graph sort).Edges r.Into.Edges)) (by omega) (by simp [intoS]),bs,p_made (by rw [(len_partG _ _).1,(len_partG _ _).2]; exact k1)]
 ·simp only [Int.toNat_natCast,List.take_length]; rfl
 ·intro i i1 i2
  have hm:=selS_mem (at_mem (l:=(sideP s r.Left.Graph sort).Edges) i1 i2)
  rw [idx_at i1 i2,bs,idx_at hm.1 (by omega),bs,ix_int',bs,appC_some (by simp [intoS]; unfold nmax; omega),bs]
  unfold intoS
  rw [map_take_succ i1 i2]
 ·intro i i1 i2
  have hm:=selS_mem (at_mem (l:=(sideP s r.Left.Graph sort).Nodes) i1 i2)
  rw [idx_at i1 i2,bs,idx_at hm.1 (by omega),bs,ix_int',bs,appC_some (by simp [intoS]; unfold nmax; omega),bs]
  unfold intoS
  rw [map_take_succ i1 i2]
end Go.Sf.Sc
