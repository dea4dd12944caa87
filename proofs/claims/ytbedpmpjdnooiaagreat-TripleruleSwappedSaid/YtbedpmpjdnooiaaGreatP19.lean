/- Plain lemmas: what the functions of the program and of the reference compute. -/
import Derived.Test.YtbedpmpjdnooiaaGreatP14
set_option maxRecDepth 100000
namespace Go.Sf
theorem at_app1 {α:Type} [Inhabited α] {l m:List α} {i:Int} (h1:i.toNat<l.length):at' (l++m) i=at' l i:=by
 unfold at'
 rw [List.getD_eq_getElem?_getD,List.getD_eq_getElem?_getD,List.getElem?_append_left h1]
theorem at_mapI {α β:Type} [Inhabited α] [Inhabited β] {l:List α} {g:α->β} {i:Int} (h0:0<=i) (h1:i<l.length):at' (l.map g) i=g (at' l i):=by
 have h:=idx_at h0 h1
 have:=(idx_some h).2.2
 unfold at' at *
 rw [List.getD_eq_getElem?_getD,List.getElem?_map,this]; rfl
theorem at_num {n i:Int} (h0:0<=i) (h1:i<n):at' (numS n) i=i:=by
 unfold numS
 have:((List.range n.toNat).map Int.ofNat)[i.toNat]?=some i:=by
  rw [List.getElem?_map,List.getElem?_range (by omega)]
  simp; omega
 unfold at'
 rw [List.getD_eq_getElem?_getD,this]; rfl
theorem mem_num {n x:Int}:x∈numS n↔0<=x∧x<n:=by
 unfold numS
 rw [List.mem_map]
 constructor
 ·rintro ⟨k,hk,rfl⟩
  have:=List.mem_range.1 hk
  exact ⟨Int.natCast_nonneg k,by show (k:Int)<n; omega⟩
 ·rintro ⟨h0,h1⟩
  exact ⟨x.toNat,List.mem_range.2 (by omega),Int.toNat_of_nonneg h0⟩
theorem num_asc (n:Int):(numS n).Pairwise (·<·):=by
 refine at_pairwise fun i j h0 h1 h2=>?_
 rw [numS_len] at h2
 rw [at_num h0 (by omega),at_num (by omega) (by omega)]
 exact h1
theorem num_nodup (n:Int):(numS n).Nodup:=(num_asc n).imp (fun h=>by omega)
theorem ix_num {n x:Int} (h0:0<=x) (h1:x<n):ixS (numS n) x=x:=by
 obtain ⟨a,b,c,_⟩:=ixS_mem (mem_num.2 ⟨h0,h1⟩)
 rw [numS_len] at b
 rw [at_num a (by omega)] at c
 exact c
end Go.Sf
namespace Go.Sf.Sc
open Go Go.Sf
structure MadeG (g:Graph):Prop where
 nlen:g.Nodes.length<=20
 elen:g.Edges.length<=20
 node:∀ n∈g.Nodes,0<=n∧n<5
 edge:∀ e∈g.Edges,(0<=e.Type'∧e.Type'<6)∧(0<=e.From∧e.From<g.Nodes.length)∧(0<=e.To∧e.To<g.Nodes.length)∧fitsB exT e.Type' (at' g.Nodes e.From) (at' g.Nodes e.To)=true
theorem MadeG.e0 {g:Graph} (h:MadeG g):graphE g=0:=by
 have:=h.nlen
 have:=h.elen
 unfold graphE
 rw [if_neg (by omega),if_neg,if_neg]
 ·rw [Bool.not_eq_true,List.any_eq_false]
  intro e he
  have:=h.edge e he
  simp [fitB,kindB]; omega
 ·rw [Bool.not_eq_true,List.any_eq_false]
  intro n hn
  have:=h.node n hn
  simp [kindB]; omega
theorem MadeG.ok {g:Graph} (h:MadeG g):GraphOk g:=graphOk h.e0
theorem exT_len:exT.Nodes.length=5∧exT.Edges.length=6:=⟨rfl,rfl⟩
theorem MadeG.typed {g:Graph} (h:MadeG g):typedB exT g=true:=by
 unfold typedB
 rw [exT_len.1,exT_len.2,Bool.and_eq_true,Bool.not_eq_true',Bool.not_eq_true',List.any_eq_false,List.any_eq_false]
 refine ⟨fun n hn=>?_,fun e he=>?_⟩
 ·have:=h.node n hn
  simp; omega
 ·have:=h.edge e he
  simp; omega
theorem exV:(typesV exT).2=0:=by decide +kernel
theorem MadeG.pat {g:Graph} (h:MadeG g):patE exT ⟨g,[],0,[]⟩=0:=by
 unfold patE
 rw [exV,h.e0,h.typed]
 rfl
structure GoodR (L R:Graph) (m:Morphism):Prop where
 l:MadeG L
 r:MadeG R
 nlen:m.Nodes.length=L.Nodes.length
 elen:m.Edges.length=L.Edges.length
 node:∀ i:Int,0<=i->i<L.Nodes.length->(0<=at' m.Nodes i∧at' m.Nodes i<R.Nodes.length)∧at' R.Nodes (at' m.Nodes i)=at' L.Nodes i
 edge:∀ i:Int,0<=i->i<L.Edges.length->(0<=at' m.Edges i∧at' m.Edges i<R.Edges.length)∧(at' L.Edges i).Type'=(at' R.Edges (at' m.Edges i)).Type' ∧
  at' m.Nodes (at' L.Edges i).From=(at' R.Edges (at' m.Edges i)).From∧at' m.Nodes (at' L.Edges i).To=(at' R.Edges (at' m.Edges i)).To
 nn:m.Nodes.Nodup
 ne:m.Edges.Nodup
theorem asc_num {n:Int} {k:Nat} (h:n=k):ascE (numS n) k=0:=by
 subst h
 unfold ascE
 have:fst (fun i=>if at' (numS k) i<0∨(k:Int)<=at' (numS k) i then some (6:Int) else if 0<i∧at' (numS k) i<=at' (numS k) (i - 1) then some 12 else none) 0 (numS k).length=none:=by
  rw [fst_none]
  intro i i0 i1
  rw [numS_len] at i1
  rw [at_num i0 (by omega),if_neg (by omega)]
  by_cases h0:0<i
  ·rw [at_num (by omega) (by omega),if_neg (by omega)]
  ·rw [if_neg (by omega)]
 rw [this]; rfl
def wholeP (g:Graph):Part:=⟨numS g.Nodes.length,numS g.Edges.length⟩
theorem part_whole {g:Graph} (h:MadeG g):partV g (wholeP g)=0:=by
 unfold partV
 rw [h.e0,if_neg (by decide)]
 unfold partE wholeP
 rw [asc_num rfl,asc_num rfl,if_neg (by decide),if_neg (by decide)]
 have:fst (fun i=>if (hasB (numS g.Nodes.length) (at' g.Edges (at' (numS g.Edges.length) i)).From&&hasB (numS g.Nodes.length) (at' g.Edges (at' (numS g.Edges.length) i)).To)=true then none else some (14:Int)) 0 (numS g.Edges.length).length=none:=by
  rw [fst_none]
  intro i i0 i1
  rw [numS_len] at i1
  rw [at_num i0 (by omega)]
  have he:=h.edge _ (at_mem (l:=g.Edges) i0 (by omega))
  rw [if_pos]
  rw [Bool.and_eq_true,hasB_iff,hasB_iff,mem_num,mem_num]
  exact ⟨he.2.1,he.2.2.1⟩
 rw [this]; rfl
theorem partG_whole {g:Graph} (h:MadeG g):partG g (wholeP g)=g:=by
 have e1:(numS g.Nodes.length).map (at' g.Nodes)=g.Nodes:=by
  refine at_ext (by simp [numS_len]) fun i i0 i1=>?_
  simp only [List.length_map,numS_len] at i1
  rw [at_mapI i0 (by rw [numS_len]; omega),at_num i0 (by omega)]
 have e2:(numS g.Edges.length).map (fun x=>(⟨(at' g.Edges x).Type',ixS (numS g.Nodes.length) (at' g.Edges x).From,ixS (numS g.Nodes.length) (at' g.Edges x).To⟩:Edge))=g.Edges:=by
  refine at_ext (by simp [numS_len]) fun i i0 i1=>?_
  simp only [List.length_map,numS_len] at i1
  have he:=h.edge _ (at_mem (l:=g.Edges) i0 (by omega))
  rw [at_mapI i0 (by rw [numS_len]; omega),at_num i0 (by omega),ix_num he.2.1.1 he.2.1.2,ix_num he.2.2.1.1 he.2.2.1.2]
 unfold partG wholeP
 rw [e1,e2]
theorem good_mor {L R:Graph} {m:Morphism} (h:GoodR L R m):morE L R m=0:=by
 unfold morE
 rw [h.l.e0,h.r.e0,if_neg (by decide),if_neg (by decide),if_neg (by have:=h.nlen; have:=h.elen; omega)]
 have e1:fst (mNodeE L R m) 0 m.Nodes.length=none:=by
  rw [fst_none]
  intro i i0 i1
  have:=h.node i i0 (by have:=h.nlen; omega)
  unfold mNodeE
  rw [if_neg (by omega),if_neg (by simpa using this.2)]
 have e2:fst (mEdgeE L R m) 0 m.Edges.length=none:=by
  rw [fst_none]
  intro i i0 i1
  have:=h.edge i i0 (by have:=h.elen; omega)
  unfold mEdgeE
  rw [if_neg (by omega),if_neg (by simpa using this.2.1),if_neg (by simp [this.2.2.1,this.2.2.2])]
 rw [e1,e2]; rfl
theorem exA:∀ n:Int,0<=n->n<5->(at' exT.Nodes n).Abstract=false:=by
 intro n h0 h1
 have:n=0∨n=1∨n=2∨n=3∨n=4:=by omega
 rcases this with rfl | rfl | rfl | rfl | rfl <;> rfl
theorem MadeG.fits {g:Graph} (h:MadeG g) {i:Int} (i0:0<=i) (i1:i<g.Edges.length):edgeFits exT g i=true:=(h.edge _ (at_mem i0 i1)).2.2.2
theorem good_mak {R:Graph} (h:MadeG R) {ns es:List Int} (hn:∀ x∈ns,0<=x∧x<R.Nodes.length) (he:∀ x∈es,0<=x∧x<R.Edges.length):makB exT R ns es=true:=by
 unfold makB
 rw [Bool.and_eq_true,Bool.not_eq_true',Bool.not_eq_true',List.any_eq_false,List.any_eq_false]
 refine ⟨fun x hx=>?_,fun x hx=>?_⟩
 ·have h1:=hn x hx
  have h2:=h.node _ (at_mem h1.1 h1.2)
  rw [exA _ h2.1 h2.2]; decide
 ·have h1:=he x hx
  rw [h.fits h1.1 h1.2]; decide
theorem over_nil (N:Nat) (t:Types) (p:Pattern):overN N t p (emptyC 1)=0:=by
 cases N with
 | zero=>rfl
 | succ N=>rfl
theorem shape1:shapeE (emptyC 1)=0:=by decide +kernel
theorem good_rule {L R:Graph} {m:Morphism} (h:GoodR L R m) {nm:ByteArray} (hn:isName nm=true):ruleE exT (ruleR nm L R m)=0:=by
 have hk:keptE (ruleR nm L R m)=0:=by
  unfold keptE
  show (if partV L (wholeP L)≠0 then _ else if morE (partG L (wholeP L)) R m≠0 then _ else if injB m=false then 11 else 0)=0
  rw [part_whole h.l,partG_whole h.l,good_mor h,if_neg (by decide),if_neg (by decide),if_neg]
  unfold injB
  rw [disB_iff.2 h.nn,disB_iff.2 h.ne]; decide
 have hr:rightE exT (ruleR nm L R m)=0:=by
  unfold rightE
  show (if graphE R≠0 then _ else if typedB exT R=false then 13 else _)=0
  rw [h.r.e0,h.r.typed]; rfl
 unfold ruleE
 rw [exV,if_neg (by decide),if_neg (by show ¬ isName nm=false; rw [hn]; decide),show patE exT (ruleR nm L R m).Left=0 from h.l.pat,if_neg (by decide),hr,if_neg (by decide),hk,if_neg (by decide),good_mak (R:=(ruleR nm L R m).Right.Graph) (ns:=createdN (ruleR nm L R m)) (es:=createdE (ruleR nm L R m)) h.r (fun x hx=>restS_mem hx) (fun x hx=>restS_mem hx),if_neg (by decide)]
 unfold condE
 rw [show patE exT (ruleR nm L R m).Left=0 from h.l.pat,if_neg (by decide),show shapeE (ruleR nm L R m).Condition=0 from shape1,if_neg (by decide)]
 exact over_nil _ _ _
theorem good_few {L R:Graph} {m:Morphism} (h:GoodR L R m) {nm:ByteArray} (hn:(nm.size:Int)<=60):FewR (ruleR nm L R m):=by
 have a:=h.l.nlen
 have b:=h.l.elen
 have c:=h.r.nlen
 have d:=h.r.elen
 have e:=h.nlen
 have f:=h.elen
 refine ⟨hn,⟨?_,?_,Nat.zero_le _,Nat.zero_le _⟩,⟨?_,?_,Nat.zero_le _,Nat.zero_le _⟩,⟨?_,?_⟩,⟨?_,?_⟩,emptyC_few 1⟩
 ·show L.Nodes.length<=45; omega
 ·show L.Edges.length<=90; omega
 ·show R.Nodes.length<=45; omega
 ·show R.Edges.length<=90; omega
 ·show (numS L.Nodes.length).length<=1000; rw [numS_len]; omega
 ·show (numS L.Edges.length).length<=1000; rw [numS_len]; omega
 ·show m.Nodes.length<=140; omega
 ·show m.Edges.length<=140; omega
theorem exPar:∀ n∈exT.Nodes,n.Parent=-1:=by decide
theorem leaf_ex {l:List Int} (h:∀ n∈l,0<=n):leafB exT l=true:=by
 unfold leafB
 rw [Bool.not_eq_true',List.any_eq_false]
 intro k hk
 rw [Bool.not_eq_true,List.any_eq_false]
 intro n hn
 have:=h k hk
 rw [exPar n hn,decide_eq_true_eq]
 omega
theorem good_trip {L R:Graph} {m:Morphism} (h:GoodR L R m) {nm:ByteArray} (hn:isName nm=true) {S:Sorts} (hS:sortsE exT S=0):tripE exT S (ruleR nm L R m)=0:=by
 unfold tripE
 rw [hS,if_neg (by decide),good_rule h hn,if_neg (by decide),if_neg,if_pos]
 ·rw [Bool.and_eq_true,Bool.and_eq_true]
  refine ⟨⟨leaf_ex fun n hn=>(h.l.node n hn).1,leaf_ex fun n hn=>(h.r.node n hn).1⟩,?_⟩
  unfold fitsG
  rw [Bool.not_eq_true',anyR_false]
  intro i i0 i1
  rw [show edgeFits exT (ruleR nm L R m).Left.Graph i=true from h.l.fits i0 i1]; rfl
 ·rw [Bool.not_eq_false]
  unfold creaB
  simp only [Bool.and_eq_true,decide_eq_true_eq]
  refine ⟨⟨⟨⟨rfl,rfl,rfl,rfl⟩,rfl⟩,rfl⟩,?_,?_⟩
  ·show (numS L.Nodes.length).length=L.Nodes.length; rw [numS_len]; omega
  ·show (numS L.Edges.length).length=L.Edges.length; rw [numS_len]; omega
end Go.Sf.Sc
