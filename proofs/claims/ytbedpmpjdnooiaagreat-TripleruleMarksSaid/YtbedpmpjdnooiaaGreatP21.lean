/- Plain lemmas: what the functions of the program and of the reference compute. -/
import Derived.Test.YtbedpmpjdnooiaaGreatP19
set_option maxRecDepth 100000
namespace Go.Sf.Sc
open Go Go.Sf
theorem wf_u8 {x:Int} (h:(eU8 x).WF):ByteD x:=h
theorem wf_each {α:Type} {e:α->TV} {n:Nat} {l:List α} (h:(eL n e l).WF):∀ x∈l,(e x).WF:=by
 have h':_∧TV.WFs (l.map e):=h
 intro x hx
 exact (wfs_mem.1 h'.2) _ (List.mem_map.2 ⟨x,hx,rfl⟩)
theorem draft53_ok {d:ref53_Draft} (h:(eref53_Draft d).WF):Draft53Ok d:=by
 have h':TV.WFs [_,_,_,_]:=h
 obtain ⟨h1,h2,h3,h4,_⟩:=h'
 refine ⟨⟨fun x hx=>?_,fun x hx=>?_⟩,fun x hx=>wf_u8 (wf_each h3 x hx),fun x hx=>?_⟩
 ·have a:TV.WFs [_,_]:=wf_each h1 x hx
  exact ⟨wf_u8 a.1,wf_u8 a.2.1⟩
 ·have a:TV.WFs [_,_,_]:=wf_each h2 x hx
  exact ⟨wf_u8 a.1,wf_u8 a.2.1,wf_u8 a.2.2.1⟩
 ·have a:TV.WFs [_,_,_]:=wf_each h4 x hx
  exact ⟨wf_u8 a.1,wf_u8 a.2.1,wf_u8 a.2.2.1⟩
theorem exSok:sortsE exT exS=0:=by decide +kernel
theorem cases5 {n:Int} (h0:0<=n) (h1:n<5):n=0∨n=1∨n=2∨n=3∨n=4:=by omega
theorem cases6 {n:Int} (h0:0<=n) (h1:n<6):n=0∨n=1∨n=2∨n=3∨n=4∨n=5:=by omega
theorem MadeG.node_at {g:Graph} (h:MadeG g) {i:Int} (i0:0<=i) (i1:i<g.Nodes.length):0<=at' g.Nodes i∧at' g.Nodes i<5:=h.node _ (at_mem i0 i1)
theorem MadeG.edge_at {g:Graph} (h:MadeG g) {i:Int} (i0:0<=i) (i1:i<g.Edges.length):0<=(at' g.Edges i).Type'∧(at' g.Edges i).Type'<6:=(h.edge _ (at_mem i0 i1)).1
theorem name_r:isName ⟨#[114]⟩=true:=by decide
theorem r_small {d:ref53_Draft} {b:Bool} (h:law53_small d=some b) (hb:b=true):d.Nodes.length<=3∧d.Edges.length<=4:=by
 subst hb
 unfold law53_small at h
 simp at h
 omega
end Go.Sf.Sc
namespace Go.Sf.Sc
open Go Go.Sf
theorem fit_ex:∀ (t:Fin 6) (a b:Fin 5),fitsB exT (t.val:Int) (a.val:Int) (b.val:Int)=true->at' exS.Edges (t.val:Int)≠2->at' exS.Nodes (a.val:Int)=at' exS.Edges (t.val:Int)∧at' exS.Nodes (b.val:Int)=at' exS.Edges (t.val:Int):=by decide +kernel
theorem fit_sort {t a b:Int} (ht:0<=t∧t<6) (ha:0<=a∧a<5) (hb:0<=b∧b<5) (h:fitsB exT t a b=true) (h2:at' exS.Edges t≠2):at' exS.Nodes a=at' exS.Edges t∧at' exS.Nodes b=at' exS.Edges t:=by
 have:=fit_ex ⟨t.toNat,by omega⟩ ⟨a.toNat,by omega⟩ ⟨b.toNat,by omega⟩
 simp only [Int.toNat_of_nonneg ht.1,Int.toNat_of_nonneg ha.1,Int.toNat_of_nonneg hb.1] at this
 exact this h h2
theorem nodup_app {a b:List Int} (ha:a.Nodup) (hb:b.Nodup) (h:∀ x∈b,¬ x∈a):(a++b).Nodup:=by
 rw [List.nodup_append]
 exact ⟨ha,hb,fun x hx y hy e=>h y hy (e ▸ hx)⟩
theorem sel_nodup (q:Int->Bool) (n:Int):(selS q n).Nodup:=(sel_asc q n).imp (fun h=>by omega)
theorem sel_le (q:Int->Bool) (n:Nat):(selS q n).length<=n:=by
 have:=selS_len q n
 omega
theorem hasB_not {l:List Int} {x:Int} (h:(!hasB l x)=true):¬ x∈l:=fun hm=>by rw [hasB_iff.2 hm] at h; cases h
theorem good_trans {L R:Graph} {m:Morphism} {nm:ByteArray} (h:GoodR L R m) (l:List Int) (hl:hasB l 2=false) (hn:L.Nodes.length+R.Nodes.length<=20) (he:L.Edges.length+R.Edges.length<=20) :
  GoodR (transR exS (ruleR nm L R m) l).Left.Graph R (transR exS (ruleR nm L R m) l).Into:=by
 let r:=ruleR nm L R m
 have hmN:∀ x∈selN exS r l,(0<=x∧x<R.Nodes.length)∧newN exS r l x=true:=fun x hx=>mem_sel.1 hx
 have hmE:∀ x∈selE exS r l,(0<=x∧x<R.Edges.length)∧newE exS r l x=true:=fun x hx=>mem_sel.1 hx
 have lN:(selN exS r l).length<=R.Nodes.length:=sel_le _ _
 have lE:(selE exS r l).length<=R.Edges.length:=sel_le _ _
 have gN:(transR exS r l).Left.Graph.Nodes=L.Nodes++(selN exS r l).map (at' R.Nodes):=rfl
 have gE:(transR exS r l).Left.Graph.Edges=L.Edges++(selE exS r l).map (edgeN r (tIntoN exS r l)):=rfl
 have iN:(transR exS r l).Into.Nodes=tIntoN exS r l:=rfl
 have iT:tIntoN exS r l=m.Nodes++selN exS r l:=rfl
 have iE:(transR exS r l).Into.Edges=m.Edges++selE exS r l:=rfl
 have n1:=h.nlen
 have n2:=h.elen
 have lenN:(transR exS r l).Left.Graph.Nodes.length=(tIntoN exS r l).length:=by rw [gN,iT]; simp; omega
 have node:∀ i:Int,0<=i->i<(transR exS r l).Left.Graph.Nodes.length->(0<=at' (tIntoN exS r l) i∧at' (tIntoN exS r l) i<R.Nodes.length)∧at' R.Nodes (at' (tIntoN exS r l) i)=at' (transR exS r l).Left.Graph.Nodes i:=by
  intro i i0 i1
  rw [gN,iT]
  by_cases hi:i<L.Nodes.length
  ·rw [at_app1 (by omega),at_app1 (by omega)]
   exact h.node i i0 hi
  ·rw [gN] at i1
   simp only [List.length_append,List.length_map,Int.natCast_add] at i1
   rw [at_app2 (by omega),at_app2 (by omega),n1,at_mapI (by omega) (by omega)]
   exact ⟨(hmN _ (at_mem (by omega) (by omega))).1,rfl⟩
 have fromto:∀ x∈selE exS r l,(at' R.Edges x).From∈tIntoN exS r l∧(at' R.Edges x).To∈tIntoN exS r l:=by
  intro x hx
  obtain ⟨⟨x0,x1⟩,hq⟩:=hmE x hx
  obtain ⟨k1,k2,k3,k4⟩:=h.r.edge _ (at_mem (l:=R.Edges) x0 x1)
  have hs:hasB l (at' exS.Edges (at' R.Edges x).Type')=true:=by
   have:(!hasB m.Edges x&&hasB l (at' exS.Edges (at' R.Edges x).Type'))=true:=hq
   rw [Bool.and_eq_true] at this; exact this.2
  have h2:at' exS.Edges (at' R.Edges x).Type'≠2:=fun e=>by rw [e,hl] at hs; cases hs
  obtain ⟨e1,e2⟩:=fit_sort k1 (h.r.node_at k2.1 k2.2) (h.r.node_at k3.1 k3.2) k4 h2
  have key:∀ n:Int,0<=n->n<R.Nodes.length->at' exS.Nodes (at' R.Nodes n)=at' exS.Edges (at' R.Edges x).Type'->n∈tIntoN exS r l:=by
   intro n n0 n1 e
   rw [iT,List.mem_append]
   by_cases hm:n∈m.Nodes
   ·exact .inl hm
   ·refine .inr (mem_sel.2 ⟨⟨n0,n1⟩,?_⟩)
    show (!hasB m.Nodes n&&hasB l (at' exS.Nodes (at' R.Nodes n)))=true
    rw [e,hs,Bool.and_true,Bool.not_eq_true']
    cases hb:hasB m.Nodes n
    ·rfl
    ·exact absurd (hasB_iff.1 hb) hm
  exact ⟨key _ k2.1 k2.2 e1,key _ k3.1 k3.2 e2⟩
 have ix:∀ v∈tIntoN exS r l,(0<=ixS (tIntoN exS r l) v∧ixS (tIntoN exS r l) v<(transR exS r l).Left.Graph.Nodes.length)∧at' (tIntoN exS r l) (ixS (tIntoN exS r l) v)=v:=by
  intro v hv
  obtain ⟨a,b,c,_⟩:=ixS_mem hv
  exact ⟨⟨a,by rw [lenN]; exact b⟩,c⟩
 have ixT:∀ v∈tIntoN exS r l,at' (transR exS r l).Left.Graph.Nodes (ixS (tIntoN exS r l) v)=at' R.Nodes v:=by
  intro v hv
  obtain ⟨⟨a,b⟩,c⟩:=ix v hv
  rw [←(node _ a b).2,c]
 refine ⟨⟨?_,?_,fun n hx=>?_,fun e hx=>?_⟩,h.r,?_,?_,?_,fun i i0 i1=>?_,?_,?_⟩
 ·show (transR exS r l).Left.Graph.Nodes.length<=20
  rw [gN]; simp; omega
 ·show (transR exS r l).Left.Graph.Edges.length<=20
  rw [gE]; simp; omega
 ·have hx':n∈(transR exS r l).Left.Graph.Nodes:=hx
  rw [gN,List.mem_append] at hx'
  rcases hx' with hx | hx
  ·exact h.l.node n hx
  ·obtain ⟨x,hz,rfl⟩:=List.mem_map.1 hx
   have:=(hmN x hz).1
   exact h.r.node_at this.1 this.2
 ·have hx':e∈(transR exS r l).Left.Graph.Edges:=hx
  rw [gE,List.mem_append] at hx'
  show _∧(_∧_<((transR exS r l).Left.Graph.Nodes.length:Int))∧(_∧_<((transR exS r l).Left.Graph.Nodes.length:Int))∧fitsB exT e.Type' (at' (transR exS r l).Left.Graph.Nodes e.From) (at' (transR exS r l).Left.Graph.Nodes e.To)=true
  rcases hx' with hx | hx
  ·obtain ⟨k1,k2,k3,k4⟩:=h.l.edge e hx
   rw [gN,at_app1 (by omega),at_app1 (by omega),List.length_append]
   exact ⟨k1,by omega,by omega,k4⟩
  ·obtain ⟨x,hz,rfl⟩:=List.mem_map.1 hx
   have hr:=(hmE x hz).1
   obtain ⟨k1,k2,k3,k4⟩:=h.r.edge _ (at_mem (l:=R.Edges) hr.1 hr.2)
   obtain ⟨f1,f2⟩:=fromto x hz
   show (0<=(at' R.Edges x).Type'∧(at' R.Edges x).Type'<6)∧(0<=ixS (tIntoN exS r l) (at' R.Edges x).From∧ixS (tIntoN exS r l) (at' R.Edges x).From<_)∧(0<=ixS (tIntoN exS r l) (at' R.Edges x).To∧ixS (tIntoN exS r l) (at' R.Edges x).To<_) ∧
    fitsB exT (at' R.Edges x).Type' (at' _ (ixS (tIntoN exS r l) (at' R.Edges x).From)) (at' _ (ixS (tIntoN exS r l) (at' R.Edges x).To))=true
   rw [ixT _ f1,ixT _ f2]
   exact ⟨k1,(ix _ f1).1,(ix _ f2).1,k4⟩
 ·show (tIntoN exS r l).length=(transR exS r l).Left.Graph.Nodes.length
  exact lenN.symm
 ·show (m.Edges++selE exS r l).length=(transR exS r l).Left.Graph.Edges.length
  rw [gE]; simp; omega
 ·exact node
 ·show (0<=at' (m.Edges++selE exS r l) i∧at' (m.Edges++selE exS r l) i<_)∧(at' (transR exS r l).Left.Graph.Edges i).Type'=(at' R.Edges (at' (m.Edges++selE exS r l) i)).Type' ∧
   at' (tIntoN exS r l) (at' (transR exS r l).Left.Graph.Edges i).From=(at' R.Edges (at' (m.Edges++selE exS r l) i)).From∧at' (tIntoN exS r l) (at' (transR exS r l).Left.Graph.Edges i).To=(at' R.Edges (at' (m.Edges++selE exS r l) i)).To
  have i1':i<(transR exS r l).Left.Graph.Edges.length:=i1
  rw [gE] at i1' ⊢
  simp only [List.length_append,List.length_map,Int.natCast_add] at i1'
  by_cases hi:i<L.Edges.length
  ·rw [at_app1 (by omega),at_app1 (by omega)]
   obtain ⟨k1,k2,k3,k4⟩:=h.edge i i0 hi
   obtain ⟨_,e2,e3,_⟩:=h.l.edge _ (at_mem (l:=L.Edges) i0 hi)
   refine ⟨k1,k2,?_,?_⟩
   ·rw [iT,at_app1 (by omega)]; exact k3
   ·rw [iT,at_app1 (by omega)]; exact k4
  ·rw [at_app2 (by omega),at_app2 (by omega),n2,at_mapI (by omega) (by omega)]
   have hx:=at_mem (l:=selE exS r l) (i:=i - L.Edges.length) (by omega) (by omega)
   obtain ⟨f1,f2⟩:=fromto _ hx
   exact ⟨(hmE _ hx).1,rfl,(ix _ f1).2,(ix _ f2).2⟩
 ·show (m.Nodes++selN exS r l).Nodup
  refine nodup_app h.nn (sel_nodup _ _) fun x hx=>?_
  have:(!hasB m.Nodes x&&hasB l _)=true:=(hmN x hx).2
  rw [Bool.and_eq_true] at this
  exact hasB_not this.1
 ·show (m.Edges++selE exS r l).Nodup
  refine nodup_app h.ne (sel_nodup _ _) fun x hx=>?_
  have:(!hasB m.Edges x&&hasB l _)=true:=(hmE x hx).2
  rw [Bool.and_eq_true] at this
  exact hasB_not this.1
end Go.Sf.Sc
namespace Go.Sf
theorem nodup_sub {a b:List Int} (ha:a.Nodup) (h:∀ x∈a,x∈b):a.length<=b.length:=by
 induction a generalizing b with
 | nil=>exact Nat.zero_le _
 | cons x a ih=>
  rw [List.nodup_cons] at ha
  have hx:=h x (by simp)
  have:=ih (b:=b.erase x) ha.2 (fun y hy=>(List.mem_erase_of_ne (fun (e:y=x)=>ha.1 (by rw [←e]; exact hy))).2 (h y (by simp [hy])))
  rw [List.length_erase_of_mem hx] at this
  have hb:0<b.length:=List.length_pos_of_mem hx
  simp only [List.length_cons]
  omega
theorem nodup_len {a b:List Int} (ha:a.Nodup) (hb:b.Nodup) (h:∀ x,x∈a↔x∈b):a.length=b.length:=
 Nat.le_antisymm (nodup_sub ha fun x hx=>(h x).1 hx) (nodup_sub hb fun x hx=>(h x).2 hx)
theorem map_nodup {f:Int->Int} {l:List Int} (h:l.Nodup) (hf:∀ x∈l,∀ y∈l,f x=f y->x=y):(l.map f).Nodup:=by
 unfold List.Nodup
 rw [List.pairwise_map]
 refine List.Pairwise.imp_of_mem ?_ h
 intro a b ha hb hne e
 exact hne (hf a ha b hb e)
theorem sel_split (q p:Int->Bool) (n:Int):(selS q n).length=(selS (fun i=>q i&&p i) n).length+(selS (fun i=>q i&&!p i) n).length:=by
 unfold selS
 generalize (List.range n.toNat).map Int.ofNat=l
 induction l with
 | nil=>rfl
 | cons x l ih=>
  simp only [List.filter_cons]
  cases q x <;> cases p x <;> simp <;> omega
end Go.Sf
namespace Go.Sf.Sc
open Go Go.Sf
theorem mem_nodeS {g:Graph} {k x:Int}:x∈(sideP exS g k).Nodes↔(0<=x∧x<g.Nodes.length)∧at' exS.Nodes (at' g.Nodes x)=k:=by
 rw [show (sideP exS g k).Nodes=selS (nodeQ exS g k) g.Nodes.length from rfl,mem_sel]
 unfold nodeQ
 rw [decide_eq_true_eq]
theorem mem_edgeS {g:Graph} {k x:Int}:x∈(sideP exS g k).Edges↔(0<=x∧x<g.Edges.length)∧at' exS.Edges (at' g.Edges x).Type'=k:=by
 rw [show (sideP exS g k).Edges=selS (edgeQ exS g k) g.Edges.length from rfl,mem_sel]
 unfold edgeQ
 rw [decide_eq_true_eq]
theorem ends_side {g:Graph} (h:MadeG g) {k x:Int} (hk:k≠2) (hx:x∈(sideP exS g k).Edges):(at' g.Edges x).From∈(sideP exS g k).Nodes∧(at' g.Edges x).To∈(sideP exS g k).Nodes:=by
 obtain ⟨hr,hs⟩:=mem_edgeS.1 hx
 obtain ⟨k1,k2,k3,k4⟩:=h.edge _ (at_mem (l:=g.Edges) hr.1 hr.2)
 obtain ⟨e1,e2⟩:=fit_sort k1 (h.node_at k2.1 k2.2) (h.node_at k3.1 k3.2) k4 (by rw [hs]; exact hk)
 exact ⟨mem_nodeS.2 ⟨k2,by rw [e1,hs]⟩,mem_nodeS.2 ⟨k3,by rw [e2,hs]⟩⟩
theorem at_partN {g:Graph} {p:Part} {i:Int} (i0:0<=i) (i1:i<p.Nodes.length):at' (partG g p).Nodes i=at' g.Nodes (at' p.Nodes i):=at_mapI i0 i1
theorem at_partE {g:Graph} {p:Part} {i:Int} (i0:0<=i) (i1:i<p.Edges.length):at' (partG g p).Edges i=⟨(at' g.Edges (at' p.Edges i)).Type',ixS p.Nodes (at' g.Edges (at' p.Edges i)).From,ixS p.Nodes (at' g.Edges (at' p.Edges i)).To⟩:=at_mapI i0 i1
theorem made_side {g:Graph} (h:MadeG g) {k:Int} (hk:k≠2):MadeG (partG g (sideP exS g k)):=by
 have l1:(sideP exS g k).Nodes.length<=g.Nodes.length:=sel_le _ _
 have l2:(sideP exS g k).Edges.length<=g.Edges.length:=sel_le _ _
 have n1:=h.nlen
 have n2:=h.elen
 refine ⟨by rw [(len_partG _ _).1]; omega,by rw [(len_partG _ _).2]; omega,fun n hn=>?_,fun e he=>?_⟩
 ·obtain ⟨x,hx,rfl⟩:=List.mem_map.1 hn
  have:=(mem_nodeS.1 hx).1
  exact h.node_at this.1 this.2
 ·obtain ⟨x,hx,rfl⟩:=List.mem_map.1 he
  have hr:=(mem_edgeS.1 hx).1
  obtain ⟨k1,k2,k3,k4⟩:=h.edge _ (at_mem (l:=g.Edges) hr.1 hr.2)
  obtain ⟨f1,f2⟩:=ends_side h hk hx
  obtain ⟨a1,a2,a3,_⟩:=ixS_mem f1
  obtain ⟨b1,b2,b3,_⟩:=ixS_mem f2
  rw [(len_partG _ _).1]
  refine ⟨k1,⟨a1,a2⟩,⟨b1,b2⟩,?_⟩
  show fitsB exT (at' g.Edges x).Type' (at' (partG g (sideP exS g k)).Nodes (ixS (sideP exS g k).Nodes (at' g.Edges x).From)) (at' (partG g (sideP exS g k)).Nodes (ixS (sideP exS g k).Nodes (at' g.Edges x).To))=true
  rw [at_partN a1 a2,at_partN b1 b2,a3,b3]
  exact k4
theorem into_sideN {L R:Graph} {m:Morphism} (h:GoodR L R m) {k x:Int} (hx:x∈(sideP exS L k).Nodes):at' m.Nodes x∈(sideP exS R k).Nodes:=by
 obtain ⟨hr,hs⟩:=mem_nodeS.1 hx
 obtain ⟨a,b⟩:=h.node x hr.1 hr.2
 exact mem_nodeS.2 ⟨a,by rw [b]; exact hs⟩
theorem into_sideE {L R:Graph} {m:Morphism} (h:GoodR L R m) {k x:Int} (hx:x∈(sideP exS L k).Edges):at' m.Edges x∈(sideP exS R k).Edges:=by
 obtain ⟨hr,hs⟩:=mem_edgeS.1 hx
 obtain ⟨a,b,_⟩:=h.edge x hr.1 hr.2
 exact mem_edgeS.2 ⟨a,by rw [←b]; exact hs⟩
theorem ixS_inj {l:List Int} {x y:Int} (hx:x∈l) (hy:y∈l) (e:ixS l x=ixS l y):x=y:=by
 rw [←(ixS_mem hx).2.2.1,←(ixS_mem hy).2.2.1,e]
theorem into_nodup {a b l:List Int} (ha:a.Nodup) (hl:l.Nodup) (hr:∀ x∈a,0<=x∧x<l.length) (hb:∀ x∈a,at' l x∈b):(intoS a b l).Nodup:=by
 refine map_nodup ha fun x hx y hy e=>?_
 exact nodup_at hl (hr x hx).1 (hr x hx).2 (hr y hy).1 (hr y hy).2 (ixS_inj (hb x hx) (hb y hy) e)
theorem good_side {L R:Graph} {m:Morphism} (nm:ByteArray) (h:GoodR L R m) {k:Int} (hk:k≠2):GoodR (sideR exS (ruleR nm L R m) k).Left.Graph (sideR exS (ruleR nm L R m) k).Right.Graph (sideR exS (ruleR nm L R m) k).Into:=by
 show GoodR (partG L (sideP exS L k)) (partG R (sideP exS R k)) ⟨intoS (sideP exS L k).Nodes (sideP exS R k).Nodes m.Nodes,intoS (sideP exS L k).Edges (sideP exS R k).Edges m.Edges⟩
 have n1:=h.nlen
 have n2:=h.elen
 have aN:∀ {i:Int},0<=i->i<(sideP exS L k).Nodes.length->at' (intoS (sideP exS L k).Nodes (sideP exS R k).Nodes m.Nodes) i=ixS (sideP exS R k).Nodes (at' m.Nodes (at' (sideP exS L k).Nodes i)):=fun i0 i1=>at_mapI i0 i1
 have aE:∀ {i:Int},0<=i->i<(sideP exS L k).Edges.length->at' (intoS (sideP exS L k).Edges (sideP exS R k).Edges m.Edges) i=ixS (sideP exS R k).Edges (at' m.Edges (at' (sideP exS L k).Edges i)):=fun i0 i1=>at_mapI i0 i1
 have ends:∀ {v:Int},v∈(sideP exS L k).Nodes->at' (intoS (sideP exS L k).Nodes (sideP exS R k).Nodes m.Nodes) (ixS (sideP exS L k).Nodes v)=ixS (sideP exS R k).Nodes (at' m.Nodes v):=by
  intro v hv
  obtain ⟨b1,b2,b3,_⟩:=ixS_mem hv
  rw [aN b1 b2,b3]
 refine ⟨made_side h.l hk,made_side h.r hk,?_,?_,fun i i0 i1=>?_,fun i i0 i1=>?_,?_,?_⟩
 ·rw [(len_partG _ _).1]; exact List.length_map _
 ·rw [(len_partG _ _).2]; exact List.length_map _
 ·rw [(len_partG _ _).1] at i1
  have hx:=at_mem i0 i1
  obtain ⟨b1,b2,b3,_⟩:=ixS_mem (into_sideN h hx)
  have hr:=(mem_nodeS.1 hx).1
  dsimp only
  rw [aN i0 i1,(len_partG _ _).1,at_partN b1 b2,at_partN i0 i1,b3]
  exact ⟨⟨b1,b2⟩,(h.node _ hr.1 hr.2).2⟩
 ·rw [(len_partG _ _).2] at i1
  have hx:=at_mem i0 i1
  obtain ⟨b1,b2,b3,_⟩:=ixS_mem (into_sideE h hx)
  have hr:=(mem_edgeS.1 hx).1
  obtain ⟨k1,k2,k3,k4⟩:=h.edge _ hr.1 hr.2
  obtain ⟨f1,f2⟩:=ends_side h.l hk hx
  dsimp only
  rw [aE i0 i1,(len_partG _ _).2,at_partE b1 b2,at_partE i0 i1,b3]
  dsimp only
  rw [ends f1,ends f2,k3,k4]
  exact ⟨⟨b1,b2⟩,k2,rfl,rfl⟩
 ·exact into_nodup (sel_nodup _ _) h.nn (fun x hx=>by rw [n1]; exact (mem_nodeS.1 hx).1) (fun x hx=>into_sideN h hx)
 ·exact into_nodup (sel_nodup _ _) h.ne (fun x hx=>by rw [n2]; exact (mem_edgeS.1 hx).1) (fun x hx=>into_sideE h hx)
theorem r_Created {L R:Graph} {m:Morphism} (h:GoodR L R m):ref24_Created exT (ruleR ⟨#[114]⟩ L R m)=some (restS m.Nodes R.Nodes.length,restS m.Edges R.Edges.length,0):=by
 have h1:=r_rule exT_few (good_few (nm:=⟨#[114]⟩) h (by decide))
 rw [good_rule h name_r] at h1
 unfold ref24_Created
 rw [h1,bs,if_neg (by decide),r_created (r:=ruleR ⟨#[114]⟩ L R m) h.r.ok]
 rfl
theorem rest_sel (l:List Int) (n:Int):restS l n=selS (fun i=>!hasB l i) n:=rfl
theorem rest_len {l:List Int} {n:Nat} (hl:l.Nodup) (h:∀ x∈l,0<=x∧x<n):(restS l n).length+l.length=n:=by
 have h1:=sel_split (fun _=>true) (hasB l) n
 have h2:(selS (fun i=>true&&hasB l i) n).length=l.length:=nodup_len (sel_nodup _ _) hl fun x=>by
  rw [mem_sel,Bool.true_and,hasB_iff]
  exact ⟨fun hx=>hx.2,fun hx=>⟨h x hx,hx⟩⟩
 have h3:(selS (fun _=>true) (n:Int)).length=n:=by unfold selS; rw [List.filter_eq_self.2 (fun _ _=>rfl)]; simp
 rw [h2,h3] at h1
 rw [rest_sel]
 simp only [Bool.true_and] at h1
 omega
theorem side_count {q:Int->Bool} {n:Nat} {l a:List Int} (ha:a.Nodup) (hl:l.Nodup) (hr:∀ x∈a,0<=x∧x<l.length) (h:∀ x,(x∈selS q n∧x∈l)↔∃ y∈a,at' l y=x) :
  (selS (fun i=>!hasB l i&&q i) n).length=(restS (intoS a (selS q n) l) (selS q n).length).length:=by
 have h1:=sel_split q (hasB l) n
 have h2:(selS (fun i=>q i&&hasB l i) n).length=a.length:=by
  rw [show a.length=(a.map (at' l)).length from (List.length_map _).symm]
  refine nodup_len (sel_nodup _ _) (map_nodup ha fun x hx y hy e=>nodup_at hl (hr x hx).1 (hr x hx).2 (hr y hy).1 (hr y hy).2 e) fun x=>?_
  rw [mem_sel,Bool.and_eq_true,hasB_iff,List.mem_map,←h x,mem_sel]
  exact ⟨fun hx=>⟨⟨hx.1,hx.2.1⟩,hx.2.2⟩,fun hx=>⟨hx.1.1,hx.1.2,hx.2⟩⟩
 have hb:∀ x∈a,at' l x∈selS q n:=fun x hx=>((h _).2 ⟨x,hx,rfl⟩).1
 have h3:=rest_len (n:=(selS q n).length) (into_nodup (b:=selS q n) ha hl hr hb) (fun x hx=>by
  obtain ⟨y,hy,rfl⟩:=List.mem_map.1 hx
  have:=ixS_mem (hb y hy)
  exact ⟨this.1,this.2.1⟩)
 have h4:(intoS a (selS q n) l).length=a.length:=List.length_map _
 have h5:(fun i=>!hasB l i&&q i)=fun i=>q i&&!hasB l i:=funext fun i=>Bool.and_comm _ _
 rw [h5]
 omega
end Go.Sf.Sc
namespace Go.Sf.Sc
open Go Go.Sf
theorem marks_ok {l:List Int} {kind:Int->Option Int} {wrong:Int->Option Bool} (h:∀ x∈l,∃ k,kind x=some k∧wrong k=some false):law53_TripleruleMarks_1 l kind wrong=some true:=by
 unfold law53_TripleruleMarks_1 slices_ContainsFunc_int slices_IndexFunc_int
 rw [forR_any (fun _=>false) 0]
 ·rw [anyR_false.2 (fun _ _ _=>rfl)]; rfl
 ·intro i i0 i1 _
  obtain ⟨k,h1,h2⟩:=h _ (at_mem i0 i1)
  unfold law53_TripleruleMarks_1_1
  dsimp only
  rw [idx_at i0 i1,bs,h1,bs,h2]
  rfl
theorem sortN {n:Int} (h0:0<=n) (h1:n<5):at' exS.Nodes n=1∨at' exS.Nodes n=2∨at' exS.Nodes n=3:=by
 rcases cases5 h0 h1 with rfl | rfl | rfl | rfl | rfl <;> decide
theorem sortE {n:Int} (h0:0<=n) (h1:n<6):at' exS.Edges n=1∨at' exS.Edges n=2∨at' exS.Edges n=3:=by
 rcases cases6 h0 h1 with rfl | rfl | rfl | rfl | rfl | rfl <;> decide
theorem has_one {k x:Int}:hasB [k] x=decide (x=k):=by
 rw [Bool.eq_iff_iff,hasB_iff,decide_eq_true_eq,List.mem_singleton]
theorem count_nodes {L R:Graph} {m:Morphism} (h:GoodR L R m):(selN exS (ruleR ⟨#[114]⟩ L R m) [1]).length=(restS (intoS (sideP exS L 1).Nodes (sideP exS R 1).Nodes m.Nodes) (partG R (sideP exS R 1)).Nodes.length).length:=by
 have:=h.nlen
 rw [(len_partG _ _).1]
 refine Eq.trans ?_ (side_count (q:=nodeQ exS R 1) (n:=R.Nodes.length) (l:=m.Nodes) (a:=(sideP exS L 1).Nodes) (sel_nodup _ _) h.nn (fun x hx=>by rw [this]; exact (mem_nodeS.1 hx).1) (fun x=>?_))
 ·unfold selN
  refine congrArg List.length (selS_congr fun i _ _=>?_)
  unfold newN nodeQ
  rw [has_one]; rfl
 ·constructor
  ·rintro ⟨h1,h2⟩
   obtain ⟨y,y0,y1,rfl⟩:=mem_at h2
   have hy:=h.node y y0 (by omega)
   refine ⟨y,mem_nodeS.2 ⟨⟨y0,by omega⟩,?_⟩,rfl⟩
   rw [←hy.2]
   exact ((mem_nodeS (g:=R)).1 h1).2
  ·rintro ⟨y,hy,rfl⟩
   have hr:=(mem_nodeS.1 hy).1
   exact ⟨into_sideN h hy,at_mem hr.1 (by omega)⟩
theorem count_edges {L R:Graph} {m:Morphism} (h:GoodR L R m):(selE exS (ruleR ⟨#[114]⟩ L R m) [1]).length=(restS (intoS (sideP exS L 1).Edges (sideP exS R 1).Edges m.Edges) (partG R (sideP exS R 1)).Edges.length).length:=by
 have:=h.elen
 rw [(len_partG _ _).2]
 refine Eq.trans ?_ (side_count (q:=edgeQ exS R 1) (n:=R.Edges.length) (l:=m.Edges) (a:=(sideP exS L 1).Edges) (sel_nodup _ _) h.ne (fun x hx=>by rw [this]; exact (mem_edgeS.1 hx).1) (fun x=>?_))
 ·unfold selE
  refine congrArg List.length (selS_congr fun i _ _=>?_)
  unfold newE edgeQ
  rw [has_one]; rfl
 ·constructor
  ·rintro ⟨h1,h2⟩
   obtain ⟨y,y0,y1,rfl⟩:=mem_at h2
   have hy:=h.edge y y0 (by omega)
   refine ⟨y,mem_edgeS.2 ⟨⟨y0,by omega⟩,?_⟩,rfl⟩
   rw [hy.2.1]
   exact ((mem_edgeS (g:=R)).1 h1).2
  ·rintro ⟨y,hy,rfl⟩
   have hr:=(mem_edgeS.1 hy).1
   exact ⟨into_sideE h hy,at_mem hr.1 (by omega)⟩
theorem mem_mark {a x:Int} {k:Nat} (h:x∈markS a k):a<=x∧x<a+k:=by
 unfold markS at h
 obtain ⟨j,hj,rfl⟩:=List.mem_map.1 h
 have:=List.mem_range.1 hj
 omega
theorem mem_rest {l:List Int} {n x:Int} (h:x∈restS l n):(0<=x∧x<n)∧¬ x∈l:=by
 rw [rest_sel,mem_sel] at h
 exact ⟨h.1,hasB_not h.2⟩
theorem rest_node {L R:Graph} {m:Morphism} {l:List Int} {x:Int} (hx:x∈restS (m.Nodes++selN exS (ruleR ⟨#[114]⟩ L R m) l) R.Nodes.length):(0<=x∧x<R.Nodes.length)∧hasB l (at' exS.Nodes (at' R.Nodes x))=false:=by
 obtain ⟨hr,hn⟩:=mem_rest hx
 refine ⟨hr,?_⟩
 cases hb:hasB l (at' exS.Nodes (at' R.Nodes x))
 ·rfl
 ·exfalso
  refine hn (List.mem_append.2 ?_)
  by_cases hm:x∈m.Nodes
  ·exact .inl hm
  ·refine .inr (mem_sel.2 ⟨hr,?_⟩)
   show (!hasB m.Nodes x&&hasB l (at' exS.Nodes (at' R.Nodes x)))=true
   rw [hb,Bool.and_true,Bool.not_eq_true']
   cases hq:hasB m.Nodes x
   ·rfl
   ·exact absurd (hasB_iff.1 hq) hm
theorem rest_edge {L R:Graph} {m:Morphism} {l:List Int} {x:Int} (hx:x∈restS (m.Edges++selE exS (ruleR ⟨#[114]⟩ L R m) l) R.Edges.length):(0<=x∧x<R.Edges.length)∧hasB l (at' exS.Edges (at' R.Edges x).Type')=false:=by
 obtain ⟨hr,hn⟩:=mem_rest hx
 refine ⟨hr,?_⟩
 cases hb:hasB l (at' exS.Edges (at' R.Edges x).Type')
 ·rfl
 ·exfalso
  refine hn (List.mem_append.2 ?_)
  by_cases hm:x∈m.Edges
  ·exact .inl hm
  ·refine .inr (mem_sel.2 ⟨hr,?_⟩)
   show (!hasB m.Edges x&&hasB l (at' exS.Edges (at' R.Edges x).Type'))=true
   rw [hb,Bool.and_true,Bool.not_eq_true']
   cases hq:hasB m.Edges x
   ·rfl
   ·exact absurd (hasB_iff.1 hq) hm
theorem kind_node {L R:Graph} {m:Morphism} (h:MadeG R) {x:Int} (h0:0<=x) (h1:x<R.Nodes.length):law53_TripleruleMarks_3 x exS (ruleR ⟨#[114]⟩ L R m)=some (at' exS.Nodes (at' R.Nodes x)):=by
 unfold law53_TripleruleMarks_3
 have:=h.node_at h0 h1
 rw [show (ruleR ⟨#[114]⟩ L R m).Right.Graph=R from rfl,idx_at h0 h1,bs,idx_at this.1 (by show _<(5:Int); omega)]; rfl
theorem kind_edge {L R:Graph} {m:Morphism} (h:MadeG R) {x:Int} (h0:0<=x) (h1:x<R.Edges.length):law53_TripleruleMarks_4 x exS (ruleR ⟨#[114]⟩ L R m)=some (at' exS.Edges (at' R.Edges x).Type'):=by
 unfold law53_TripleruleMarks_4
 have:=h.edge_at h0 h1
 rw [show (ruleR ⟨#[114]⟩ L R m).Right.Graph=R from rfl,idx_at h0 h1,bs,idx_at this.1 (by show _<(6:Int); omega)]; rfl
theorem marks_left {L R:Graph} {m:Morphism} (h:GoodR L R m):∀ x∈markS L.Nodes.length (selN exS (ruleR ⟨#[114]⟩ L R m) [1]).length,law53_TripleruleMarks_2 x exS (transR exS (ruleR ⟨#[114]⟩ L R m) [1])=some 1:=by
 intro x hx
 obtain ⟨x0,x1⟩:=mem_mark hx
 unfold law53_TripleruleMarks_2
 rw [show (transR exS (ruleR ⟨#[114]⟩ L R m) [1]).Left.Graph.Nodes=L.Nodes++(selN exS (ruleR ⟨#[114]⟩ L R m) [1]).map (at' R.Nodes) from rfl,idx_at (by omega) (by rw [List.length_append,List.length_map]; omega),bs,at_app2 (by omega),at_mapI (by omega) (by omega)]
 obtain ⟨hr,hq⟩:=mem_sel.1 (at_mem (l:=selN exS (ruleR ⟨#[114]⟩ L R m) [1]) (i:=x - L.Nodes.length) (by omega) (by omega))
 have hn:=h.r.node_at hr.1 hr.2
 have hq':(!hasB m.Nodes _&&hasB [1] (at' exS.Nodes (at' R.Nodes (at' (selN exS (ruleR ⟨#[114]⟩ L R m) [1]) (x - L.Nodes.length)))))=true:=hq
 rw [Bool.and_eq_true,has_one,decide_eq_true_eq] at hq'
 rw [idx_at hn.1 (by show _<(5:Int); omega),hq'.2]; rfl
theorem plainMarks (d:ref53_Draft) (hw:(eref53_Draft d).WF):law53_TripleruleMarks d=some true:=by
 obtain ⟨b,hb⟩:∃ b,law53_small d=some b:=⟨_,rfl⟩
 unfold law53_TripleruleMarks
 rw [awake,bs,if_neg (by decide),hb,bs,bs]
 cases b
 ·rfl
 obtain ⟨h3,h4⟩:=r_small hb rfl
 obtain ⟨L,R,e,g,q1,q2,q3,q4,_⟩:=r_Made53 (draft53_ok hw) h3 h4
 generalize hm:(⟨numS L.Nodes.length,numS L.Edges.length⟩:Morphism)=m at e g
 have hf:=good_few (nm:=⟨#[114]⟩) g (by decide)
 have tS:=good_trip g name_r exSok
 rw [if_neg (by decide),exT_eq,bs,e,bs]
 dsimp only
 unfold triplerule_Source triplerule_Forward triplerule_Consistency
 rw [p_trans exT_few hf,p_trans exT_few hf,p_tside exT_few hf,tS]
 have c1:ref24_Created exT (sideR exS (ruleR ⟨#[114]⟩ L R m) 1)=_:=r_Created (good_side ⟨#[114]⟩ g (k:=1) (by decide))
 have c2:ref24_Created exT (transR exS (ruleR ⟨#[114]⟩ L R m) [1])=_:=r_Created (good_trans (nm:=⟨#[114]⟩) g [1] (by decide) (by omega) (by omega))
 have c3:ref24_Created exT (transR exS (ruleR ⟨#[114]⟩ L R m) [1,3])=_:=r_Created (good_trans (nm:=⟨#[114]⟩) g [1,3] (by decide) (by omega) (by omega))
 simp only [bs,ne_eq,not_true_eq_false,if_false,c1,c2,c3,decide_true,Bool.not_true,Bool.or_false]
 rw [if_neg,marks_ok (l:=(transP exS (ruleR ⟨#[114]⟩ L R m) [1]).Nodes),bs,if_pos rfl,marks_ok,bs,bs,if_pos rfl,marks_ok,bs,bs,if_pos rfl,marks_ok,bs,bs,if_pos rfl,marks_ok,bs,bs]
 ·intro x hx
  obtain ⟨hr,hs⟩:=rest_edge hx
  refine ⟨_,kind_edge g.r hr.1 hr.2,?_⟩
  have hn:=g.r.edge_at hr.1 hr.2
  unfold law53_TripleruleMarks_9
  rcases sortE hn.1 hn.2 with h | h | h <;> rw [h] at hs ⊢ <;> first | rfl | cases hs
 ·intro x hx
  obtain ⟨hr,hs⟩:=rest_node hx
  refine ⟨_,kind_node g.r hr.1 hr.2,?_⟩
  have hn:=g.r.node_at hr.1 hr.2
  unfold law53_TripleruleMarks_8
  rcases sortN hn.1 hn.2 with h | h | h <;> rw [h] at hs ⊢ <;> first | rfl | cases hs
 ·intro x hx
  obtain ⟨hr,hs⟩:=rest_edge hx
  refine ⟨_,kind_edge g.r hr.1 hr.2,?_⟩
  have hn:=g.r.edge_at hr.1 hr.2
  unfold law53_TripleruleMarks_7
  rcases sortE hn.1 hn.2 with h | h | h <;> rw [h] at hs ⊢ <;> first | rfl | cases hs
 ·intro x hx
  obtain ⟨hr,hs⟩:=rest_node hx
  refine ⟨_,kind_node g.r hr.1 hr.2,?_⟩
  have hn:=g.r.node_at hr.1 hr.2
  unfold law53_TripleruleMarks_6
  rcases sortN hn.1 hn.2 with h | h | h <;> rw [h] at hs ⊢ <;> first | rfl | cases hs
 ·intro x hx
  exact ⟨1,marks_left g x hx,rfl⟩
 ·rw [show (transP exS (ruleR ⟨#[114]⟩ L R m) [1]).Nodes.length=(selN exS (ruleR ⟨#[114]⟩ L R m) [1]).length from markS_len _ _,show (transP exS (ruleR ⟨#[114]⟩ L R m) [1]).Edges.length=(selE exS (ruleR ⟨#[114]⟩ L R m) [1]).length from markS_len _ _,count_nodes g,count_edges g]
  simp only [Bool.or_eq_true,Bool.not_eq_true',decide_eq_false_iff_not,not_or,Decidable.not_not]
  exact ⟨⟨Bool.false_ne_true,rfl⟩,rfl⟩
end Go.Sf.Sc
