/- Plain lemmas: what the functions of the program and of the reference compute. -/
import Derived.Test.YtbedpmpjdnooiaaGreatP14
set_option maxRecDepth 100000
namespace Go.Sf
theorem at_app1 {α:Type} [Inhabited α] {l m:List α} {i:Int} (h1:i.toNat<l.length):at' (l++m) i=at' l i:=by
 unfold at'
 rw [List.getD_eq_getElem?_getD,List.getD_eq_getElem?_getD,List.getElem?_append_left h1]
theorem at_app2 {α:Type} [Inhabited α] {l m:List α} {i:Int} (h1:l.length<=i):at' (l++m) i=at' m (i - l.length):=by
 unfold at'
 rw [List.getD_eq_getElem?_getD,List.getD_eq_getElem?_getD,List.getElem?_append_right (by omega),show i.toNat - l.length=(i - l.length).toNat by omega]
theorem at_mapI {α β:Type} [Inhabited α] [Inhabited β] {l:List α} {g:α->β} {i:Int} (h0:0<=i) (h1:i<l.length):at' (l.map g) i=g (at' l i):=by
 have h:=idx_at h0 h1
 have:=(idx_some h).2.2
 unfold at' at *
 rw [List.getD_eq_getElem?_getD,List.getElem?_map,this]; rfl
theorem at_num {n i:Int} (h0:0<=i) (h1:i<n):at' (numS n) i=i:=by
 unfold numS
 have:((List.range n.toNat).map Int.ofNat)[i.toNat]?=some i:=by
  rw [List.getElem?_map,List.getElem?_range (by omega)]
  simp; omega
 unfold at'
 rw [List.getD_eq_getElem?_getD,this]; rfl
theorem mem_num {n x:Int}:x∈numS n↔0<=x∧x<n:=by
 unfold numS
 rw [List.mem_map]
 constructor
 ·rintro ⟨k,hk,rfl⟩
  have:=List.mem_range.1 hk
  exact ⟨Int.natCast_nonneg k,by show (k:Int)<n; omega⟩
 ·rintro ⟨h0,h1⟩
  exact ⟨x.toNat,List.mem_range.2 (by omega),Int.toNat_of_nonneg h0⟩
theorem nodup_at {l:List Int} (h:l.Nodup) {i j:Int} (i0:0<=i) (i1:i<l.length) (j0:0<=j) (j1:j<l.length) (e:at' l i=at' l j):i=j:=by
 rcases Int.lt_trichotomy i j with h1 | h1 | h1
 ·exact absurd e (pairwise_at h i0 h1 j1)
 ·exact h1
 ·exact absurd e.symm (pairwise_at h j0 h1 i1)
theorem num_asc (n:Int):(numS n).Pairwise (·<·):=by
 refine at_pairwise fun i j h0 h1 h2=>?_
 rw [numS_len] at h2
 rw [at_num h0 (by omega),at_num (by omega) (by omega)]
 exact h1
theorem num_nodup (n:Int):(numS n).Nodup:=(num_asc n).imp (fun h=>by omega)
theorem ix_num {n x:Int} (h0:0<=x) (h1:x<n):ixS (numS n) x=x:=by
 obtain ⟨a,b,c,_⟩:=ixS_mem (mem_num.2 ⟨h0,h1⟩)
 rw [numS_len] at b
 rw [at_num a (by omega)] at c
 exact c
theorem sel_asc (q:Int->Bool) (n:Int):(selS q n).Pairwise (·<·):=(num_asc n).filter _
theorem mem_sel {q:Int->Bool} {n x:Int}:x∈selS q n↔(0<=x∧x<n)∧q x=true:=by
 unfold selS
 rw [List.mem_filter]
 exact and_congr_left fun _=>mem_num (n:=n)
end Go.Sf
namespace Go.Sf.Sc
open Go Go.Sf
structure MadeG (g:Graph):Prop where
 nlen:g.Nodes.length<=20
 elen:g.Edges.length<=20
 node:∀ n∈g.Nodes,0<=n∧n<5
 edge:∀ e∈g.Edges,(0<=e.Type'∧e.Type'<6)∧(0<=e.From∧e.From<g.Nodes.length)∧(0<=e.To∧e.To<g.Nodes.length)∧fitsB exT e.Type' (at' g.Nodes e.From) (at' g.Nodes e.To)=true
theorem MadeG.e0 {g:Graph} (h:MadeG g):graphE g=0:=by
 have:=h.nlen
 have:=h.elen
 unfold graphE
 rw [if_neg (by omega),if_neg,if_neg]
 ·rw [Bool.not_eq_true,List.any_eq_false]
  intro e he
  have:=h.edge e he
  simp [fitB,kindB]; omega
 ·rw [Bool.not_eq_true,List.any_eq_false]
  intro n hn
  have:=h.node n hn
  simp [kindB]; omega
theorem MadeG.ok {g:Graph} (h:MadeG g):GraphOk g:=graphOk h.e0
theorem exT_len:exT.Nodes.length=5∧exT.Edges.length=6:=⟨rfl,rfl⟩
theorem MadeG.typed {g:Graph} (h:MadeG g):typedB exT g=true:=by
 unfold typedB
 rw [exT_len.1,exT_len.2,Bool.and_eq_true,Bool.not_eq_true',Bool.not_eq_true',List.any_eq_false,List.any_eq_false]
 refine ⟨fun n hn=>?_,fun e he=>?_⟩
 ·have:=h.node n hn
  simp; omega
 ·have:=h.edge e he
  simp; omega
theorem exV:(typesV exT).2=0:=by decide +kernel
theorem MadeG.pat {g:Graph} (h:MadeG g):patE exT ⟨g,[],0,[]⟩=0:=by
 unfold patE
 rw [exV,h.e0,h.typed]
 rfl
structure GoodR (L R:Graph) (m:Morphism):Prop where
 l:MadeG L
 r:MadeG R
 nlen:m.Nodes.length=L.Nodes.length
 elen:m.Edges.length=L.Edges.length
 node:∀ i:Int,0<=i->i<L.Nodes.length->(0<=at' m.Nodes i∧at' m.Nodes i<R.Nodes.length)∧at' R.Nodes (at' m.Nodes i)=at' L.Nodes i
 edge:∀ i:Int,0<=i->i<L.Edges.length->(0<=at' m.Edges i∧at' m.Edges i<R.Edges.length)∧(at' L.Edges i).Type'=(at' R.Edges (at' m.Edges i)).Type' ∧
  at' m.Nodes (at' L.Edges i).From=(at' R.Edges (at' m.Edges i)).From∧at' m.Nodes (at' L.Edges i).To=(at' R.Edges (at' m.Edges i)).To
 nn:m.Nodes.Nodup
 ne:m.Edges.Nodup
theorem asc_num {n:Int} {k:Nat} (h:n=k):ascE (numS n) k=0:=by
 subst h
 unfold ascE
 have:fst (fun i=>if at' (numS k) i<0∨(k:Int)<=at' (numS k) i then some (6:Int) else if 0<i∧at' (numS k) i<=at' (numS k) (i - 1) then some 12 else none) 0 (numS k).length=none:=by
  rw [fst_none]
  intro i i0 i1
  rw [numS_len] at i1
  rw [at_num i0 (by omega),if_neg (by omega)]
  by_cases h0:0<i
  ·rw [at_num (by omega) (by omega),if_neg (by omega)]
  ·rw [if_neg (by omega)]
 rw [this]; rfl
def wholeP (g:Graph):Part:=⟨numS g.Nodes.length,numS g.Edges.length⟩
theorem part_whole {g:Graph} (h:MadeG g):partV g (wholeP g)=0:=by
 unfold partV
 rw [h.e0,if_neg (by decide)]
 unfold partE wholeP
 rw [asc_num rfl,asc_num rfl,if_neg (by decide),if_neg (by decide)]
 have:fst (fun i=>if (hasB (numS g.Nodes.length) (at' g.Edges (at' (numS g.Edges.length) i)).From&&hasB (numS g.Nodes.length) (at' g.Edges (at' (numS g.Edges.length) i)).To)=true then none else some (14:Int)) 0 (numS g.Edges.length).length=none:=by
  rw [fst_none]
  intro i i0 i1
  rw [numS_len] at i1
  rw [at_num i0 (by omega)]
  have he:=h.edge _ (at_mem (l:=g.Edges) i0 (by omega))
  rw [if_pos]
  rw [Bool.and_eq_true,hasB_iff,hasB_iff,mem_num,mem_num]
  exact ⟨he.2.1,he.2.2.1⟩
 rw [this]; rfl
theorem partG_whole {g:Graph} (h:MadeG g):partG g (wholeP g)=g:=by
 have e1:(numS g.Nodes.length).map (at' g.Nodes)=g.Nodes:=by
  refine at_ext (by simp [numS_len]) fun i i0 i1=>?_
  simp only [List.length_map,numS_len] at i1
  rw [at_mapI i0 (by rw [numS_len]; omega),at_num i0 (by omega)]
 have e2:(numS g.Edges.length).map (fun x=>(⟨(at' g.Edges x).Type',ixS (numS g.Nodes.length) (at' g.Edges x).From,ixS (numS g.Nodes.length) (at' g.Edges x).To⟩:Edge))=g.Edges:=by
  refine at_ext (by simp [numS_len]) fun i i0 i1=>?_
  simp only [List.length_map,numS_len] at i1
  have he:=h.edge _ (at_mem (l:=g.Edges) i0 (by omega))
  rw [at_mapI i0 (by rw [numS_len]; omega),at_num i0 (by omega),ix_num he.2.1.1 he.2.1.2,ix_num he.2.2.1.1 he.2.2.1.2]
 unfold partG wholeP
 rw [e1,e2]
theorem good_mor {L R:Graph} {m:Morphism} (h:GoodR L R m):morE L R m=0:=by
 unfold morE
 rw [h.l.e0,h.r.e0,if_neg (by decide),if_neg (by decide),if_neg (by have:=h.nlen; have:=h.elen; omega)]
 have e1:fst (mNodeE L R m) 0 m.Nodes.length=none:=by
  rw [fst_none]
  intro i i0 i1
  have:=h.node i i0 (by have:=h.nlen; omega)
  unfold mNodeE
  rw [if_neg (by omega),if_neg (by simpa using this.2)]
 have e2:fst (mEdgeE L R m) 0 m.Edges.length=none:=by
  rw [fst_none]
  intro i i0 i1
  have:=h.edge i i0 (by have:=h.elen; omega)
  unfold mEdgeE
  rw [if_neg (by omega),if_neg (by simpa using this.2.1),if_neg (by simp [this.2.2.1,this.2.2.2])]
 rw [e1,e2]; rfl
theorem exA:∀ n:Int,0<=n->n<5->(at' exT.Nodes n).Abstract=false:=by
 intro n h0 h1
 have:n=0∨n=1∨n=2∨n=3∨n=4:=by omega
 rcases this with rfl | rfl | rfl | rfl | rfl <;> rfl
theorem MadeG.fits {g:Graph} (h:MadeG g) {i:Int} (i0:0<=i) (i1:i<g.Edges.length):edgeFits exT g i=true:=(h.edge _ (at_mem i0 i1)).2.2.2
theorem good_mak {R:Graph} (h:MadeG R) {ns es:List Int} (hn:∀ x∈ns,0<=x∧x<R.Nodes.length) (he:∀ x∈es,0<=x∧x<R.Edges.length):makB exT R ns es=true:=by
 unfold makB
 rw [Bool.and_eq_true,Bool.not_eq_true',Bool.not_eq_true',List.any_eq_false,List.any_eq_false]
 refine ⟨fun x hx=>?_,fun x hx=>?_⟩
 ·have h1:=hn x hx
  have h2:=h.node _ (at_mem h1.1 h1.2)
  rw [exA _ h2.1 h2.2]; decide
 ·have h1:=he x hx
  rw [h.fits h1.1 h1.2]; decide
theorem over_nil (N:Nat) (t:Types) (p:Pattern):overN N t p (emptyC 1)=0:=by
 cases N with
 | zero=>rfl
 | succ N=>rfl
theorem shape1:shapeE (emptyC 1)=0:=by decide +kernel
theorem good_rule {L R:Graph} {m:Morphism} (h:GoodR L R m) {nm:ByteArray} (hn:isName nm=true):ruleE exT (ruleR nm L R m)=0:=by
 have hk:keptE (ruleR nm L R m)=0:=by
  unfold keptE
  show (if partV L (wholeP L)≠0 then _ else if morE (partG L (wholeP L)) R m≠0 then _ else if injB m=false then 11 else 0)=0
  rw [part_whole h.l,partG_whole h.l,good_mor h,if_neg (by decide),if_neg (by decide),if_neg]
  unfold injB
  rw [disB_iff.2 h.nn,disB_iff.2 h.ne]; decide
 have hr:rightE exT (ruleR nm L R m)=0:=by
  unfold rightE
  show (if graphE R≠0 then _ else if typedB exT R=false then 13 else _)=0
  rw [h.r.e0,h.r.typed]; rfl
 unfold ruleE
 rw [exV,if_neg (by decide),if_neg (by show ¬ isName nm=false; rw [hn]; decide),show patE exT (ruleR nm L R m).Left=0 from h.l.pat,if_neg (by decide),hr,if_neg (by decide),hk,if_neg (by decide),good_mak (R:=(ruleR nm L R m).Right.Graph) (ns:=createdN (ruleR nm L R m)) (es:=createdE (ruleR nm L R m)) h.r (fun x hx=>restS_mem hx) (fun x hx=>restS_mem hx),if_neg (by decide)]
 unfold condE
 rw [show patE exT (ruleR nm L R m).Left=0 from h.l.pat,if_neg (by decide),show shapeE (ruleR nm L R m).Condition=0 from shape1,if_neg (by decide)]
 exact over_nil _ _ _
theorem good_few {L R:Graph} {m:Morphism} (h:GoodR L R m) {nm:ByteArray} (hn:(nm.size:Int)<=60):FewR (ruleR nm L R m):=by
 have a:=h.l.nlen
 have b:=h.l.elen
 have c:=h.r.nlen
 have d:=h.r.elen
 have e:=h.nlen
 have f:=h.elen
 refine ⟨hn,⟨?_,?_,Nat.zero_le _,Nat.zero_le _⟩,⟨?_,?_,Nat.zero_le _,Nat.zero_le _⟩,⟨?_,?_⟩,⟨?_,?_⟩,emptyC_few 1⟩
 ·show L.Nodes.length<=45; omega
 ·show L.Edges.length<=90; omega
 ·show R.Nodes.length<=45; omega
 ·show R.Edges.length<=90; omega
 ·show (numS L.Nodes.length).length<=1000; rw [numS_len]; omega
 ·show (numS L.Edges.length).length<=1000; rw [numS_len]; omega
 ·show m.Nodes.length<=140; omega
 ·show m.Edges.length<=140; omega
theorem exPar:∀ n∈exT.Nodes,n.Parent=-1:=by decide
theorem leaf_ex {l:List Int} (h:∀ n∈l,0<=n):leafB exT l=true:=by
 unfold leafB
 rw [Bool.not_eq_true',List.any_eq_false]
 intro k hk
 rw [Bool.not_eq_true,List.any_eq_false]
 intro n hn
 have:=h k hk
 rw [exPar n hn,decide_eq_true_eq]
 omega
theorem good_trip {L R:Graph} {m:Morphism} (h:GoodR L R m) {nm:ByteArray} (hn:isName nm=true) {S:Sorts} (hS:sortsE exT S=0):tripE exT S (ruleR nm L R m)=0:=by
 unfold tripE
 rw [hS,if_neg (by decide),good_rule h hn,if_neg (by decide),if_neg,if_pos]
 ·rw [Bool.and_eq_true,Bool.and_eq_true]
  refine ⟨⟨leaf_ex fun n hn=>(h.l.node n hn).1,leaf_ex fun n hn=>(h.r.node n hn).1⟩,?_⟩
  unfold fitsG
  rw [Bool.not_eq_true',anyR_false]
  intro i i0 i1
  rw [show edgeFits exT (ruleR nm L R m).Left.Graph i=true from h.l.fits i0 i1]; rfl
 ·rw [Bool.not_eq_false]
  unfold creaB
  simp only [Bool.and_eq_true,decide_eq_true_eq]
  refine ⟨⟨⟨⟨rfl,rfl,rfl,rfl⟩,rfl⟩,rfl⟩,?_,?_⟩
  ·show (numS L.Nodes.length).length=L.Nodes.length; rw [numS_len]; omega
  ·show (numS L.Edges.length).length=L.Edges.length; rw [numS_len]; omega
end Go.Sf.Sc
namespace Go.Sf
theorem whR_inv {σ ρ:Type} {f:σ × Int->Option (Ctl (σ × Int) ρ)} (I:Int->σ->Prop) {a b:Int} {s:σ} (hab:a<=b) (h0:I a s) (h:∀ i s,a<=i->i<b->I i s->∃ s',f (s,i)=some (.next (s',i+1))∧I (i+1) s') (hb:∀ s,I b s->f (s,b)=some (.brk (s,b))):∃ s',whR f (s,a)=some (.inl (s',b))∧I b s':=by
 have key:∀ (n:Nat) (i:Int) (s:σ),a<=i->i+n=b->I i s->∃ s',WhEv f (s,i) (.inl (s',b))∧I b s':=by
  intro n
  induction n with
  | zero=>
   intro i s _ hi hI
   have:i=b:=by omega
   subst this
   exact ⟨s,.brk (hb s hI),hI⟩
  | succ n ih=>
   intro i s h1 h2 hI
   obtain ⟨s1,e1,I1⟩:=h i s h1 (by omega) hI
   obtain ⟨s2,e2,I2⟩:=ih (i+1) s1 (by omega) (by omega) I1
   exact ⟨s2,.next e1 e2,I2⟩
 obtain ⟨s',e,hI⟩:=key (b - a).toNat a s (Int.le_refl _) (by omega) h0
 exact ⟨s',e.eq,hI⟩
theorem rmd_range {x n:Int} (hx:0<=x) (hn:0<n):∃ y,rmd x n=some y∧0<=y∧y<n:=by
 unfold rmd
 rw [if_neg (by omega)]
 refine ⟨_,rfl,?_,?_⟩
 ·rw [Int.tmod_eq_emod_of_nonneg hx]; exact Int.emod_nonneg _ (by omega)
 ·rw [Int.tmod_eq_emod_of_nonneg hx]; exact Int.emod_lt_of_pos _ hn
theorem selS_congr {q q':Int->Bool} {n:Int} (h:∀ i,0<=i->i<n->q i=q' i):selS q n=selS q' n:=by
 unfold selS
 refine List.filter_congr fun x hx=>?_
 have:=mem_num.1 hx
 exact h x this.1 this.2
end Go.Sf
namespace Go.Sf.Sc
open Go Go.Sf
theorem MadeG.nil:MadeG ⟨[],[]⟩:=⟨by decide,by decide,by simp,by simp⟩
theorem MadeG.addN {g:Graph} (h:MadeG g) (hl:g.Nodes.length<20) {x:Int} (x0:0<=x) (x1:x<5):MadeG ⟨g.Nodes++[x],g.Edges⟩:=by
 refine ⟨by simp; omega,h.elen,fun n hn=>?_,fun e he=>?_⟩
 ·rcases List.mem_append.1 hn with hn | hn
  ·exact h.node n hn
  ·rw [List.mem_singleton.1 hn]; exact ⟨x0,x1⟩
 ·obtain ⟨h1,h2,h3,h4⟩:=h.edge e he
  simp only [List.length_append,List.length_cons,List.length_nil]
  refine ⟨h1,by omega,by omega,?_⟩
  rw [at_app1 (by omega),at_app1 (by omega)]
  exact h4
theorem MadeG.addE {g:Graph} (h:MadeG g) (hl:g.Edges.length<20) {t a b:Int} (ht:0<=t∧t<6) (ha:0<=a∧a<g.Nodes.length) (hb:0<=b∧b<g.Nodes.length) (hf:fitsB exT t (at' g.Nodes a) (at' g.Nodes b)=true):MadeG ⟨g.Nodes,g.Edges++[⟨t,a,b⟩]⟩:=by
 refine ⟨h.nlen,by simp; omega,h.node,fun e he=>?_⟩
 rcases List.mem_append.1 he with he | he
 ·exact h.edge e he
 ·rw [List.mem_singleton.1 he]
  exact ⟨ht,ha,hb,hf⟩
def ByteD (x:Int):Prop:=0<=x∧x<=255
structure DraftOk (d:ref15_Draft):Prop where
 nodes:∀ x∈d.Nodes,ByteD x.a0∧ByteD x.a1
 edges:∀ x∈d.Edges,ByteD x.a0∧ByteD x.a1∧ByteD x.a2
instance:Inhabited Arr2_u8:=⟨⟨0,0⟩⟩
instance:Inhabited Arr3_u8:=⟨⟨0,0,0⟩⟩
theorem w64_byte {x:Int} (h:ByteD x):w64 x=x:=w64_id (by have:=h.1; omega) (by have:=h.2; omega)
theorem r_concrete:ref15_concrete exT=some [0,1,2,3,4]:=by
 unfold ref15_concrete
 rw [forA_fn numS (by omega) (by rfl)]
 ·rfl
 ·intro i i0 i1
  have hl:(exT.Nodes.length:Int)=5:=rfl
  have hn:=numS_len i
  rw [idx_at i0 i1,bs,exA i i0 (by omega),if_pos (by decide),appC_some (by simp; unfold nmax; omega),numS_succ i0]; rfl
theorem exAttrs {n:Int} (h0:0<=n) (h1:n<5):attrsR exT n=([],0):=by
 have:n=0∨n=1∨n=2∨n=3∨n=4:=by omega
 rcases this with rfl | rfl | rfl | rfl | rfl <;> decide +kernel
theorem idx5 {i:Int} (h0:0<=i) (h1:i<5):idx ([0,1,2,3,4]:List Int) i=some i:=by
 have:i=0∨i=1∨i=2∨i=3∨i=4:=by omega
 rcases this with rfl | rfl | rfl | rfl | rfl <;> rfl
theorem r_Made15 {d:ref15_Draft} (hd:DraftOk d) (hn:d.Nodes.length<=3) (he:d.Edges.length<=3):∃ h,ref15_Made exT d=some h∧MadeG h.Graph∧h.Graph.Nodes.length<=3∧h.Graph.Edges.length<=3:=by
 unfold ref15_Made
 rw [r_concrete,bs]
 obtain ⟨h1,e1,g1,n1,v1⟩:=whR_inv (ρ:=Host) (f:=(fun (s0:Host × Int)=>
  if (((decide (s0.2<(d.Nodes.length:Int)))&&(decide (s0.2<8)))&&(decide (0<(([0,1,2,3,4]:List Int).length:Int))))=true then
  (idx d.Nodes s0.2).bind fun x38=>
  (rmd (w64 x38.a0) (([0,1,2,3,4]:List Int).length:Int)).bind fun x44=>
  (idx ([0,1,2,3,4]:List Int) x44).bind fun x45=>
  (ref04_Attrs exT x45).bind fun x50=>
  (forA (fun (i2:Int) (s2:List Int)=>
  (idx x50.1 i2).bind fun x63=>
  (idx d.Nodes s0.2).bind fun x69=>
  (idx x50.1 i2).bind fun x78=>
  (idx x50.1 i2).bind fun x83=>
  (rmd (w64 ((w64 x69.a1)+(w64 (7*i2)))) (w64 ((w64 (x78.High - x83.Low))+1))).bind fun x88=>
  (appC s2 [w64 (x63.Low+x88)]).bind fun x91=>
  some x91) 0 (x50.1.length:Int) []).bind fun s2=>
  (appC s0.1.Graph.Nodes [x45]).bind fun x97=>
  (appC s0.1.Values [s2]).bind fun x102=>
  some (.next (Host.mk (Graph.mk x97 s0.1.Graph.Edges) x102,w64 (s0.2+1)))
  else
  some (.brk (s0.1,s0.2)))) (fun i h=>MadeG h.Graph∧(h.Graph.Nodes.length=i∧h.Graph.Edges=[])∧h.Values.length=i) (a:=0) (b:=d.Nodes.length) (s:=Host.mk (Graph.mk [] []) []) (by omega) ⟨MadeG.nil,⟨rfl,rfl⟩,rfl⟩ (fun i h i0 i1 hI=>by
   obtain ⟨hg,⟨hl,hE⟩,hv⟩:=hI
   have hb:=(hd.nodes _ (at_mem i0 i1)).1
   obtain ⟨y,y1,y2,y3⟩:=rmd_range (n:=5) hb.1 (by omega)
   refine ⟨⟨⟨h.Graph.Nodes++[y],h.Graph.Edges⟩,h.Values++[[]]⟩,?_,hg.addN (by omega) y2 y3,⟨by simp; omega,hE⟩,by simp; omega⟩
   rw [if_pos (by simp; omega),idx_at i0 i1,bs,w64_byte hb]
   show ((rmd _ 5).bind _)=_
   rw [y1,bs,idx5 y2 y3,bs,r_Attrs exT_few,bs,exAttrs y2 y3]
   rw [forA_empty (by simp),bs,appC_some (by simp; unfold nmax; omega),bs,appC_some (by simp; unfold nmax; omega),bs,w64_id (by omega) (by omega)]) (fun h hI=>by
   rw [if_neg (by simp)])
 rw [e1,thenR_inl]
 by_cases h0:h1.Graph.Nodes.length=0
 ·refine ⟨h1,?_,g1,by omega,by rw [n1.2]; decide⟩
  rw [(WhEv.brk (s:=(h1,(0:Int))) (s':=(h1,0)) (by rw [if_neg (by dsimp only; rw [h0]; simp)])).eq]; rfl
 ·obtain ⟨h2,e2,g2,n2,v2⟩:=whR_inv (ρ:=Host) (f:=(fun (s4:Host × Int)=>
   if ((((decide (s4.2<(d.Edges.length:Int)))&&(decide (s4.2<10)))&&(decide (0<(h1.Graph.Nodes.length:Int))))&&(decide (0<(exT.Edges.length:Int))))=true then
   (idx d.Edges s4.2).bind fun x134=>
   (rmd (w64 x134.a0) (exT.Edges.length:Int)).bind fun x141=>
   (idx d.Edges s4.2).bind fun x145=>
   (rmd (w64 x145.a1) (h1.Graph.Nodes.length:Int)).bind fun x150=>
   (idx d.Edges s4.2).bind fun x154=>
   (rmd (w64 x154.a2) (h1.Graph.Nodes.length:Int)).bind fun x159=>
   (idx s4.1.Graph.Nodes x150).bind fun x169=>
   (idx s4.1.Graph.Nodes x159).bind fun x176=>
   (ref04_Fits exT x141 x169 x176).bind fun x178=>
   if x178=true then
   (appC s4.1.Graph.Edges [Edge.mk x141 x150 x159]).bind fun x184=>
   some (.next (Host.mk (Graph.mk s4.1.Graph.Nodes x184) s4.1.Values,w64 (s4.2+1)))
   else
   some (.next (s4.1,w64 (s4.2+1)))
   else
   some (.brk (s4.1,s4.2)))) (fun i h=>MadeG h.Graph∧h.Graph.Nodes.length=h1.Graph.Nodes.length∧h.Graph.Edges.length<=i) (a:=0) (b:=d.Edges.length) (s:=h1) (by omega) ⟨g1,rfl,by rw [n1.2]; decide⟩ (fun i h i0 i1 hI=>by
    obtain ⟨hg,hl,hE⟩:=hI
    have hb:=hd.edges _ (at_mem i0 i1)
    obtain ⟨x,x1,x2,x3⟩:=rmd_range (n:=6) hb.1.1 (by omega)
    obtain ⟨y,y1,y2,y3⟩:=rmd_range (n:=h1.Graph.Nodes.length) hb.2.1.1 (by omega)
    obtain ⟨z,z1,z2,z3⟩:=rmd_range (n:=h1.Graph.Nodes.length) hb.2.2.1 (by omega)
    rw [if_pos (by simp [exT_len.2]; omega),idx_at i0 i1]
    simp only [bs,w64_byte hb.1,w64_byte hb.2.1,w64_byte hb.2.2]
    rw [show (exT.Edges.length:Int)=6 from rfl,x1,bs,y1,bs,z1,bs,idx_at y2 (by omega),bs,idx_at z2 (by omega),bs,r_Fits exT_few,bs,w64_id (by omega) (by omega)]
    cases hf:fitsB exT x (at' h.Graph.Nodes y) (at' h.Graph.Nodes z)
    ·exact ⟨h,rfl,hg,hl,by omega⟩
    ·refine ⟨⟨⟨h.Graph.Nodes,h.Graph.Edges++[⟨x,y,z⟩]⟩,h.Values⟩,?_,hg.addE (by omega) ⟨x2,x3⟩ ⟨y2,by omega⟩ ⟨z2,by omega⟩ hf,hl,by simp; omega⟩
     rw [if_pos rfl,appC_some (by simp; unfold nmax; omega)]; rfl) (fun h hI=>by
    rw [if_neg (by simp)])
  rw [e2,thenR_inl]
  exact ⟨h2,rfl,g2,by omega,by omega⟩
theorem of_fin {n:Nat} (h:n<=1000):ref02_Finest n=some (numS n):=by
 unfold ref02_Finest
 rw [forA_fn numS (by omega) (by rfl)]
 ·rfl
 ·intro i i0 i1
  have:=numS_len i
  rw [appC_some (by simp; unfold nmax; omega),numS_succ i0]; rfl
structure Draft53Ok (d:ref53_Draft):Prop where
 left:DraftOk d.Left
 nodes:∀ x∈d.Nodes,ByteD x
 edges:∀ x∈d.Edges,ByteD x.a0∧ByteD x.a1∧ByteD x.a2
theorem slc3 {α:Type} (l:List α):∃ m,slc l 0 (min 3 (l.length:Int))=some m∧m.length<=3∧∀ x∈m,x∈l:=by
 refine ⟨_,slc_take (by omega) (by omega),by rw [List.length_take]; omega,fun x hx=>List.mem_of_mem_take hx⟩
theorem r_Made53 {d:ref53_Draft} (hd:Draft53Ok d) (hn:d.Nodes.length<=3) (he:d.Edges.length<=4):∃ L R,ref53_Made d=some (ruleR ⟨#[114]⟩ L R ⟨numS L.Nodes.length,numS L.Edges.length⟩)∧GoodR L R ⟨numS L.Nodes.length,numS L.Edges.length⟩∧L.Nodes.length<=3∧L.Edges.length<=3∧R.Nodes.length<=6∧R.Edges.length<=7∧(∃ A,R.Nodes=L.Nodes++A)∧∃ B,R.Edges=L.Edges++B:=by
 unfold ref53_Made
 obtain ⟨a,a1,a2,a3⟩:=slc3 d.Left.Nodes
 obtain ⟨b,b1,b2,b3⟩:=slc3 d.Left.Edges
 obtain ⟨h,h1,h2,h3,h4⟩:=r_Made15 (d:=⟨a,b⟩) ⟨fun x hx=>hd.left.nodes x (a3 x hx),fun x hx=>hd.left.edges x (b3 x hx)⟩ a2 b2
 rw [exT_eq,bs,a1,bs,b1,bs,h1,bs,r_copied (by omega) (by omega),bs]
 obtain ⟨g1,e1,i1⟩:=whR_inv (ρ:=Rule) (f:=(fun (s0:Graph × Int)=>
  if ((decide (s0.2<(d.Nodes.length:Int)))&&(decide (s0.2<3)))=true then
  (idx d.Nodes s0.2).bind fun x55=>
  (rmd (w64 x55) ((exT,exS).1.Nodes.length:Int)).bind fun x61=>
  (appC s0.1.Nodes [x61]).bind fun x63=>
  some (.next (Graph.mk x63 s0.1.Edges,w64 (s0.2+1)))
  else
  some (.brk (s0.1,s0.2)))) (fun i g=>MadeG g∧g.Nodes.length<=3+i∧g.Edges=h.Graph.Edges∧∃ A,g.Nodes=h.Graph.Nodes++A) (a:=0) (b:=d.Nodes.length) (s:=h.Graph) (by omega) ⟨h2,by omega,rfl,[],by simp⟩ (fun i g i0 i1 hI=>by
   obtain ⟨hg,hl,hE,A,hA⟩:=hI
   have hb:=hd.nodes _ (at_mem i0 i1)
   obtain ⟨y,y1,y2,y3⟩:=rmd_range (n:=5) hb.1 (by omega)
   refine ⟨⟨g.Nodes++[y],g.Edges⟩,?_,hg.addN (by omega) y2 y3,by simp; omega,hE,A++[y],by rw [hA,List.append_assoc]⟩
   rw [if_pos (by simp; omega),idx_at i0 i1,bs,w64_byte hb]
   show ((rmd _ 5).bind _)=_
   rw [y1,bs,appC_some (by simp; unfold nmax; omega),bs,w64_id (by omega) (by omega)]) (fun g hI=>by
   rw [if_neg (by simp)])
 obtain ⟨i2,i3,i4,A,i5⟩:=i1
 rw [e1,thenR_inl]
 have fin:∀ (k:Int) (g:Graph),MadeG g->g.Nodes=g1.Nodes->g.Edges.length<=7->(∃ B,g.Edges=h.Graph.Edges++B)->∀ (F:Graph × Int->Option (Ctl (Graph × Int) Rule)),whR F (g1,0)=some (.inl (g,k)) ->
   ∃ L R,(thenR (whR F (g1,0)) (fun s2=>(ref06_Of h.Graph).bind fun x139=>
    (ref53_rule (Rule.mk (⟨#[114]⟩:ByteArray) (Pattern.mk (Graph.mk [] []) [] 0 []) (Pattern.mk (Graph.mk [] []) [] 0 []) (Part.mk [] []) (Morphism.mk [] []) false (Condition.mk 0 [] (Morphism.mk [] []) (Pattern.mk (Graph.mk [] []) [] 0 []))) h.Graph s2.1 x139).bind fun x140=>
    some x140) (fun v2=>some v2))=some (ruleR ⟨#[114]⟩ L R ⟨numS L.Nodes.length,numS L.Edges.length⟩)∧GoodR L R ⟨numS L.Nodes.length,numS L.Edges.length⟩∧L.Nodes.length<=3∧L.Edges.length<=3∧R.Nodes.length<=6∧R.Edges.length<=7∧(∃ A,R.Nodes=L.Nodes++A)∧∃ B,R.Edges=L.Edges++B:=by
  intro k g hg hN hEl hB F hF
  obtain ⟨B,hB⟩:=hB
  refine ⟨h.Graph,g,?_,⟨h2,hg,by simp [numS_len],by simp [numS_len],fun i i0 i1=>?_,fun i i0 i1=>?_,num_nodup _,num_nodup _⟩,h3,h4,by rw [hN]; omega,hEl,⟨A,by rw [hN,i5]⟩,B,hB⟩
  ·rw [hF,thenR_inl]
   unfold ref06_Of
   rw [of_fin (by omega),bs,of_fin (by omega),bs,bs,r_made ⟨by omega,by omega⟩]; rfl
  ·dsimp only
   rw [at_num i0 i1,hN,i5,at_app1 (by omega)]
   exact ⟨⟨i0,by rw [List.length_append]; omega⟩,rfl⟩
  ·dsimp only
   have hed:=h2.edge _ (at_mem (l:=h.Graph.Edges) i0 i1)
   rw [at_num i0 i1,hB,at_app1 (by omega),at_num hed.2.1.1 hed.2.1.2,at_num hed.2.2.1.1 hed.2.2.1.2]
   exact ⟨⟨i0,by rw [List.length_append]; omega⟩,rfl,rfl,rfl⟩
 by_cases h0:g1.Nodes.length=0
 ·refine fin 0 g1 i2 rfl (by rw [i4]; omega) ⟨[],by rw [i4]; simp⟩ _ ?_
  exact (WhEv.brk (s:=(g1,(0:Int))) (s':=(g1,0)) (by rw [if_neg (by dsimp only; rw [h0]; simp)])).eq
 ·obtain ⟨g2,e2,j2,j3,j4,j5⟩:=whR_inv (ρ:=Rule) (f:=(fun (s2:Graph × Int)=>
   if (((decide (s2.2<(d.Edges.length:Int)))&&(decide (s2.2<4)))&&(decide (0<(g1.Nodes.length:Int))))=true then
   (idx d.Edges s2.2).bind fun x86=>
   (rmd (w64 x86.a0) ((exT,exS).1.Edges.length:Int)).bind fun x93=>
   (idx d.Edges s2.2).bind fun x97=>
   (rmd (w64 x97.a1) (g1.Nodes.length:Int)).bind fun x102=>
   (idx d.Edges s2.2).bind fun x106=>
   (rmd (w64 x106.a2) (g1.Nodes.length:Int)).bind fun x111=>
   (idx s2.1.Nodes x102).bind fun x120=>
   (idx s2.1.Nodes x111).bind fun x126=>
   (ref04_Fits (exT,exS).1 x93 x120 x126).bind fun x128=>
   if x128=true then
   (appC s2.1.Edges [Edge.mk x93 x102 x111]).bind fun x133=>
   some (.next (Graph.mk s2.1.Nodes x133,w64 (s2.2+1)))
   else
   some (.next (s2.1,w64 (s2.2+1)))
   else
   some (.brk (s2.1,s2.2)))) (fun i g=>MadeG g∧g.Nodes=g1.Nodes∧g.Edges.length<=3+i∧∃ B,g.Edges=h.Graph.Edges++B) (a:=0) (b:=d.Edges.length) (s:=g1) (by omega) ⟨i2,rfl,by rw [i4]; omega,[],by rw [i4]; simp⟩ (fun i g i0 i1 hI=>by
    obtain ⟨hg,hl,hE,B,hB⟩:=hI
    have hb:=hd.edges _ (at_mem i0 i1)
    obtain ⟨x,x1,x2,x3⟩:=rmd_range (n:=6) hb.1.1 (by omega)
    obtain ⟨y,y1,y2,y3⟩:=rmd_range (n:=g1.Nodes.length) hb.2.1.1 (by omega)
    obtain ⟨z,z1,z2,z3⟩:=rmd_range (n:=g1.Nodes.length) hb.2.2.1 (by omega)
    rw [if_pos (by simp; omega),idx_at i0 i1]
    simp only [bs,w64_byte hb.1,w64_byte hb.2.1,w64_byte hb.2.2]
    rw [show (exT.Edges.length:Int)=6 from rfl,x1,bs,y1,bs,z1,bs,idx_at y2 (by rw [hl]; exact y3),bs,idx_at z2 (by rw [hl]; exact z3),bs,r_Fits exT_few,bs,w64_id (by omega) (by omega)]
    cases hf:fitsB exT x (at' g.Nodes y) (at' g.Nodes z)
    ·exact ⟨g,rfl,hg,hl,by omega,B,hB⟩
    ·refine ⟨⟨g.Nodes,g.Edges++[⟨x,y,z⟩]⟩,?_,hg.addE (by omega) ⟨x2,x3⟩ ⟨y2,by rw [hl]; exact y3⟩ ⟨z2,by rw [hl]; exact z3⟩ hf,hl,by simp; omega,B++[⟨x,y,z⟩],by rw [hB,List.append_assoc]⟩
     rw [if_pos rfl,appC_some (by simp; unfold nmax; omega)]; rfl) (fun g hI=>by
    rw [if_neg (by simp)])
  exact fin _ g2 j2 j3 (by omega) j5 _ e2
end Go.Sf.Sc
