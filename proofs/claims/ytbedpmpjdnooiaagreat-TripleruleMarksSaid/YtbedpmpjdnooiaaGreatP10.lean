/- Plain lemmas: what the functions of the program and of the reference compute. -/
import Derived.Test.YtbedpmpjdnooiaaGreatP9
set_option maxRecDepth 100000
namespace Go.Sf.Sc
open Go Go.Sf
structure FewR (r:Rule):Prop where
 name:(r.Name.size:Int)<=60
 left:FewQ r.Left
 right:FewQ r.Right
 keep:FewP r.Keep
 into:FewM r.Into
 cond:FewC r.Condition
noncomputable def ruleE (t:Types) (r:Rule):Int:=
 if (typesV t).2≠0 then (typesV t).2 else if isName r.Name=false then 2 else if patE t r.Left≠0 then patE t r.Left else
 if rightE t r≠0 then rightE t r else if keptE r≠0 then keptE r else if makB t r.Right.Graph (createdN r) (createdE r)=false then 13 else condE t r.Left r.Condition
theorem right_ok {t:Types} {r:Rule} (h:rightE t r=0):GraphOk r.Right.Graph∧typedB t r.Right.Graph=true:=by
 unfold rightE at h
 split at h
 ·omega
 ·split at h
  ·cases h
  ·rename_i h1 h2
   exact ⟨graphOk (by omega),by simpa using h2⟩
theorem p_rule {t:Types} (hf:FewT t) {r:Rule} (hr:FewR r):rule_Valid t r=some (ruleE t r):=by
 have hn:=hr.name
 unfold rule_Valid ruleE
 rw [p_Types hf,bs]
 refine chE fun ht=>?_
 rw [p_IsName (by omega),bs]
 refine chB fun _=>?_
 rw [p_pat hf,bs]
 refine chE fun _=>?_
 rw [p_right hf,bs]
 refine chE fun hri=>?_
 have ho:=right_ok hri
 rw [p_kept hr.keep,bs]
 refine chE fun hk=>?_
 rw [p_created ho.1,bs]
 dsimp only
 rw [p_mak (nodes:=createdN r) (edges:=createdE r) hf ho.1 ho.2 (fun x hx=>restS_mem hx) (fun x hx=>restS_mem hx),bs]
 refine chB fun _=>?_
 rw [p_cond hf ht _ hr.cond,bs]
theorem r_rule {t:Types} (hf:FewT t) {r:Rule} (hr:FewR r):ref24_Valid t r=some (ruleE t r):=by
 have hn:=hr.name
 unfold ref24_Valid ruleE
 rw [r_Types hf,bs]
 refine chE fun ht=>?_
 rw [r_IsName (by omega),bs]
 refine chB fun _=>?_
 rw [r_pat hf,bs]
 refine chE fun _=>?_
 rw [r_right hf,bs]
 refine chE fun hri=>?_
 have ho:=right_ok hri
 rw [r_span hr.keep,bs,r_dis,bs]
 simp only [r_dis,bs]
 have e:(if (!disB r.Into.Nodes)=true then some true else some (!disB r.Into.Edges))=some (!injB r.Into):=by
  unfold injB
  cases disB r.Into.Nodes <;> rfl
 rw [e,bs]
 have e2:keptE r=if spanE r≠0 then spanE r else if injB r.Into=false then 11 else 0:=by
  unfold keptE spanE
  by_cases h1:partV r.Left.Graph r.Keep=0 <;> simp [h1]
 rw [e2]
 by_cases hs:spanE r=0
 ·simp only [hs,ne_eq,not_true_eq_false,if_false,decide_true,Bool.not_true,Bool.false_eq_true]
  cases hi:injB r.Into
  ·simp
  ·simp only [Bool.not_true,Bool.false_eq_true,if_false,not_true_eq_false,Bool.true_eq_false]
   rw [r_created ho.1,bs]
   dsimp only
   rw [r_mak (nodes:=createdN r) (edges:=createdE r) hf ho.1 ho.2 (fun x hx=>restS_mem hx) (fun x hx=>restS_mem hx),bs]
   refine chB fun _=>?_
   rw [r_cond hf _ hr.cond,bs]
 ·simp [hs]
def sortB (n:Int):Bool:=(decide (1<=n))&&(decide (n<=3))
def sNodeE (t:Types) (s:Sorts) (i:Int):Option Int:=
 if sortB (at' s.Nodes i)=false then some 6 else if 0<=par t i∧at' s.Nodes (par t i)≠at' s.Nodes i then some 13 else none
def sEdgeE (t:Types) (s:Sorts) (i:Int):Int:=
 if sortB (at' s.Edges i)=false then 6 else
 if ((!decide (at' s.Nodes (at' t.Edges i).From=at' s.Edges i))||((decide (at' s.Nodes (at' t.Edges i).To=at' s.Edges i))==(decide (at' s.Edges i=2))))=true then 13 else 0
def sortsE (t:Types) (s:Sorts):Int:=
 if (typesV t).2≠0 then (typesV t).2 else if s.Nodes.length≠t.Nodes.length∨s.Edges.length≠t.Edges.length then 20 else
 match fst (sNodeE t s) 0 t.Nodes.length with
 | some e=>e
 | none=>(fst (fun i=>nz (sEdgeE t s i)) 0 t.Edges.length).getD 0
structure SortsOk (t:Types) (s:Sorts):Prop where
 types:TypesOk t
 nlen:s.Nodes.length=t.Nodes.length
 elen:s.Edges.length=t.Edges.length
theorem sorts_ok {t:Types} {s:Sorts} (h:sortsE t s=0):(typesV t).2=0∧SortsOk t s:=by
 unfold sortsE at h
 split at h
 ·omega
 ·split at h
  ·cases h
  ·exact ⟨by omega,typesOk (by omega),by omega,by omega⟩
theorem and_ite {x:Prop} [Decidable x] {o:Option Bool} {b:Bool} (h:x->o=some b):(if decide x=true then o else some false)=some (decide x&&b):=by
 by_cases hx:x
 ·simp [hx,h hx]
 ·simp [hx]
theorem p_sorts {t:Types} (hf:FewT t) (s:Sorts):triple_sorts t s=some (sortsE t s):=by
 unfold triple_sorts sortsE
 rw [p_Types hf,bs]
 refine chE fun ht=>chP (by simp; try omega) fun hl=>?_
 have ho:=typesOk ht
 rw [show (s.Nodes.length:Int)=t.Nodes.length by omega,show (s.Edges.length:Int)=t.Edges.length by omega,forR_fst (sNodeE t s),thenR_ans]
 ·cases fst (sNodeE t s) 0 t.Nodes.length with
  | some e=>rfl
  | none=>
   dsimp only
   rw [forR_fst (fun i=>nz (sEdgeE t s i)),thenR_ans0]
   intro i i1 i2 _
   have he:=ho.ends i1 i2
   have e:triple_edge t s i=some (sEdgeE t s i):=by
    unfold triple_edge sEdgeE
    rw [idx_at i1 (by omega),bs,show triple_is (at' s.Edges i)=some (sortB (at' s.Edges i)) from rfl,bs]
    refine chB fun _=>?_
    rw [idx_at i1 i2,bs,idx_at (by omega) (by omega),bs,bs,idx_at (by omega) (by omega),bs]
    exact chT fun _=>rfl
   rw [e,bs,nz_ctl]
 ·intro i i1 i2 _
  have hp:=ho.par i i1 i2
  unfold sNodeE
  rw [idx_at i1 (by omega),bs,show triple_is (at' s.Nodes i)=some (sortB (at' s.Nodes i)) from rfl,bs,idx_at i1 i2,bs]
  cases sortB (at' s.Nodes i)
  ·rfl
  ·simp only [Bool.not_true,Bool.false_eq_true,if_false,Bool.true_eq_false]
   rw [show (at' t.Nodes i).Parent=par t i from rfl,and_ite (b:=!decide (at' s.Nodes (par t i)=at' s.Nodes i)) (fun h=>by rw [idx_at h (by omega)]; rfl),bs]
   by_cases h:0<=par t i∧at' s.Nodes (par t i)≠at' s.Nodes i
   ·rw [if_pos (by simpa using h),if_pos h]; rfl
   ·rw [if_neg (by simpa using h),if_neg h]; rfl
theorem p_swapped {l:List Int} (hl:l.length<=1000):∃ m,triple_swapped l=some m:=by
 unfold triple_swapped slices_Clone_int
 rw [appC_nil (by unfold nmax; omega),bs]
 obtain ⟨m,h1,h2⟩:=forA_inv (f:=(fun (i0:Int) (s0:List Int)=>
 (idx s0 i0).bind fun x13=>
 (idx s0 i0).bind fun x19=>
 some (setE s0 i0 (w64 (4 - x13))))) (fun _ s=>s.length=l.length) (a:=0) (b:=l.length) (s:=l) (by omega) rfl (fun i s i1 i2 hs=>by
  refine ⟨_,by rw [idx_at i1 (by omega),bs,bs],?_⟩
  simp [setE,hs])
 rw [h1]
 exact ⟨m,rfl⟩
theorem p_tsorts {t:Types} (hf:FewT t) (s:Sorts):triplerule_sorts t s=some (sortsE t s):=by
 unfold triplerule_sorts triple_Swap
 rw [p_sorts hf,bs]
 by_cases h:sortsE t s=0
 ·have ho:=(sorts_ok h).2
  have:=ho.nlen
  have:=ho.elen
  have:=ho.types.nodes
  have:=ho.types.edges
  obtain ⟨m,hm⟩:=p_swapped (l:=s.Nodes) (by omega)
  obtain ⟨k,hk⟩:=p_swapped (l:=s.Edges) (by omega)
  rw [if_neg (by simpa using h),hm,bs,hk,h]; rfl
 ·rw [if_pos (by simpa using h)]; rfl
def creaB (r:Rule):Bool:=decide (r.Left.Slots.length=0∧r.Left.Tests.length=0∧r.Right.Slots.length=0∧r.Left.Vars=0)&&r.Injective&&decide (r.Condition.Kind=1)&&decide (r.Keep.Nodes.length=r.Left.Graph.Nodes.length∧r.Keep.Edges.length=r.Left.Graph.Edges.length)
def leafB (t:Types) (l:List Int):Bool:=!(l.any fun k=>t.Nodes.any fun n=>decide (n.Parent=k))
def fitsG (t:Types) (g:Graph):Bool:=!anyR (fun i=>!edgeFits t g i) 0 g.Edges.length
noncomputable def tripE (t:Types) (s:Sorts) (r:Rule):Int:=
 if sortsE t s≠0 then sortsE t s else if ruleE t r≠0 then ruleE t r else if creaB r=false then 8 else
 if (leafB t r.Left.Graph.Nodes&&leafB t r.Right.Graph.Nodes&&fitsG t r.Left.Graph)=true then 0 else 13
structure RuleOk (t:Types) (r:Rule):Prop where
 left:GraphOk r.Left.Graph
 ltyped:typedB t r.Left.Graph=true
 right:GraphOk r.Right.Graph
 rtyped:typedB t r.Right.Graph=true
 rtests:r.Right.Tests.length=0
 part:PartOk r.Left.Graph r.Keep
 mor:MorOk (partG r.Left.Graph r.Keep) r.Right.Graph r.Into
 inj:r.Into.Nodes.Nodup∧r.Into.Edges.Nodup
theorem pat_ok {t:Types} {p:Pattern} (h:patE t p=0):GraphOk p.Graph∧typedB t p.Graph=true:=by
 unfold patE at h
 split at h
 ·omega
 ·split at h
  ·omega
  ·split at h
   ·cases h
   ·rename_i h1 h2 h3
    exact ⟨graphOk (by omega),by simpa using h3⟩
theorem rule_ok {t:Types} {r:Rule} (h:ruleE t r=0):(typesV t).2=0∧RuleOk t r:=by
 unfold ruleE at h
 split at h
 ·omega
 split at h
 ·cases h
 split at h
 ·omega
 split at h
 ·omega
 split at h
 ·omega
 rename_i h1 h2 h3 h4 h5
 have hp:=pat_ok (t:=t) (p:=r.Left) (by omega)
 have hr:=right_ok (t:=t) (r:=r) (by omega)
 have hk:=kept_ok (r:=r) (by omega)
 have hi:disB r.Into.Nodes=true∧disB r.Into.Edges=true:=by
  have:=hk.2.2
  unfold injB at this
  simpa using this
 refine ⟨by omega,hp.1,hp.2,hr.1,hr.2,?_,?_,morOk hk.2.1,disB_iff.1 hi.1,disB_iff.1 hi.2⟩
 ·have:rightE t r=0:=by omega
  unfold rightE at this
  split at this
  ·omega
  ·split at this
   ·cases this
   ·split at this
    ·cases this
    ·omega
 ·have:=hk.1
  unfold partV at this
  split at this
  ·omega
  ·exact partOk this
theorem asc_len {l:List Int} {n:Nat} (h:∀ x∈l,0<=x∧x<n) (hp:l.Pairwise (·<·)):l.length<=n:=by
 have key:∀ i:Int,0<=i->i<l.length->i<=at' l i:=by
  intro i h0 h1
  obtain ⟨k,rfl⟩:=Int.eq_ofNat_of_zero_le h0
  clear h0
  induction k with
  | zero=>exact (h _ (at_mem (by omega) (by omega))).1
  | succ k ih=>
   have a:=ih (by omega)
   have b:=pairwise_at hp (show (0:Int)<=(k:Int) by omega) (show (k:Int)<((k+1:Nat):Int) by omega) (by omega)
   omega
 by_cases h0:l.length=0
 ·omega
 ·have a:=key ((l.length:Int) - 1) (by omega) (by omega)
  have b:=h _ (at_mem (l:=l) (i:=(l.length:Int) - 1) (by omega) (by omega))
  omega
theorem p_concat {a b:List Int} (ha:a.length<=1000) (hb:b.length<=1000):slices_Concat_int [a,b]=some (a++b):=by
 have e1:w64 (0+(a.length:Int))=a.length:=by rw [w64_id (by omega) (by omega)]; omega
 have e2:w64 ((a.length:Int)+(b.length:Int))=a.length+b.length:=w64_id (by omega) (by omega)
 have i0:idx [a,b] 0=some a:=rfl
 have i1:idx [a,b] 1=some b:=rfl
 unfold slices_Concat_int
 rw [show (([a,b]:List (List Int)).length:Int)=2 from rfl]
 rw [forA_fn (a:=0) (b:=2) (s:=(0:Int)) (fun i=>if i=0 then 0 else if i=1 then (a.length:Int) else a.length+b.length) (by decide) rfl]
 ·rw [bs,if_neg (by decide),if_neg (by decide)]
  unfold slices_Grow_int
  rw [if_pos ⟨rfl,by omega,by unfold nmax; omega⟩,bs]
  rw [forA_fn (a:=0) (b:=2) (s:=([]:List Int)) (fun i=>if i=0 then [] else if i=1 then a else a++b) (by decide) rfl]
  ·rfl
  ·intro i h1 h2
   have:i=0∨i=1:=by omega
   rcases this with rfl | rfl
   ·rw [i0,bs,if_pos rfl,if_neg (by decide),if_pos (by decide),appC_nil (by unfold nmax; omega)]; rfl
   ·rw [i1,bs,if_neg (by decide),if_pos rfl,if_neg (by decide),if_neg (by decide),appC_some (by unfold nmax; omega)]; rfl
 ·intro i h1 h2
  have:i=0∨i=1:=by omega
  rcases this with rfl | rfl
  ·rw [i0,bs,if_pos rfl,e1,if_neg (by simp)]; rfl
  ·rw [i1,bs]
   show (if decide (w64 ((a.length:Int)+b.length)<0)=true then none else some (w64 ((a.length:Int)+b.length)))=some ((a.length:Int)+b.length)
   rw [e2,if_neg (by simp; omega)]
theorem p_trip {t:Types} (hf:FewT t) {s:Sorts} {r:Rule} (hr:FewR r):triplerule_Valid t s r=some (tripE t s r):=by
 unfold triplerule_Valid tripE
 rw [p_tsorts hf,bs]
 refine chE fun hs=>?_
 rw [p_rule hf hr,bs]
 refine chE fun hre=>?_
 have ho:=(rule_ok hre).2
 have hty:=(rule_ok hre).1
 have l1:=hr.left.slots
 have l2:=hr.left.tests
 have l3:=hr.right.slots
 have l4:=hr.right.tests
 have c1:=asc_len ho.part.nodes.1 ho.part.nodes.2
 have c2:=asc_len ho.part.edges.1 ho.part.edges.2
 have r0:=ho.rtests
 rw [w64_id (n:=(r.Left.Slots.length:Int)+r.Left.Tests.length) (by omega) (by omega),w64_id (n:=(r.Left.Slots.length:Int)+r.Left.Tests.length+r.Right.Slots.length) (by omega) (by omega),w64_id (n:=(r.Left.Slots.length:Int)+r.Left.Tests.length+r.Right.Slots.length+r.Right.Tests.length) (by omega) (by omega)]
 refine chP ?_ fun hc=>?_
 ·unfold creaB
  cases r.Injective
  ·simp
  ·simp only [Bool.not_true,Bool.or_false,Bool.and_true,Bool.or_eq_true,Bool.and_eq_true,Bool.not_eq_true',decide_eq_true_eq,decide_eq_false_iff_not,Bool.and_eq_false_iff]
   omega
 rw [p_concat (by have:=ho.left.nodes; omega) (by have:=ho.right.nodes; omega),bs,forR_any (fun i=>t.Nodes.any fun n=>decide (n.Parent=at' (r.Left.Graph.Nodes++r.Right.Graph.Nodes) i)) 13]
 ·rw [←any_at (l:=r.Left.Graph.Nodes++r.Right.Graph.Nodes) (p:=fun k=>t.Nodes.any fun n=>decide (n.Parent=k)),List.any_append,forR_any (fun i=>!edgeFits t r.Left.Graph i) 13]
  ·unfold leafB fitsG
   cases (r.Left.Graph.Nodes.any fun k=>t.Nodes.any fun n=>decide (n.Parent=k)) <;> cases (r.Right.Graph.Nodes.any fun k=>t.Nodes.any fun n=>decide (n.Parent=k)) <;> cases anyR (fun i=>!edgeFits t r.Left.Graph i) 0 r.Left.Graph.Edges.length <;> rfl
  ·intro i i1 i2 _
   have h2:=ho.left.fit _ (at_mem i1 i2)
   rw [idx_at i1 i2,bs,idx_at (by omega) (by omega),bs,idx_at (by omega) (by omega),bs,p_Fits hf,bs,if_b]
   rfl
 ·intro i i1 i2 _
  rw [idx_at i1 i2,bs,show (fun y0=>triplerule_Valid_1 y0 (at' (r.Left.Graph.Nodes++r.Right.Graph.Nodes) i))=(fun n=>some (decide (n.Parent=at' (r.Left.Graph.Nodes++r.Right.Graph.Nodes) i))) from rfl,cg_NodeType,bs,if_b]
end Go.Sf.Sc
