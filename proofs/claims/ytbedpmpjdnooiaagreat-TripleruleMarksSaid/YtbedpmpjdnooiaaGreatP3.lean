/- Plain lemmas: what the functions of the program and of the reference compute. -/
import Derived.Test.YtbedpmpjdnooiaaGreatP1
set_option maxRecDepth 100000
namespace Go.Sf.Sc
open Go Go.Sf
def namesE (l:List ByteArray):Int:=
 if (20:Int)<l.length then 3 else (fst (fun i=>if isName (at' l i)=false then some 2 else if anyR (fun j=>at' l j==at' l i) 0 i=true then some 5 else none) 0 l.length).getD 0
theorem contains_any {l:List ByteArray} {x:ByteArray} {b:Int} (h0:0<=b) (h1:b<=l.length):(l.take b.toNat).contains x=anyR (fun j=>at' l j==x) 0 b:=by
 rw [List.contains_eq_any_beq,any_take h0 h1]
 exact anyR_congr (fun i _ _=>by rw [Bool.beq_comm])
theorem p_names {l:List ByteArray} (hl:∀ x∈l,(x.size:Int)<=40):types_names l=some (namesE l):=by
 unfold types_names namesE
 by_cases h20:(20:Int)<l.length
 ·rw [if_pos (by simpa using h20),if_pos h20]
 ·rw [if_neg (by simpa using h20),if_neg h20]
  rw [forR_fst (fun i=>if isName (at' l i)=false then some 2 else if anyR (fun j=>at' l j==at' l i) 0 i=true then some 5 else none),thenR_ans0]
  intro i h1 h2 _
  have hx:=hl _ (at_mem h1 h2)
  rw [idx_at h1 h2,bs,p_IsName (by omega),bs,slc_take h1 (by omega)]
  simp only [bs,p_Contains_string,contains_any h1 (show i<=l.length by omega)]
  cases isName (at' l i) <;> cases anyR (fun j=>at' l j==at' l i) 0 i <;> rfl
theorem r_names {l:List ByteArray} (hl:∀ x∈l,(x.size:Int)<=40):ref04_names l=some (namesE l):=by
 unfold ref04_names namesE
 by_cases h20:(20:Int)<l.length
 ·rw [if_pos (by simpa using h20),if_pos h20]
 ·rw [if_neg (by simpa using h20),if_neg h20]
  rw [forR_fst (fun i=>if isName (at' l i)=false then some 2 else if anyR (fun j=>at' l j==at' l i) 0 i=true then some 5 else none),thenR_ans0]
  intro i h1 h2 _
  have hx:=hl _ (at_mem h1 h2)
  rw [idx_at h1 h2,bs,r_IsName (by omega),bs,forR_any (fun j=>at' l j==at' l i) 5]
  ·cases isName (at' l i) <;> cases anyR (fun j=>at' l j==at' l i) 0 i <;> rfl
  ·intro j k1 k2 _
   rw [idx_at k1 (by omega),bs,bs]
   split <;> rfl
def attrE (all:List Attr) (k:Int):Int:=
 let x:=at' all k
 if isName x.Name=false then 2 else if anyR (fun j=>(at' all j).Name==x.Name) 0 k=true then 5 else
 if x.Names.length=0 then (if -1000000<=x.Low∧x.Low<=x.High∧x.High<=1000000 then 0 else 6) else
 if namesE x.Names≠0 then namesE x.Names else if x.Low=0∧x.High=x.Names.length - 1 then 0 else 6
theorem p_attribute {all:List Attr} (hl:∀ x∈all,FewA x) {k:Int} (h0:0<=k) (h1:k<all.length):types_attribute (at' all k) (all.take k.toNat)=some (attrE all k):=by
 have hx:=hl _ (at_mem h0 h1)
 have hn:=hx.name
 unfold types_attribute attrE
 dsimp only
 rw [p_IsName (by omega),bs,show (fun y0=>types_attribute_1 y0 (at' all k))=(fun y0=>some (y0.Name==(at' all k).Name)) from rfl,cg_Attr,bs,any_take h0 (by omega),p_names hx.each,bs]
 have hl2:=hx.names
 have hw:w64 ((at' all k).Names.length - 1)=(at' all k).Names.length - 1:=w64_id (by omega) (by omega)
 rw [hw]
 have hz:(at' all k).Names.length=0->namesE (at' all k).Names=0:=fun h=>by rw [List.eq_nil_of_length_eq_zero h]; rfl
 generalize namesE (at' all k).Names=e at hz ⊢
 simp only [bs,decide_eq_true_eq,Bool.or_eq_true,Bool.and_eq_true,Bool.not_eq_true',decide_eq_false_iff_not,Bool.not_eq_false',Bool.or_eq_false_iff,Bool.and_eq_false_iff,ne_eq]
 repeat' (first | rfl | (exfalso; omega; done) | split)
 all_goals (first | rfl | (exfalso; omega) | omega | simp_all | (simp_all; omega))
theorem r_attribute {x:Attr} (hx:FewA x):ref04_attribute x=some (
 if x.Names.length=0 then (if -1000000<=x.Low∧x.Low<=x.High∧x.High<=1000000 then 0 else 6) else
 if namesE x.Names≠0 then namesE x.Names else if x.Low=0∧x.High=x.Names.length - 1 then 0 else 6):=by
 have hl2:=hx.names
 have hw:w64 (x.Names.length - 1)=x.Names.length - 1:=w64_id (by omega) (by omega)
 unfold ref04_attribute ref04_in
 simp only [bs,hw,r_names hx.each]
 generalize namesE x.Names=e
 simp only [bs,decide_eq_true_eq,Bool.or_eq_true,Bool.and_eq_true,Bool.not_eq_true',decide_eq_false_iff_not,Bool.not_eq_false',Bool.or_eq_false_iff,Bool.and_eq_false_iff,ne_eq]
 repeat' (first | rfl | (exfalso; omega; done) | split)
 all_goals (first | rfl | (exfalso; omega) | omega | simp_all | (simp_all; omega))
def nodeE (t:Types) (i:Int):Int:=
 let n:=at' t.Nodes i
 if isName n.Name=false then 2 else if anyR (fun j=>(at' t.Nodes j).Name==n.Name) 0 i=true then 5 else
 if n.Parent < -1∨i<=n.Parent then 6 else if 4<n.Attrs.length∨8<(attrsS t i).length then 3 else
 (fst (fun k=>nz (attrE (attrsS t i) k)) ((attrsS t i).length - n.Attrs.length) (attrsS t i).length).getD 0
theorem attrsS_sub {t:Types} {i:Int} (h0:0<=i):(at' t.Nodes i).Attrs.length<=(attrsS t i).length:=by
 unfold attrsS
 rw [show (i+1).toNat=i.toNat+1 by omega,attrsN,if_neg (by omega),List.length_append]
 omega
theorem ParOk.next {t:Types} {i:Int} (h:ParOk t i) (h1:-1<=par t i) (h2:par t i<i):ParOk t (i+1):=by
 intro j k1 k2
 by_cases hj:j=i
 ·subst hj; exact ⟨h1,h2⟩
 ·exact h j k1 (by omega)
theorem p_node {t:Types} (hf:FewT t) {i:Int} (h0:0<=i) (h1:i<t.Nodes.length) (hp:ParOk t i):types_node t i=some (nodeE t i):=by
 have hn:=hf.name _ (at_mem h0 h1)
 unfold types_node nodeE
 dsimp only
 rw [idx_at h0 h1,bs,p_IsName (by omega),bs,slc_take h0 (by omega),bs,show (fun y0=>types_node_1 y0 (at' t.Nodes i))=(fun y0=>some (y0.Name==(at' t.Nodes i).Name)) from rfl,cg_NodeType,bs,any_take h0 (by omega)]
 cases isName (at' t.Nodes i).Name
 ·rfl
 ·cases anyR (fun j=>(at' t.Nodes j).Name==(at' t.Nodes i).Name) 0 i
  ·by_cases hr:(at' t.Nodes i).Parent < -1∨i<=(at' t.Nodes i).Parent
   ·rcases hr with hr | hr <;> simp [hr]
   ·have hp':ParOk t (i+1):=hp.next (by unfold par; omega) (by unfold par; omega)
    have hr2:(decide ((at' t.Nodes i).Parent < -1)||decide (i<=(at' t.Nodes i).Parent))=false:=by
     rw [Bool.eq_false_iff]; simpa using hr
    rw [p_attrs hf (k:=i+1) (by omega) hp' h0 (by omega),bs]
    have hlen:=attrsS_len hf (k:=i+1) (a:=i) (by omega) hp' (by omega)
    have hsub:=attrsS_sub (t:=t) h0
    have hfew:=attrsS_few hf (k:=i+1) (a:=i) (by omega) hp' (by omega)
    rw [w64_id (by omega) (by omega),forR_fst (fun k=>nz (attrE (attrsS t i) k)),thenR_ans0]
    ·simp only [hr2,hr,Bool.not_true,Bool.false_eq_true,if_false]
     simp only [bs,decide_eq_true_eq,Bool.or_eq_true,Bool.and_eq_true,Bool.not_eq_true',decide_eq_false_iff_not,Bool.not_eq_false',Bool.or_eq_false_iff,Bool.and_eq_false_iff,ne_eq]
     repeat' (first | rfl | (exfalso; omega; done) | split)
     all_goals (first | rfl | (exfalso; omega) | omega | simp_all | (simp_all; omega))
    ·intro k k1 k2 _
     rw [idx_at (by omega) k2,bs,slc_take (by omega) (by omega),bs,p_attribute hfew (by omega) k2,bs,nz_ctl]
  ·rfl
theorem r_node {t:Types} (hf:FewT t) {i:Int} (h0:0<=i) (h1:i<t.Nodes.length) (hp:ParOk t i):ref04_node t i=some (nodeE t i):=by
 have hn:=hf.name _ (at_mem h0 h1)
 have hl:=hf.nodes
 unfold ref04_node nodeE ref04_in
 dsimp only
 rw [idx_at h0 h1,bs,r_IsName (by omega),bs,forR_any (fun j=>(at' t.Nodes j).Name==(at' t.Nodes i).Name) 5]
 ·cases isName (at' t.Nodes i).Name
  ·rfl
  ·cases anyR (fun j=>(at' t.Nodes j).Name==(at' t.Nodes i).Name) 0 i
   ·simp only [Bool.not_true,Bool.false_eq_true,if_false,thenR_inl,bs]
    rw [w64_id (by omega) (by omega)]
    by_cases hr:(at' t.Nodes i).Parent < -1∨i<=(at' t.Nodes i).Parent
    ·rw [if_pos,if_neg (by decide),if_pos hr]
     simp; omega
    ·have hp':ParOk t (i+1):=hp.next (by unfold par; omega) (by unfold par; omega)
     rw [if_neg (by simp; omega),if_neg (by decide),if_neg hr]
     rw [r_attrs hf (k:=i+1) (by omega) hp' h0 (by omega),bs]
     have hlen:=attrsS_len hf (k:=i+1) (a:=i) (by omega) hp' (by omega)
     have hsub:=attrsS_sub (t:=t) h0
     have hfew:=attrsS_few hf (k:=i+1) (a:=i) (by omega) hp' (by omega)
     rw [w64_id (by omega) (by omega)]
     rw [forR_fst (fun k=>nz (attrE (attrsS t i) k)),thenR_ans0]
     ·simp only [bs,decide_eq_true_eq,Bool.or_eq_true,Bool.and_eq_true,Bool.not_eq_true',decide_eq_false_iff_not,Bool.not_eq_false',Bool.or_eq_false_iff,Bool.and_eq_false_iff,ne_eq]
      repeat' (first | rfl | (exfalso; omega; done) | split)
      all_goals (first | rfl | (exfalso; omega) | omega | simp_all | (simp_all; omega))
     ·intro k k1 k2 _
      have hx:=hfew _ (at_mem (show 0<=k by omega) k2)
      have hxn:=hx.name
      simp only [idx_at (show 0<=k by omega) k2,bs]
      rw [r_IsName (by omega),bs,forR_any (fun j=>(at' (attrsS t i) j).Name==(at' (attrsS t i) k).Name) 5]
      ·rw [r_attribute hx]
       simp only [bs,nz_ctl]
       unfold attrE
       dsimp only
       cases isName (at' (attrsS t i) k).Name
       ·rfl
       ·cases anyR (fun j=>(at' (attrsS t i) j).Name==(at' (attrsS t i) k).Name) 0 k <;> rfl
      ·intro j j1 j2 _
       rw [idx_at j1 (by omega),bs]
       split <;> rfl
   ·rfl
 ·intro j k1 k2 _
  rw [idx_at k1 (by omega),bs]
  split <;> rfl
def boundB (low high:Int):Bool:=((decide (0<=low))&&(decide (low<=40)))&&((decide (high=(-1)))||((decide (low<=high))&&(decide (high<=40))))
theorem r_bound (low high:Int):ref04_bound low high=some (boundB low high):=by
 unfold ref04_bound boundB ref04_in
 simp only [bs]
 cases (decide (0<=low)&&decide (low<=40)) <;> cases decide (high=-1) <;> rfl
def edgeE (t:Types) (i:Int):Int:=
 let x:=at' t.Edges i
 if isName x.Name=false then 2 else if anyR (fun j=>(at' t.Edges j).Name==x.Name) 0 i=true then 5 else
 if (0<=x.From∧x.From<t.Nodes.length)∧(0<=x.To∧x.To<t.Nodes.length)∧boundB x.OutLow x.OutHigh=true∧boundB x.InLow x.InHigh=true then 0 else 6
theorem p_edge {t:Types} (hf:FewT t) {i:Int} (h0:0<=i) (h1:i<t.Edges.length):types_edge t i=some (edgeE t i):=by
 have hn:=hf.ename _ (at_mem h0 h1)
 unfold types_edge edgeE types_edge_1
 dsimp only
 rw [idx_at h0 h1,bs,p_IsName (by omega),bs,slc_take h0 (by omega),bs,show (fun y0=>types_edge_2 y0 (at' t.Edges i))=(fun y0=>some (y0.Name==(at' t.Edges i).Name)) from rfl,cg_EdgeType,bs,any_take h0 (by omega)]
 simp only [show ∀ a b,types_bounded a b=some (boundB a b) from fun _ _=>rfl,bs]
 generalize isName (at' t.Edges i).Name=b1
 generalize anyR (fun j=>(at' t.Edges j).Name==(at' t.Edges i).Name) 0 i=b2
 generalize boundB (at' t.Edges i).OutLow (at' t.Edges i).OutHigh=b3
 generalize boundB (at' t.Edges i).InLow (at' t.Edges i).InHigh=b4
 cases b1
 ·rfl
 ·cases b2
  ·cases b3 <;> cases b4
   all_goals
    by_cases ha:0<=(at' t.Edges i).From∧(at' t.Edges i).From<t.Nodes.length
    ·by_cases hb:0<=(at' t.Edges i).To∧(at' t.Edges i).To<t.Nodes.length
     ·simp [ha,hb]
     ·have:(decide (0<=(at' t.Edges i).To)&&decide ((at' t.Edges i).To<t.Nodes.length))=false:=by rw [Bool.eq_false_iff]; simpa using hb
      simp [ha,hb,this]
    ·have:(decide (0<=(at' t.Edges i).From)&&decide ((at' t.Edges i).From<t.Nodes.length))=false:=by rw [Bool.eq_false_iff]; simpa using ha
     simp [ha,this]
  ·rfl
theorem r_edge {t:Types} (hf:FewT t) {i:Int} (h0:0<=i) (h1:i<t.Edges.length):ref04_edge t i=some (edgeE t i):=by
 have hn:=hf.ename _ (at_mem h0 h1)
 have hl:=hf.nodes
 unfold ref04_edge edgeE ref04_in
 dsimp only
 rw [idx_at h0 h1,bs,r_IsName (by omega),bs,forR_any (fun j=>(at' t.Edges j).Name==(at' t.Edges i).Name) 5]
 ·simp only [w64_id (show -9223372036854775808<=(t.Nodes.length:Int) - 1 by omega) (by omega),r_bound,bs]
  generalize isName (at' t.Edges i).Name=b1
  generalize anyR (fun j=>(at' t.Edges j).Name==(at' t.Edges i).Name) 0 i=b2
  generalize boundB (at' t.Edges i).OutLow (at' t.Edges i).OutHigh=b3
  generalize boundB (at' t.Edges i).InLow (at' t.Edges i).InHigh=b4
  cases b1
  ·rfl
  ·cases b2
   ·cases b3 <;> cases b4
    all_goals
     by_cases ha:0<=(at' t.Edges i).From∧(at' t.Edges i).From<t.Nodes.length
     ·have ha':(at' t.Edges i).From<=(t.Nodes.length:Int) - 1:=by omega
      by_cases hb:0<=(at' t.Edges i).To∧(at' t.Edges i).To<t.Nodes.length
      ·have hb':(at' t.Edges i).To<=(t.Nodes.length:Int) - 1:=by omega
       simp [ha,hb,ha',hb',thenR_inl]
      ·have:(decide (0<=(at' t.Edges i).To)&&decide ((at' t.Edges i).To<=(t.Nodes.length:Int) - 1))=false:=by rw [Bool.eq_false_iff]; simp; omega
       simp [ha,hb,ha',this,thenR_inl]
     ·have:(decide (0<=(at' t.Edges i).From)&&decide ((at' t.Edges i).From<=(t.Nodes.length:Int) - 1))=false:=by rw [Bool.eq_false_iff]; simp; omega
      simp [ha,this,thenR_inl]
   ·rfl
 ·intro j k1 k2 _
  rw [idx_at k1 (by omega),bs]
  split <;> rfl
def typesV (t:Types):ByteArray × Int:=
 if t.Nodes.length=0 then (⟨#[]⟩,7) else if 12<t.Nodes.length∨20<t.Edges.length then (⟨#[]⟩,3) else
 match fst (fun i=>(nz (nodeE t i)).map fun e=>((at' t.Nodes i).Name,e)) 0 t.Nodes.length with
 | some r=>r
 | none=>(fst (fun i=>(nz (edgeE t i)).map fun e=>((at' t.Edges i).Name,e)) 0 t.Edges.length).getD (⟨#[]⟩,0)
theorem nodeE_par {t:Types} {i:Int} (h:nodeE t i=0):-1<=par t i∧par t i<i:=by
 unfold nodeE at h
 dsimp only at h
 unfold par
 by_cases hr:(at' t.Nodes i).Parent < -1∨i<=(at' t.Nodes i).Parent
 ·rw [if_pos hr] at h
  split at h
  ·cases h
  ·split at h <;> cases h
 ·omega
theorem map_none {α β:Type} {o:Option α} {g:α->β}:o.map g=none↔o=none:=by cases o <;> simp
theorem parOk_of {t:Types} {i:Int} (h:∀ j,0<=j->j<i->nodeE t j=0):ParOk t i:=fun j h1 h2=>nodeE_par (h j h1 h2)
theorem nz_ctl3 {ρ:Type} (e:Int) (n:ByteArray):(if (!decide (e=0))=true then some (Ctl.ret (n,e)) else some (Ctl.next ()))=some (ansC ((nz e).map fun e=>(n,e))):=by
 unfold nz
 by_cases h:e=0 <;> simp [h,ansC]
theorem p_Types {t:Types} (hf:FewT t):types_Valid t=some (typesV t):=by
 unfold types_Valid typesV
 rw [forR_fst (fun i=>(nz (nodeE t i)).map fun e=>((at' t.Nodes i).Name,e)),thenR_ans]
 ·rw [forR_fst (fun i=>(nz (edgeE t i)).map fun e=>((at' t.Edges i).Name,e)),thenR_ans]
  ·cases fst (fun i=>(nz (nodeE t i)).map fun e=>((at' t.Nodes i).Name,e)) 0 t.Nodes.length <;> cases fst (fun i=>(nz (edgeE t i)).map fun e=>((at' t.Edges i).Name,e)) 0 t.Edges.length
   all_goals dsimp only
   all_goals try simp only [Option.getD]
   all_goals
    simp only [bs,decide_eq_true_eq,Bool.or_eq_true,Bool.and_eq_true,Bool.not_eq_true',decide_eq_false_iff_not,Bool.not_eq_false',Bool.or_eq_false_iff,Bool.and_eq_false_iff,ne_eq]
    repeat' (first | rfl | (exfalso; omega; done) | split)
    all_goals (first | rfl | (exfalso; omega) | omega | simp_all | (simp_all; omega))
  ·intro i h1 h2 _
   rw [idx_at h1 h2,bs,p_edge hf h1 h2,bs]
   exact nz_ctl3 (ρ:=Unit) _ _
 ·intro i h1 h2 h3
  have hp:ParOk t i:=parOk_of fun j k1 k2=>nz_none.1 (map_none.1 (h3 j k1 k2))
  rw [idx_at h1 h2,bs,p_node hf h1 h2 hp,bs]
  exact nz_ctl3 (ρ:=Unit) _ _
theorem r_Types {t:Types} (hf:FewT t):ref04_Valid t=some (typesV t):=by
 unfold ref04_Valid typesV
 rw [forR_fst (fun i=>(nz (nodeE t i)).map fun e=>((at' t.Nodes i).Name,e)),thenR_ans]
 ·rw [forR_fst (fun i=>(nz (edgeE t i)).map fun e=>((at' t.Edges i).Name,e)),thenR_ans]
  ·cases fst (fun i=>(nz (nodeE t i)).map fun e=>((at' t.Nodes i).Name,e)) 0 t.Nodes.length <;> cases fst (fun i=>(nz (edgeE t i)).map fun e=>((at' t.Edges i).Name,e)) 0 t.Edges.length
   all_goals dsimp only
   all_goals try simp only [Option.getD]
   all_goals
    simp only [bs,decide_eq_true_eq,Bool.or_eq_true,Bool.and_eq_true,Bool.not_eq_true',decide_eq_false_iff_not,Bool.not_eq_false',Bool.or_eq_false_iff,Bool.and_eq_false_iff,ne_eq]
    repeat' (first | rfl | (exfalso; omega; done) | split)
    all_goals (first | rfl | (exfalso; omega) | omega | simp_all | (simp_all; omega))
  ·intro i h1 h2 _
   simp only [r_edge hf h1 h2,idx_at h1 h2,bs]
   exact nz_ctl3 (ρ:=Unit) _ _
 ·intro i h1 h2 h3
  have hp:ParOk t i:=parOk_of fun j k1 k2=>nz_none.1 (map_none.1 (h3 j k1 k2))
  simp only [r_node hf h1 h2 hp,idx_at h1 h2,bs]
  exact nz_ctl3 (ρ:=Unit) _ _
end Go.Sf.Sc
