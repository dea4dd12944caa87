/- Plain lemmas: what the functions of the program and of the reference compute. -/
import Derived.Test.YtmaobfbhdkafkaaGreatP1
set_option maxRecDepth 100000
namespace Go.Sf.Sc
open Go Go.Sf
def namesE (l:List ByteArray):Int:=
 if (20:Int)<l.length then 3 else (fst (fun i=>if isName (at' l i)=false then some 2 else if anyR (fun j=>at' l j==at' l i) 0 i=true then some 5 else none) 0 l.length).getD 0
theorem contains_any {l:List ByteArray} {x:ByteArray} {b:Int} (h0:0<=b) (h1:b<=l.length):(l.take b.toNat).contains x=anyR (fun j=>at' l j==x) 0 b:=by
 rw [List.contains_eq_any_beq,any_take h0 h1]
 exact anyR_congr (fun i _ _=>by rw [Bool.beq_comm])
theorem p_names {l:List ByteArray} (hl:∀ x∈l,(x.size:Int)<=40):types_names l=some (namesE l):=by
 unfold types_names namesE
 by_cases h20:(20:Int)<l.length
 ·rw [if_pos (by simpa using h20),if_pos h20]
 ·rw [if_neg (by simpa using h20),if_neg h20]
  rw [forR_fst (fun i=>if isName (at' l i)=false then some 2 else if anyR (fun j=>at' l j==at' l i) 0 i=true then some 5 else none),thenR_ans0]
  intro i h1 h2 _
  have hx:=hl _ (at_mem h1 h2)
  rw [idx_at h1 h2,bs,p_IsName (by omega),bs,slc_take h1 (by omega)]
  simp only [bs,p_Contains_string,contains_any h1 (show i<=l.length by omega)]
  cases isName (at' l i) <;> cases anyR (fun j=>at' l j==at' l i) 0 i <;> rfl
theorem r_names {l:List ByteArray} (hl:∀ x∈l,(x.size:Int)<=40):ref04_names l=some (namesE l):=by
 unfold ref04_names namesE
 by_cases h20:(20:Int)<l.length
 ·rw [if_pos (by simpa using h20),if_pos h20]
 ·rw [if_neg (by simpa using h20),if_neg h20]
  rw [forR_fst (fun i=>if isName (at' l i)=false then some 2 else if anyR (fun j=>at' l j==at' l i) 0 i=true then some 5 else none),thenR_ans0]
  intro i h1 h2 _
  have hx:=hl _ (at_mem h1 h2)
  rw [idx_at h1 h2,bs,r_IsName (by omega),bs,forR_any (fun j=>at' l j==at' l i) 5]
  ·cases isName (at' l i) <;> cases anyR (fun j=>at' l j==at' l i) 0 i <;> rfl
  ·intro j k1 k2 _
   rw [idx_at k1 (by omega),bs,bs]
   split <;> rfl
def attrE (all:List Attr) (k:Int):Int:=
 let x:=at' all k
 if isName x.Name=false then 2 else if anyR (fun j=>(at' all j).Name==x.Name) 0 k=true then 5 else
 if x.Names.length=0 then (if -1000000<=x.Low∧x.Low<=x.High∧x.High<=1000000 then 0 else 6) else
 if namesE x.Names≠0 then namesE x.Names else if x.Low=0∧x.High=x.Names.length - 1 then 0 else 6
theorem p_attribute {all:List Attr} (hl:∀ x∈all,FewA x) {k:Int} (h0:0<=k) (h1:k<all.length):types_attribute (at' all k) (all.take k.toNat)=some (attrE all k):=by
 have hx:=hl _ (at_mem h0 h1)
 have hn:=hx.name
 unfold types_attribute attrE
 dsimp only
 rw [p_IsName (by omega),bs,show (fun y0=>types_attribute_1 y0 (at' all k))=(fun y0=>some (y0.Name==(at' all k).Name)) from rfl,cg_Attr,bs,any_take h0 (by omega),p_names hx.each,bs]
 have hl2:=hx.names
 have hw:w64 ((at' all k).Names.length - 1)=(at' all k).Names.length - 1:=w64_id (by omega) (by omega)
 rw [hw]
 have hz:(at' all k).Names.length=0->namesE (at' all k).Names=0:=fun h=>by rw [List.eq_nil_of_length_eq_zero h]; rfl
 generalize namesE (at' all k).Names=e at hz ⊢
 simp only [bs,decide_eq_true_eq,Bool.or_eq_true,Bool.and_eq_true,Bool.not_eq_true',decide_eq_false_iff_not,Bool.not_eq_false',Bool.or_eq_false_iff,Bool.and_eq_false_iff,ne_eq]
 repeat' (first | rfl | (exfalso; omega; done) | split)
 all_goals (first | rfl | (exfalso; omega) | omega | simp_all | (simp_all; omega))
theorem r_attribute {x:Attr} (hx:FewA x):ref04_attribute x=some (
 if x.Names.length=0 then (if -1000000<=x.Low∧x.Low<=x.High∧x.High<=1000000 then 0 else 6) else
 if namesE x.Names≠0 then namesE x.Names else if x.Low=0∧x.High=x.Names.length - 1 then 0 else 6):=by
 have hl2:=hx.names
 have hw:w64 (x.Names.length - 1)=x.Names.length - 1:=w64_id (by omega) (by omega)
 unfold ref04_attribute ref04_in
 simp only [bs,hw,r_names hx.each]
 generalize namesE x.Names=e
 simp only [bs,decide_eq_true_eq,Bool.or_eq_true,Bool.and_eq_true,Bool.not_eq_true',decide_eq_false_iff_not,Bool.not_eq_false',Bool.or_eq_false_iff,Bool.and_eq_false_iff,ne_eq]
 repeat' (first | rfl | (exfalso; omega; done) | split)
 all_goals (first | rfl | (exfalso; omega) | omega | simp_all | (simp_all; omega))
def nodeE (t:Types) (i:Int):Int:=
 let n:=at' t.Nodes i
 if isName n.Name=false then 2 else if anyR (fun j=>(at' t.Nodes j).Name==n.Name) 0 i=true then 5 else
 if n.Parent < -1∨i<=n.Parent then 6 else if 4<n.Attrs.length∨8<(attrsS t i).length then 3 else
 (fst (fun k=>nz (attrE (attrsS t i) k)) ((attrsS t i).length - n.Attrs.length) (attrsS t i).length).getD 0
theorem attrsS_sub {t:Types} {i:Int} (h0:0<=i):(at' t.Nodes i).Attrs.length<=(attrsS t i).length:=by
 unfold attrsS
 rw [show (i+1).toNat=i.toNat+1 by omega,attrsN,if_neg (by omega),List.length_append]
 omega
theorem ParOk.next {t:Types} {i:Int} (h:ParOk t i) (h1:-1<=par t i) (h2:par t i<i):ParOk t (i+1):=by
 intro j k1 k2
 by_cases hj:j=i
 ·subst hj; exact ⟨h1,h2⟩
 ·exact h j k1 (by omega)
theorem p_node {t:Types} (hf:FewT t) {i:Int} (h0:0<=i) (h1:i<t.Nodes.length) (hp:ParOk t i):types_node t i=some (nodeE t i):=by
 have hn:=hf.name _ (at_mem h0 h1)
 unfold types_node nodeE
 dsimp only
 rw [idx_at h0 h1,bs,p_IsName (by omega),bs,slc_take h0 (by omega),bs,show (fun y0=>types_node_1 y0 (at' t.Nodes i))=(fun y0=>some (y0.Name==(at' t.Nodes i).Name)) from rfl,cg_NodeType,bs,any_take h0 (by omega)]
 cases isName (at' t.Nodes i).Name
 ·rfl
 ·cases anyR (fun j=>(at' t.Nodes j).Name==(at' t.Nodes i).Name) 0 i
  ·by_cases hr:(at' t.Nodes i).Parent < -1∨i<=(at' t.Nodes i).Parent
   ·rcases hr with hr | hr <;> simp [hr]
   ·have hp':ParOk t (i+1):=hp.next (by unfold par; omega) (by unfold par; omega)
    have hr2:(decide ((at' t.Nodes i).Parent < -1)||decide (i<=(at' t.Nodes i).Parent))=false:=by
     rw [Bool.eq_false_iff]; simpa using hr
    rw [p_attrs hf (k:=i+1) (by omega) hp' h0 (by omega),bs]
    have hlen:=attrsS_len hf (k:=i+1) (a:=i) (by omega) hp' (by omega)
    have hsub:=attrsS_sub (t:=t) h0
    have hfew:=attrsS_few hf (k:=i+1) (a:=i) (by omega) hp' (by omega)
    rw [w64_id (by omega) (by omega),forR_fst (fun k=>nz (attrE (attrsS t i) k)),thenR_ans0]
    ·simp only [hr2,hr,Bool.not_true,Bool.false_eq_true,if_false]
     simp only [bs,decide_eq_true_eq,Bool.or_eq_true,Bool.and_eq_true,Bool.not_eq_true',decide_eq_false_iff_not,Bool.not_eq_false',Bool.or_eq_false_iff,Bool.and_eq_false_iff,ne_eq]
     repeat' (first | rfl | (exfalso; omega; done) | split)
     all_goals (first | rfl | (exfalso; omega) | omega | simp_all | (simp_all; omega))
    ·intro k k1 k2 _
     rw [idx_at (by omega) k2,bs,slc_take (by omega) (by omega),bs,p_attribute hfew (by omega) k2,bs,nz_ctl]
  ·rfl
theorem r_node {t:Types} (hf:FewT t) {i:Int} (h0:0<=i) (h1:i<t.Nodes.length) (hp:ParOk t i):ref04_node t i=some (nodeE t i):=by
 have hn:=hf.name _ (at_mem h0 h1)
 have hl:=hf.nodes
 unfold ref04_node nodeE ref04_in
 dsimp only
 rw [idx_at h0 h1,bs,r_IsName (by omega),bs,forR_any (fun j=>(at' t.Nodes j).Name==(at' t.Nodes i).Name) 5]
 ·cases isName (at' t.Nodes i).Name
  ·rfl
  ·cases anyR (fun j=>(at' t.Nodes j).Name==(at' t.Nodes i).Name) 0 i
   ·simp only [Bool.not_true,Bool.false_eq_true,if_false,thenR_inl,bs]
    rw [w64_id (by omega) (by omega)]
    by_cases hr:(at' t.Nodes i).Parent < -1∨i<=(at' t.Nodes i).Parent
    ·rw [if_pos,if_neg (by decide),if_pos hr]
     simp; omega
    ·have hp':ParOk t (i+1):=hp.next (by unfold par; omega) (by unfold par; omega)
     rw [if_neg (by simp; omega),if_neg (by decide),if_neg hr]
     rw [r_attrs hf (k:=i+1) (by omega) hp' h0 (by omega),bs]
     have hlen:=attrsS_len hf (k:=i+1) (a:=i) (by omega) hp' (by omega)
     have hsub:=attrsS_sub (t:=t) h0
     have hfew:=attrsS_few hf (k:=i+1) (a:=i) (by omega) hp' (by omega)
     rw [w64_id (by omega) (by omega)]
     rw [forR_fst (fun k=>nz (attrE (attrsS t i) k)),thenR_ans0]
     ·simp only [bs,decide_eq_true_eq,Bool.or_eq_true,Bool.and_eq_true,Bool.not_eq_true',decide_eq_false_iff_not,Bool.not_eq_false',Bool.or_eq_false_iff,Bool.and_eq_false_iff,ne_eq]
      repeat' (first | rfl | (exfalso; omega; done) | split)
      all_goals (first | rfl | (exfalso; omega) | omega | simp_all | (simp_all; omega))
     ·intro k k1 k2 _
      have hx:=hfew _ (at_mem (show 0<=k by omega) k2)
      have hxn:=hx.name
      simp only [idx_at (show 0<=k by omega) k2,bs]
      rw [r_IsName (by omega),bs,forR_any (fun j=>(at' (attrsS t i) j).Name==(at' (attrsS t i) k).Name) 5]
      ·rw [r_attribute hx]
       simp only [bs,nz_ctl]
       unfold attrE
       dsimp only
       cases isName (at' (attrsS t i) k).Name
       ·rfl
       ·cases anyR (fun j=>(at' (attrsS t i) j).Name==(at' (attrsS t i) k).Name) 0 k <;> rfl
      ·intro j j1 j2 _
       rw [idx_at j1 (by omega),bs]
       split <;> rfl
   ·rfl
 ·intro j k1 k2 _
  rw [idx_at k1 (by omega),bs]
  split <;> rfl
def boundB (low high:Int):Bool:=((decide (0<=low))&&(decide (low<=40)))&&((decide (high=(-1)))||((decide (low<=high))&&(decide (high<=40))))
theorem r_bound (low high:Int):ref04_bound low high=some (boundB low high):=by
 unfold ref04_bound boundB ref04_in
 simp only [bs]
 cases (decide (0<=low)&&decide (low<=40)) <;> cases decide (high=-1) <;> rfl
def edgeE (t:Types) (i:Int):Int:=
 let x:=at' t.Edges i
 if isName x.Name=false then 2 else if anyR (fun j=>(at' t.Edges j).Name==x.Name) 0 i=true then 5 else
 if (0<=x.From∧x.From<t.Nodes.length)∧(0<=x.To∧x.To<t.Nodes.length)∧boundB x.OutLow x.OutHigh=true∧boundB x.InLow x.InHigh=true then 0 else 6
theorem p_edge {t:Types} (hf:FewT t) {i:Int} (h0:0<=i) (h1:i<t.Edges.length):types_edge t i=some (edgeE t i):=by
 have hn:=hf.ename _ (at_mem h0 h1)
 unfold types_edge edgeE types_edge_1
 dsimp only
 rw [idx_at h0 h1,bs,p_IsName (by omega),bs,slc_take h0 (by omega),bs,show (fun y0=>types_edge_2 y0 (at' t.Edges i))=(fun y0=>some (y0.Name==(at' t.Edges i).Name)) from rfl,cg_EdgeType,bs,any_take h0 (by omega)]
 simp only [show ∀ a b,types_bounded a b=some (boundB a b) from fun _ _=>rfl,bs]
 generalize isName (at' t.Edges i).Name=b1
 generalize anyR (fun j=>(at' t.Edges j).Name==(at' t.Edges i).Name) 0 i=b2
 generalize boundB (at' t.Edges i).OutLow (at' t.Edges i).OutHigh=b3
 generalize boundB (at' t.Edges i).InLow (at' t.Edges i).InHigh=b4
 cases b1
 ·rfl
 ·cases b2
  ·cases b3 <;> cases b4
   all_goals
    by_cases ha:0<=(at' t.Edges i).From∧(at' t.Edges i).From<t.Nodes.length
    ·by_cases hb:0<=(at' t.Edges i).To∧(at' t.Edges i).To<t.Nodes.length
     ·simp [ha,hb]
     ·have:(decide (0<=(at' t.Edges i).To)&&decide ((at' t.Edges i).To<t.Nodes.length))=false:=by rw [Bool.eq_false_iff]; simpa using hb
      simp [ha,hb,this]
    ·have:(decide (0<=(at' t.Edges i).From)&&decide ((at' t.Edges i).From<t.Nodes.length))=false:=by rw [Bool.eq_false_iff]; simpa using ha
     simp [ha,this]
  ·rfl
theorem r_edge {t:Types} (hf:FewT t) {i:Int} (h0:0<=i) (h1:i<t.Edges.length):ref04_edge t i=some (edgeE t i):=by
 have hn:=hf.ename _ (at_mem h0 h1)
 have hl:=hf.nodes
 unfold ref04_edge edgeE ref04_in
 dsimp only
 rw [idx_at h0 h1,bs,r_IsName (by omega),bs,forR_any (fun j=>(at' t.Edges j).Name==(at' t.Edges i).Name) 5]
 ·simp only [w64_id (show -9223372036854775808<=(t.Nodes.length:Int) - 1 by omega) (by omega),r_bound,bs]
  generalize isName (at' t.Edges i).Name=b1
  generalize anyR (fun j=>(at' t.Edges j).Name==(at' t.Edges i).Name) 0 i=b2
  generalize boundB (at' t.Edges i).OutLow (at' t.Edges i).OutHigh=b3
  generalize boundB (at' t.Edges i).InLow (at' t.Edges i).InHigh=b4
  cases b1
  ·rfl
  ·cases b2
   ·cases b3 <;> cases b4
    all_goals
     by_cases ha:0<=(at' t.Edges i).From∧(at' t.Edges i).From<t.Nodes.length
     ·have ha':(at' t.Edges i).From<=(t.Nodes.length:Int) - 1:=by omega
      by_cases hb:0<=(at' t.Edges i).To∧(at' t.Edges i).To<t.Nodes.length
      ·have hb':(at' t.Edges i).To<=(t.Nodes.length:Int) - 1:=by omega
       simp [ha,hb,ha',hb',thenR_inl]
      ·have:(decide (0<=(at' t.Edges i).To)&&decide ((at' t.Edges i).To<=(t.Nodes.length:Int) - 1))=false:=by rw [Bool.eq_false_iff]; simp; omega
       simp [ha,hb,ha',this,thenR_inl]
     ·have:(decide (0<=(at' t.Edges i).From)&&decide ((at' t.Edges i).From<=(t.Nodes.length:Int) - 1))=false:=by rw [Bool.eq_false_iff]; simp; omega
      simp [ha,this,thenR_inl]
   ·rfl
 ·intro j k1 k2 _
  rw [idx_at k1 (by omega),bs]
  split <;> rfl
def typesV (t:Types):ByteArray × Int:=
 if t.Nodes.length=0 then (⟨#[]⟩,7) else if 12<t.Nodes.length∨20<t.Edges.length then (⟨#[]⟩,3) else
 match fst (fun i=>(nz (nodeE t i)).map fun e=>((at' t.Nodes i).Name,e)) 0 t.Nodes.length with
 | some r=>r
 | none=>(fst (fun i=>(nz (edgeE t i)).map fun e=>((at' t.Edges i).Name,e)) 0 t.Edges.length).getD (⟨#[]⟩,0)
theorem nodeE_par {t:Types} {i:Int} (h:nodeE t i=0):-1<=par t i∧par t i<i:=by
 unfold nodeE at h
 dsimp only at h
 unfold par
 by_cases hr:(at' t.Nodes i).Parent < -1∨i<=(at' t.Nodes i).Parent
 ·rw [if_pos hr] at h
  split at h
  ·cases h
  ·split at h <;> cases h
 ·omega
theorem map_none {α β:Type} {o:Option α} {g:α->β}:o.map g=none↔o=none:=by cases o <;> simp
theorem parOk_of {t:Types} {i:Int} (h:∀ j,0<=j->j<i->nodeE t j=0):ParOk t i:=fun j h1 h2=>nodeE_par (h j h1 h2)
theorem nz_ctl3 {ρ:Type} (e:Int) (n:ByteArray):(if (!decide (e=0))=true then some (Ctl.ret (n,e)) else some (Ctl.next ()))=some (ansC ((nz e).map fun e=>(n,e))):=by
 unfold nz
 by_cases h:e=0 <;> simp [h,ansC]
theorem p_Types {t:Types} (hf:FewT t):types_Valid t=some (typesV t):=by
 unfold types_Valid typesV
 rw [forR_fst (fun i=>(nz (nodeE t i)).map fun e=>((at' t.Nodes i).Name,e)),thenR_ans]
 ·rw [forR_fst (fun i=>(nz (edgeE t i)).map fun e=>((at' t.Edges i).Name,e)),thenR_ans]
  ·cases fst (fun i=>(nz (nodeE t i)).map fun e=>((at' t.Nodes i).Name,e)) 0 t.Nodes.length <;> cases fst (fun i=>(nz (edgeE t i)).map fun e=>((at' t.Edges i).Name,e)) 0 t.Edges.length
   all_goals dsimp only
   all_goals try simp only [Option.getD]
   all_goals
    simp only [bs,decide_eq_true_eq,Bool.or_eq_true,Bool.and_eq_true,Bool.not_eq_true',decide_eq_false_iff_not,Bool.not_eq_false',Bool.or_eq_false_iff,Bool.and_eq_false_iff,ne_eq]
    repeat' (first | rfl | (exfalso; omega; done) | split)
    all_goals (first | rfl | (exfalso; omega) | omega | simp_all | (simp_all; omega))
  ·intro i h1 h2 _
   rw [idx_at h1 h2,bs,p_edge hf h1 h2,bs]
   exact nz_ctl3 (ρ:=Unit) _ _
 ·intro i h1 h2 h3
  have hp:ParOk t i:=parOk_of fun j k1 k2=>nz_none.1 (map_none.1 (h3 j k1 k2))
  rw [idx_at h1 h2,bs,p_node hf h1 h2 hp,bs]
  exact nz_ctl3 (ρ:=Unit) _ _
theorem r_Types {t:Types} (hf:FewT t):ref04_Valid t=some (typesV t):=by
 unfold ref04_Valid typesV
 rw [forR_fst (fun i=>(nz (nodeE t i)).map fun e=>((at' t.Nodes i).Name,e)),thenR_ans]
 ·rw [forR_fst (fun i=>(nz (edgeE t i)).map fun e=>((at' t.Edges i).Name,e)),thenR_ans]
  ·cases fst (fun i=>(nz (nodeE t i)).map fun e=>((at' t.Nodes i).Name,e)) 0 t.Nodes.length <;> cases fst (fun i=>(nz (edgeE t i)).map fun e=>((at' t.Edges i).Name,e)) 0 t.Edges.length
   all_goals dsimp only
   all_goals try simp only [Option.getD]
   all_goals
    simp only [bs,decide_eq_true_eq,Bool.or_eq_true,Bool.and_eq_true,Bool.not_eq_true',decide_eq_false_iff_not,Bool.not_eq_false',Bool.or_eq_false_iff,Bool.and_eq_false_iff,ne_eq]
    repeat' (first | rfl | (exfalso; omega; done) | split)
    all_goals (first | rfl | (exfalso; omega) | omega | simp_all | (simp_all; omega))
  ·intro i h1 h2 _
   simp only [r_edge hf h1 h2,idx_at h1 h2,bs]
   exact nz_ctl3 (ρ:=Unit) _ _
 ·intro i h1 h2 h3
  have hp:ParOk t i:=parOk_of fun j k1 k2=>nz_none.1 (map_none.1 (h3 j k1 k2))
  simp only [r_node hf h1 h2 hp,idx_at h1 h2,bs]
  exact nz_ctl3 (ρ:=Unit) _ _
end Go.Sf.Sc
namespace Go.Sf.Sc
open Go Go.Sf
theorem if_b {α:Type} {c:Bool} {a b:α}:(if c=true then some a else some b)=some (if c=true then a else b):=by cases c <;> rfl
def kindB (n:Int):Bool:=(decide (0<=n))&&(decide (n<=99))
def fitB (e:Edge) (n:Int):Bool:=kindB e.Type'&&(decide (0<=e.From)&&decide (e.From<n))&&(decide (0<=e.To)&&decide (e.To<n))
def graphE (g:Graph):Int:=
 if 40<g.Nodes.length∨80<g.Edges.length then 3 else if (g.Nodes.any fun n=>!kindB n)=true then 6 else if (g.Edges.any fun e=>!fitB e g.Nodes.length)=true then 6 else 0
structure GraphOk (g:Graph):Prop where
 nodes:g.Nodes.length<=40
 edges:g.Edges.length<=80
 kind:∀ n∈g.Nodes,0<=n∧n<=99
 fit:∀ e∈g.Edges,(0<=e.Type'∧e.Type'<=99)∧(0<=e.From∧e.From<g.Nodes.length)∧(0<=e.To∧e.To<g.Nodes.length)
theorem graphOk {g:Graph} (h:graphE g=0):GraphOk g:=by
 unfold graphE at h
 split at h
 ·cases h
 ·split at h
  ·cases h
  ·split at h
   ·cases h
   ·rename_i h1 h2 h3
    refine ⟨by omega,by omega,fun n hn=>?_,fun e he=>?_⟩
    ·rw [Bool.not_eq_true,List.any_eq_false] at h2
     have:=h2 n hn
     simp [kindB] at this
     exact this
    ·rw [Bool.not_eq_true,List.any_eq_false] at h3
     have:=h3 e he
     simp only [fitB,kindB,Bool.not_eq_true',Bool.not_eq_false,Bool.and_eq_true,decide_eq_true_eq] at this
     omega
theorem p_fits {e:Edge} {n:Nat} (h:n<=40):graph_fits e n=some (fitB e n):=by
 unfold graph_fits graph_within fitB kindB
 simp only [bs,w64_id (show -9223372036854775808<=(n:Int) - 1 by omega) (by omega)]
 have e1:decide (e.From<=(n:Int) - 1)=decide (e.From<n):=by rw [decide_eq_decide]; omega
 have e2:decide (e.To<=(n:Int) - 1)=decide (e.To<n):=by rw [decide_eq_decide]; omega
 rw [e1,e2]
 generalize (decide (0<=e.Type')&&decide (e.Type'<=99))=b1
 generalize (decide (0<=e.From)&&decide (e.From<n))=b2
 cases b1 <;> cases b2 <;> simp
theorem p_Graph (g:Graph):graph_Valid g=some (graphE g):=by
 unfold graph_Valid graphE
 by_cases h:40<g.Nodes.length∨80<g.Edges.length
 ·rw [if_pos (by simp; omega),if_pos h]
 ·rw [if_neg (by simp; omega),if_neg h,show graph_Valid_1=(fun n=>some (!kindB n)) from rfl,cg_int,cf_Edge (p:=fun e=>!fitB e g.Nodes.length) (fun e _=>by
   unfold graph_Valid_2
   rw [p_fits (by omega)]; rfl)]
  simp only [bs]
  cases g.Nodes.any fun n=>!kindB n
  ·cases g.Edges.any fun e=>!fitB e g.Nodes.length <;> rfl
  ·rfl
theorem r_Graph (g:Graph):ref05_Valid g=some (graphE g):=by
 unfold ref05_Valid graphE
 by_cases h:40<g.Nodes.length∨80<g.Edges.length
 ·rw [if_pos (by simp; omega),if_pos h]
 ·rw [if_neg (by simp; omega),if_neg h,any_at,any_at,forR_any (fun i=>!kindB (at' g.Nodes i)) 6]
  ·rw [forR_any (fun i=>!fitB (at' g.Edges i) g.Nodes.length) 6]
   ·cases anyR (fun i=>!kindB (at' g.Nodes i)) 0 g.Nodes.length
    ·cases anyR (fun i=>!fitB (at' g.Edges i) g.Nodes.length) 0 g.Edges.length <;> rfl
    ·rfl
   ·intro i h1 h2 _
    rw [idx_at h1 h2,bs]
    unfold ref05_right fitB
    simp only [show ∀ n,ref05_kind n=some (kindB n) from fun _=>rfl,bs]
    generalize kindB (at' g.Edges i).Type'=b1
    cases b1 <;> cases decide (0<=(at' g.Edges i).From) <;> cases decide ((at' g.Edges i).From<g.Nodes.length) <;> cases decide (0<=(at' g.Edges i).To) <;> cases decide ((at' g.Edges i).To<g.Nodes.length) <;> rfl
  ·intro i h1 h2 _
   rw [idx_at h1 h2,bs,show ref05_kind (at' g.Nodes i)=some (kindB (at' g.Nodes i)) from rfl,bs]
   cases kindB (at' g.Nodes i) <;> rfl
def typedB (t:Types) (g:Graph):Bool:=!(g.Nodes.any fun n=>decide (t.Nodes.length<=n))&&!(g.Edges.any fun e=>decide (t.Edges.length<=e.Type'))
theorem r_typed {t:Types} {g:Graph} (hg:GraphOk g):ref17_Typed t g=some (typedB t g):=by
 unfold ref17_Typed typedB
 rw [any_at,any_at,forR_any (fun i=>decide (t.Nodes.length<=at' g.Nodes i)) false]
 ·rw [forR_any (fun i=>decide (t.Edges.length<=(at' g.Edges i).Type')) false]
  ·cases anyR (fun i=>decide (t.Nodes.length<=at' g.Nodes i)) 0 g.Nodes.length
   ·cases anyR (fun i=>decide (t.Edges.length<=(at' g.Edges i).Type')) 0 g.Edges.length <;> rfl
   ·rfl
  ·intro i h1 h2 _
   have:=(hg.fit _ (at_mem h1 h2)).1.1
   simp only [idx_at h1 h2,bs]
   rw [if_neg (by simp; omega),bs,if_b]
 ·intro i h1 h2 _
  have:=(hg.kind _ (at_mem h1 h2)).1
  simp only [idx_at h1 h2,bs]
  rw [if_neg (by simp; omega),bs,if_b]
structure TypesOk (t:Types):Prop where
 nodes:t.Nodes.length<=12
 edges:t.Edges.length<=20
 node:∀ i:Int,0<=i->i<t.Nodes.length->nodeE t i=0
 edge:∀ i:Int,0<=i->i<t.Edges.length->edgeE t i=0
theorem typesOk {t:Types} (h:(typesV t).2=0):TypesOk t:=by
 unfold typesV at h
 split at h
 ·cases h
 ·split at h
  ·cases h
  ·rename_i h1 h2
   have hn:∀ i:Int,0<=i->i<t.Nodes.length->nodeE t i=0:=by
    split at h
    ·rename_i r hr
     obtain ⟨i,_,_,k3,_⟩:=fst_some hr
     unfold nz at k3
     split at k3
     ·cases k3
     ·rename_i hne
      cases k3; exact absurd h hne
    ·rename_i hr
     intro i k1 k2
     exact nz_none.1 (map_none.1 (fst_none.1 hr i k1 k2))
   have he:∀ i:Int,0<=i->i<t.Edges.length->edgeE t i=0:=by
    split at h
    ·rename_i r hr
     obtain ⟨i,k1,k2,k3,_⟩:=fst_some hr
     rw [hn i k1 k2] at k3
     cases k3
    ·cases hr:fst (fun i=>(nz (edgeE t i)).map fun e=>((at' t.Edges i).Name,e)) 0 t.Edges.length with
     | some r=>
      rw [hr] at h
      obtain ⟨i,_,_,k3,_⟩:=fst_some hr
      unfold nz at k3
      split at k3
      ·cases k3
      ·rename_i hne
       cases k3; exact absurd h hne
     | none=>
      intro i k1 k2
      exact nz_none.1 (map_none.1 (fst_none.1 hr i k1 k2))
   exact ⟨by omega,by omega,hn,he⟩
theorem TypesOk.par {t:Types} (h:TypesOk t):ParOk t t.Nodes.length:=parOk_of h.node
theorem TypesOk.ends {t:Types} (h:TypesOk t) {i:Int} (h0:0<=i) (h1:i<t.Edges.length):(0<=(at' t.Edges i).From∧(at' t.Edges i).From<t.Nodes.length)∧(0<=(at' t.Edges i).To∧(at' t.Edges i).To<t.Nodes.length):=by
 have:=h.edge i h0 h1
 unfold edgeE at this
 dsimp only at this
 split at this
 ·cases this
 ·split at this
  ·cases this
  ·split at this
   ·rename_i hc; exact ⟨hc.1,hc.2.1⟩
   ·cases this
def inB (t:Types) (a:Int):Bool:=decide (0<=a)&&decide (a<t.Nodes.length)
theorem inB_iff {t:Types} {a:Int}:inB t a=true↔0<=a∧a<t.Nodes.length:=by unfold inB; simp
theorem p_given {t:Types} (hf:FewT t) (l:List Int):types_given t l=some (if (typesV t).2≠0 then (typesV t).2 else if (l.all (inB t))=true then 0 else 6):=by
 unfold types_given
 rw [p_Types hf,bs,cf_int (p:=fun a=>!inB t a) (fun a _=>by unfold types_given_1 inB; rw [show decide (a<0)=!decide (0<=a) from by rw [←decide_not,decide_eq_decide]; omega,show decide ((t.Nodes.length:Int)<=a)=!decide (a<t.Nodes.length) from by rw [←decide_not,decide_eq_decide]; omega,Bool.not_and]),bs]
 rw [show (l.any fun a=>!inB t a)=!(l.all (inB t)) from by rw [List.all_eq_not_any_not,Bool.not_not]]
 cases l.all (inB t) <;> by_cases h:(typesV t).2=0 <;> simp [h]
theorem r_given {t:Types} (hf:FewT t) (a b:Int):ref04_given t a b=some (if (typesV t).2≠0 then (typesV t).2 else if (inB t a&&inB t b)=true then 0 else 6):=by
 have hl:=hf.nodes
 have e:∀ a,decide (a<=(t.Nodes.length:Int) - 1)=decide (a<(t.Nodes.length:Int)):=fun a=>by rw [decide_eq_decide]; omega
 unfold ref04_given ref04_in
 rw [r_Types hf,bs]
 simp only [w64_id (show -9223372036854775808<=(t.Nodes.length:Int) - 1 by omega) (by omega),bs,e]
 change (if (!decide ((typesV t).snd=0))=true then some (typesV t).snd else (if (!inB t a)=true then some true else some (!inB t b)).bind fun x32=>if x32=true then some 6 else some 0)=_
 cases inB t a <;> cases inB t b <;> by_cases h:(typesV t).2=0 <;> simp [h]
theorem setE_self {α:Type} [Inhabited α] {l:List α} {i:Int} (h0:0<=i) (h1:i<l.length):setE l i (at' l i)=l:=by
 unfold setE at'
 rw [List.getD_eq_getElem?_getD,List.getElem?_eq_getElem (by omega)]
 exact List.set_getElem_self _
theorem take_succ_at {α:Type} [Inhabited α] {l:List α} {i:Int} (h0:0<=i) (h1:i<l.length):l.take (i+1).toNat=l.take i.toNat++[at' l i]:=by
 unfold at'
 rw [show (i+1).toNat=i.toNat+1 by omega,List.take_add_one,List.getD_eq_getElem?_getD,List.getElem?_eq_getElem (by omega)]
 rfl
theorem appC_nil {α:Type} {l:List α} (h:l.length<=nmax):appC [] l=some l:=by rw [appC_some (by simpa using h)]; rfl
def attrsR (t:Types) (a:Int):List Attr × Int:=if (typesV t).2≠0 then ([],(typesV t).2) else if inB t a=true then (attrsS t a,0) else ([],6)
theorem p_Attrs {t:Types} (hf:FewT t) (a:Int):types_Attrs t a=some (attrsR t a):=by
 unfold types_Attrs attrsR
 rw [p_given hf,bs]
 by_cases h:(typesV t).2=0
 ·have hok:=typesOk h
  have e:[a].all (inB t)=inB t a:=by simp
  rw [e]
  simp only [h,ne_eq,not_true_eq_false,if_false]
  cases hi:inB t a
  ·rfl
  ·rw [if_pos rfl,if_pos rfl]
   have hr:=inB_iff.1 hi
   have hl:=attrsS_len hf (Int.le_refl _) hok.par hr.2
   have hw:=attrsS_few hf (Int.le_refl _) hok.par hr.2
   rw [if_neg (by decide),p_attrs hf (Int.le_refl _) hok.par hr.1 hr.2,bs]
   obtain ⟨s',h1,rfl⟩:=forA_inv (f:=(fun (i0:Int) (s0:List Attr)=>
 (idx s0 i0).bind fun x28=>
 (slices_Clone_string x28.Names).bind fun x31=>
 (idx s0 i0).bind fun x32=>
 some (setE s0 i0 (Attr.mk x32.Name x32.Low x32.High x31)))) (fun _ s=>s=attrsS t a) (a:=0) (b:=(attrsS t a).length) (s:=attrsS t a) (by omega) rfl (fun i s k1 k2 hs=>by
     subst hs
     have:=(hw _ (at_mem k1 k2)).names
     refine ⟨attrsS t a,?_,rfl⟩
     unfold slices_Clone_string
     rw [idx_at k1 k2,bs,appC_nil (by unfold nmax; omega),bs,bs]
     congr 1
     exact setE_self k1 k2)
   rw [h1]; rfl
 ·simp only [h,ne_eq,not_false_eq_true,if_true,decide_false,Bool.not_false]
theorem r_Attrs {t:Types} (hf:FewT t) (a:Int):ref04_Attrs t a=some (attrsR t a):=by
 unfold ref04_Attrs attrsR
 rw [r_given hf,bs]
 by_cases h:(typesV t).2=0
 ·have hok:=typesOk h
  rw [Bool.and_self]
  simp only [h,ne_eq,not_true_eq_false,if_false]
  cases hi:inB t a
  ·rfl
  ·rw [if_pos rfl,if_pos rfl]
   have hr:=inB_iff.1 hi
   have hl:=attrsS_len hf (Int.le_refl _) hok.par hr.2
   have hw:=attrsS_few hf (Int.le_refl _) hok.par hr.2
   rw [if_neg (by decide),r_attrs hf (Int.le_refl _) hok.par hr.1 hr.2,bs]
   rw [forA_fn (fun i=>(attrsS t a).take i.toNat) (by omega) (by simp)]
   ·rw [bs,Int.toNat_natCast,List.take_length]
   ·intro i k1 k2
    have:=(hw _ (at_mem k1 k2)).names
    rw [idx_at k1 k2,bs,appC_nil (by unfold nmax; omega),bs,appC_some (by rw [List.length_take]; simp; unfold nmax; omega),take_succ_at k1 k2]
    rfl
 ·simp only [h,ne_eq,not_false_eq_true,if_true,decide_false,Bool.not_false]
end Go.Sf.Sc
