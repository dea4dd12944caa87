/- Plain lemmas: what the functions of the program and of the reference compute. -/
import Derived.Test.YtbedpmpjdnooiaaGreatP3
set_option maxRecDepth 100000
namespace Go.Sf.Sc
open Go Go.Sf
theorem if_b {α:Type} {c:Bool} {a b:α}:(if c=true then some a else some b)=some (if c=true then a else b):=by cases c <;> rfl
def kindB (n:Int):Bool:=(decide (0<=n))&&(decide (n<=99))
def fitB (e:Edge) (n:Int):Bool:=kindB e.Type'&&(decide (0<=e.From)&&decide (e.From<n))&&(decide (0<=e.To)&&decide (e.To<n))
def graphE (g:Graph):Int:=
 if 40<g.Nodes.length∨80<g.Edges.length then 3 else if (g.Nodes.any fun n=>!kindB n)=true then 6 else if (g.Edges.any fun e=>!fitB e g.Nodes.length)=true then 6 else 0
structure GraphOk (g:Graph):Prop where
 nodes:g.Nodes.length<=40
 edges:g.Edges.length<=80
 kind:∀ n∈g.Nodes,0<=n∧n<=99
 fit:∀ e∈g.Edges,(0<=e.Type'∧e.Type'<=99)∧(0<=e.From∧e.From<g.Nodes.length)∧(0<=e.To∧e.To<g.Nodes.length)
theorem graphOk {g:Graph} (h:graphE g=0):GraphOk g:=by
 unfold graphE at h
 split at h
 ·cases h
 ·split at h
  ·cases h
  ·split at h
   ·cases h
   ·rename_i h1 h2 h3
    refine ⟨by omega,by omega,fun n hn=>?_,fun e he=>?_⟩
    ·rw [Bool.not_eq_true,List.any_eq_false] at h2
     have:=h2 n hn
     simp [kindB] at this
     exact this
    ·rw [Bool.not_eq_true,List.any_eq_false] at h3
     have:=h3 e he
     simp only [fitB,kindB,Bool.not_eq_true',Bool.not_eq_false,Bool.and_eq_true,decide_eq_true_eq] at this
     omega
theorem p_fits {e:Edge} {n:Nat} (h:n<=40):graph_fits e n=some (fitB e n):=by
 unfold graph_fits graph_within fitB kindB
 simp only [bs,w64_id (show -9223372036854775808<=(n:Int) - 1 by omega) (by omega)]
 have e1:decide (e.From<=(n:Int) - 1)=decide (e.From<n):=by rw [decide_eq_decide]; omega
 have e2:decide (e.To<=(n:Int) - 1)=decide (e.To<n):=by rw [decide_eq_decide]; omega
 rw [e1,e2]
 generalize (decide (0<=e.Type')&&decide (e.Type'<=99))=b1
 generalize (decide (0<=e.From)&&decide (e.From<n))=b2
 cases b1 <;> cases b2 <;> simp
theorem p_Graph (g:Graph):graph_Valid g=some (graphE g):=by
 unfold graph_Valid graphE
 by_cases h:40<g.Nodes.length∨80<g.Edges.length
 ·rw [if_pos (by simp; omega),if_pos h]
 ·rw [if_neg (by simp; omega),if_neg h,show graph_Valid_1=(fun n=>some (!kindB n)) from rfl,cg_int,cf_Edge (p:=fun e=>!fitB e g.Nodes.length) (fun e _=>by
   unfold graph_Valid_2
   rw [p_fits (by omega)]; rfl)]
  simp only [bs]
  cases g.Nodes.any fun n=>!kindB n
  ·cases g.Edges.any fun e=>!fitB e g.Nodes.length <;> rfl
  ·rfl
theorem r_Graph (g:Graph):ref05_Valid g=some (graphE g):=by
 unfold ref05_Valid graphE
 by_cases h:40<g.Nodes.length∨80<g.Edges.length
 ·rw [if_pos (by simp; omega),if_pos h]
 ·rw [if_neg (by simp; omega),if_neg h,any_at,any_at,forR_any (fun i=>!kindB (at' g.Nodes i)) 6]
  ·rw [forR_any (fun i=>!fitB (at' g.Edges i) g.Nodes.length) 6]
   ·cases anyR (fun i=>!kindB (at' g.Nodes i)) 0 g.Nodes.length
    ·cases anyR (fun i=>!fitB (at' g.Edges i) g.Nodes.length) 0 g.Edges.length <;> rfl
    ·rfl
   ·intro i h1 h2 _
    rw [idx_at h1 h2,bs]
    unfold ref05_right fitB
    simp only [show ∀ n,ref05_kind n=some (kindB n) from fun _=>rfl,bs]
    generalize kindB (at' g.Edges i).Type'=b1
    cases b1 <;> cases decide (0<=(at' g.Edges i).From) <;> cases decide ((at' g.Edges i).From<g.Nodes.length) <;> cases decide (0<=(at' g.Edges i).To) <;> cases decide ((at' g.Edges i).To<g.Nodes.length) <;> rfl
  ·intro i h1 h2 _
   rw [idx_at h1 h2,bs,show ref05_kind (at' g.Nodes i)=some (kindB (at' g.Nodes i)) from rfl,bs]
   cases kindB (at' g.Nodes i) <;> rfl
def typedB (t:Types) (g:Graph):Bool:=!(g.Nodes.any fun n=>decide (t.Nodes.length<=n))&&!(g.Edges.any fun e=>decide (t.Edges.length<=e.Type'))
theorem typed_of {t:Types} {g:Graph} (hg:GraphOk g) (h:typedB t g=true):(∀ n∈g.Nodes,0<=n∧n<t.Nodes.length)∧∀ e∈g.Edges,0<=e.Type'∧e.Type'<t.Edges.length:=by
 unfold typedB at h
 simp only [Bool.and_eq_true,Bool.not_eq_true',List.any_eq_false,decide_eq_true_eq] at h
 refine ⟨fun n hn=>?_,fun e he=>?_⟩
 ·have:=h.1 n hn
  have:=hg.kind n hn
  omega
 ·have:=h.2 e he
  have:=hg.fit e he
  omega
theorem p_typed (t:Types) (g:Graph):rule_typed t g=some (typedB t g):=by
 unfold rule_typed typedB
 rw [show (fun y0=>rule_typed_1 y0 t)=(fun (n:Int)=>some (decide (t.Nodes.length<=n))) from rfl,cg_int,show (fun y0=>rule_typed_2 y0 t)=(fun (e:Edge)=>some (decide (t.Edges.length<=e.Type'))) from rfl,cg_Edge]
 simp only [bs]
 cases g.Nodes.any fun n=>decide (t.Nodes.length<=n) <;> rfl
theorem r_typed {t:Types} {g:Graph} (hg:GraphOk g):ref17_Typed t g=some (typedB t g):=by
 unfold ref17_Typed typedB
 rw [any_at,any_at,forR_any (fun i=>decide (t.Nodes.length<=at' g.Nodes i)) false]
 ·rw [forR_any (fun i=>decide (t.Edges.length<=(at' g.Edges i).Type')) false]
  ·cases anyR (fun i=>decide (t.Nodes.length<=at' g.Nodes i)) 0 g.Nodes.length
   ·cases anyR (fun i=>decide (t.Edges.length<=(at' g.Edges i).Type')) 0 g.Edges.length <;> rfl
   ·rfl
  ·intro i h1 h2 _
   have:=(hg.fit _ (at_mem h1 h2)).1.1
   simp only [idx_at h1 h2,bs]
   rw [if_neg (by simp; omega),bs,if_b]
 ·intro i h1 h2 _
  have:=(hg.kind _ (at_mem h1 h2)).1
  simp only [idx_at h1 h2,bs]
  rw [if_neg (by simp; omega),bs,if_b]
structure TypesOk (t:Types):Prop where
 nodes:t.Nodes.length<=12
 edges:t.Edges.length<=20
 node:∀ i:Int,0<=i->i<t.Nodes.length->nodeE t i=0
 edge:∀ i:Int,0<=i->i<t.Edges.length->edgeE t i=0
theorem typesOk {t:Types} (h:(typesV t).2=0):TypesOk t:=by
 unfold typesV at h
 split at h
 ·cases h
 ·split at h
  ·cases h
  ·rename_i h1 h2
   have hn:∀ i:Int,0<=i->i<t.Nodes.length->nodeE t i=0:=by
    split at h
    ·rename_i r hr
     obtain ⟨i,_,_,k3,_⟩:=fst_some hr
     unfold nz at k3
     split at k3
     ·cases k3
     ·rename_i hne
      cases k3; exact absurd h hne
    ·rename_i hr
     intro i k1 k2
     exact nz_none.1 (map_none.1 (fst_none.1 hr i k1 k2))
   have he:∀ i:Int,0<=i->i<t.Edges.length->edgeE t i=0:=by
    split at h
    ·rename_i r hr
     obtain ⟨i,k1,k2,k3,_⟩:=fst_some hr
     rw [hn i k1 k2] at k3
     cases k3
    ·cases hr:fst (fun i=>(nz (edgeE t i)).map fun e=>((at' t.Edges i).Name,e)) 0 t.Edges.length with
     | some r=>
      rw [hr] at h
      obtain ⟨i,_,_,k3,_⟩:=fst_some hr
      unfold nz at k3
      split at k3
      ·cases k3
      ·rename_i hne
       cases k3; exact absurd h hne
     | none=>
      intro i k1 k2
      exact nz_none.1 (map_none.1 (fst_none.1 hr i k1 k2))
   exact ⟨by omega,by omega,hn,he⟩
theorem TypesOk.par {t:Types} (h:TypesOk t):ParOk t t.Nodes.length:=parOk_of h.node
theorem TypesOk.ends {t:Types} (h:TypesOk t) {i:Int} (h0:0<=i) (h1:i<t.Edges.length):(0<=(at' t.Edges i).From∧(at' t.Edges i).From<t.Nodes.length)∧(0<=(at' t.Edges i).To∧(at' t.Edges i).To<t.Nodes.length):=by
 have:=h.edge i h0 h1
 unfold edgeE at this
 dsimp only at this
 split at this
 ·cases this
 ·split at this
  ·cases this
  ·split at this
   ·rename_i hc; exact ⟨hc.1,hc.2.1⟩
   ·cases this
def inB (t:Types) (a:Int):Bool:=decide (0<=a)&&decide (a<t.Nodes.length)
theorem inB_iff {t:Types} {a:Int}:inB t a=true↔0<=a∧a<t.Nodes.length:=by unfold inB; simp
theorem p_given {t:Types} (hf:FewT t) (l:List Int):types_given t l=some (if (typesV t).2≠0 then (typesV t).2 else if (l.all (inB t))=true then 0 else 6):=by
 unfold types_given
 rw [p_Types hf,bs,cf_int (p:=fun a=>!inB t a) (fun a _=>by unfold types_given_1 inB; rw [show decide (a<0)=!decide (0<=a) from by rw [←decide_not,decide_eq_decide]; omega,show decide ((t.Nodes.length:Int)<=a)=!decide (a<t.Nodes.length) from by rw [←decide_not,decide_eq_decide]; omega,Bool.not_and]),bs]
 rw [show (l.any fun a=>!inB t a)=!(l.all (inB t)) from by rw [List.all_eq_not_any_not,Bool.not_not]]
 cases l.all (inB t) <;> by_cases h:(typesV t).2=0 <;> simp [h]
theorem r_given {t:Types} (hf:FewT t) (a b:Int):ref04_given t a b=some (if (typesV t).2≠0 then (typesV t).2 else if (inB t a&&inB t b)=true then 0 else 6):=by
 have hl:=hf.nodes
 have e:∀ a,decide (a<=(t.Nodes.length:Int) - 1)=decide (a<(t.Nodes.length:Int)):=fun a=>by rw [decide_eq_decide]; omega
 unfold ref04_given ref04_in
 rw [r_Types hf,bs]
 simp only [w64_id (show -9223372036854775808<=(t.Nodes.length:Int) - 1 by omega) (by omega),bs,e]
 change (if (!decide ((typesV t).snd=0))=true then some (typesV t).snd else (if (!inB t a)=true then some true else some (!inB t b)).bind fun x32=>if x32=true then some 6 else some 0)=_
 cases inB t a <;> cases inB t b <;> by_cases h:(typesV t).2=0 <;> simp [h]
theorem setE_self {α:Type} [Inhabited α] {l:List α} {i:Int} (h0:0<=i) (h1:i<l.length):setE l i (at' l i)=l:=by
 unfold setE at'
 rw [List.getD_eq_getElem?_getD,List.getElem?_eq_getElem (by omega)]
 exact List.set_getElem_self _
theorem take_succ_at {α:Type} [Inhabited α] {l:List α} {i:Int} (h0:0<=i) (h1:i<l.length):l.take (i+1).toNat=l.take i.toNat++[at' l i]:=by
 unfold at'
 rw [show (i+1).toNat=i.toNat+1 by omega,List.take_add_one,List.getD_eq_getElem?_getD,List.getElem?_eq_getElem (by omega)]
 rfl
theorem appC_nil {α:Type} {l:List α} (h:l.length<=nmax):appC [] l=some l:=by rw [appC_some (by simpa using h)]; rfl
def attrsR (t:Types) (a:Int):List Attr × Int:=if (typesV t).2≠0 then ([],(typesV t).2) else if inB t a=true then (attrsS t a,0) else ([],6)
theorem p_Attrs {t:Types} (hf:FewT t) (a:Int):types_Attrs t a=some (attrsR t a):=by
 unfold types_Attrs attrsR
 rw [p_given hf,bs]
 by_cases h:(typesV t).2=0
 ·have hok:=typesOk h
  have e:[a].all (inB t)=inB t a:=by simp
  rw [e]
  simp only [h,ne_eq,not_true_eq_false,if_false]
  cases hi:inB t a
  ·rfl
  ·rw [if_pos rfl,if_pos rfl]
   have hr:=inB_iff.1 hi
   have hl:=attrsS_len hf (Int.le_refl _) hok.par hr.2
   have hw:=attrsS_few hf (Int.le_refl _) hok.par hr.2
   rw [if_neg (by decide),p_attrs hf (Int.le_refl _) hok.par hr.1 hr.2,bs]
   obtain ⟨s',h1,rfl⟩:=forA_inv (f:=(fun (i0:Int) (s0:List Attr)=>
 (idx s0 i0).bind fun x28=>
 (slices_Clone_string x28.Names).bind fun x31=>
 (idx s0 i0).bind fun x32=>
 some (setE s0 i0 (Attr.mk x32.Name x32.Low x32.High x31)))) (fun _ s=>s=attrsS t a) (a:=0) (b:=(attrsS t a).length) (s:=attrsS t a) (by omega) rfl (fun i s k1 k2 hs=>by
     subst hs
     have:=(hw _ (at_mem k1 k2)).names
     refine ⟨attrsS t a,?_,rfl⟩
     unfold slices_Clone_string
     rw [idx_at k1 k2,bs,appC_nil (by unfold nmax; omega),bs,bs]
     congr 1
     exact setE_self k1 k2)
   rw [h1]; rfl
 ·simp only [h,ne_eq,not_false_eq_true,if_true,decide_false,Bool.not_false]
theorem r_Attrs {t:Types} (hf:FewT t) (a:Int):ref04_Attrs t a=some (attrsR t a):=by
 unfold ref04_Attrs attrsR
 rw [r_given hf,bs]
 by_cases h:(typesV t).2=0
 ·have hok:=typesOk h
  rw [Bool.and_self]
  simp only [h,ne_eq,not_true_eq_false,if_false]
  cases hi:inB t a
  ·rfl
  ·rw [if_pos rfl,if_pos rfl]
   have hr:=inB_iff.1 hi
   have hl:=attrsS_len hf (Int.le_refl _) hok.par hr.2
   have hw:=attrsS_few hf (Int.le_refl _) hok.par hr.2
   rw [if_neg (by decide),r_attrs hf (Int.le_refl _) hok.par hr.1 hr.2,bs]
   rw [forA_fn (fun i=>(attrsS t a).take i.toNat) (by omega) (by simp)]
   ·rw [bs,Int.toNat_natCast,List.take_length]
   ·intro i k1 k2
    have:=(hw _ (at_mem k1 k2)).names
    rw [idx_at k1 k2,bs,appC_nil (by unfold nmax; omega),bs,appC_some (by rw [List.length_take]; simp; unfold nmax; omega),take_succ_at k1 k2]
    rfl
 ·simp only [h,ne_eq,not_false_eq_true,if_true,decide_false,Bool.not_false]
end Go.Sf.Sc
