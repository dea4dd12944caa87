/- Plain lemmas: what the functions of the program and of the reference compute. -/
import Derived.Test.YtbedpmpjdnooiaaGreatP20
set_option maxRecDepth 100000
namespace Go.Sf.Sc
open Go Go.Sf
theorem wf_u8 {x:Int} (h:(eU8 x).WF):ByteD x:=h
theorem wf_each {α:Type} {e:α->TV} {n:Nat} {l:List α} (h:(eL n e l).WF):∀ x∈l,(e x).WF:=by
 have h':_∧TV.WFs (l.map e):=h
 intro x hx
 exact (wfs_mem.1 h'.2) _ (List.mem_map.2 ⟨x,hx,rfl⟩)
theorem draft53_ok {d:ref53_Draft} (h:(eref53_Draft d).WF):Draft53Ok d:=by
 have h':TV.WFs [_,_,_,_]:=h
 obtain ⟨h1,h2,h3,h4,_⟩:=h'
 refine ⟨⟨fun x hx=>?_,fun x hx=>?_⟩,fun x hx=>wf_u8 (wf_each h3 x hx),fun x hx=>?_⟩
 ·have a:TV.WFs [_,_]:=wf_each h1 x hx
  exact ⟨wf_u8 a.1,wf_u8 a.2.1⟩
 ·have a:TV.WFs [_,_,_]:=wf_each h2 x hx
  exact ⟨wf_u8 a.1,wf_u8 a.2.1,wf_u8 a.2.2.1⟩
 ·have a:TV.WFs [_,_,_]:=wf_each h4 x hx
  exact ⟨wf_u8 a.1,wf_u8 a.2.1,wf_u8 a.2.2.1⟩
def exZ:Sorts:=⟨[3,3,1,1,2],[3,1,2,2,2,2]⟩
theorem exSok:sortsE exT exS=0:=by decide +kernel
theorem exZok:sortsE exT exZ=0:=by decide +kernel
theorem r_swap:ref52_Swap exT exS=some (exZ,0):=by
 unfold ref52_Swap
 rw [r_sorts exT_few,exSok,bs,if_neg (by decide),show ref52_turned exS.Nodes=some exZ.Nodes from rfl,bs,show ref52_turned exS.Edges=some exZ.Edges from rfl,bs]
theorem cases5 {n:Int} (h0:0<=n) (h1:n<5):n=0∨n=1∨n=2∨n=3∨n=4:=by omega
theorem cases6 {n:Int} (h0:0<=n) (h1:n<6):n=0∨n=1∨n=2∨n=3∨n=4∨n=5:=by omega
theorem zN {n:Int} (h0:0<=n) (h1:n<5):at' exZ.Nodes n=4 - at' exS.Nodes n:=by
 rcases cases5 h0 h1 with rfl | rfl | rfl | rfl | rfl <;> rfl
theorem zE {n:Int} (h0:0<=n) (h1:n<6):at' exZ.Edges n=4 - at' exS.Edges n:=by
 rcases cases6 h0 h1 with rfl | rfl | rfl | rfl | rfl | rfl <;> rfl
theorem MadeG.node_at {g:Graph} (h:MadeG g) {i:Int} (i0:0<=i) (i1:i<g.Nodes.length):0<=at' g.Nodes i∧at' g.Nodes i<5:=h.node _ (at_mem i0 i1)
theorem MadeG.edge_at {g:Graph} (h:MadeG g) {i:Int} (i0:0<=i) (i1:i<g.Edges.length):0<=(at' g.Edges i).Type'∧(at' g.Edges i).Type'<6:=(h.edge _ (at_mem i0 i1)).1
theorem z_has {x:Int}:hasB [1] (4 - x)=hasB [3] x:=by
 unfold hasB
 simp only [List.any_cons,List.any_nil,Bool.or_false]
 congr 1
 exact propext ⟨fun h=>by omega,fun h=>by omega⟩
theorem z_selN {r:Rule} (h:MadeG r.Right.Graph):selN exZ r [1]=selN exS r [3]:=by
 unfold selN
 refine selS_congr fun i i0 i1=>?_
 have:=h.node_at i0 i1
 unfold newN
 rw [zN this.1 this.2,z_has]
theorem z_selE {r:Rule} (h:MadeG r.Right.Graph):selE exZ r [1]=selE exS r [3]:=by
 unfold selE
 refine selS_congr fun i i0 i1=>?_
 have:=h.edge_at i0 i1
 unfold newE
 rw [zE this.1 this.2,z_has]
theorem z_transR {r:Rule} (h:MadeG r.Right.Graph):transR exZ r [1]=transR exS r [3]:=by
 unfold transR tIntoN
 rw [z_selN h,z_selE h]
theorem z_transP {r:Rule} (h:MadeG r.Right.Graph):transP exZ r [1]=transP exS r [3]:=by
 unfold transP
 rw [z_selN h,z_selE h]
theorem z_sideP {g:Graph} (h:MadeG g):sideP exZ g 1=sideP exS g 3:=by
 unfold sideP
 congr 1
 ·refine selS_congr fun i i0 i1=>?_
  have:=h.node_at i0 i1
  unfold nodeQ
  rw [zN this.1 this.2]
  exact decide_eq_decide.2 ⟨fun h=>by omega,fun h=>by omega⟩
 ·refine selS_congr fun i i0 i1=>?_
  have:=h.edge_at i0 i1
  unfold edgeQ
  rw [zE this.1 this.2]
  exact decide_eq_decide.2 ⟨fun h=>by omega,fun h=>by omega⟩
theorem z_sideR {r:Rule} (hl:MadeG r.Left.Graph) (h:MadeG r.Right.Graph):sideR exZ r 1=sideR exS r 3:=by
 unfold sideR
 rw [z_sideP hl,z_sideP h]
theorem name_r:isName ⟨#[114]⟩=true:=by decide
theorem r_small {d:ref53_Draft} {b:Bool} (h:law53_small d=some b) (hb:b=true):d.Nodes.length<=3∧d.Edges.length<=4:=by
 subst hb
 unfold law53_small at h
 simp at h
 omega
theorem plainSwapped (d:ref53_Draft) (hw:(eref53_Draft d).WF):law53_TripleruleSwapped d=some true:=by
 obtain ⟨b,hb⟩:∃ b,law53_small d=some b:=⟨_,rfl⟩
 unfold law53_TripleruleSwapped
 rw [awake,bs,if_neg (by decide),hb,bs,bs]
 cases b
 ·rfl
 obtain ⟨h3,h4⟩:=r_small hb rfl
 obtain ⟨L,R,e,g,_⟩:=r_Made53 (draft53_ok hw) h3 h4
 have hf:=good_few (nm:=⟨#[114]⟩) g (by decide)
 have tS:=good_trip g name_r exSok
 have tZ:=good_trip g name_r exZok
 rw [if_neg (by decide),exT_eq,bs,e,bs]
 dsimp only
 unfold triplerule_Forward triplerule_Backward triplerule_Source triplerule_Target
 rw [r_swap,bs]
 dsimp only
 rw [p_trans exT_few hf,p_trans exT_few hf,p_tside exT_few hf,p_tside exT_few hf,tS,tZ]
 simp only [bs,ne_eq,not_true_eq_false,if_false,decide_true,Bool.and_self,if_true]
 rw [z_transR g.r,z_transP g.r,z_sideR g.l g.r,same_rule rfl,same_part,same_rule rfl]
 rfl
end Go.Sf.Sc
