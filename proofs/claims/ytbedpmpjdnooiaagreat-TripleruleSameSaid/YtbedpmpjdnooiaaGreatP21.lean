/- Plain lemmas: what the functions of the program and of the reference compute. -/
import Derived.Test.YtbedpmpjdnooiaaGreatP19
set_option maxRecDepth 100000
namespace Go.Sf.Sc
open Go Go.Sf
theorem wf_u8 {x:Int} (h:(eU8 x).WF):ByteD x:=h
theorem wf_each {α:Type} {e:α->TV} {n:Nat} {l:List α} (h:(eL n e l).WF):∀ x∈l,(e x).WF:=by
 have h':_∧TV.WFs (l.map e):=h
 intro x hx
 exact (wfs_mem.1 h'.2) _ (List.mem_map.2 ⟨x,hx,rfl⟩)
theorem draft53_ok {d:ref53_Draft} (h:(eref53_Draft d).WF):Draft53Ok d:=by
 have h':TV.WFs [_,_,_,_]:=h
 obtain ⟨h1,h2,h3,h4,_⟩:=h'
 refine ⟨⟨fun x hx=>?_,fun x hx=>?_⟩,fun x hx=>wf_u8 (wf_each h3 x hx),fun x hx=>?_⟩
 ·have a:TV.WFs [_,_]:=wf_each h1 x hx
  exact ⟨wf_u8 a.1,wf_u8 a.2.1⟩
 ·have a:TV.WFs [_,_,_]:=wf_each h2 x hx
  exact ⟨wf_u8 a.1,wf_u8 a.2.1,wf_u8 a.2.2.1⟩
 ·have a:TV.WFs [_,_,_]:=wf_each h4 x hx
  exact ⟨wf_u8 a.1,wf_u8 a.2.1,wf_u8 a.2.2.1⟩
theorem exSok:sortsE exT exS=0:=by decide +kernel
theorem MadeG.node_at {g:Graph} (h:MadeG g) {i:Int} (i0:0<=i) (i1:i<g.Nodes.length):0<=at' g.Nodes i∧at' g.Nodes i<5:=h.node _ (at_mem i0 i1)
theorem name_r:isName ⟨#[114]⟩=true:=by decide
theorem r_small {d:ref53_Draft} {b:Bool} (h:law53_small d=some b) (hb:b=true):d.Nodes.length<=3∧d.Edges.length<=4:=by
 subst hb
 unfold law53_small at h
 simp at h
 omega
end Go.Sf.Sc
namespace Go.Sf.Sc
open Go Go.Sf
theorem fit_ex:∀ (t:Fin 6) (a b:Fin 5),fitsB exT (t.val:Int) (a.val:Int) (b.val:Int)=true->at' exS.Edges (t.val:Int)≠2->at' exS.Nodes (a.val:Int)=at' exS.Edges (t.val:Int)∧at' exS.Nodes (b.val:Int)=at' exS.Edges (t.val:Int):=by decide +kernel
theorem fit_sort {t a b:Int} (ht:0<=t∧t<6) (ha:0<=a∧a<5) (hb:0<=b∧b<5) (h:fitsB exT t a b=true) (h2:at' exS.Edges t≠2):at' exS.Nodes a=at' exS.Edges t∧at' exS.Nodes b=at' exS.Edges t:=by
 have:=fit_ex ⟨t.toNat,by omega⟩ ⟨a.toNat,by omega⟩ ⟨b.toNat,by omega⟩
 simp only [Int.toNat_of_nonneg ht.1,Int.toNat_of_nonneg ha.1,Int.toNat_of_nonneg hb.1] at this
 exact this h h2
theorem nodup_app {a b:List Int} (ha:a.Nodup) (hb:b.Nodup) (h:∀ x∈b,¬ x∈a):(a++b).Nodup:=by
 rw [List.nodup_append]
 exact ⟨ha,hb,fun x hx y hy e=>h y hy (e ▸ hx)⟩
theorem sel_nodup (q:Int->Bool) (n:Int):(selS q n).Nodup:=(sel_asc q n).imp (fun h=>by omega)
theorem sel_le (q:Int->Bool) (n:Nat):(selS q n).length<=n:=by
 have:=selS_len q n
 omega
theorem hasB_not {l:List Int} {x:Int} (h:(!hasB l x)=true):¬ x∈l:=fun hm=>by rw [hasB_iff.2 hm] at h; cases h
theorem good_trans {L R:Graph} {m:Morphism} {nm:ByteArray} (h:GoodR L R m) (l:List Int) (hl:hasB l 2=false) (hn:L.Nodes.length+R.Nodes.length<=20) (he:L.Edges.length+R.Edges.length<=20) :
  GoodR (transR exS (ruleR nm L R m) l).Left.Graph R (transR exS (ruleR nm L R m) l).Into:=by
 let r:=ruleR nm L R m
 have hmN:∀ x∈selN exS r l,(0<=x∧x<R.Nodes.length)∧newN exS r l x=true:=fun x hx=>mem_sel.1 hx
 have hmE:∀ x∈selE exS r l,(0<=x∧x<R.Edges.length)∧newE exS r l x=true:=fun x hx=>mem_sel.1 hx
 have lN:(selN exS r l).length<=R.Nodes.length:=sel_le _ _
 have lE:(selE exS r l).length<=R.Edges.length:=sel_le _ _
 have gN:(transR exS r l).Left.Graph.Nodes=L.Nodes++(selN exS r l).map (at' R.Nodes):=rfl
 have gE:(transR exS r l).Left.Graph.Edges=L.Edges++(selE exS r l).map (edgeN r (tIntoN exS r l)):=rfl
 have iN:(transR exS r l).Into.Nodes=tIntoN exS r l:=rfl
 have iT:tIntoN exS r l=m.Nodes++selN exS r l:=rfl
 have iE:(transR exS r l).Into.Edges=m.Edges++selE exS r l:=rfl
 have n1:=h.nlen
 have n2:=h.elen
 have lenN:(transR exS r l).Left.Graph.Nodes.length=(tIntoN exS r l).length:=by rw [gN,iT]; simp; omega
 have node:∀ i:Int,0<=i->i<(transR exS r l).Left.Graph.Nodes.length->(0<=at' (tIntoN exS r l) i∧at' (tIntoN exS r l) i<R.Nodes.length)∧at' R.Nodes (at' (tIntoN exS r l) i)=at' (transR exS r l).Left.Graph.Nodes i:=by
  intro i i0 i1
  rw [gN,iT]
  by_cases hi:i<L.Nodes.length
  ·rw [at_app1 (by omega),at_app1 (by omega)]
   exact h.node i i0 hi
  ·rw [gN] at i1
   simp only [List.length_append,List.length_map,Int.natCast_add] at i1
   rw [at_app2 (by omega),at_app2 (by omega),n1,at_mapI (by omega) (by omega)]
   exact ⟨(hmN _ (at_mem (by omega) (by omega))).1,rfl⟩
 have fromto:∀ x∈selE exS r l,(at' R.Edges x).From∈tIntoN exS r l∧(at' R.Edges x).To∈tIntoN exS r l:=by
  intro x hx
  obtain ⟨⟨x0,x1⟩,hq⟩:=hmE x hx
  obtain ⟨k1,k2,k3,k4⟩:=h.r.edge _ (at_mem (l:=R.Edges) x0 x1)
  have hs:hasB l (at' exS.Edges (at' R.Edges x).Type')=true:=by
   have:(!hasB m.Edges x&&hasB l (at' exS.Edges (at' R.Edges x).Type'))=true:=hq
   rw [Bool.and_eq_true] at this; exact this.2
  have h2:at' exS.Edges (at' R.Edges x).Type'≠2:=fun e=>by rw [e,hl] at hs; cases hs
  obtain ⟨e1,e2⟩:=fit_sort k1 (h.r.node_at k2.1 k2.2) (h.r.node_at k3.1 k3.2) k4 h2
  have key:∀ n:Int,0<=n->n<R.Nodes.length->at' exS.Nodes (at' R.Nodes n)=at' exS.Edges (at' R.Edges x).Type'->n∈tIntoN exS r l:=by
   intro n n0 n1 e
   rw [iT,List.mem_append]
   by_cases hm:n∈m.Nodes
   ·exact .inl hm
   ·refine .inr (mem_sel.2 ⟨⟨n0,n1⟩,?_⟩)
    show (!hasB m.Nodes n&&hasB l (at' exS.Nodes (at' R.Nodes n)))=true
    rw [e,hs,Bool.and_true,Bool.not_eq_true']
    cases hb:hasB m.Nodes n
    ·rfl
    ·exact absurd (hasB_iff.1 hb) hm
  exact ⟨key _ k2.1 k2.2 e1,key _ k3.1 k3.2 e2⟩
 have ix:∀ v∈tIntoN exS r l,(0<=ixS (tIntoN exS r l) v∧ixS (tIntoN exS r l) v<(transR exS r l).Left.Graph.Nodes.length)∧at' (tIntoN exS r l) (ixS (tIntoN exS r l) v)=v:=by
  intro v hv
  obtain ⟨a,b,c,_⟩:=ixS_mem hv
  exact ⟨⟨a,by rw [lenN]; exact b⟩,c⟩
 have ixT:∀ v∈tIntoN exS r l,at' (transR exS r l).Left.Graph.Nodes (ixS (tIntoN exS r l) v)=at' R.Nodes v:=by
  intro v hv
  obtain ⟨⟨a,b⟩,c⟩:=ix v hv
  rw [←(node _ a b).2,c]
 refine ⟨⟨?_,?_,fun n hx=>?_,fun e hx=>?_⟩,h.r,?_,?_,?_,fun i i0 i1=>?_,?_,?_⟩
 ·show (transR exS r l).Left.Graph.Nodes.length<=20
  rw [gN]; simp; omega
 ·show (transR exS r l).Left.Graph.Edges.length<=20
  rw [gE]; simp; omega
 ·have hx':n∈(transR exS r l).Left.Graph.Nodes:=hx
  rw [gN,List.mem_append] at hx'
  rcases hx' with hx | hx
  ·exact h.l.node n hx
  ·obtain ⟨x,hz,rfl⟩:=List.mem_map.1 hx
   have:=(hmN x hz).1
   exact h.r.node_at this.1 this.2
 ·have hx':e∈(transR exS r l).Left.Graph.Edges:=hx
  rw [gE,List.mem_append] at hx'
  show _∧(_∧_<((transR exS r l).Left.Graph.Nodes.length:Int))∧(_∧_<((transR exS r l).Left.Graph.Nodes.length:Int))∧fitsB exT e.Type' (at' (transR exS r l).Left.Graph.Nodes e.From) (at' (transR exS r l).Left.Graph.Nodes e.To)=true
  rcases hx' with hx | hx
  ·obtain ⟨k1,k2,k3,k4⟩:=h.l.edge e hx
   rw [gN,at_app1 (by omega),at_app1 (by omega),List.length_append]
   exact ⟨k1,by omega,by omega,k4⟩
  ·obtain ⟨x,hz,rfl⟩:=List.mem_map.1 hx
   have hr:=(hmE x hz).1
   obtain ⟨k1,k2,k3,k4⟩:=h.r.edge _ (at_mem (l:=R.Edges) hr.1 hr.2)
   obtain ⟨f1,f2⟩:=fromto x hz
   show (0<=(at' R.Edges x).Type'∧(at' R.Edges x).Type'<6)∧(0<=ixS (tIntoN exS r l) (at' R.Edges x).From∧ixS (tIntoN exS r l) (at' R.Edges x).From<_)∧(0<=ixS (tIntoN exS r l) (at' R.Edges x).To∧ixS (tIntoN exS r l) (at' R.Edges x).To<_) ∧
    fitsB exT (at' R.Edges x).Type' (at' _ (ixS (tIntoN exS r l) (at' R.Edges x).From)) (at' _ (ixS (tIntoN exS r l) (at' R.Edges x).To))=true
   rw [ixT _ f1,ixT _ f2]
   exact ⟨k1,(ix _ f1).1,(ix _ f2).1,k4⟩
 ·show (tIntoN exS r l).length=(transR exS r l).Left.Graph.Nodes.length
  exact lenN.symm
 ·show (m.Edges++selE exS r l).length=(transR exS r l).Left.Graph.Edges.length
  rw [gE]; simp; omega
 ·exact node
 ·show (0<=at' (m.Edges++selE exS r l) i∧at' (m.Edges++selE exS r l) i<_)∧(at' (transR exS r l).Left.Graph.Edges i).Type'=(at' R.Edges (at' (m.Edges++selE exS r l) i)).Type' ∧
   at' (tIntoN exS r l) (at' (transR exS r l).Left.Graph.Edges i).From=(at' R.Edges (at' (m.Edges++selE exS r l) i)).From∧at' (tIntoN exS r l) (at' (transR exS r l).Left.Graph.Edges i).To=(at' R.Edges (at' (m.Edges++selE exS r l) i)).To
  have i1':i<(transR exS r l).Left.Graph.Edges.length:=i1
  rw [gE] at i1' ⊢
  simp only [List.length_append,List.length_map,Int.natCast_add] at i1'
  by_cases hi:i<L.Edges.length
  ·rw [at_app1 (by omega),at_app1 (by omega)]
   obtain ⟨k1,k2,k3,k4⟩:=h.edge i i0 hi
   obtain ⟨_,e2,e3,_⟩:=h.l.edge _ (at_mem (l:=L.Edges) i0 hi)
   refine ⟨k1,k2,?_,?_⟩
   ·rw [iT,at_app1 (by omega)]; exact k3
   ·rw [iT,at_app1 (by omega)]; exact k4
  ·rw [at_app2 (by omega),at_app2 (by omega),n2,at_mapI (by omega) (by omega)]
   have hx:=at_mem (l:=selE exS r l) (i:=i - L.Edges.length) (by omega) (by omega)
   obtain ⟨f1,f2⟩:=fromto _ hx
   exact ⟨(hmE _ hx).1,rfl,(ix _ f1).2,(ix _ f2).2⟩
 ·show (m.Nodes++selN exS r l).Nodup
  refine nodup_app h.nn (sel_nodup _ _) fun x hx=>?_
  have:(!hasB m.Nodes x&&hasB l _)=true:=(hmN x hx).2
  rw [Bool.and_eq_true] at this
  exact hasB_not this.1
 ·show (m.Edges++selE exS r l).Nodup
  refine nodup_app h.ne (sel_nodup _ _) fun x hx=>?_
  have:(!hasB m.Edges x&&hasB l _)=true:=(hmE x hx).2
  rw [Bool.and_eq_true] at this
  exact hasB_not this.1
theorem r_transV {L R:Graph} {m:Morphism} (h:GoodR L R m) (l:List Int) (hl:hasB l 2=false) (hn:L.Nodes.length+R.Nodes.length<=20) (he:L.Edges.length+R.Edges.length<=20) :
  ref24_Valid exT (transR exS (ruleR ⟨#[114]⟩ L R m) l)=some 0:=by
 have g:=good_trans (nm:=⟨#[114]⟩) h l hl hn he
 have h1:=r_rule exT_few (good_few (nm:=⟨#[114]⟩) g (by decide))
 rw [good_rule g name_r] at h1
 exact h1
theorem take_app {α:Type} (a b:List α):slc (a++b) 0 (a.length:Int)=some a:=by
 rw [slc_take (by omega) (by rw [List.length_append]; omega)]
 simp
theorem equal_edge (l:List Edge):slices_Equal_Edge l l=some true:=by
 unfold slices_Equal_Edge
 rw [if_neg (by simp),same_loop]; simp [thenR_inl]
theorem sel_mono {q q':Int->Bool} {n:Int} (h:∀ i,q i=true->q' i=true):(selS q n).length<=(selS q' n).length:=by
 unfold selS
 rw [←List.countP_eq_length_filter,←List.countP_eq_length_filter]
 exact List.countP_mono_left fun x _ hx=>h x hx
noncomputable def sameB (t:Types) (r c x:Rule):Option (Ctl Unit Bool):=
 (ref05_Same x.Right.Graph r.Right.Graph).bind fun x92=>
 (if (((!x92)||(decide ((x.Left.Graph.Nodes.length:Int)<(r.Left.Graph.Nodes.length:Int))))||(decide ((x.Left.Graph.Edges.length:Int)<(r.Left.Graph.Edges.length:Int))))=true then some true else ((ref24_Valid t x).bind fun x115=>
 some (!decide (x115=0)))).bind fun x117=>
 if x117=true then
 some (.ret false)
 else
 (slc x.Left.Graph.Nodes 0 (r.Left.Graph.Nodes.length:Int)).bind fun x123=>
 (slices_Equal_int x123 r.Left.Graph.Nodes).bind fun x128=>
 (if (!x128)=true then some true else ((slc x.Left.Graph.Edges 0 (r.Left.Graph.Edges.length:Int)).bind fun x136=>
 (slices_Equal_Edge x136 r.Left.Graph.Edges).bind fun x141=>
 some (!x141))).bind fun x143=>
 if (x143||(decide ((c.Left.Graph.Nodes.length:Int)<(x.Left.Graph.Nodes.length:Int))))=true then
 some (.ret false)
 else
 some (.next ())
theorem same_step {L R:Graph} {m:Morphism} (h:GoodR L R m) (l:List Int) (hl:hasB l 2=false) (hs:∀ x,hasB l x=true->hasB [1,3] x=true) (hn:L.Nodes.length+R.Nodes.length<=20) (he:L.Edges.length+R.Edges.length<=20) :
  sameB exT (ruleR ⟨#[114]⟩ L R m) (transR exS (ruleR ⟨#[114]⟩ L R m) [1,3]) (transR exS (ruleR ⟨#[114]⟩ L R m) l)=some (.next ()):=by
 have gN:∀ l,(transR exS (ruleR ⟨#[114]⟩ L R m) l).Left.Graph.Nodes=L.Nodes++(selN exS (ruleR ⟨#[114]⟩ L R m) l).map (at' R.Nodes):=fun _=>rfl
 have gE:(transR exS (ruleR ⟨#[114]⟩ L R m) l).Left.Graph.Edges=L.Edges++(selE exS (ruleR ⟨#[114]⟩ L R m) l).map (edgeN (ruleR ⟨#[114]⟩ L R m) (tIntoN exS (ruleR ⟨#[114]⟩ L R m) l)):=rfl
 have hle:(selN exS (ruleR ⟨#[114]⟩ L R m) l).length<=(selN exS (ruleR ⟨#[114]⟩ L R m) [1,3]).length:=by
  refine sel_mono fun i hi=>?_
  unfold newN at hi ⊢
  rw [Bool.and_eq_true] at hi ⊢
  exact ⟨hi.1,hs _ hi.2⟩
 unfold sameB
 rw [show (transR exS (ruleR ⟨#[114]⟩ L R m) l).Right.Graph=(ruleR ⟨#[114]⟩ L R m).Right.Graph from rfl,same_graph,bs,r_transV h l hl hn he,gN,gN,gE]
 rw [if_neg (by show ¬ (((!true)||decide (((L.Nodes++_).length:Int)<L.Nodes.length))||decide (((L.Edges++_).length:Int)<L.Edges.length))=true; simp; omega),bs,bs,if_neg (by decide)]
 rw [show (ruleR ⟨#[114]⟩ L R m).Left.Graph=L from rfl,take_app,bs,equal_int,bs,if_neg (by decide),take_app,bs,equal_edge,bs,bs,if_neg]
 simp
 omega
theorem plainSame (d:ref53_Draft) (hw:(eref53_Draft d).WF):law53_TripleruleSame d=some true:=by
 obtain ⟨b,hb⟩:∃ b,law53_small d=some b:=⟨_,rfl⟩
 unfold law53_TripleruleSame
 rw [awake,bs,if_neg (by decide),hb,bs,bs]
 cases b
 ·rfl
 obtain ⟨h3,h4⟩:=r_small hb rfl
 obtain ⟨L,R,e,g,q1,q2,q3,q4,_⟩:=r_Made53 (draft53_ok hw) h3 h4
 generalize hm:(⟨numS L.Nodes.length,numS L.Edges.length⟩:Morphism)=m at e g
 have hf:=good_few (nm:=⟨#[114]⟩) g (by decide)
 have tS:=good_trip g name_r exSok
 rw [if_neg (by decide),exT_eq,bs,e,bs]
 dsimp only
 unfold triplerule_Forward triplerule_Backward triplerule_Consistency
 rw [p_trans exT_few hf,p_trans exT_few hf,p_trans exT_few hf,tS]
 simp only [bs,ne_eq,not_true_eq_false,if_false,decide_true,Bool.not_true,Bool.or_self,Bool.false_eq_true]
 have key:∀ l:List Int,hasB l 2=false->(∀ x,hasB l x=true->hasB [1,3] x=true)->sameB exT (ruleR ⟨#[114]⟩ L R m) (transR exS (ruleR ⟨#[114]⟩ L R m) [1,3]) (transR exS (ruleR ⟨#[114]⟩ L R m) l)=some (.next ()):=
  fun l h1 h2=>same_step g l h1 h2 (by omega) (by omega)
 have k1:=key [1] (by decide) (fun x hx=>by rw [hasB_iff] at hx ⊢; simp at hx ⊢; exact .inl hx)
 have k3:=key [3] (by decide) (fun x hx=>by rw [hasB_iff] at hx ⊢; simp at hx ⊢; exact .inr hx)
 have k13:=key [1,3] (by decide) (fun x hx=>hx)
 change thenR (forR (ρ:=Bool) (fun (i0:Int) (_:Unit)=>(idx [transR exS (ruleR ⟨#[114]⟩ L R m) [1],transR exS (ruleR ⟨#[114]⟩ L R m) [3],transR exS (ruleR ⟨#[114]⟩ L R m) [1,3]] i0).bind fun x=>sameB exT (ruleR ⟨#[114]⟩ L R m) (transR exS (ruleR ⟨#[114]⟩ L R m) [1,3]) x) 0 3 ()) (fun _=>some true) (fun v0=>some v0)=some true
 rw [forR_any (fun _=>false) false]
 ·rw [anyR_false.2 (fun _ _ _=>rfl)]; rfl
 ·intro i i0 i1 _
  have:i=0∨i=1∨i=2:=by omega
  rcases this with rfl | rfl | rfl
  ·exact k1
  ·exact k3
  ·exact k13
end Go.Sf.Sc
