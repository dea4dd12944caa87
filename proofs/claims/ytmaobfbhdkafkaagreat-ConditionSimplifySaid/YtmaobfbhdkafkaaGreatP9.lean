/- Plain lemmas: what the functions of the program and of the reference compute. -/
import Derived.Test.YtmaobfbhdkafkaaGreatP7
set_option maxRecDepth 100000
namespace Go.Sf.Sc
open Go Go.Sf
structure FewQ (p:Pattern):Prop where
 nodes:p.Graph.Nodes.length<=45
 edges:p.Graph.Edges.length<=90
 slots:p.Slots.length<=15
 tests:p.Tests.length<=15
structure FewM (m:Morphism):Prop where
 nodes:m.Nodes.length<=140
 edges:m.Edges.length<=140
inductive FewC:Condition->Prop where
 | mk (c:Condition) (hq:FewQ c.Pattern) (hm:FewM c.Map) (hk:∀ k∈c.Kids,FewC k):FewC c
theorem FewC.q {c:Condition} (h:FewC c):FewQ c.Pattern:=by cases h; assumption
theorem FewC.m {c:Condition} (h:FewC c):FewM c.Map:=by cases h; assumption
theorem FewC.k {c:Condition} (h:FewC c):∀ k∈c.Kids,FewC k:=by cases h; assumption
theorem size_kid {c k:Condition} (h:k∈c.Kids):SizeOf.sizeOf k<SizeOf.sizeOf c:=by
 have:=List.sizeOf_lt_of_mem h
 cases c
 simp only [Condition.mk.sizeOf_spec] at *
 omega
theorem size_pos' (c:Condition):0<SizeOf.sizeOf c:=by
 cases c
 simp only [Condition.mk.sizeOf_spec]
 omega
def bareB (c:Condition):Bool:=decide (c.Map.Nodes.length=0∧c.Map.Edges.length=0∧c.Pattern.Graph.Nodes.length=0∧c.Pattern.Graph.Edges.length=0∧c.Pattern.Slots.length=0∧c.Pattern.Tests.length=0∧c.Pattern.Vars=0)
theorem p_bare {c:Condition} (hf:FewC c):condition_bare c=some (bareB c):=by
 have h1:=hf.q
 have h2:=hf.m
 have:=h1.nodes
 have:=h1.edges
 have:=h1.slots
 have:=h1.tests
 have:=h2.nodes
 have:=h2.edges
 unfold condition_bare bareB
 rw [w64_id (n:=(c.Map.Nodes.length:Int)+c.Map.Edges.length) (by omega) (by omega),w64_id (n:=(c.Map.Nodes.length:Int)+c.Map.Edges.length+c.Pattern.Graph.Nodes.length) (by omega) (by omega),
  w64_id (n:=(c.Map.Nodes.length:Int)+c.Map.Edges.length+c.Pattern.Graph.Nodes.length+c.Pattern.Graph.Edges.length) (by omega) (by omega),
  w64_id (n:=(c.Map.Nodes.length:Int)+c.Map.Edges.length+c.Pattern.Graph.Nodes.length+c.Pattern.Graph.Edges.length+c.Pattern.Slots.length) (by omega) (by omega),
  w64_id (n:=(c.Map.Nodes.length:Int)+c.Map.Edges.length+c.Pattern.Graph.Nodes.length+c.Pattern.Graph.Edges.length+c.Pattern.Slots.length+c.Pattern.Tests.length) (by omega) (by omega)]
 congr 1
 rw [Bool.eq_iff_iff]
 simp only [Bool.and_eq_true,decide_eq_true_eq]
 omega
theorem r_unused {c:Condition} (hf:FewC c):ref22_unused c=some (bareB c):=by
 have h1:=hf.q
 have h2:=hf.m
 have:=h1.nodes
 have:=h1.edges
 have:=h1.slots
 have:=h1.tests
 have:=h2.nodes
 have:=h2.edges
 unfold ref22_unused bareB
 rw [w64_id (n:=(c.Map.Nodes.length:Int)+c.Map.Edges.length) (by omega) (by omega),w64_id (n:=(c.Map.Nodes.length:Int)+c.Map.Edges.length+c.Pattern.Graph.Nodes.length) (by omega) (by omega),
  w64_id (n:=(c.Map.Nodes.length:Int)+c.Map.Edges.length+c.Pattern.Graph.Nodes.length+c.Pattern.Graph.Edges.length) (by omega) (by omega),
  w64_id (n:=(c.Pattern.Slots.length:Int)+c.Pattern.Tests.length) (by omega) (by omega)]
 congr 1
 rw [Bool.eq_iff_iff]
 simp only [Bool.and_eq_true,decide_eq_true_eq]
 omega
def headB (c:Condition):Bool:=
 if c.Kind=1 then decide (c.Kids.length=0)&&bareB c else if c.Kind=2 then decide (c.Kids.length=1)&&bareB c else
 if c.Kind=3∨c.Kind=4 then decide (1<=c.Kids.length)&&bareB c else if c.Kind=5 then decide (c.Kids.length=1) else false
def wfN:Nat->Condition->Bool
 | 0,_=>false
 | n+1,c=>headB c&&c.Kids.all (wfN n)
theorem p_wf:∀ (N:Nat) (c:Condition),SizeOf.sizeOf c<=N->FewC c->∀ n,2*N<=n->condition_wellFormedF n c=some (wfN N c)
 | 0,c,h,_,_,_=>by have:=size_pos' c; omega
 | N+1,c,h,hf,n,hn=>by
  obtain ⟨n,rfl⟩:∃ m,n=m+2:=⟨n - 2,by omega⟩
  rw [condition_wellFormedF,wfN,p_bare hf]
  have hk:slices_ContainsFunc_Condition c.Kids (condition_wellFormed_1F (n+1))=some (!c.Kids.all (wfN N)):=by
   rw [cf_Condition (p:=fun k=>!wfN N k) (fun k hk=>by
    have:=size_kid hk
    rw [condition_wellFormed_1F,p_wf N k (by omega) (hf.k k hk) n (by omega)]; rfl),List.all_eq_not_any_not,Bool.not_not]
  rw [hk]
  unfold headB
  simp only [bs,decide_eq_true_eq]
  generalize bareB c=b
  generalize c.Kids.all (wfN N)=w
  have e0:decide ((c.Kids.length:Int)=0)=decide (c.Kids.length=0):=by rw [decide_eq_decide]; omega
  have e1:decide ((c.Kids.length:Int)=1)=decide (c.Kids.length=1):=by rw [decide_eq_decide]; omega
  have e2:decide (1<=(c.Kids.length:Int))=decide (1<=c.Kids.length):=by rw [decide_eq_decide]; omega
  simp only [show ((c.Kids.length:Int)=0)↔c.Kids.length=0 by omega,show ((c.Kids.length:Int)=1)↔c.Kids.length=1 by omega,show (1<=(c.Kids.length:Int))↔1<=c.Kids.length by omega]
  by_cases k1:c.Kind=1
  ·rw [if_pos k1,if_pos k1]
   by_cases h0:c.Kids.length=0 <;> cases b <;> cases w <;> simp [h0]
  ·rw [if_neg k1,if_neg k1]
   by_cases k2:c.Kind=2
   ·rw [if_pos k2,if_pos k2]
    by_cases h0:c.Kids.length=1 <;> cases b <;> cases w <;> simp [h0]
   ·rw [if_neg k2,if_neg k2]
    by_cases k3:c.Kind=3
    ·simp only [k3,if_true,true_or]
     by_cases h0:1<=c.Kids.length <;> cases b <;> cases w <;> simp [h0]
    ·by_cases k4:c.Kind=4
     ·simp only [k4,if_true,or_true,show ¬ (4:Int)=3 by decide,if_false]
      by_cases h0:1<=c.Kids.length <;> cases b <;> cases w <;> simp [h0]
     ·simp only [k3,k4,if_false,or_false]
      by_cases k5:c.Kind=5
      ·rw [if_pos k5,if_pos k5]
       by_cases h0:c.Kids.length=1 <;> cases w <;> simp [h0]
      ·rw [if_neg k5,if_neg k5]
       cases w <;> rfl
theorem r_head {c:Condition} (hf:FewC c):ref22_right c=some (headB c):=by
 unfold ref22_right headB
 rw [r_unused hf]
 simp only [bs,decide_eq_true_eq]
 generalize bareB c=b
 simp only [show ((c.Kids.length:Int)=0)↔c.Kids.length=0 by omega,show ((c.Kids.length:Int)=1)↔c.Kids.length=1 by omega,show (0<(c.Kids.length:Int))↔1<=c.Kids.length by omega]
 by_cases k1:c.Kind=1
 ·rw [if_pos k1,if_pos k1]
  by_cases h0:c.Kids.length=0 <;> cases b <;> simp [h0]
 ·rw [if_neg k1,if_neg k1]
  by_cases k2:c.Kind=2
  ·rw [if_pos k2,if_pos k2]
   by_cases h0:c.Kids.length=1 <;> cases b <;> simp [h0]
  ·rw [if_neg k2,if_neg k2]
   by_cases k3:c.Kind=3
   ·simp only [k3,if_true,true_or,decide_true,bs]
    by_cases h0:1<=c.Kids.length <;> cases b <;> simp [h0]
   ·by_cases k4:c.Kind=4
    ·simp only [k4,if_true,or_true,show ¬ (4:Int)=3 by decide,if_false,decide_true,bs]
     by_cases h0:1<=c.Kids.length <;> cases b <;> simp [h0]
    ·simp only [k3,k4,if_false,or_false,decide_false,bs,Bool.false_eq_true]
     by_cases k5:c.Kind=5
     ·rw [if_pos k5,if_pos k5]
     ·rw [if_neg k5,if_neg k5]
theorem all_at {α:Type} [Inhabited α] {l:List α} {p:α->Bool}:l.all p=!anyR (fun i=>!p (at' l i)) 0 l.length:=by
 rw [List.all_eq_not_any_not,any_at]
theorem r_all:∀ (N:Nat) (c:Condition),SizeOf.sizeOf c<=N->FewC c->∀ n,N<=n->ref22_allRightF n c=some (wfN N c)
 | 0,c,h,_,_,_=>by have:=size_pos' c; omega
 | N+1,c,h,hf,n,hn=>by
  obtain ⟨n,rfl⟩:∃ m,n=m+1:=⟨n - 1,by omega⟩
  rw [ref22_allRightF,wfN,r_head hf,bs,all_at,forR_any (fun i=>!wfN N (at' c.Kids i)) false]
  ·cases headB c
   ·rfl
   ·cases anyR (fun i=>!wfN N (at' c.Kids i)) 0 c.Kids.length <;> rfl
  ·intro i i1 i2 _
   have hm:=at_mem (l:=c.Kids) i1 i2
   have:=size_kid hm
   rw [idx_at i1 i2,bs,r_all N _ (by omega) (hf.k _ hm) n (by omega),bs,if_b]
noncomputable def wfB (c:Condition):Bool:=wfN (SizeOf.sizeOf c) c
theorem p_wfB {c:Condition} (hf:FewC c):condition_wellFormed c=some (wfB c):=lim_eq (2*SizeOf.sizeOf c) fun n hn=>p_wf _ c (Nat.le_refl _) hf n hn
theorem r_wfB {c:Condition} (hf:FewC c):ref22_allRight c=some (wfB c):=lim_eq (SizeOf.sizeOf c) fun n hn=>r_all _ c (Nat.le_refl _) hf n hn
def measN:Nat->Condition->Int × Int
 | 0,_=>(0,0)
 | n+1,c=>
  let s:=c.Kids.foldl (fun s k=>(w64 (s.1+(measN n k).1),max s.2 (measN n k).2)) ((1,0):Int × Int)
  (s.1,if c.Kind=5 then w64 (s.2+1) else s.2)
theorem meas_loop {α σ:Type} [Inhabited α] {l:List α} {g:σ->α->σ} {s:σ} {f:Int->σ->Option σ} (h:∀ (i:Int) s,0<=i->i<l.length->f i s=some (g s (at' l i))):forA f 0 l.length s=some (l.foldl g s):=by
 rw [forA_fn (fun i=>(l.take i.toNat).foldl g s) (by omega) (by simp)]
 ·rw [Int.toNat_natCast,List.take_length]
 ·intro i i1 i2
  rw [h i _ i1 i2,take_succ_at i1 i2,List.foldl_append]; rfl
theorem p_meas:∀ (N:Nat) (c:Condition),SizeOf.sizeOf c<=N->∀ n,N<=n->condition_measureF n c=some (measN N c)
 | 0,c,h,_,_=>by have:=size_pos' c; omega
 | N+1,c,h,n,hn=>by
  obtain ⟨n,rfl⟩:∃ m,n=m+1:=⟨n - 1,by omega⟩
  rw [condition_measureF,measN,meas_loop (g:=fun s k=>(w64 (s.1+(measN N k).1),max s.2 (measN N k).2))]
  ·simp only [bs,decide_eq_true_eq]
   by_cases h5:c.Kind=5
   ·rw [if_pos h5,if_pos h5]; rfl
   ·rw [if_neg h5,if_neg h5]; rfl
  ·intro i s i1 i2
   have:=size_kid (at_mem (l:=c.Kids) i1 i2)
   rw [idx_at i1 i2,bs,p_meas N _ (by omega) n (by omega)]; rfl
theorem r_meas:∀ (N:Nat) (c:Condition),SizeOf.sizeOf c<=N->∀ n,N<=n->ref22_MeasureF n c=some (measN N c)
 | 0,c,h,_,_=>by have:=size_pos' c; omega
 | N+1,c,h,n,hn=>by
  obtain ⟨n,rfl⟩:∃ m,n=m+1:=⟨n - 1,by omega⟩
  rw [ref22_MeasureF,measN,meas_loop (g:=fun s k=>(w64 (s.1+(measN N k).1),max s.2 (measN N k).2))]
  ·simp only [bs,decide_eq_true_eq]
   by_cases h5:c.Kind=5
   ·rw [if_pos h5,if_pos h5]; rfl
   ·rw [if_neg h5,if_neg h5]; rfl
  ·intro i s i1 i2
   have:=size_kid (at_mem (l:=c.Kids) i1 i2)
   rw [idx_at i1 i2,bs,r_meas N _ (by omega) n (by omega)]; rfl
noncomputable def measS (c:Condition):Int × Int:=measN (SizeOf.sizeOf c) c
noncomputable def shapeE (c:Condition):Int:=if wfB c=false then 1 else if 12<(measS c).1∨3<(measS c).2 then 3 else 0
theorem p_shape {c:Condition} (hf:FewC c):condition_shape c=some (shapeE c):=by
 unfold condition_shape shapeE
 rw [p_wfB hf,bs,show condition_measure c=some (measS c) from lim_eq (SizeOf.sizeOf c) fun n hn=>p_meas _ c (Nat.le_refl _) n hn,bs]
 exact chB fun _=>chP (by simp) fun _=>rfl
theorem r_shape {c:Condition} (hf:FewC c):ref22_Shape c=some (shapeE c):=by
 unfold ref22_Shape shapeE
 rw [r_wfB hf,bs,show ref22_Measure c=some (measS c) from lim_eq (SizeOf.sizeOf c) fun n hn=>r_meas _ c (Nat.le_refl _) n hn,bs]
 exact chB fun _=>chP (by simp) fun _=>rfl
end Go.Sf.Sc
namespace Go.Sf.Sc
open Go Go.Sf
def leafB (t:Types) (l:List Int):Bool:=!(l.any fun k=>t.Nodes.any fun n=>decide (n.Parent=k))
end Go.Sf.Sc
