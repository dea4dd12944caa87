/- Plain lemmas: what the functions of the program and of the reference compute. -/
import Derived.Test.YtmaobfbhdkafkaaGreatP11
import Derived.Test.YtmaobfbhdkafkaaGreatEvA
set_option maxRecDepth 100000
namespace Go.Sf.Sc
open Go Go.Sf
end Go.Sf.Sc
namespace Go.Sf.Sc
open Go Go.Sf
theorem same_of {α:Type} [Inhabited α] (b:α->α->Bool) {l m:List α} (hb:∀ x∈l,∀ y∈m,(b x y=true↔x=y)) (hl:l.length=m.length):anyR (fun i=>!b (at' l i) (at' m i)) 0 l.length=false↔l=m:=by
 rw [anyR_false]
 constructor
 ·intro h
  refine at_ext hl (fun i i1 i2=>?_)
  have:=h i i1 i2
  rw [Bool.not_eq_false'] at this
  exact (hb _ (at_mem i1 i2) _ (at_mem i1 (by omega))).1 this
 ·rintro rfl i i1 i2
  rw [Bool.not_eq_false']
  exact (hb _ (at_mem i1 i2) _ (at_mem i1 i2)).2 rfl
theorem eq_loop {α:Type} [Inhabited α] [DecidableEq α] {l m:List α} (hl:l.length=m.length) {k:Unit->Option Bool} {kr:Bool->Option Bool}:thenR (forR (ρ:=Bool) (fun (i0:Int) (_:Unit)=>
 (idx l i0).bind fun x18=>
 (idx m i0).bind fun x22=>
 if (!decide (x18=x22))=true then
 some (.ret false)
 else
 some (.next ())) 0 (l.length:Int) ()) k kr=if l=m then k () else kr false:=by
 rw [forR_any (fun i=>!decide (at' l i=at' m i)) false]
 ·have:=same_of (fun x y:α=>decide (x=y)) (l:=l) (m:=m) (fun _ _ _ _=>decide_eq_true_iff) hl
  by_cases h:l=m
  ·rw [this.2 h,if_pos h]; rfl
  ·rw [if_neg h]
   cases hx:anyR (fun i=>!decide (at' l i=at' m i)) 0 l.length
   ·exact absurd (this.1 hx) h
   ·rfl
 ·intro i i1 i2 _
  rw [idx_at i1 i2,bs,idx_at i1 (by omega),bs,if_b]
theorem eq_list {α:Type} [Inhabited α] [DecidableEq α] (l m:List α):(if (!decide ((l.length:Int)=(m.length:Int)))=true then
 some false
 else
 thenR (forR (ρ:=Bool) (fun (i0:Int) (_:Unit)=>
 (idx l i0).bind fun x18=>
 (idx m i0).bind fun x22=>
 if (!decide (x18=x22))=true then
 some (.ret false)
 else
 some (.next ())) 0 (l.length:Int) ()) (fun _=>
 some true) (fun v0=>some v0))=some (decide (l=m)):=by
 by_cases hl:l.length=m.length
 ·rw [if_neg (by simp [hl]),eq_loop hl]
  by_cases h:l=m
  ·rw [if_pos h,decide_eq_true h]
  ·rw [if_neg h,decide_eq_false h]
 ·rw [if_pos (by simp; omega),decide_eq_false (fun e=>hl (by rw [e]))]
theorem q_int (l m:List Int):slices_Equal_int l m=some (decide (l=m)):=eq_list l m
theorem q_edge (l m:List Edge):slices_Equal_Edge l m=some (decide (l=m)):=eq_list l m
theorem q_slot (l m:List Slot):slices_Equal_Slot l m=some (decide (l=m)):=eq_list l m
theorem q_test (l m:List Test):slices_Equal_Test l m=some (decide (l=m)):=eq_list l m
theorem q_ints2 (l m:List Int):ref02_SameInts l m=some (decide (l=m)):=eq_list l m
theorem q_ints5 (l m:List Int):ref05_SameInts l m=some (decide (l=m)):=eq_list l m
theorem p_sameM (a b:Morphism):morphism_Same a b=some (decide (a=b)):=by
 unfold morphism_Same
 rw [q_int,q_int]
 obtain ⟨a1,a2⟩:=a
 obtain ⟨b1,b2⟩:=b
 by_cases h:a1=b1 <;> by_cases h':a2=b2 <;> simp [h,h']
theorem r_sameM (a b:Morphism):ref06_Same a b=some (decide (a=b)):=by
 unfold ref06_Same
 rw [q_ints2,q_ints2]
 obtain ⟨a1,a2⟩:=a
 obtain ⟨b1,b2⟩:=b
 by_cases h:a1=b1 <;> by_cases h':a2=b2 <;> simp [h,h']
theorem r_sameG (a b:Graph):ref05_Same a b=some (decide (a=b)):=by
 unfold ref05_Same
 rw [q_ints5,bs]
 obtain ⟨a1,a2⟩:=a
 obtain ⟨b1,b2⟩:=b
 by_cases h:a1=b1
 ·by_cases hl:a2.length=b2.length
  ·rw [if_neg (by simp [h,hl]),eq_loop hl]
   by_cases h':a2=b2 <;> simp [h,h']
  ·rw [if_pos (by simp; omega)]
   rw [decide_eq_false (fun e=>hl (by cases e; rfl))]
 ·simp [h]
theorem r_sameQ (a b:Pattern):ref21_Same a b=some (decide (a=b)):=by
 unfold ref21_Same
 rw [r_sameG,bs]
 obtain ⟨a1,a2,a3,a4⟩:=a
 obtain ⟨b1,b2,b3,b4⟩:=b
 by_cases h:a1=b1∧a3=b3∧a2.length=b2.length∧a4.length=b4.length
 ·obtain ⟨h1,h2,h3,h4⟩:=h
  rw [if_neg (by simp [h1,h2,h3,h4]),eq_loop h3]
  by_cases k1:a2=b2
  ·rw [if_pos k1,eq_loop h4]
   by_cases k2:a4=b4 <;> simp [h1,h2,k1,k2]
  ·simp [k1]
 ·rw [if_pos ?_]
  ·rw [decide_eq_false (fun e=>h (by cases e; exact ⟨rfl,rfl,rfl,rfl⟩))]
  ·by_cases h1:a1=b1
   ·by_cases h2:a3=b3
    ·by_cases h3:a2.length=b2.length
     ·have h4:¬ a4.length=b4.length:=fun h4=>h ⟨h1,h2,h3,h4⟩
      simp; omega
     ·simp; omega
    ·simp [h2]
   ·simp [h1]
noncomputable def eqC (a b:Condition):Bool:=@decide (a=b) (Classical.propDecidable _)
theorem eqC_iff {a b:Condition}:eqC a b=true↔a=b:=by
 unfold eqC
 exact @decide_eq_true_iff _ (Classical.propDecidable _)
noncomputable def eqL (l m:List Condition):Bool:=@decide (l=m) (Classical.propDecidable _)
theorem eqL_iff {l m:List Condition}:eqL l m=true↔l=m:=by
 unfold eqL
 exact @decide_eq_true_iff _ (Classical.propDecidable _)
theorem eqC_all (a b:Condition):eqC a b=(decide (a.Kind=b.Kind)&&decide (a.Map=b.Map)&&decide (a.Pattern=b.Pattern)&&eqL a.Kids b.Kids):=by
 rw [Bool.eq_iff_iff,eqC_iff]
 obtain ⟨a1,a2,a3,a4⟩:=a
 obtain ⟨b1,b2,b3,b4⟩:=b
 simp only [Bool.and_eq_true,decide_eq_true_eq,eqL_iff,Condition.mk.injEq]
 constructor
 ·rintro ⟨h1,h2,h3,h4⟩; exact ⟨⟨⟨h1,h3⟩,h4⟩,h2⟩
 ·rintro ⟨⟨⟨h1,h3⟩,h4⟩,h2⟩; exact ⟨h1,h2,h3,h4⟩
theorem kids_loop {l m:List Condition} {f:Condition->Condition->Option Bool} (hf:∀ x∈l,∀ y,f x y=some (eqC x y)) (hl:l.length=m.length):thenR (forR (ρ:=Bool) (fun (i0:Int) (_:Unit)=>
 (idx l i0).bind fun x20=>
 (idx m i0).bind fun x24=>
 (f x20 x24).bind fun x29=>
 if (!x29)=true then
 some (.ret false)
 else
 some (.next ())) 0 (l.length:Int) ()) (fun _=>
 some true) (fun v0=>some v0)=some (eqL l m):=by
 rw [forR_any (fun i=>!eqC (at' l i) (at' m i)) false]
 ·have:=same_of eqC (l:=l) (m:=m) (fun _ _ _ _=>eqC_iff) hl
  cases hx:anyR (fun i=>!eqC (at' l i) (at' m i)) 0 l.length
  ·rw [eqL_iff.2 (this.1 hx)]; rfl
  ·have:eqL l m=false:=by
    rw [←Bool.not_eq_true,eqL_iff]
    intro h
    rw [this.2 h] at hx; cases hx
   rw [this]; rfl
 ·intro i i1 i2 _
  rw [idx_at i1 i2,bs,idx_at i1 (by omega),bs,hf _ (at_mem i1 i2),bs,if_b]
theorem eqL_len {l m:List Condition} (h:¬ l.length=m.length):eqL l m=false:=by
 rw [←Bool.not_eq_true,eqL_iff]
 exact fun e=>h (by rw [e])
theorem p_same:∀ (N:Nat) (a b:Condition),SizeOf.sizeOf a<=N->∀ n,N<=n->condition_SameF n a b=some (eqC a b)
 | 0,a,_,h,_,_=>by have:=size_pos' a; omega
 | N+1,a,b,h,n,hn=>by
  obtain ⟨n,rfl⟩:∃ m,n=m+1:=⟨n - 1,by omega⟩
  have hk:slices_EqualFunc_Condition a.Kids b.Kids (condition_SameF n)=some (eqL a.Kids b.Kids):=by
   unfold slices_EqualFunc_Condition
   by_cases hl:a.Kids.length=b.Kids.length
   ·rw [if_neg (by simp [hl]),kids_loop (fun x hx y=>by have:=size_kid hx; exact p_same N x y (by omega) n (by omega)) hl]
   ·rw [if_pos (by simp; omega),eqL_len hl]
  rw [condition_SameF,p_sameM,q_int,q_edge,q_slot,q_test,hk,eqC_all]
  have hp:decide (a.Pattern=b.Pattern)=(decide (a.Pattern.Vars=b.Pattern.Vars)&&decide (a.Pattern.Graph.Nodes=b.Pattern.Graph.Nodes)&&decide (a.Pattern.Graph.Edges=b.Pattern.Graph.Edges)&&decide (a.Pattern.Slots=b.Pattern.Slots)&&decide (a.Pattern.Tests=b.Pattern.Tests)):=by
   rw [Bool.eq_iff_iff]
   simp only [Bool.and_eq_true,decide_eq_true_eq]
   obtain ⟨_,_,_,⟨⟨a1,a2⟩,a3,a4,a5⟩⟩:=a
   obtain ⟨_,_,_,⟨⟨b1,b2⟩,b3,b4,b5⟩⟩:=b
   simp only [Pattern.mk.injEq,Graph.mk.injEq]
   constructor
   ·rintro ⟨⟨h1,h2⟩,h3,h4,h5⟩; exact ⟨⟨⟨⟨h4,h1⟩,h2⟩,h3⟩,h5⟩
   ·rintro ⟨⟨⟨⟨h4,h1⟩,h2⟩,h3⟩,h5⟩; exact ⟨⟨h1,h2⟩,h3,h4,h5⟩
  rw [hp]
  generalize decide (a.Kind=b.Kind)=c1
  generalize decide (a.Map=b.Map)=c2
  generalize decide (a.Pattern.Vars=b.Pattern.Vars)=c3
  generalize decide (a.Pattern.Graph.Nodes=b.Pattern.Graph.Nodes)=c4
  generalize decide (a.Pattern.Graph.Edges=b.Pattern.Graph.Edges)=c5
  generalize decide (a.Pattern.Slots=b.Pattern.Slots)=c6
  generalize decide (a.Pattern.Tests=b.Pattern.Tests)=c7
  generalize eqL a.Kids b.Kids=c8
  cases c1
  ·rfl
  cases c2
  ·rfl
  cases c3
  ·rfl
  cases c4
  ·rfl
  cases c5
  ·rfl
  cases c6
  ·rfl
  cases c7
  ·rfl
  rfl
theorem p_sameC (a b:Condition):condition_Same a b=some (eqC a b):=lim_eq (SizeOf.sizeOf a) fun n hn=>p_same _ a b (Nat.le_refl _) n hn
theorem r_same:∀ (N:Nat) (a b:Condition),SizeOf.sizeOf a<=N->∀ n,N<=n->ref22_SameF n a b=some (eqC a b)
 | 0,a,_,h,_,_=>by have:=size_pos' a; omega
 | N+1,a,b,h,n,hn=>by
  obtain ⟨n,rfl⟩:∃ m,n=m+1:=⟨n - 1,by omega⟩
  rw [ref22_SameF,r_sameM,r_sameQ,eqC_all]
  by_cases hl:a.Kids.length=b.Kids.length
  ·rw [kids_loop (fun x hx y=>by have:=size_kid hx; exact r_same N x y (by omega) n (by omega)) hl,decide_eq_true (show (a.Kids.length:Int)=b.Kids.length by rw [hl])]
   generalize decide (a.Kind=b.Kind)=c1
   generalize decide (a.Map=b.Map)=c2
   generalize decide (a.Pattern=b.Pattern)=c3
   cases c1
   ·rfl
   cases c2
   ·rfl
   cases c3
   ·rfl
   rfl
  ·rw [decide_eq_false (show ¬ (a.Kids.length:Int)=b.Kids.length by omega),eqL_len hl]
   generalize decide (a.Kind=b.Kind)=c1
   simp
theorem r_sameC (a b:Condition):ref22_Same a b=some (eqC a b):=lim_eq (SizeOf.sizeOf a) fun n hn=>r_same _ a b (Nat.le_refl _) n hn
end Go.Sf.Sc
namespace Go.Sf.Sc
open Go Go.Sf
mutual
def cnt:Condition->Nat
 | ⟨_,kids,_,_⟩=>1+cntL kids
def cntL:List Condition->Nat
 | []=>0
 | k::l=>cnt k+cntL l
end
mutual
def dep:Condition->Nat
 | ⟨k,kids,_,_⟩=>(if k=5 then 1 else 0)+depL kids
def depL:List Condition->Nat
 | []=>0
 | k::l=>max (dep k) (depL l)
end
theorem cnt_eq (c:Condition):cnt c=1+cntL c.Kids:=by cases c; rfl
theorem dep_eq (c:Condition):dep c=(if c.Kind=5 then 1 else 0)+depL c.Kids:=by cases c; rfl
theorem drop_at {l:List Condition} {k:Int} (h0:0<=k) (h1:k<l.length):l.drop k.toNat=at' l k::l.drop (k+1).toNat:=by
 rw [show (k+1).toNat=k.toNat+1 by omega,List.drop_eq_getElem_cons (by omega)]
 unfold at'
 rw [List.getD_eq_getElem?_getD,List.getElem?_eq_getElem (by omega)]; rfl
theorem few_left2:∀ (N:Nat) (c:Condition),SizeOf.sizeOf c<=N->(eCondition c).Sm->∀ most:Int,0<=most->most<=1000->∃ r,(∀ n,N<=n->ref22_leftF n c most=some r)∧-1<=r∧r<=most - 1∧(0<=r->FewC c∧(cnt c:Int)+r<=most)
 | 0,c,h,_,_,_,_=>by have:=size_pos' c; omega
 | N+1,c,h,hs,most,m0,m1=>by
  obtain ⟨hm,hkl,hk⟩:=cond_sm hs
  obtain ⟨b1,e1,f1⟩:=few_pat c.Pattern
  obtain ⟨b2,e2,f2⟩:=few_mor hm
  have step:∀ n,N+1<=n->∃ m,n=m+1∧N<=m:=fun n hn=>⟨n - 1,by omega,by omega⟩
  cases b1
  ·refine ⟨-1,fun n hn=>?_,by omega,by omega,fun h=>by omega⟩
   obtain ⟨n,rfl,_⟩:=step n hn
   rw [ref22_leftF,e1]; rfl
  cases b2
  ·refine ⟨-1,fun n hn=>?_,by omega,by omega,fun h=>by omega⟩
   obtain ⟨n,rfl,_⟩:=step n hn
   rw [ref22_leftF,e1,bs,e2]; rfl
  have loop:∀ (m:Nat) (k left:Int),0<=k->k+m=c.Kids.length->-1<=left->left<=1000->∃ l' k',(∀ n,N<=n->WhEv (ρ:=Int) (fun (s0:Int × Int)=>
    if ((decide (s0.2<(c.Kids.length:Int)))&&(decide (0<=s0.1)))=true then
    (idx c.Kids s0.2).bind fun x32=>
    (ref22_leftF n x32 s0.1).bind fun x35=>
    some (.next (x35,w64 (s0.2+1)))
    else
    some (.brk (s0.1,s0.2))) (left,k) (.inl (l',k')))∧-1<=l'∧l'<=left∧(0<=l'->(∀ j,k<=j->j<c.Kids.length->FewC (at' c.Kids j))∧(cntL (c.Kids.drop k.toNat):Int)+l'<=left):=by
   intro m
   induction m with
   | zero=>
    intro k left k0 kl l0 l1
    refine ⟨left,k,fun n hn=>.brk ?_,l0,by omega,fun _=>⟨fun j j1 j2=>by omega,?_⟩⟩
    ·rw [if_neg (by simp; omega)]
    ·rw [List.drop_of_length_le (by omega),cntL]; omega
   | succ m ih=>
    intro k left k0 kl l0 l1
    by_cases hl:0<=left
    ·have hmem:=at_mem (l:=c.Kids) k0 (by omega)
     have:=size_kid hmem
     obtain ⟨r,r1,r2,r3,r4⟩:=few_left2 N _ (by omega) (hk _ hmem) left hl l1
     obtain ⟨l',k',a1,a2,a3,a4⟩:=ih (k+1) r (by omega) (by omega) r2 (by omega)
     refine ⟨l',k',fun n hn=>.next (s':=(r,k+1)) ?_ (a1 n hn),a2,by omega,fun h0=>⟨fun j j1 j2=>?_,?_⟩⟩
     ·rw [if_pos (by simp; omega),idx_at k0 (by omega),bs,r1 n hn,bs,w64_id (by omega) (by omega)]
     ·by_cases hj:j=k
      ·subst hj; exact (r4 (by omega)).1
      ·exact (a4 h0).1 j (by omega) j2
     ·have e1:=(r4 (by omega)).2
      have e2:=(a4 h0).2
      rw [drop_at k0 (by omega),cntL]
      omega
    ·refine ⟨left,k,fun n hn=>.brk ?_,l0,by omega,fun h=>by omega⟩
     rw [if_neg (by simp; omega)]
  obtain ⟨l',k',a1,a2,a3,a4⟩:=loop c.Kids.length 0 (most - 1) (by omega) (by omega) (by omega) (by omega)
  refine ⟨l',fun n hn=>?_,a2,a3,fun h0=>⟨.mk c (f1 rfl) (f2 rfl) (fun k hk=>?_),?_⟩⟩
  ·obtain ⟨n,rfl,hn'⟩:=step n hn
   rw [ref22_leftF,e1,bs,e2]
   simp only [bs,Bool.not_true,Bool.false_eq_true,if_false]
   rw [w64_id (n:=most - 1) (by omega) (by omega),(a1 n hn').eq,thenR_inl]
  ·obtain ⟨j,j1,j2,rfl⟩:=mem_at hk
   exact (a4 h0).1 j j1 j2
  ·have:=(a4 h0).2
   rw [show (0:Int).toNat=0 from rfl,List.drop_zero] at this
   rw [cnt_eq]
   omega
theorem few_cond2 {c:Condition} (hs:(eCondition c).Sm):∃ b,ref22_Few c=some b∧(b=true->FewC c∧cnt c<=40):=by
 obtain ⟨r,r1,_,_,r4⟩:=few_left2 (SizeOf.sizeOf c) c (Nat.le_refl _) hs 40 (by omega) (by omega)
 have e:ref22_left c 40=some r:=lim_eq (SizeOf.sizeOf c) r1
 unfold ref22_Few
 rw [e]
 exact ⟨_,rfl,fun h=>by have:=r4 (by simpa using h); exact ⟨this.1,by have:=this.2; simp at h; omega⟩⟩
theorem cntL_mem:∀ {l:List Condition} {k:Condition},k∈l->cnt k<=cntL l
 | x::l,k,h=>by
  rw [cntL]
  rcases List.mem_cons.1 h with rfl | h
  ·omega
  ·have:=cntL_mem h; omega
theorem dep_cnt:∀ (N:Nat) (c:Condition),SizeOf.sizeOf c<=N->dep c<=cnt c
 | 0,c,h=>by have:=size_pos' c; omega
 | N+1,c,h=>by
  have key:∀ l:List Condition,(∀ k∈l,k∈c.Kids)->depL l<=cntL l:=by
   intro l
   induction l with
   | nil=>intro _; exact Nat.le_refl _
   | cons k l ih=>
    intro hl
    have h1:=ih (fun x hx=>hl x (List.mem_cons_of_mem _ hx))
    have:=size_kid (hl k List.mem_cons_self)
    have h2:=dep_cnt N k (by omega)
    rw [depL,cntL]
    omega
  have:=key c.Kids (fun _ h=>h)
  rw [dep_eq,cnt_eq]
  split <;> omega
theorem meas_eq:∀ (N:Nat) (c:Condition),SizeOf.sizeOf c<=N->cnt c<=1000->measN N c=((cnt c:Int),(dep c:Int))
 | 0,c,h,_=>by have:=size_pos' c; omega
 | N+1,c,h,hc=>by
  have key:∀ (l:List Condition) (a b:Nat),(∀ k∈l,k∈c.Kids)->a+cntL l<=1000->l.foldl (fun s k=>(w64 (s.1+(measN N k).1),max s.2 (measN N k).2)) (((a:Int),(b:Int)):Int × Int)=(((a+cntL l:Nat):Int),((max b (depL l):Nat):Int)):=by
   intro l
   induction l with
   | nil=>intro a b _ _; simp [cntL,depL]
   | cons k l ih=>
    intro a b hl ha
    rw [cntL] at ha
    have:=size_kid (hl k List.mem_cons_self)
    rw [List.foldl_cons,meas_eq N k (by omega) (by omega)]
    have e1:w64 ((a:Int)+(cnt k:Int))=((a+cnt k:Nat):Int):=by rw [w64_id (by omega) (by omega)]; omega
    have e2:max (b:Int) (dep k:Int)=((max b (dep k):Nat):Int):=by omega
    simp only [e1,e2]
    rw [ih (a+cnt k) (max b (dep k)) (fun x hx=>hl x (List.mem_cons_of_mem _ hx)) (by omega),cntL,depL,Nat.add_assoc,Nat.max_assoc]
  have hc':=hc
  rw [cnt_eq] at hc'
  have:=key c.Kids 1 0 (fun _ h=>h) hc'
  have hd:=dep_cnt (N+1) c h
  rw [measN]
  rw [show ((1,0):Int × Int)=(((1:Nat):Int),((0:Nat):Int)) from rfl,this,cnt_eq,dep_eq]
  rw [dep_eq] at hd
  by_cases h5:c.Kind=5
  ·rw [if_pos h5] at hd ⊢
   rw [if_pos h5]
   rw [w64_id (by simp only [Nat.zero_max]; omega) (by simp only [Nat.zero_max]; omega)]
   simp only [Nat.zero_max,Prod.mk.injEq,true_and]
   omega
  ·rw [if_neg h5,if_neg h5]
   simp
theorem measS_eq {c:Condition} (h:cnt c<=1000):measS c=((cnt c:Int),(dep c:Int)):=meas_eq _ c (Nat.le_refl _) h
end Go.Sf.Sc
namespace Go.Sf.Sc
open Go Go.Sf
def yesC:Condition:=⟨1,[],⟨[],[]⟩,⟨⟨[],[]⟩,[],0,[]⟩⟩
def noC:Condition:=⟨2,[yesC],⟨[],[]⟩,⟨⟨[],[]⟩,[],0,[]⟩⟩
theorem p_yes:condition_yes=some yesC:=rfl
theorem p_no:condition_no=some noC:=rfl
theorem r_true:ref22_True=some yesC:=rfl
theorem r_false:ref22_False=some noC:=rfl
inductive NF:Condition->Prop
 | yes:NF yesC
 | not (k:Condition) (h:NF k) (h2:k.Kind≠2):NF ⟨2,[k],⟨[],[]⟩,⟨⟨[],[]⟩,[],0,[]⟩⟩
 | conn (kd:Int) (ks:List Condition) (hk:kd=3∨kd=4) (h2:2<=ks.length) (h:∀ x∈ks,NF x) (hx:∀ x∈ks,x.Kind≠kd∧x≠yesC∧x≠noC) (hd:ks.Nodup):NF ⟨kd,ks,⟨[],[]⟩,⟨⟨[],[]⟩,[],0,[]⟩⟩
 | ex (k:Condition) (m:Morphism) (p:Pattern) (h:NF k) (hn:k≠noC):NF ⟨5,[k],m,p⟩
theorem NF.no:NF noC:=.not yesC .yes (by decide)
theorem NF.kids {c:Condition} (h:NF c):∀ x∈c.Kids,NF x:=by
 cases h with
 | yes=>intro x hx; cases hx
 | not k h _=>intro x hx; rw [List.mem_singleton.1 hx]; exact h
 | conn kd ks _ _ h _ _=>exact h
 | ex k m p h _=>intro x hx; rw [List.mem_singleton.1 hx]; exact h
theorem NF.yes_iff {c:Condition} (h:NF c):c.Kind=1↔c=yesC:=by
 cases h with
 | yes=>exact ⟨fun _=>rfl,fun _=>rfl⟩
 | not k h _=>exact ⟨fun e=>by simp at e,fun e=>by rw [e]; rfl⟩
 | conn kd ks hk _ _ _ _=>exact ⟨fun e=>by simp at e; omega,fun e=>by rw [e]; rfl⟩
 | ex k m p _ _=>exact ⟨fun e=>by simp at e,fun e=>by rw [e]; rfl⟩
theorem NF.kid2 {c:Condition} (h:NF c) (h2:c.Kind=2):∃ k,c=⟨2,[k],⟨[],[]⟩,⟨⟨[],[]⟩,[],0,[]⟩⟩∧NF k∧k.Kind≠2:=by
 cases h with
 | yes=>simp [yesC] at h2
 | not k h h3=>exact ⟨k,rfl,h,h3⟩
 | conn kd ks hk _ _ _ _=>simp at h2; omega
 | ex k m p _ _=>simp at h2
theorem p_isYes {c:Condition} (h:NF c):condition_isYes c=some (eqC c yesC):=by
 unfold condition_isYes
 congr 1
 rw [Bool.eq_iff_iff,eqC_iff,decide_eq_true_eq]
 exact h.yes_iff
theorem p_isNo {c:Condition} (h:NF c):condition_isNo c=some (eqC c noC):=by
 unfold condition_isNo
 by_cases h2:c.Kind=2
 ·obtain ⟨k,rfl,hk,_⟩:=h.kid2 h2
  rw [if_pos (by simp)]
  show some (decide (k.Kind=1))=_
  congr 1
  rw [Bool.eq_iff_iff,eqC_iff,decide_eq_true_eq,hk.yes_iff]
  constructor
  ·rintro rfl; rfl
  ·intro e
   simp only [noC,Condition.mk.injEq,List.cons.injEq] at e
   exact e.2.1.1
 ·rw [if_neg (by simpa using h2)]
  have:eqC c noC=false:=by
   rw [←Bool.not_eq_true,eqC_iff]
   rintro rfl; exact h2 rfl
  rw [this]; rfl
def flat (kd:Int) (l:List Condition):List Condition:=l.flatMap fun c=>if c.Kind=kd then c.Kids else [c]
theorem flat_app (kd:Int) (l m:List Condition):flat kd (l++m)=flat kd l++flat kd m:=List.flatMap_append
theorem flat_one (kd:Int) (c:Condition):flat kd [c]=if c.Kind=kd then c.Kids else [c]:=by simp [flat]
theorem flat_nf {kd:Int} {l:List Condition} (h:∀ x∈l,NF x):∀ x∈flat kd l,NF x:=by
 intro x hx
 obtain ⟨c,hc,hx⟩:=List.mem_flatMap.1 hx
 split at hx
 ·exact (h c hc).kids x hx
 ·rw [List.mem_singleton.1 hx]; exact h c hc
theorem flat_loop {kd:Int} {l:List Condition} {f:Int->List Condition->Option (List Condition)} (hl:(flat kd l).length<=1000) (h:∀ (i:Int) s,0<=i->i<l.length->f i s=if decide ((at' l i).Kind=kd)=true then appC s (at' l i).Kids else appC s [at' l i]):forA f 0 l.length []=some (flat kd l):=by
 rw [forA_fn (fun i=>flat kd (l.take i.toNat)) (by omega) (by rfl)]
 ·rw [Int.toNat_natCast,List.take_length]
 ·intro i i1 i2
  have e:flat kd (l.take (i+1).toNat)=flat kd (l.take i.toNat)++if (at' l i).Kind=kd then (at' l i).Kids else [at' l i]:=by
   rw [take_succ_at i1 i2,flat_app,flat_one]
  have hb:(flat kd (l.take (i+1).toNat)).length<=1000:=by
   have:=congrArg List.length (flat_app kd (l.take (i+1).toNat) (l.drop (i+1).toNat))
   rw [List.take_append_drop,List.length_append] at this
   omega
  rw [e,List.length_append] at hb
  rw [h i _ i1 i2,e]
  by_cases hk:(at' l i).Kind=kd
  ·rw [if_pos hk] at hb ⊢
   rw [if_pos (by simpa using hk),appC_some (by unfold nmax; omega)]
  ·rw [if_neg hk] at hb ⊢
   rw [if_neg (by simpa using hk),appC_some (by unfold nmax; omega)]
noncomputable def sel (ab ne:Condition):List Condition->List Condition->Option (List Condition)
 | out,[]=>some out
 | out,x::l=>if eqC x ab=true then none else sel ab ne (if (!eqC x ne&&!out.any fun y=>eqC y x)=true then out++[x] else out) l
theorem sel_loop {σ:Type} {l:List Condition} {ab ne:Condition} {z:σ} {f:Int->σ × List Condition->Option (Ctl (σ × List Condition) Condition)}
  (h:∀ (i:Int) out,0<=i->i<l.length->(out.length:Int)<=i->f i (z,out)=some (if eqC (at' l i) ab=true then .ret ab else .next (z,if (!eqC (at' l i) ne&&!out.any fun y=>eqC y (at' l i))=true then out++[at' l i] else out))) :
  forR f 0 l.length (z,[])=some (match sel ab ne [] l with | some out=>.inl (z,out) | none=>.inr ab):=by
 have key:∀ (m i:Nat) (out:List Condition),i+m=l.length->out.length<=i->forGo f m (i:Int) (z,out)=some (match sel ab ne out (l.drop i) with | some out=>.inl (z,out) | none=>.inr ab):=by
  intro m
  induction m with
  | zero=>intro i out hi _; rw [List.drop_of_length_le (by omega)]; rfl
  | succ m ih=>
   intro i out hi ho
   have hd:=drop_at (l:=l) (k:=(i:Int)) (by omega) (by omega)
   rw [show ((i:Int)+1).toNat=i+1 by omega,Int.toNat_natCast] at hd
   rw [forGo_step,h i out (by omega) (by omega) (by omega),hd,sel]
   by_cases hb:eqC (at' l i) ab=true
   ·rw [if_pos hb,if_pos hb]
   ·rw [if_neg hb,if_neg hb]
    exact ih (i+1) _ (by omega) (by split <;> (try simp only [List.length_append,List.length_cons,List.length_nil]) <;> omega)
 have:=key l.length 0 [] (by omega) (Nat.zero_le _)
 unfold forR
 rw [show ((l.length:Int) - 0).toNat=l.length by omega]
 exact this
noncomputable def abC (kd:Int):Condition:=if kd=4 then yesC else noC
noncomputable def neC (kd:Int):Condition:=if kd=4 then noC else yesC
def endC (kd:Int) (ne:Condition) (out:List Condition):Condition:=if out.length=0 then ne else if out.length=1 then at' out 0 else ⟨kd,out,⟨[],[]⟩,⟨⟨[],[]⟩,[],0,[]⟩⟩
noncomputable def conn (kd:Int) (l:List Condition):Condition:=match sel (abC kd) (neC kd) [] (flat kd l) with | some out=>endC kd (neC kd) out | none=>abC kd
theorem end_eq (kd:Int) (ne:Condition) (out:List Condition):(if (decide ((out.length:Int)=0))=true then
 some ne
 else
 if (decide ((out.length:Int)=1))=true then
 (idx out 0).bind fun x73=>
 some x73
 else
 some (Condition.mk kd out (Morphism.mk [] []) (Pattern.mk (Graph.mk [] []) [] 0 [])))=some (endC kd ne out):=by
 unfold endC
 by_cases h0:out.length=0
 ·rw [if_pos (by simp [h0]),if_pos h0]
 ·rw [if_neg (by simp; exact fun e=>h0 (by simp [e])),if_neg h0]
  by_cases h1:out.length=1
  ·rw [if_pos (by simp [h1]),if_pos h1,idx_at (by omega) (by omega)]; rfl
  ·rw [if_neg (by simp; omega),if_neg h1]
end Go.Sf.Sc
namespace Go.Sf.Sc
open Go Go.Sf
theorem list_body {σ:Type} {x ab ne:Condition} {out:List Condition} {z:σ} {fa fn:Condition->Option Bool} (ha:fa x=some (eqC x ab)) (hn:fn x=some (eqC x ne)) (ho:out.length<=1000) :
  ((fa x).bind fun x48=>
 if x48=true then
 some (.ret ab)
 else
 (fn x).bind fun x52=>
 (if (!x52)=true then ((slices_ContainsFunc_Condition out (fun y0=>condition_list_1 y0 x)).bind fun x57=>
 some (!x57)) else some false).bind fun x59=>
 if x59=true then
 (appC out [x]).bind fun x63=>
 some (.next (z,x63))
 else
 some (.next (z,out)))=some (if eqC x ab=true then .ret ab else (.next (z,if (!eqC x ne&&!out.any fun y=>eqC y x)=true then out++[x] else out):Ctl (σ × List Condition) Condition)):=by
 rw [ha,bs]
 cases eqC x ab
 ·rw [if_neg (by decide),hn,bs,cf_Condition (p:=fun y=>eqC y x) (fun y _=>by
   unfold condition_list_1
   rw [p_sameC]; rfl),appC_some (l:=out) (m:=[x]) (by simp; unfold nmax; omega)]
  cases eqC x ne
  ·cases out.any fun y=>eqC y x
   ·rfl
   ·rfl
  ·rfl
 ·rfl
theorem p_list {kd:Int} (hk:kd=3∨kd=4) {l:List Condition} (hn:∀ x∈l,NF x) (hl:(flat kd l).length<=1000):condition_list kd l=some (conn kd l):=by
 have hf:∀ (i:Int) (s:List Condition),0<=i->i<l.length->((idx l i).bind fun x25=>
   if (decide (x25.Kind=kd))=true then
   (appC s x25.Kids).bind fun x34=>
   some x34
   else
   (appC s [x25]).bind fun x38=>
   some x38)=if decide ((at' l i).Kind=kd)=true then appC s (at' l i).Kids else appC s [at' l i]:=by
  intro i s i1 i2
  rw [idx_at i1 i2,bs]
  simp only [Option.bind_fun_some]
 have hm:=flat_nf (kd:=kd) hn
 unfold condition_list conn
 rw [p_yes,bs,p_no,bs]
 rcases hk with rfl | rfl
 ·rw [if_neg (by decide),flat_loop hl hf,bs,show abC 3=noC from rfl,show neC 3=yesC from rfl,sel_loop (ab:=noC) (ne:=yesC) (fun i out i1 i2 ho=>by
   have hx:=hm _ (at_mem i1 i2)
   rw [idx_at i1 i2,bs]
   exact list_body (out:=out) (fa:=condition_isNo) (fn:=condition_isYes) (p_isNo hx) (p_isYes hx) (by omega))]
  cases sel noC yesC [] (flat 3 l) with
  | none=>rfl
  | some out=>exact end_eq 3 yesC out
 ·rw [if_pos (by decide),bs,bs,flat_loop hl hf,bs,show abC 4=yesC from rfl,show neC 4=noC from rfl,sel_loop (ab:=yesC) (ne:=noC) (fun i out i1 i2 ho=>by
   have hx:=hm _ (at_mem i1 i2)
   rw [idx_at i1 i2,bs]
   exact list_body (out:=out) (fa:=condition_isYes) (fn:=condition_isNo) (p_isYes hx) (p_isNo hx) (by omega))]
  cases sel yesC noC [] (flat 4 l) with
  | none=>rfl
  | some out=>exact end_eq 4 noC out
theorem r_conn {kd:Int} (hk:kd=3∨kd=4) {l:List Condition} (hl:(flat kd l).length<=1000):ref22_connected kd l=some (conn kd l):=by
 have hw:(if (decide (kd=4))=true then
   (ref22_False).bind fun x17=>
   (ref22_True).bind fun x18=>
   some (x17,x18)
   else
   some (yesC,noC))=some (neC kd,abC kd):=by
  rcases hk with rfl | rfl <;> rfl
 unfold ref22_connected conn
 rw [r_true,bs,r_false,bs]
 rw [r_true,r_false] at hw
 rw [hw,bs]
 rw [flat_loop hl (fun i s i1 i2=>by
  rw [idx_at i1 i2,bs]
  simp only [bs,Option.bind_fun_some]),bs]
 dsimp only
 rw [sel_loop (ab:=abC kd) (ne:=neC kd) (fun i out i1 i2 ho=>by
  have hin:∀ b:Bool,forA (fun (i4:Int) (s4:Bool)=>
    (if s4=true then some true else ((idx out i4).bind fun x75=>
    (idx (flat kd l) i).bind fun x79=>
    (ref22_Same x75 x79).bind fun x81=>
    some (x81))).bind fun x82=>
    some x82) 0 (out.length:Int) b=some (b||out.any fun y=>eqC y (at' (flat kd l) i)):=by
   intro b
   rw [forA_fn (fun k=>b||(out.take k.toNat).any fun y=>eqC y (at' (flat kd l) i)) (by omega) (by simp)]
   ·rw [Int.toNat_natCast,List.take_length]
   ·intro k k1 k2
    rw [idx_at k1 k2,idx_at i1 i2,take_succ_at k1 k2,List.any_append]
    simp only [bs,r_sameC,List.any_cons,List.any_nil,Bool.or_false]
    generalize eqC (at' out k) (at' (flat kd l) i)=e
    generalize (out.take k.toNat).any (fun y=>eqC y (at' (flat kd l) i))=d
    cases b <;> cases d <;> cases e <;> rfl
  rw [idx_at i1 i2,bs,r_sameC,bs]
  cases eqC (at' (flat kd l) i) (abC kd)
  ·rw [if_neg (by decide),bs,r_sameC,bs,←idx_at i1 i2,hin,bs,idx_at i1 i2,bs,appC_some (by simp; unfold nmax; omega)]
   generalize eqC (at' (flat kd l) i) (neC kd)=b
   generalize (out.any fun y=>eqC y (at' (flat kd l) i))=d
   cases b <;> cases d <;> rfl
  ·rfl)]
 cases sel (abC kd) (neC kd) [] (flat kd l) with
 | none=>rfl
 | some out=>exact end_eq kd (neC kd) out
end Go.Sf.Sc
namespace Go.Sf.Sc
open Go Go.Sf
noncomputable def topC (k:Int) (ks:List Condition) (m:Morphism) (p:Pattern):Condition:=
 if k=2 then (if (at' ks 0).Kind=2 then at' (at' ks 0).Kids 0 else ⟨2,ks,⟨[],[]⟩,⟨⟨[],[]⟩,[],0,[]⟩⟩) else
 if k=3∨k=4 then conn k ks else
 if k=5 then (if eqC (at' ks 0) noC=true then noC else ⟨5,ks,m,p⟩) else yesC
mutual
noncomputable def simpC:Condition->Condition
 | ⟨k,kids,m,p⟩=>topC k (simpL kids) m p
noncomputable def simpL:List Condition->List Condition
 | []=>[]
 | c::l=>simpC c::simpL l
end
theorem simpL_map:∀ l:List Condition,simpL l=l.map simpC
 | []=>rfl
 | c::l=>by rw [simpL,simpL_map l]; rfl
theorem simpC_eq (c:Condition):simpC c=topC c.Kind (c.Kids.map simpC) c.Map c.Pattern:=by
 cases c
 rw [simpC,simpL_map]
theorem bare_eq {c:Condition} (h:bareB c=true):c.Map=⟨[],[]⟩∧c.Pattern=⟨⟨[],[]⟩,[],0,[]⟩:=by
 obtain ⟨k,kids,⟨m1,m2⟩,⟨⟨p1,p2⟩,p3,p4,p5⟩⟩:=c
 simp only [bareB,decide_eq_true_eq,List.length_eq_zero_iff] at h
 obtain ⟨rfl,rfl,rfl,rfl,rfl,rfl,rfl⟩:=h
 exact ⟨rfl,rfl⟩
theorem cntL_app (l m:List Condition):cntL (l++m)=cntL l+cntL m:=by
 induction l with
 | nil=>simp [cntL]
 | cons x l ih=>rw [List.cons_append,cntL,cntL,ih]; omega
theorem depL_app (l m:List Condition):depL (l++m)=max (depL l) (depL m):=by
 induction l with
 | nil=>simp [depL]
 | cons x l ih=>rw [List.cons_append,depL,depL,ih]; omega
theorem cntL_len:∀ l:List Condition,l.length<=cntL l
 | []=>Nat.zero_le _
 | x::l=>by
  have:=cntL_len l
  rw [cntL,cnt_eq,List.length_cons]; omega
theorem flat_cnt (kd:Int):∀ l:List Condition,cntL (flat kd l)<=cntL l∧depL (flat kd l)<=depL l
 | []=>⟨Nat.le_refl _,Nat.le_refl _⟩
 | x::l=>by
  have ih:=flat_cnt kd l
  have e:flat kd (x::l)=(if x.Kind=kd then x.Kids else [x])++flat kd l:=rfl
  rw [e,cntL_app,depL_app,cntL,depL]
  have h1:=cnt_eq x
  have h2:=dep_eq x
  split
  ·constructor <;> omega
  ·rw [show cntL [x]=cnt x by simp [cntL],show depL [x]=dep x by simp [depL]]
   constructor <;> omega
structure Kept (kd:Int) (out:List Condition):Prop where
 nf:∀ x∈out,NF x
 ne:∀ x∈out,x.Kind≠kd∧x≠yesC∧x≠noC
 nd:out.Nodup
theorem sel_kept {kd:Int} {ab ne:Condition} (hab:(ab=yesC∧ne=noC)∨(ab=noC∧ne=yesC)):∀ (l out r:List Condition),sel ab ne out l=some r->(∀ x∈l,NF x∧x.Kind≠kd)->Kept kd out->Kept kd r∧cntL r<=cntL out+cntL l∧depL r<=max (depL out) (depL l)
 | [],out,r,h,_,hk=>by
  rw [sel] at h
  cases h
  exact ⟨hk,by simp [cntL],by simp [depL]⟩
 | x::l,out,r,h,hl,hk=>by
  rw [sel] at h
  by_cases h1:eqC x ab=true
  ·rw [if_pos h1] at h; cases h
  rw [if_neg h1] at h
  rw [eqC_iff] at h1
  have hx:=hl x List.mem_cons_self
  have hl':∀ y∈l,NF y∧y.Kind≠kd:=fun y hy=>hl y (List.mem_cons_of_mem _ hy)
  rw [cntL,depL]
  by_cases h2:(!eqC x ne&&!out.any fun y=>eqC y x)=true
  ·rw [if_pos h2] at h
   simp only [Bool.and_eq_true,Bool.not_eq_true',List.any_eq_false] at h2
   have hne:x≠ne:=fun e=>by rw [←eqC_iff (a:=x),h2.1] at e; cases e
   have hin:x ∉ out:=fun hm=>h2.2 x hm (eqC_iff.2 rfl)
   have:=sel_kept hab l (out++[x]) r h hl' ⟨fun y hy=>by
     rcases List.mem_append.1 hy with hy | hy
     ·exact hk.nf y hy
     ·rw [List.mem_singleton.1 hy]; exact hx.1,fun y hy=>by
     rcases List.mem_append.1 hy with hy | hy
     ·exact hk.ne y hy
     ·rw [List.mem_singleton.1 hy]
      rcases hab with ⟨rfl,rfl⟩ | ⟨rfl,rfl⟩
      ·exact ⟨hx.2,h1,hne⟩
      ·exact ⟨hx.2,hne,h1⟩,List.nodup_append.2 ⟨hk.nd,by simp,fun a ha b hb=>by
       rw [List.mem_singleton.1 hb]
       exact fun e=>hin (e ▸ ha)⟩⟩
   obtain ⟨k1,k2,k3⟩:=this
   rw [cntL_app] at k2
   rw [depL_app] at k3
   rw [show cntL [x]=cnt x by simp [cntL]] at k2
   rw [show depL [x]=dep x by simp [depL]] at k3
   exact ⟨k1,by omega,by omega⟩
  ·rw [if_neg h2] at h
   obtain ⟨k1,k2,k3⟩:=sel_kept hab l out r h hl' hk
   exact ⟨k1,by omega,by omega⟩
theorem flat_kind {kd:Int} (hk:kd=3∨kd=4) {l:List Condition} (h:∀ x∈l,NF x):∀ x∈flat kd l,NF x∧x.Kind≠kd:=by
 intro x hx
 refine ⟨flat_nf h x hx,?_⟩
 obtain ⟨c,hc,hxc⟩:=List.mem_flatMap.1 hx
 split at hxc
 ·rename_i hck
  have:=h c hc
  cases this with
  | yes=>cases hxc
  | not k h1 h2=>simp at hck; omega
  | conn kd' ks hk' h2 h3 h4 h5=>
   simp at hck
   subst hck
   exact (h4 x hxc).1
  | ex k m p h1 h2=>simp at hck; omega
 ·rw [List.mem_singleton.1 hxc]; assumption
theorem cnt_yes:cnt yesC=1:=by simp [cnt,cntL,yesC]
theorem cnt_no:cnt noC=2:=by simp [cnt,cntL,noC,cnt_yes]
theorem dep_yes:dep yesC=0:=by simp [dep,depL,yesC]
theorem dep_no:dep noC=0:=by simp [dep,depL,noC,dep_yes]
theorem conn_nf {kd:Int} (hk:kd=3∨kd=4) {l:List Condition} (h:∀ x∈l,NF x) (h0:l≠[]):NF (conn kd l)∧cnt (conn kd l)<=1+cntL l∧dep (conn kd l)<=depL l:=by
 have hl:1<=cntL l:=by
  have:=cntL_len l
  have:=List.length_pos_iff.2 h0
  omega
 have hfl:=flat_cnt kd l
 have hyn:∀ c,c=yesC∨c=noC->NF c∧cnt c<=2∧dep c=0:=by
  rintro c (rfl | rfl)
  ·exact ⟨.yes,by rw [cnt_yes]; omega,dep_yes⟩
  ·exact ⟨.no,by rw [cnt_no]; exact Nat.le_refl _,dep_no⟩
 have hab:(abC kd=yesC∧neC kd=noC)∨(abC kd=noC∧neC kd=yesC):=by
  rcases hk with rfl | rfl
  ·exact .inr ⟨rfl,rfl⟩
  ·exact .inl ⟨rfl,rfl⟩
 unfold conn
 cases hs:sel (abC kd) (neC kd) [] (flat kd l) with
 | none=>
  obtain ⟨k1,k2,k3⟩:=hyn (abC kd) (by rcases hab with h | h <;> simp [h.1])
  exact ⟨k1,by simp only; omega,by simp only; omega⟩
 | some r=>
  obtain ⟨k1,k2,k3⟩:=sel_kept hab _ _ r hs (flat_kind hk h) ⟨fun x hx=>(by cases hx),fun x hx=>(by cases hx),List.nodup_nil⟩
  have e1:cntL ([]:List Condition)=0:=by simp [cntL]
  have e2:depL ([]:List Condition)=0:=by simp [depL]
  rw [e1] at k2
  rw [e2] at k3
  simp only
  unfold endC
  split
  ·obtain ⟨j1,j2,j3⟩:=hyn (neC kd) (by rcases hab with h | h <;> simp [h.2])
   exact ⟨j1,by omega,by omega⟩
  ·split
   ·rename_i hr1
    obtain ⟨x,rfl⟩:=List.length_eq_one_iff.1 hr1
    have:at' [x] 0=x:=rfl
    rw [this]
    rw [show cntL [x]=cnt x by simp [cntL]] at k2
    rw [show depL [x]=dep x by simp [depL]] at k3
    exact ⟨k1.nf x List.mem_cons_self,by omega,by omega⟩
   ·refine ⟨.conn kd r hk (by omega) k1.nf k1.ne k1.nd,?_,?_⟩
    ·rw [cnt_eq]; simp only; omega
    ·rw [dep_eq]
     simp only
     rw [if_neg (by omega)]; omega
end Go.Sf.Sc
namespace Go.Sf.Sc
open Go Go.Sf
theorem map_le {f:Condition->Condition}:∀ {l:List Condition},(∀ k∈l,cnt (f k)<=cnt k∧dep (f k)<=dep k)->cntL (l.map f)<=cntL l∧depL (l.map f)<=depL l
 | [],_=>⟨Nat.le_refl _,Nat.le_refl _⟩
 | x::l,h=>by
  have h1:=h x List.mem_cons_self
  have h2:=map_le (l:=l) (fun k hk=>h k (List.mem_cons_of_mem _ hk))
  rw [List.map_cons,cntL,cntL,depL,depL]
  constructor <;> omega
theorem wf_cases {N:Nat} {c:Condition} (h:wfN (N+1) c=true):(∀ k∈c.Kids,wfN N k=true) ∧
  ((c.Kind=1∧c.Kids=[]∧bareB c=true)∨(c.Kind=2∧(∃ k,c.Kids=[k])∧bareB c=true)∨((c.Kind=3∨c.Kind=4)∧c.Kids≠[]∧bareB c=true)∨(c.Kind=5∧∃ k,c.Kids=[k])):=by
 rw [wfN,Bool.and_eq_true,List.all_eq_true] at h
 refine ⟨h.2,?_⟩
 have hh:=h.1
 unfold headB at hh
 split at hh
 ·rename_i h1
  simp only [Bool.and_eq_true,decide_eq_true_eq,List.length_eq_zero_iff] at hh
  exact .inl ⟨h1,hh⟩
 ·split at hh
  ·rename_i h1
   simp only [Bool.and_eq_true,decide_eq_true_eq,List.length_eq_one_iff] at hh
   exact .inr (.inl ⟨h1,hh⟩)
  ·split at hh
   ·rename_i h1
    simp only [Bool.and_eq_true,decide_eq_true_eq] at hh
    exact .inr (.inr (.inl ⟨h1,List.length_pos_iff.1 hh.1,hh.2⟩))
   ·split at hh
    ·rename_i h1
     simp only [decide_eq_true_eq,List.length_eq_one_iff] at hh
     exact .inr (.inr (.inr ⟨h1,hh⟩))
    ·cases hh
theorem top1 (ks:List Condition) (m:Morphism) (p:Pattern):topC 1 ks m p=yesC:=rfl
theorem top2 (k:Condition) (m:Morphism) (p:Pattern):topC 2 [k] m p=if k.Kind=2 then at' k.Kids 0 else ⟨2,[k],⟨[],[]⟩,⟨⟨[],[]⟩,[],0,[]⟩⟩:=rfl
theorem top34 {kd:Int} (h:kd=3∨kd=4) (ks:List Condition) (m:Morphism) (p:Pattern):topC kd ks m p=conn kd ks:=by
 unfold topC
 rw [if_neg (by omega),if_pos h]
theorem top5 (k:Condition) (m:Morphism) (p:Pattern):topC 5 [k] m p=if eqC k noC=true then noC else ⟨5,[k],m,p⟩:=rfl
theorem nf_simp:∀ (N:Nat) (c:Condition),wfN N c=true->NF (simpC c)∧cnt (simpC c)<=cnt c∧dep (simpC c)<=dep c
 | 0,_,h=>by cases h
 | N+1,c,h=>by
  obtain ⟨hk,hc⟩:=wf_cases h
  have ih:∀ k∈c.Kids,NF (simpC k)∧cnt (simpC k)<=cnt k∧dep (simpC k)<=dep k:=fun k hm=>nf_simp N k (hk k hm)
  rw [simpC_eq,cnt_eq c,dep_eq c]
  rcases hc with ⟨e,hK,_⟩ | ⟨e,⟨k,hK⟩,_⟩ | ⟨e,hK,_⟩ | ⟨e,⟨k,hK⟩⟩
  ·rw [e,top1,cnt_yes,dep_yes]
   exact ⟨.yes,by omega,Nat.zero_le _⟩
  ·rw [hK] at ih ⊢
   obtain ⟨i1,i2,i3⟩:=ih k List.mem_cons_self
   rw [e,List.map_cons,List.map_nil,top2,if_neg (show ¬ (2:Int)=5 by decide),show cntL [k]=cnt k by simp [cntL],show depL [k]=dep k by simp [depL]]
   split
   ·rename_i h2
    obtain ⟨j,hj,j1,j2⟩:=i1.kid2 h2
    have hat:at' (simpC k).Kids 0=j:=by rw [hj]; rfl
    rw [hat]
    rw [hj,cnt_eq,show cntL [j]=cnt j by simp [cntL]] at i2
    rw [hj,dep_eq,show depL [j]=dep j by simp [depL]] at i3
    simp only at i2 i3
    rw [if_neg (by decide)] at i3
    exact ⟨j1,by omega,by omega⟩
   ·rename_i h2
    refine ⟨.not _ i1 h2,?_,?_⟩
    ·rw [cnt_eq]
     show 1+cntL [simpC k]<=_
     rw [show cntL [simpC k]=cnt (simpC k) by simp [cntL]]; omega
    ·rw [dep_eq]
     show (if (2:Int)=5 then 1 else 0)+depL [simpC k]<=_
     rw [if_neg (by decide),show depL [simpC k]=dep (simpC k) by simp [depL]]; omega
  ·rw [top34 e,if_neg (by omega)]
   have hm:=map_le (f:=simpC) (l:=c.Kids) (fun k hk=>(ih k hk).2)
   obtain ⟨k1,k2,k3⟩:=conn_nf e (l:=c.Kids.map simpC) (fun x hx=>by
    obtain ⟨y,hy,rfl⟩:=List.mem_map.1 hx
    exact (ih y hy).1) (by simpa using hK)
   exact ⟨k1,by omega,by omega⟩
  ·rw [hK] at ih ⊢
   obtain ⟨i1,i2,i3⟩:=ih k List.mem_cons_self
   rw [e,List.map_cons,List.map_nil,top5,if_pos rfl,show cntL [k]=cnt k by simp [cntL],show depL [k]=dep k by simp [depL]]
   split
   ·rw [cnt_no,dep_no]
    have:=cnt_eq k
    exact ⟨.no,by omega,by omega⟩
   ·rename_i h2
    rw [eqC_iff] at h2
    refine ⟨.ex _ _ _ i1 h2,?_,?_⟩
    ·rw [cnt_eq]
     show 1+cntL [simpC k]<=_
     rw [show cntL [simpC k]=cnt (simpC k) by simp [cntL]]; omega
    ·rw [dep_eq]
     show (if (5:Int)=5 then 1 else 0)+depL [simpC k]<=_
     rw [if_pos rfl,show depL [simpC k]=dep (simpC k) by simp [depL]]; omega
theorem flat_same {kd:Int}:∀ {l:List Condition},(∀ x∈l,x.Kind≠kd)->flat kd l=l
 | [],_=>rfl
 | x::l,h=>by
  have e:flat kd (x::l)=(if x.Kind=kd then x.Kids else [x])++flat kd l:=rfl
  rw [e,if_neg (h x List.mem_cons_self),flat_same (fun y hy=>h y (List.mem_cons_of_mem _ hy))]; rfl
theorem sel_all {ab ne:Condition}:∀ {l out:List Condition},(∀ x∈l,x≠ab∧x≠ne)->(out++l).Nodup->sel ab ne out l=some (out++l)
 | [],out,_,_=>by rw [sel,List.append_nil]
 | x::l,out,h,hd=>by
  have hx:=h x List.mem_cons_self
  rw [sel,if_neg (by rw [eqC_iff]; exact hx.1),if_pos ?_]
  ·rw [sel_all (fun y hy=>h y (List.mem_cons_of_mem _ hy)) (by simpa using hd)]
   simp
  ·rw [Bool.and_eq_true,Bool.not_eq_true',Bool.not_eq_true']
   constructor
   ·rw [←Bool.not_eq_true,eqC_iff]; exact hx.2
   ·rw [List.any_eq_false]
    intro y hy e
    rw [eqC_iff] at e
    subst e
    exact (List.nodup_append.1 hd).2.2 y hy y List.mem_cons_self rfl
theorem simp_nf {c:Condition} (h:NF c):simpC c=c:=by
 induction h with
 | yes=>rw [simpC_eq]; rfl
 | not k h h2 ih=>
  rw [simpC_eq]
  show topC 2 [simpC k] _ _=_
  rw [ih,top2,if_neg h2]
 | conn kd ks hk h2 h hx hd ih=>
  rw [simpC_eq]
  have e:ks.map simpC=ks:=by
   conv=>rhs; rw [←List.map_id ks]
   exact List.map_congr_left ih
  show topC kd (ks.map simpC) _ _=_
  rw [e,top34 hk]
  unfold conn
  have hab:(abC kd=yesC∧neC kd=noC)∨(abC kd=noC∧neC kd=yesC):=by
   rcases hk with rfl | rfl
   ·exact .inr ⟨rfl,rfl⟩
   ·exact .inl ⟨rfl,rfl⟩
  rw [flat_same (fun x hm=>(hx x hm).1),sel_all (fun x hm=>by
   have:=hx x hm
   rcases hab with ⟨e1,e2⟩ | ⟨e1,e2⟩
   ·rw [e1,e2]; exact this.2
   ·rw [e1,e2]; exact ⟨this.2.2,this.2.1⟩) (by simpa using hd)]
  simp only [List.nil_append]
  unfold endC
  rw [if_neg (by omega),if_neg (by omega)]
 | ex k m p h hn ih=>
  rw [simpC_eq]
  show topC 5 [simpC k] _ _=_
  rw [ih,top5,if_neg (by rw [eqC_iff]; exact hn)]
theorem nf_wf:∀ (N:Nat) {c:Condition},NF c->SizeOf.sizeOf c<=N->wfN N c=true
 | 0,c,_,h=>by have:=size_pos' c; omega
 | N+1,c,h,hs=>by
  rw [wfN,Bool.and_eq_true,List.all_eq_true]
  refine ⟨?_,fun k hk=>nf_wf N (h.kids k hk) (by have:=size_kid hk; omega)⟩
  cases h with
  | yes=>rfl
  | not k h h2=>rfl
  | conn kd ks hk h2 h hx hd=>
   unfold headB
   rcases hk with rfl | rfl
   ·simp [bareB]; omega
   ·simp [bareB]; omega
  | ex k m p h hn=>rfl
end Go.Sf.Sc
namespace Go.Sf.Sc
open Go Go.Sf
theorem whR_two {σ ρ:Type} {f:σ × Int->Option (Ctl (σ × Int) ρ)} (g:Int->σ) {a b:Int} {s:σ} (hab:a<=b) (hs:s=g a) (h:∀ i,a<=i->i<b->f (g i,i)=some (.next (g (i+1),i+1))) (hb:f (g b,b)=some (.brk (g b,b))):whR f (s,a)=some (.inl (g b,b)):=by
 subst hs
 have key:∀ (n:Nat) (i:Int),a<=i->i+n=b->WhEv f (g i,i) (.inl (g b,b)):=by
  intro n
  induction n with
  | zero=>
   intro i _ hi
   have:i=b:=by omega
   subst this
   exact .brk hb
  | succ n ih=>
   intro i h1 h2
   exact .next (h i h1 (by omega)) (ih (i+1) (by omega) (by omega))
 exact (key (b - a).toNat a (Int.le_refl _) (by omega)).eq
theorem p_copied {p:Pattern} (h:FewQ p):condition_copied p=some p:=by
 have:=h.nodes
 have:=h.edges
 have:=h.slots
 have:=h.tests
 unfold condition_copied slices_Clone_int slices_Clone_Edge slices_Clone_Slot slices_Clone_Test
 rw [appC_nil (by unfold nmax; omega),appC_nil (by unfold nmax; omega),appC_nil (by unfold nmax; omega),appC_nil (by unfold nmax; omega)]
 rfl
structure KidsOk (c:Condition):Prop where
 nf:∀ x∈c.Kids.map simpC,NF x
 len:c.Kids.length<=1000
 flat:∀ kd,(flat kd (c.Kids.map simpC)).length<=1000
theorem kids_ok {c:Condition} {M:Nat} (hc:cnt c<=1000) (hw:∀ k∈c.Kids,wfN M k=true):KidsOk c:=by
 rw [cnt_eq] at hc
 have h1:=cntL_len c.Kids
 have h2:=(map_le (f:=simpC) (l:=c.Kids) (fun k hk=>(nf_simp M k (hw k hk)).2)).1
 refine ⟨fun x hx=>?_,by omega,fun kd=>?_⟩
 ·obtain ⟨y,hy,rfl⟩:=List.mem_map.1 hx
  exact (nf_simp M y (hw y hy)).1
 ·have h3:=(flat_cnt kd (c.Kids.map simpC)).1
  have h4:=cntL_len (flat kd (c.Kids.map simpC))
  omega
theorem kid_cnt {c k:Condition} (hc:cnt c<=1000) (h:k∈c.Kids):cnt k<=1000:=by
 rw [cnt_eq] at hc
 have:=cntL_mem h
 omega
theorem p_simp:∀ (N:Nat) (c:Condition),SizeOf.sizeOf c<=N->FewC c->cnt c<=1000->∀ M,wfN M c=true->∀ n,N<=n->condition_simplifyF n c=some (simpC c)
 | 0,c,h,_,_,_,_,_,_=>by have:=size_pos' c; omega
 | N+1,c,h,hf,hc,0,hw,_,_=>by cases hw
 | N+1,c,h,hf,hc,M+1,hw,n,hn=>by
  obtain ⟨n,rfl⟩:∃ m,n=m+1:=⟨n - 1,by omega⟩
  obtain ⟨hk,hcs⟩:=wf_cases hw
  have ok:=kids_ok hc hk
  have hks:forA (fun (i0:Int) (s0:List Condition)=>
    (idx c.Kids i0).bind fun x12=>
    (condition_simplifyF n x12).bind fun x16=>
    (appC s0 [x16]).bind fun x18=>
    some x18) 0 (c.Kids.length:Int) []=some (c.Kids.map simpC):=by
   rw [forA_fn (fun i=>(c.Kids.take i.toNat).map simpC) (by omega) (by rfl)]
   ·rw [Int.toNat_natCast,List.take_length]
   ·intro i i1 i2
    have hm:=at_mem (l:=c.Kids) i1 i2
    have:=size_kid hm
    have:=ok.len
    rw [idx_at i1 i2,bs,p_simp N _ (by omega) (hf.k _ hm) (kid_cnt hc hm) M (hk _ hm) n (by omega),bs,appC_some (by simp; unfold nmax; omega),bs,take_succ_at i1 i2,List.map_append]; rfl
  rw [condition_simplifyF,hks,bs,simpC_eq]
  have hnf:=ok.nf
  rcases hcs with ⟨e,hK,_⟩ | ⟨e,⟨k,hK⟩,_⟩ | ⟨e,hK,_⟩ | ⟨e,⟨k,hK⟩⟩
  ·rw [e]; rfl
  ·rw [e]
   rw [hK] at hnf ⊢
   have hnk:=hnf (simpC k) (by simp)
   rw [List.map_cons,List.map_nil,top2]
   by_cases h2:(simpC k).Kind=2
   ·obtain ⟨j,hj,_,_⟩:=hnk.kid2 h2
    rw [if_pos h2,hj]; rfl
   ·rw [if_neg h2]
    show (if decide ((simpC k).Kind=2)=true then _ else _)=_
    rw [if_neg (by simpa using h2)]
  ·rw [top34 e]
   have hl:=p_list e hnf (ok.flat c.Kind)
   rcases e with e | e
   ·rw [e] at hl ⊢
    show (condition_list 3 (c.Kids.map simpC)).bind _=_
    rw [hl]; rfl
   ·rw [e] at hl ⊢
    show (condition_list 4 (c.Kids.map simpC)).bind _=_
    rw [hl]; rfl
  ·rw [e]
   rw [hK] at hnf ⊢
   have hnk:=hnf (simpC k) (by simp)
   have h1:=hf.m.nodes
   have h2:=hf.m.edges
   rw [List.map_cons,List.map_nil,top5]
   show (condition_isNo (simpC k)).bind _=_
   rw [p_isNo hnk,bs]
   cases eqC (simpC k) noC
   ·rw [if_neg (by decide),if_neg (by decide)]
    unfold slices_Clone_int
    rw [appC_nil (by unfold nmax; omega),appC_nil (by unfold nmax; omega),p_copied hf.q]; rfl
   ·rfl
theorem r_simp:∀ (N:Nat) (c:Condition),SizeOf.sizeOf c<=N->cnt c<=1000->∀ M,wfN M c=true->∀ n,N<=n->ref22_simpleF n c=some (simpC c)
 | 0,c,h,_,_,_,_,_=>by have:=size_pos' c; omega
 | N+1,c,h,hc,0,hw,_,_=>by cases hw
 | N+1,c,h,hc,M+1,hw,n,hn=>by
  obtain ⟨n,rfl⟩:∃ m,n=m+1:=⟨n - 1,by omega⟩
  obtain ⟨hk,hcs⟩:=wf_cases hw
  have ok:=kids_ok hc hk
  have hlen:=ok.len
  rw [ref22_simpleF,whR_two (fun i=>(c.Kids.take i.toNat).map simpC) (b:=c.Kids.length) (by omega) (by rfl) (fun i i1 i2=>by
    have hm:=at_mem (l:=c.Kids) i1 i2
    have:=size_kid hm
    rw [if_pos (by simpa using i2),idx_at i1 i2,bs,r_simp N _ (by omega) (kid_cnt hc hm) M (hk _ hm) n (by omega),bs,appC_some (by simp; unfold nmax; omega),bs,take_succ_at i1 i2,List.map_append,w64_id (by omega) (by omega)]; rfl) (by rw [if_neg (by simp)]),thenR_inl,simpC_eq]
  simp only [Int.toNat_natCast,List.take_length]
  have hnf:=ok.nf
  rcases hcs with ⟨e,hK,hb⟩ | ⟨e,⟨k,hK⟩,hb⟩ | ⟨e,hK,_⟩ | ⟨e,⟨k,hK⟩⟩
  ·obtain ⟨b1,b2⟩:=bare_eq hb
   rw [e,hK,b1,b2]; rfl
  ·obtain ⟨b1,b2⟩:=bare_eq hb
   rw [e,b1,b2]
   rw [hK] at hnf ⊢
   have hnk:=hnf (simpC k) (by simp)
   rw [List.map_cons,List.map_nil,top2]
   by_cases h2:(simpC k).Kind=2
   ·obtain ⟨j,hj,_,_⟩:=hnk.kid2 h2
    rw [if_pos h2,hj]; rfl
   ·rw [if_neg h2]
    show (if decide ((simpC k).Kind=2)=true then _ else _)=_
    rw [if_neg (by simpa using h2)]; rfl
  ·rw [top34 e]
   have hl:=r_conn e (ok.flat c.Kind)
   rcases e with e | e
   ·rw [e] at hl ⊢
    show (ref22_connected 3 (c.Kids.map simpC)).bind _=_
    rw [hl]; rfl
   ·rw [e] at hl ⊢
    show (ref22_connected 4 (c.Kids.map simpC)).bind _=_
    rw [hl]; rfl
  ·rw [e]
   rw [hK] at hnf ⊢
   rw [List.map_cons,List.map_nil,top5]
   show ((ref22_False).bind fun x56=>(ref22_Same (simpC k) x56).bind _).bind _=_
   rw [r_false,bs,r_sameC,bs]
   cases eqC (simpC k) noC
   ·rfl
   ·rfl
end Go.Sf.Sc
namespace Go.Sf.Sc
open Go Go.Sf
theorem bare_few (kd:Int) {ks:List Condition} (h:∀ k∈ks,FewC k):FewC ⟨kd,ks,⟨[],[]⟩,⟨⟨[],[]⟩,[],0,[]⟩⟩:=.mk _ ⟨Nat.zero_le _,Nat.zero_le _,Nat.zero_le _,Nat.zero_le _⟩ ⟨Nat.zero_le _,Nat.zero_le _⟩ h
theorem yes_few:FewC yesC:=bare_few 1 (fun k hk=>by cases hk)
theorem no_few:FewC noC:=bare_few 2 (fun k hk=>by rw [List.mem_singleton.1 hk]; exact yes_few)
theorem sel_mem {ab ne:Condition}:∀ {l out r:List Condition},sel ab ne out l=some r->∀ x∈r,x∈out∨x∈l
 | [],out,r,h,x,hx=>by
  rw [sel] at h
  cases h
  exact .inl hx
 | y::l,out,r,h,x,hx=>by
  rw [sel] at h
  by_cases h1:eqC y ab=true
  ·rw [if_pos h1] at h; cases h
  rw [if_neg h1] at h
  rcases sel_mem h x hx with h2 | h2
  ·split at h2
   ·rcases List.mem_append.1 h2 with h2 | h2
    ·exact .inl h2
    ·rw [List.mem_singleton.1 h2]; exact .inr List.mem_cons_self
   ·exact .inl h2
  ·exact .inr (List.mem_cons_of_mem _ h2)
theorem conn_few {kd:Int} {l:List Condition} (h:∀ x∈l,FewC x):FewC (conn kd l):=by
 have hab:FewC (abC kd):=by
  unfold abC
  split
  ·exact yes_few
  ·exact no_few
 have hne:FewC (neC kd):=by
  unfold neC
  split
  ·exact no_few
  ·exact yes_few
 have hfl:∀ x∈flat kd l,FewC x:=by
  intro x hx
  obtain ⟨c,hc,hxc⟩:=List.mem_flatMap.1 hx
  split at hxc
  ·exact (h c hc).k x hxc
  ·rw [List.mem_singleton.1 hxc]; exact h c hc
 unfold conn
 cases hs:sel (abC kd) (neC kd) [] (flat kd l) with
 | none=>exact hab
 | some r=>
  have hr:∀ x∈r,FewC x:=fun x hx=>by
   rcases sel_mem hs x hx with h1 | h1
   ·cases h1
   ·exact hfl x h1
  simp only
  unfold endC
  split
  ·exact hne
  ·split
   ·rename_i h1
    obtain ⟨x,rfl⟩:=List.length_eq_one_iff.1 h1
    exact hr x List.mem_cons_self
   ·exact bare_few kd hr
theorem few_simp:∀ (N:Nat) (c:Condition),wfN N c=true->FewC c->FewC (simpC c)
 | 0,_,h,_=>by cases h
 | N+1,c,h,hf=>by
  obtain ⟨hk,hc⟩:=wf_cases h
  have ih:∀ k∈c.Kids,FewC (simpC k):=fun k hm=>few_simp N k (hk k hm) (hf.k k hm)
  have inf:∀ k∈c.Kids,NF (simpC k):=fun k hm=>(nf_simp N k (hk k hm)).1
  rw [simpC_eq]
  rcases hc with ⟨e,hK,_⟩ | ⟨e,⟨k,hK⟩,_⟩ | ⟨e,hK,_⟩ | ⟨e,⟨k,hK⟩⟩
  ·rw [e,top1]; exact yes_few
  ·rw [hK] at ih inf ⊢
   have i1:=ih k List.mem_cons_self
   rw [e,List.map_cons,List.map_nil,top2]
   split
   ·rename_i h2
    obtain ⟨j,hj,_,_⟩:=(inf k List.mem_cons_self).kid2 h2
    have hat:at' (simpC k).Kids 0=j:=by rw [hj]; rfl
    rw [hat]
    exact i1.k j (by rw [hj]; exact List.mem_cons_self)
   ·exact bare_few 2 (fun x hx=>by rw [List.mem_singleton.1 hx]; exact i1)
  ·rw [top34 e]
   exact conn_few (fun x hx=>by
    obtain ⟨y,hy,rfl⟩:=List.mem_map.1 hx
    exact ih y hy)
  ·rw [hK] at ih ⊢
   have i1:=ih k List.mem_cons_self
   rw [e,List.map_cons,List.map_nil,top5]
   split
   ·exact no_few
   ·exact .mk _ hf.q hf.m (fun x hx=>by rw [List.mem_singleton.1 hx]; exact i1)
theorem shape_ok {c:Condition} (h:shapeE c=0):wfB c=true∧(measS c).1<=12∧(measS c).2<=3:=by
 unfold shapeE at h
 split at h
 ·cases h
 ·rename_i h1
  split at h
  ·cases h
  ·rename_i h2
   exact ⟨by simpa using h1,by omega,by omega⟩
theorem shape_of {c:Condition} (h1:wfB c=true) (h2:(measS c).1<=12) (h3:(measS c).2<=3):shapeE c=0:=by
 unfold shapeE
 rw [if_neg (by simp [h1]),if_neg (by omega)]
theorem p_Simp {c:Condition} (hf:FewC c) (hn:cnt c<=1000) (hE:shapeE c=0):condition_Simplify c=some (simpC c,0):=by
 unfold condition_Simplify
 rw [p_shape hf,bs,hE,if_neg (by decide),show condition_simplify c=some (simpC c) from lim_eq (SizeOf.sizeOf c) fun n hn'=>p_simp _ c (Nat.le_refl _) hf hn _ (shape_ok hE).1 n hn']; rfl
theorem r_Simp {c:Condition} (hf:FewC c) (hn:cnt c<=1000) (hE:shapeE c=0):ref22_Simplify c=some (simpC c,0):=by
 unfold ref22_Simplify
 rw [r_shape hf,bs,hE,if_neg (by decide),show ref22_simple c=some (simpC c) from lim_eq (SizeOf.sizeOf c) fun n hn'=>r_simp _ c (Nat.le_refl _) hn _ (shape_ok hE).1 n hn']; rfl
theorem plainConditionSimplify (c d:Condition) (sc:(eCondition c).Sm) (sd:(eCondition d).Sm):law22_ConditionSimplify c d=some true:=by
 obtain ⟨b1,e1,f1⟩:=few_cond2 sc
 obtain ⟨b2,e2,f2⟩:=few_cond2 sd
 unfold law22_ConditionSimplify
 rw [awake_is,bs,if_neg (by decide),e1,e2]
 cases b1
 ·rfl
 cases b2
 ·rfl
 obtain ⟨hf,hn⟩:=f1 rfl
 have hee:∀ x,eqC x x=true:=fun x=>eqC_iff.2 rfl
 simp only [bs,Bool.not_true,Bool.false_eq_true,if_false]
 by_cases hE:shapeE c=0
 ·obtain ⟨hw,m1,m2⟩:=shape_ok hE
  obtain ⟨q1,q2,q3⟩:=nf_simp _ c hw
  have hf2:=few_simp _ c hw hf
  rw [measS_eq (by omega)] at m1 m2
  have hE2:shapeE (simpC c)=0:=shape_of (nf_wf _ q1 (Nat.le_refl _)) (by rw [measS_eq (by omega)]; simp only at m1 ⊢; omega) (by rw [measS_eq (by omega)]; simp only at m2 ⊢; omega)
  rw [p_Simp hf (by omega) hE,bs,r_Simp hf (by omega) hE,bs]
  simp only [r_sameC,p_sameC,hee,p_Simp hf2 (by omega) hE2,simp_nf q1,bs,decide_true,Bool.not_true,Bool.false_eq_true,if_false,beq_self_eq_true,if_true]
 ·have hp:condition_Simplify c=some (⟨0,[],⟨[],[]⟩,⟨⟨[],[]⟩,[],0,[]⟩⟩,shapeE c):=by
   unfold condition_Simplify
   rw [p_shape hf,bs,if_pos (by simpa using hE)]
  have hr:ref22_Simplify c=some (⟨0,[],⟨[],[]⟩,⟨⟨[],[]⟩,[],0,[]⟩⟩,shapeE c):=by
   unfold ref22_Simplify
   rw [r_shape hf,bs,if_pos (by simpa using hE)]
  rw [hp,bs,hr,bs]
  simp only [r_sameC,p_sameC,hee,bs,decide_true,Bool.not_true,Bool.false_eq_true,if_false,beq_self_eq_true,if_true]
  rw [if_pos (by simpa using hE)]
end Go.Sf.Sc
