/- Plain lemmas: what the functions of the program and of the reference compute. -/
import Derived.Test.YtmaobfbhdkafkaaGreatP9
import Derived.Test.YtmaobfbhdkafkaaGreatSfRead
set_option maxRecDepth 100000
namespace Go.Sf
theorem whR_any {ρ:Type} {f:Int->Option (Ctl Int ρ)} (p:Int->Bool) (v:ρ) {a b:Int} (hab:a<=b) (h:∀ i,a<=i->i<b->f i=some (if p i=true then .ret v else .next (i+1))) (hb:f b=some (.brk b)):whR f a=some (if anyR p a b=true then .inr v else .inl b):=by
 rw [whR_cnt (c:=fun i=>(if p i=true then some () else none).map fun _=>.inr v) hab]
 ·rw [fst_map,fst_const]
  cases anyR p a b <;> rfl
 ·intro i h1 h2 _
  rw [h i h1 h2]
  cases p i <;> rfl
 ·exact hb
theorem list_sm {α:Type} {e:α->TV} {n:Nat} {l:List α} (h:TV.Sm (.list n (l.map e))):(l.length:Int)<=140737488351232∧∀ x∈l,(e x).Sm:=by
 simp only [TV.Sm,List.length_map] at h
 refine ⟨by have:=h.1; unfold reachBytes at this; omega,fun x hx=>sms_mem.1 h.2 _ (List.mem_map.2 ⟨x,hx,rfl⟩)⟩
end Go.Sf
namespace Go.Sf.Sc
open Go Go.Sf
def badA (a:Attr):Bool:=(decide (40<(a.Name.size:Int))||decide (25<(a.Names.length:Int)))||anyR (fun i=>decide (40<((at' a.Names i).size:Int))) 0 a.Names.length
theorem badA_few {a:Attr} (h:badA a=false):FewA a:=by
 unfold badA at h
 simp only [Bool.or_eq_false_iff,decide_eq_false_iff_not,anyR_false] at h
 refine ⟨by omega,by omega,fun x hx=>?_⟩
 obtain ⟨i,i1,i2,rfl⟩:=mem_at hx
 have:=h.2 i i1 i2
 omega
theorem few_types {t:Types} (hs:(eTypes t).Sm):∃ b,ref04_Few t=some b∧(b=true->FewT t):=by
 have hs':TV.Sms [_,_]:=hs
 obtain ⟨hn,hn2⟩:=list_sm (e:=eNodeType) hs'.1
 unfold ref04_Few
 by_cases hl:20<t.Nodes.length∨30<t.Edges.length
 ·rw [if_pos (by simp; omega)]
  exact ⟨false,rfl,fun h=>by cases h⟩
 rw [if_neg (by simp; omega)]
 rcases forR_inv (f:=(fun (i0:Int) (s0:Int)=>
 (idx t.Nodes i0).bind fun x30=>
 (if (decide (30<(w64 (s0+(x30.Attrs.length:Int)))))=true then some true else ((idx t.Nodes i0).bind fun x41=>
 some (decide (40<(x41.Name.size:Int))))).bind fun x46=>
 if x46=true then
 some (Ctl.ret false)
 else
 thenR (whR (ρ:=Bool) (fun (s2:Int)=>
 (idx t.Nodes i0).bind fun x51=>
 if (decide (s2<(x51.Attrs.length:Int)))=true then
 (idx t.Nodes i0).bind fun x61=>
 (idx x61.Attrs s2).bind fun x65=>
 if ((decide (40<(x65.Name.size:Int)))||(decide (25<(x65.Names.length:Int))))=true then
 some (.ret false)
 else
 thenR (whR (ρ:=Bool) (fun (s4:Int)=>
 if (decide (s4<(x65.Names.length:Int)))=true then
 (idx x65.Names s4).bind fun x87=>
 if (decide (40<(x87.size:Int)))=true then
 some (.ret false)
 else
 some (.next (w64 (s4+1)))
 else
 some (.brk s4)) 0) (fun s4=>
 some (.next (w64 (s2+1)))) (fun v4=>some (.ret v4))
 else
 some (.brk s2)) 0) (fun s2=>
 some (.next (w64 (s0+(x30.Attrs.length:Int))))) (fun v2=>some (.ret v2))))
  (fun i s=>0<=s∧s<=30∧∀ j,0<=j->j<i->((at' t.Nodes j).Name.size:Int)<=40∧(at' t.Nodes j).Attrs.length<=30∧∀ a∈(at' t.Nodes j).Attrs,FewA a) (fun _=>False) (fun r=>r=false) (a:=0) (b:=t.Nodes.length) (s:=0) (by omega) ⟨by omega,by omega,fun j h1 h2=>by omega⟩ (fun i s i1 i2 hI=>by
   have hx:=hn2 _ (at_mem (l:=t.Nodes) i1 i2)
   have hx':TV.Sms [_,_,_,_]:=hx
   obtain ⟨ha,ha2⟩:=list_sm (e:=eAttr) hx'.2.2.2.1
   obtain ⟨hI1,hI2,hI3⟩:=hI
   have hw:w64 (s+(at' t.Nodes i).Attrs.length)=s+(at' t.Nodes i).Attrs.length:=w64_id (by omega) (by omega)
   simp only [idx_at i1 i2,bs,hw,or_ite]
   by_cases hc:30<s+(at' t.Nodes i).Attrs.length∨40<((at' t.Nodes i).Name.size:Int)
   ·rw [if_pos (by simpa using hc)]
    exact .inr (.inr ⟨_,rfl,rfl⟩)
   rw [if_neg (by simpa using hc)]
   rw [whR_any (fun j=>badA (at' (at' t.Nodes i).Attrs j)) false (b:=(at' t.Nodes i).Attrs.length) (by omega)]
   ·cases hb:anyR (fun j=>badA (at' (at' t.Nodes i).Attrs j)) 0 (at' t.Nodes i).Attrs.length
    ·refine .inl ⟨_,rfl,by omega,by omega,fun j j1 j2=>?_⟩
     by_cases hj:j=i
     ·subst hj
      refine ⟨by omega,by omega,fun a ha=>?_⟩
      obtain ⟨k,k1,k2,rfl⟩:=mem_at ha
      exact badA_few (anyR_false.1 hb k k1 k2)
     ·exact hI3 j j1 (by omega)
    ·exact .inr (.inr ⟨_,rfl,rfl⟩)
   ·intro j j1 j2
    rw [if_pos (by simpa using j2),idx_at j1 j2,bs]
    have hy:=ha2 _ (at_mem (l:=(at' t.Nodes i).Attrs) j1 j2)
    have hy':TV.Sms [_,_,_,_]:=hy
    obtain ⟨hm,_⟩:=list_sm (e:=eS) hy'.2.2.2.1
    unfold badA
    cases h1:(decide (40<((at' (at' t.Nodes i).Attrs j).Name.size:Int))||decide (25<((at' (at' t.Nodes i).Attrs j).Names.length:Int)))
    ·rw [if_neg (by decide),whR_any (fun k=>decide (40<((at' (at' (at' t.Nodes i).Attrs j).Names k).size:Int))) false (b:=(at' (at' t.Nodes i).Attrs j).Names.length) (by omega)]
     ·cases anyR (fun k=>decide (40<((at' (at' (at' t.Nodes i).Attrs j).Names k).size:Int))) 0 (at' (at' t.Nodes i).Attrs j).Names.length
      ·rw [Bool.or_false,w64_id (show -9223372036854775808<=j+1 by omega) (by omega)]; rfl
      ·rfl
     ·intro k k1 k2
      rw [if_pos (by simpa using k2),idx_at k1 k2,bs,w64_id (show -9223372036854775808<=k+1 by omega) (by omega),if_b]
     ·rw [if_neg (by simp)]
    ·rfl
   ·rw [if_neg (by simp)]) with ⟨s',h1,h2⟩ | ⟨r,h1,h2⟩
 ·rw [h1]
  rcases h2 with h2 | h2
  ·rw [thenR_inl,forR_any (fun i=>decide (40<((at' t.Edges i).Name.size:Int))) false]
   ·cases hb:anyR (fun i=>decide (40<((at' t.Edges i).Name.size:Int))) 0 t.Edges.length
    ·refine ⟨true,rfl,fun _=>⟨by omega,by omega,fun n hn=>?_,fun n hn=>?_,fun n hn=>?_,fun e he=>?_⟩⟩
     ·obtain ⟨k,k1,k2,rfl⟩:=mem_at hn
      exact (h2.2.2 k k1 k2).1
     ·obtain ⟨k,k1,k2,rfl⟩:=mem_at hn
      exact (h2.2.2 k k1 k2).2.1
     ·obtain ⟨k,k1,k2,rfl⟩:=mem_at hn
      exact (h2.2.2 k k1 k2).2.2
     ·obtain ⟨k,k1,k2,rfl⟩:=mem_at he
      have:=anyR_false.1 hb k k1 k2
      simpa using this
    ·exact ⟨false,rfl,fun h=>by cases h⟩
   ·intro i i1 i2 _
    rw [idx_at i1 i2,bs,if_b]
  ·exact h2.elim
 ·rw [h1]
  subst h2
  exact ⟨false,rfl,fun h=>by cases h⟩
theorem few_pat (p:Pattern):∃ b,ref21_Few p=some b∧(b=true->FewQ p):=by
 refine ⟨_,rfl,fun h=>?_⟩
 simp only [Bool.and_eq_true,decide_eq_true_eq] at h
 exact ⟨by omega,by omega,by omega,by omega⟩
theorem few_sum {a b:Int} (ha:0<=a) (ha2:a<=140737488351232) (hb:0<=b) (hb2:b<=140737488351232):w64 (a+b)=a+b:=w64_id (by omega) (by omega)
theorem few_mor {m:Morphism} (hs:(eMorphism m).Sm):∃ b,ref06_Few m 140=some b∧(b=true->FewM m):=by
 have hs':TV.Sms [_,_]:=hs
 have h1:=(list_sm (e:=eI) hs'.1).1
 have h2:=(list_sm (e:=eI) hs'.2.1).1
 refine ⟨_,rfl,fun h=>?_⟩
 rw [few_sum (by omega) h1 (by omega) h2] at h
 simp only [decide_eq_true_eq] at h
 exact ⟨by omega,by omega⟩
theorem cond_sm {c:Condition} (h:(eCondition c).Sm):(eMorphism c.Map).Sm∧(c.Kids.length:Int)<=140737488351232∧∀ k∈c.Kids,(eCondition k).Sm:=by
 have h':TV.Sms [_,_,_,_,_,_,_,_,_]:=h
 obtain ⟨_,h2,h3,h4,_⟩:=h'
 rw [eLCondition_lst] at h2
 obtain ⟨k1,k2⟩:=list_sm h2
 exact ⟨⟨h3,h4,trivial⟩,k1,k2⟩
theorem few_left:∀ (N:Nat) (c:Condition),SizeOf.sizeOf c<=N->(eCondition c).Sm->∀ most:Int,0<=most->most<=1000->∃ r,(∀ n,N<=n->ref22_leftF n c most=some r)∧-1<=r∧r<=most - 1∧(0<=r->FewC c)
 | 0,c,h,_,_,_,_=>by have:=size_pos' c; omega
 | N+1,c,h,hs,most,m0,m1=>by
  obtain ⟨hm,hkl,hk⟩:=cond_sm hs
  obtain ⟨b1,e1,f1⟩:=few_pat c.Pattern
  obtain ⟨b2,e2,f2⟩:=few_mor hm
  have step:∀ n,N+1<=n->∃ m,n=m+1∧N<=m:=fun n hn=>⟨n - 1,by omega,by omega⟩
  cases b1
  ·refine ⟨-1,fun n hn=>?_,by omega,by omega,fun h=>by omega⟩
   obtain ⟨n,rfl,_⟩:=step n hn
   rw [ref22_leftF,e1]; rfl
  cases b2
  ·refine ⟨-1,fun n hn=>?_,by omega,by omega,fun h=>by omega⟩
   obtain ⟨n,rfl,_⟩:=step n hn
   rw [ref22_leftF,e1,bs,e2]; rfl
  have loop:∀ (m:Nat) (k left:Int),0<=k->k+m=c.Kids.length->-1<=left->left<=1000->∃ l' k',(∀ n,N<=n->WhEv (ρ:=Int) (fun (s0:Int × Int)=>
    if ((decide (s0.2<(c.Kids.length:Int)))&&(decide (0<=s0.1)))=true then
    (idx c.Kids s0.2).bind fun x32=>
    (ref22_leftF n x32 s0.1).bind fun x35=>
    some (.next (x35,w64 (s0.2+1)))
    else
    some (.brk (s0.1,s0.2))) (left,k) (.inl (l',k')))∧-1<=l'∧l'<=left∧(0<=l'->∀ j,k<=j->j<c.Kids.length->FewC (at' c.Kids j)):=by
   intro m
   induction m with
   | zero=>
    intro k left k0 kl l0 l1
    refine ⟨left,k,fun n hn=>.brk ?_,l0,by omega,fun _ j j1 j2=>by omega⟩
    rw [if_neg (by simp; omega)]
   | succ m ih=>
    intro k left k0 kl l0 l1
    by_cases hl:0<=left
    ·have hmem:=at_mem (l:=c.Kids) k0 (by omega)
     have:=size_kid hmem
     obtain ⟨r,r1,r2,r3,r4⟩:=few_left N _ (by omega) (hk _ hmem) left hl l1
     obtain ⟨l',k',a1,a2,a3,a4⟩:=ih (k+1) r (by omega) (by omega) r2 (by omega)
     refine ⟨l',k',fun n hn=>.next (s':=(r,k+1)) ?_ (a1 n hn),a2,by omega,fun h0 j j1 j2=>?_⟩
     ·rw [if_pos (by simp; omega),idx_at k0 (by omega),bs,r1 n hn,bs,w64_id (by omega) (by omega)]
     ·by_cases hj:j=k
      ·subst hj; exact r4 (by omega)
      ·exact a4 h0 j (by omega) j2
    ·refine ⟨left,k,fun n hn=>.brk ?_,l0,by omega,fun h=>by omega⟩
     rw [if_neg (by simp; omega)]
  obtain ⟨l',k',a1,a2,a3,a4⟩:=loop c.Kids.length 0 (most - 1) (by omega) (by omega) (by omega) (by omega)
  refine ⟨l',fun n hn=>?_,a2,a3,fun h0=>.mk c (f1 rfl) (f2 rfl) (fun k hk=>?_)⟩
  ·obtain ⟨n,rfl,hn'⟩:=step n hn
   rw [ref22_leftF,e1,bs,e2]
   simp only [bs,Bool.not_true,Bool.false_eq_true,if_false]
   rw [w64_id (n:=most - 1) (by omega) (by omega),(a1 n hn').eq,thenR_inl]
  ·obtain ⟨j,j1,j2,rfl⟩:=mem_at hk
   exact a4 h0 j j1 j2
theorem few_cond {c:Condition} (hs:(eCondition c).Sm):∃ b,ref22_Few c=some b∧(b=true->FewC c):=by
 obtain ⟨r,r1,_,_,r4⟩:=few_left (SizeOf.sizeOf c) c (Nat.le_refl _) hs 40 (by omega) (by omega)
 have e:ref22_left c 40=some r:=lim_eq (SizeOf.sizeOf c) r1
 unfold ref22_Few
 rw [e]
 exact ⟨_,rfl,fun h=>r4 (by simpa using h)⟩
end Go.Sf.Sc
