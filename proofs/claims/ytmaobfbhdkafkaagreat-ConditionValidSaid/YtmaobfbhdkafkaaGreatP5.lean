/- Plain lemmas: what the functions of the program and of the reference compute. -/
import Derived.Test.YtmaobfbhdkafkaaGreatP3
set_option maxRecDepth 100000
namespace Go.Sf.Sc
open Go Go.Sf
def termB (n:Int) (x:Term):Bool:=(((decide ((-1)<=x.Var))&&(decide (x.Var<n)))&&(decide ((-1000000)<=x.Add)))&&(decide (x.Add<=1000000))
def testE (n:Int) (x:Test):Int:=if ¬ x.Kind=1∧¬ x.Kind=2 then 1 else if (termB n x.Left&&termB n x.Right)=true then 0 else 6
def testsE (n:Int) (l:List Test):Int:=if n<0∨12<n then 6 else if 40<l.length then 3 else (fst (fun i=>nz (testE n (at' l i))) 0 l.length).getD 0
theorem p_test (n:Int) (x:Test):difference_one n x=some (testE n x):=by
 unfold difference_one testE
 simp only [show ∀ n x,difference_term n x=some (termB n x) from fun _ _=>rfl,bs]
 generalize termB n x.Left=b1
 generalize termB n x.Right=b2
 cases b1 <;> cases b2
 all_goals
  simp only [bs,decide_eq_true_eq,Bool.or_eq_true,Bool.and_eq_true,Bool.not_eq_true',decide_eq_false_iff_not,Bool.not_eq_false',Bool.or_eq_false_iff,Bool.and_eq_false_iff,ne_eq]
  repeat' (first | rfl | (exfalso; omega; done) | split)
  all_goals (first | rfl | (exfalso; omega) | omega | simp_all | (simp_all; omega))
theorem r_within (n:Int) (x:Term):ref03_within n x=some (if termB n x=true then 0 else 6):=by
 unfold ref03_within termB
 simp only [bs,decide_eq_true_eq,Bool.or_eq_true,Bool.and_eq_true,Bool.not_eq_true',decide_eq_false_iff_not,Bool.not_eq_false',Bool.or_eq_false_iff,Bool.and_eq_false_iff,ne_eq]
 repeat' (first | rfl | (exfalso; omega; done) | split)
 all_goals (first | rfl | (exfalso; omega) | omega | simp_all | (simp_all; omega))
theorem r_test (n:Int) (x:Test):ref03_One n x=some (testE n x):=by
 unfold ref03_One testE
 simp only [r_within,bs]
 generalize termB n x.Left=b1
 generalize termB n x.Right=b2
 cases b1 <;> cases b2
 all_goals
  simp only [bs,decide_eq_true_eq,Bool.or_eq_true,Bool.and_eq_true,Bool.not_eq_true',decide_eq_false_iff_not,Bool.not_eq_false',Bool.or_eq_false_iff,Bool.and_eq_false_iff,ne_eq]
  repeat' (first | rfl | (exfalso; omega; done) | split)
  all_goals (first | rfl | (exfalso; omega) | omega | simp_all | (simp_all; omega))
theorem p_tests (n:Int) (l:List Test):difference_Valid n l=some (testsE n l):=by
 unfold difference_Valid testsE
 rw [forR_fst (fun i=>nz (testE n (at' l i))),thenR_ans0]
 ·simp only [bs,decide_eq_true_eq,Bool.or_eq_true,Bool.and_eq_true,Bool.not_eq_true',decide_eq_false_iff_not,Bool.not_eq_false',Bool.or_eq_false_iff,Bool.and_eq_false_iff,ne_eq]
  repeat' (first | rfl | (exfalso; omega; done) | split)
  all_goals (first | rfl | (exfalso; omega) | omega | simp_all | (simp_all; omega))
 ·intro i h1 h2 _
  rw [idx_at h1 h2,bs,p_test,bs,nz_ctl]
theorem r_tests (n:Int) (l:List Test):ref03_Valid n l=some (testsE n l):=by
 unfold ref03_Valid testsE
 rw [forR_fst (fun i=>nz (testE n (at' l i))),thenR_ans0]
 ·simp only [bs,decide_eq_true_eq,Bool.or_eq_true,Bool.and_eq_true,Bool.not_eq_true',decide_eq_false_iff_not,Bool.not_eq_false',Bool.or_eq_false_iff,Bool.and_eq_false_iff,ne_eq]
  repeat' (first | rfl | (exfalso; omega; done) | split)
  all_goals (first | rfl | (exfalso; omega) | omega | simp_all | (simp_all; omega))
 ·intro i h1 h2 _
  rw [idx_at h1 h2,bs,r_test,bs,nz_ctl]
def attrP (t:Types) (p:Pattern) (node ix:Int):Attr × Bool:=
 if node<0∨p.Graph.Nodes.length<=node then (default,false) else
 let l:=(attrsR t (at' p.Graph.Nodes node)).1
 if ix<0∨l.length<=ix then (default,false) else (at' l ix,true)
theorem attrsR_len {t:Types} (hf:FewT t) (a:Int):(attrsR t a).1.length<=600∧((attrsR t a).2≠0->(attrsR t a).1=[]):=by
 unfold attrsR
 split
 ·simp
 ·rename_i h
  have hok:=typesOk (t:=t) (by omega)
  split
  ·rename_i hi
   exact ⟨attrsS_len hf (Int.le_refl _) hok.par (inB_iff.1 hi).2,by simp⟩
  ·simp
theorem p_attrP {t:Types} (hf:FewT t) {p:Pattern} (hg:GraphOk p.Graph) (s:Slot):attribute_attr t p s=some (attrP t p s.Node s.Attr):=by
 have hn:=hg.nodes
 unfold attribute_attr attrP attribute_within
 dsimp only
 rw [w64_id (by omega) (by omega),bs]
 by_cases h:s.Node<0∨p.Graph.Nodes.length<=s.Node
 ·rw [if_pos (by simp; omega),if_pos h]; rfl
 ·rw [if_neg (by simp; omega),if_neg h,idx_at (by omega) (by omega),bs,p_Attrs hf,bs]
  have hl:=(attrsR_len hf (at' p.Graph.Nodes s.Node)).1
  rw [w64_id (by omega) (by omega),bs]
  by_cases h2:s.Attr<0∨(attrsR t (at' p.Graph.Nodes s.Node)).1.length<=s.Attr
  ·rw [if_pos (by simp; omega),if_pos h2]; rfl
  ·rw [if_neg (by simp; omega),if_neg h2,idx_at (by omega) (by omega)]; rfl
theorem r_attrP {t:Types} (hf:FewT t) {p:Pattern} (node ix:Int):ref21_attr t p node ix=some (attrP t p node ix):=by
 unfold ref21_attr attrP
 dsimp only
 by_cases h:node<0∨p.Graph.Nodes.length<=node
 ·rw [if_pos (by simp; omega),if_pos h]; rfl
 ·rw [if_neg (by simp; omega),if_neg h,idx_at (by omega) (by omega),bs,r_Attrs hf,bs]
  have hl:=(attrsR_len hf (at' p.Graph.Nodes node)).2
  by_cases h2:ix<0∨(attrsR t (at' p.Graph.Nodes node)).1.length<=ix
  ·rw [if_pos (by simp; omega),if_pos h2]; rfl
  ·by_cases he:(attrsR t (at' p.Graph.Nodes node)).2=0
   ·rw [if_neg (by simp [he]; omega),if_neg h2,idx_at (by omega) (by omega)]; rfl
   ·rw [hl he] at h2; simp at h2; omega
end Go.Sf.Sc
namespace Go.Sf
variable {σ ρ:Type}
def stC (s:σ) (o:Option ρ):Ctl σ ρ:=match o with
 | none=>.next s
 | some r=>.ret r
def stA (s:σ) (o:Option ρ):σ ⊕ ρ:=match o with
 | none=>.inl s
 | some r=>.inr r
theorem forGo_st {f:Int->σ->Option (Ctl σ ρ)} (g:Int->σ) (c:Int->Option ρ):∀ (n:Nat) (a:Int),
  (∀ i,a<=i->i<a+n->(∀ j,a<=j->j<i->c j=none)->f i (g i)=some (stC (g (i+1)) (c i)))->forGo f n a (g a)=some (stA (g (a+n)) (fstGo c n a))
 | 0,a,_=>by simp [forGo,fstGo,stA]
 | n+1,a,h=>by
  have h0:=h a (Int.le_refl _) (by omega) (fun j h1 h2=>by omega)
  rw [forGo_step,h0,fstGo]
  cases hc:c a with
  | some r=>rfl
  | none=>
   simp only [stC]
   rw [show a+((n+1:Nat):Int)=a+1+n by omega]
   refine forGo_st g c n (a+1) (fun i h1 h2 h3=>h i (by omega) (by omega) (fun j h4 h5=>?_))
   by_cases hj:j=a
   ·subst hj; exact hc
   ·exact h3 j (by omega) h5
theorem forR_st {f:Int->σ->Option (Ctl σ ρ)} (g:Int->σ) (c:Int->Option ρ) {a b:Int} {s:σ} (hab:a<=b) (hs:s=g a) (h:∀ i,a<=i->i<b->(∀ j,a<=j->j<i->c j=none)->f i (g i)=some (stC (g (i+1)) (c i))):forR f a b s=some (stA (g b) (fst c a b)):=by
 subst hs
 unfold forR fst
 have:=forGo_st g c (b - a).toNat a (fun i h1 h2 h3=>h i h1 (by omega) h3)
 rwa [show a+((b - a).toNat:Int)=b by omega] at this
variable {α:Type}
theorem chE {e:Int} {X:Option Int} {Y:Int} (h:e=0->X=some Y):(if (!decide (e=0))=true then some e else X)=some (if e≠0 then e else Y):=by
 by_cases he:e=0
 ·simp [he,h he]
 ·simp [he]
theorem chP {P:Prop} [Decidable P] {b:Bool} {v:α} {X:Option α} {Y:α} (hb:b=true↔P) (h:¬ P->X=some Y):(if b=true then some v else X)=some (if P then v else Y):=by
 by_cases hp:P
 ·rw [if_pos (hb.2 hp),if_pos hp]
 ·rw [if_neg (fun h=>hp (hb.1 h)),if_neg hp,h hp]
theorem chB {b:Bool} {v:α} {X:Option α} {Y:α} (h:b=true->X=some Y):(if (!b)=true then some v else X)=some (if b=false then v else Y):=by
 cases b
 ·rfl
 ·simpa using h rfl
end Go.Sf
namespace Go.Sf.Sc
open Go Go.Sf
def badS (t:Types) (p:Pattern) (s:Slot):Bool:=!(attrP t p s.Node s.Attr).2||decide (s.Term.Var < -1)||decide (p.Vars<=s.Term.Var)||(decide (s.Term.Add < -1000000)||decide (1000000<s.Term.Add))
def occB (p:Pattern) (v:Int):Bool:=p.Slots.any fun s=>decide (s.Term.Var=v)
def patE (t:Types) (p:Pattern):Int:=
 if (typesV t).2≠0 then (typesV t).2 else if graphE p.Graph≠0 then graphE p.Graph else if typedB t p.Graph=false then 13 else
 if p.Vars<0∨12<p.Vars then 6 else if 10<p.Slots.length∨10<p.Tests.length then 3 else
 if (p.Slots.any (badS t p))=true then 6 else if testsE p.Vars p.Tests≠0 then testsE p.Vars p.Tests else
 if anyR (fun v=>!occB p v) 0 p.Vars=true then 9 else 0
def usedL (p:Pattern) (i:Int):List Bool:=(List.range p.Vars.toNat).map fun (v:Nat)=>(p.Slots.take i.toNat).any fun s=>decide (s.Term.Var=(v:Int))
theorem usedL_zero {p:Pattern}:usedL p 0=List.replicate p.Vars.toNat false:=by
 unfold usedL
 refine List.ext_getElem (by simp) (fun n h1 h2=>by simp)
theorem usedL_len (p:Pattern) (i:Int):(usedL p i).length=p.Vars.toNat:=by simp [usedL]
theorem usedL_set {p:Pattern} {i:Int} (h0:0<=i) (h1:i<p.Slots.length) (hv:0<=(at' p.Slots i).Term.Var):setE (usedL p i) (at' p.Slots i).Term.Var true=usedL p (i+1):=by
 unfold setE
 refine List.ext_getElem (by simp [usedL]) (fun n k1 k2=>?_)
 simp only [usedL,List.getElem_set,List.getElem_map,List.getElem_range,take_succ_at h0 h1,List.any_append,List.any_cons,List.any_nil,Bool.or_false]
 by_cases hn:(at' p.Slots i).Term.Var.toNat=n
 ·rw [if_pos hn,decide_eq_true (show (at' p.Slots i).Term.Var=(n:Int) by omega),Bool.or_true]
 ·rw [if_neg hn,decide_eq_false (show ¬ (at' p.Slots i).Term.Var=(n:Int) by omega),Bool.or_false]
theorem usedL_skip {p:Pattern} {i:Int} (h0:0<=i) (h1:i<p.Slots.length) (hv:(at' p.Slots i).Term.Var<0):usedL p i=usedL p (i+1):=by
 refine List.ext_getElem (by simp [usedL]) (fun n k1 k2=>?_)
 simp only [usedL,List.getElem_map,List.getElem_range,take_succ_at h0 h1,List.any_append,List.any_cons,List.any_nil,Bool.or_false]
 rw [decide_eq_false (show ¬ (at' p.Slots i).Term.Var=(n:Int) by omega),Bool.or_false]
theorem usedL_end (p:Pattern):((usedL p p.Slots.length).any fun x=>false==x)=anyR (fun v=>!occB p v) 0 p.Vars:=by
 rw [Bool.eq_iff_iff,List.any_eq_true,anyR_iff]
 simp only [usedL,Int.toNat_natCast,List.take_length,List.mem_map,List.mem_range]
 constructor
 ·rintro ⟨x,⟨v,hv,rfl⟩,hx⟩
  refine ⟨v,by omega,by omega,?_⟩
  unfold occB
  revert hx
  cases p.Slots.any fun s=>decide (s.Term.Var=(v:Int)) <;> simp
 ·rintro ⟨v,h0,h1,hx⟩
  refine ⟨_,⟨v.toNat,by omega,rfl⟩,?_⟩
  rw [Int.toNat_of_nonneg h0]
  unfold occB at hx
  revert hx
  cases p.Slots.any fun s=>decide (s.Term.Var=v) <;> simp
theorem fst_any {α ρ:Type} [Inhabited α] {l:List α} {q:α->Bool} {v:ρ}:fst (fun i=>if q (at' l i)=true then some v else none) 0 l.length=if l.any q=true then some v else none:=by
 rw [fst_const,any_at]
theorem p_pat {t:Types} (hf:FewT t) (p:Pattern):attribute_Valid t p=some (patE t p):=by
 unfold attribute_Valid patE
 rw [p_Types hf,bs,p_Graph,bs]
 refine chE fun ht=>chE fun hg=>?_
 have hgo:=graphOk hg
 have e:((slices_ContainsFunc_int p.Graph.Nodes (fun y0=>attribute_Valid_1 y0 t)).bind fun x32=>
   (if x32=true then some true else ((slices_ContainsFunc_Edge p.Graph.Edges (fun y0=>attribute_Valid_2 y0 t)).bind fun x38=>some (x38))))=some (!typedB t p.Graph):=by
  unfold typedB
  rw [show (fun y0=>attribute_Valid_1 y0 t)=(fun (n:Int)=>some (decide (t.Nodes.length<=n))) from rfl,cg_int,show (fun y0=>attribute_Valid_2 y0 t)=(fun (e:Edge)=>some (decide (t.Edges.length<=e.Type'))) from rfl,cg_Edge]
  simp only [bs]
  cases p.Graph.Nodes.any fun n=>decide (t.Nodes.length<=n) <;> simp
 rw [←Option.bind_assoc,e,bs]
 refine chB fun htd=>?_
 unfold attribute_within
 simp only [bs]
 refine chP (by simp; try omega) fun hv=>chP (by simp; try omega) fun hl=>?_
 unfold mkz
 rw [if_pos (by omega),bs,←usedL_zero,w64_id (show -9223372036854775808<=p.Vars - 1 by omega) (by omega),forR_st (usedL p) (fun i=>if badS t p (at' p.Slots i)=true then some 6 else none) (by omega) rfl,fst_any]
 ·cases hb:p.Slots.any (badS t p)
  ·simp only [Bool.false_eq_true,if_false,stA,thenR_inl,p_tests,bs,ct_bool,usedL_end]
   by_cases hte:testsE p.Vars p.Tests=0
   ·simp only [hte]
    cases anyR (fun v=>!occB p v) 0 p.Vars <;> rfl
   ·simp [hte]
  ·rfl
 ·intro i h1 h2 _
  rw [idx_at h1 h2,bs,p_attrP hf hgo,bs]
  unfold badS
  by_cases hb:(attrP t p (at' p.Slots i).Node (at' p.Slots i).Attr).2=true
  ·by_cases hvar:(at' p.Slots i).Term.Var < -1∨p.Vars<=(at' p.Slots i).Term.Var
   ·have e1:(decide (-1<=(at' p.Slots i).Term.Var)&&decide ((at' p.Slots i).Term.Var<=p.Vars - 1))=false:=by rw [Bool.eq_false_iff]; simp; omega
    have e2:(decide ((at' p.Slots i).Term.Var < -1)||decide (p.Vars<=(at' p.Slots i).Term.Var))=true:=by simp; omega
    rw [hb,e1,Bool.or_assoc (!true),e2]; rfl
   ·have e1:(decide (-1<=(at' p.Slots i).Term.Var)&&decide ((at' p.Slots i).Term.Var<=p.Vars - 1))=true:=by simp; omega
    have e2:(decide ((at' p.Slots i).Term.Var < -1)||decide (p.Vars<=(at' p.Slots i).Term.Var))=false:=by rw [Bool.eq_false_iff]; simp; omega
    rw [hb,e1,Bool.or_assoc (!true),e2]
    by_cases ha:(at' p.Slots i).Term.Add < -1000000∨1000000<(at' p.Slots i).Term.Add
    ·have e3:(decide (-1000000<=(at' p.Slots i).Term.Add)&&decide ((at' p.Slots i).Term.Add<=1000000))=false:=by rw [Bool.eq_false_iff]; simp; omega
     have e4:(decide ((at' p.Slots i).Term.Add < -1000000)||decide (1000000<(at' p.Slots i).Term.Add))=true:=by simp; omega
     rw [e3,e4]; rfl
    ·have e3:(decide (-1000000<=(at' p.Slots i).Term.Add)&&decide ((at' p.Slots i).Term.Add<=1000000))=true:=by simp; omega
     have e4:(decide ((at' p.Slots i).Term.Add < -1000000)||decide (1000000<(at' p.Slots i).Term.Add))=false:=by rw [Bool.eq_false_iff]; simp; omega
     rw [e3,e4]
     by_cases h0:0<=(at' p.Slots i).Term.Var
     ·simp only [Bool.not_true,Bool.false_eq_true,if_false,bs,h0,decide_true,if_true,Bool.or_false]
      rw [idx_at h0 (by rw [usedL_len]; omega),bs,usedL_set h1 h2 h0]; rfl
     ·simp only [Bool.not_true,Bool.false_eq_true,if_false,bs,h0,decide_false,Bool.or_false]
      rw [usedL_skip h1 h2 (by omega)]; rfl
  ·rw [Bool.not_eq_true] at hb
   rw [hb]; rfl
theorem r_occ (p:Pattern) (v:Int):ref21_occurs p v=some (occB p v):=by
 unfold ref21_occurs occB
 rw [forR_any (fun i=>decide ((at' p.Slots i).Term.Var=v)) true,any_at]
 ·cases anyR (fun i=>decide ((at' p.Slots i).Term.Var=v)) 0 p.Slots.length <;> rfl
 ·intro i h1 h2 _
  rw [idx_at h1 h2,bs,if_b]
theorem r_pat {t:Types} (hf:FewT t) (p:Pattern):ref21_Valid t p=some (patE t p):=by
 unfold ref21_Valid patE
 rw [r_Types hf,bs,r_Graph,bs]
 refine chE fun ht=>chE fun hg=>?_
 have hgo:=graphOk hg
 rw [r_typed hgo,bs]
 refine chB fun htd=>chP (by simp; try omega) fun hv=>chP (by simp; try omega) fun hl=>?_
 rw [forR_any (fun i=>badS t p (at' p.Slots i)) 6,←any_at]
 ·cases hb:p.Slots.any (badS t p)
  ·simp only [Bool.false_eq_true,if_false,thenR_inl,r_tests,bs]
   by_cases hte:testsE p.Vars p.Tests=0
   ·simp only [hte]
    rw [forR_any (fun v=>!occB p v) 9]
    ·cases anyR (fun v=>!occB p v) 0 p.Vars <;> rfl
    ·intro i h1 h2 _
     rw [r_occ,bs,if_b]
   ·simp [hte]
  ·rfl
 ·intro i h1 h2 _
  rw [idx_at h1 h2,bs,r_attrP hf,bs]
  unfold badS ref21_bounded
  simp only [bs]
  have e:(!(decide (-1000000<=(at' p.Slots i).Term.Add)&&decide ((at' p.Slots i).Term.Add<=1000000)))=(decide ((at' p.Slots i).Term.Add < -1000000)||decide (1000000<(at' p.Slots i).Term.Add)):=by
   rw [Bool.not_and,←decide_not,←decide_not]
   congr 1 <;> rw [decide_eq_decide] <;> omega
  rw [e]
  cases (!(attrP t p (at' p.Slots i).Node (at' p.Slots i).Attr).2||decide ((at' p.Slots i).Term.Var < -1)||decide (p.Vars<=(at' p.Slots i).Term.Var))
  ·simp only [Bool.false_eq_true,if_false,bs,Bool.false_or,if_b]
  ·rfl
end Go.Sf.Sc
