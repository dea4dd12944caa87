/- Plain lemmas: what the functions of the program and of the reference compute. -/
import Derived.Test.YtbedpmpjdnooiaaGreatP4
set_option maxRecDepth 100000
namespace Go.Sf.Sc
open Go Go.Sf
def upN (t:Types):Nat->Int->List Int
 | 0,_=>[]
 | n+1,a=>if a<0 then [] else a::upN t n (par t a)
theorem upN_len (t:Types):∀ (n:Nat) (a:Int),(upN t n a).length<=n
 | 0,_=>by simp [upN]
 | n+1,a=>by
  rw [upN]
  split
  ·simp
  ·have:=upN_len t n (par t a); simp; omega
def isB (t:Types) (a b:Int):Bool:=(upN t (a+1).toNat a).any fun x=>decide (b=x)
theorem line_go {t:Types} (h12:t.Nodes.length<=12) (hp:ParOk t t.Nodes.length):∀ (n:Nat) (a:Int) (l:List Int),a<t.Nodes.length->a<n->l.length+n<=1000 ->
  ∃ x,WhEv (ρ:=List Int) (fun (s0:Int × List Int)=>
 if (decide (0<=s0.1))=true then
 (appC s0.2 [s0.1]).bind fun x17=>
 (idx t.Nodes s0.1).bind fun x11=>
 some (.next (x11.Parent,x17))
 else
 some (.brk (s0.1,s0.2))) (a,l) (.inl (x,l++upN t n a))
 | 0,a,l,h1,h2,_=>by
  refine ⟨a,.brk ?_⟩
  rw [if_neg (by simp; omega)]
  simp [upN]
 | n+1,a,l,h1,h2,h3=>by
  by_cases h0:a<0
  ·refine ⟨a,.brk ?_⟩
   rw [if_neg (by simp; omega)]
   simp [upN,h0]
  ·have hq:=hp a (by omega) h1
   obtain ⟨x,hx⟩:=line_go h12 hp n (par t a) (l++[a]) (by omega) (by omega) (by simp; omega)
   refine ⟨x,.next (s':=(par t a,l++[a])) ?_ ?_⟩
   ·rw [if_pos (by simp; omega),appC_some (by simp; unfold nmax; omega),bs,idx_at (by omega) h1]; rfl
   ·rw [upN,if_neg h0,show l++a::upN t n (par t a)=(l++[a])++upN t n (par t a) by simp]
    exact hx
theorem p_is {t:Types} (h:TypesOk t) {a b:Int} (ha:0<=a) (ha2:a<t.Nodes.length):types_is t a b=some (isB t a b):=by
 have h12:=h.nodes
 obtain ⟨x,hx⟩:=line_go h12 h.par (a+1).toNat a [] ha2 (by omega) (by simp; omega)
 have hl:=upN_len t (a+1).toNat a
 unfold types_is types_line
 rw [hx.eq,thenR_inl]
 simp only [List.nil_append]
 unfold slices_Reverse_int
 rw [if_pos (by unfold nmax; omega)]
 simp only [bs]
 rw [ct_int,bs]
 unfold isB
 rw [List.any_reverse]
theorem r_belowF {t:Types} (hp:ParOk t t.Nodes.length) {b:Int} (hb:0<=b):∀ (n m:Nat) (a:Int),-1<=a->a<t.Nodes.length->a+1<n->a<m->ref04_Below1F n t a b=some ((upN t m a).any fun x=>decide (b=x))
 | 0,_,_,_,_,_,_=>by omega
 | n+1,m,a,h0,h1,h2,h3=>by
  rw [ref04_Below1F]
  by_cases ha:a<0
  ·rw [if_neg (by simp; omega),if_neg (by simp; omega)]
   cases m <;> simp [upN,ha]
  ·cases m with
   | zero=>omega
   | succ m=>
    have hq:=hp a (by omega) h1
    rw [upN,if_neg ha,List.any_cons,if_pos (show decide (0<=a)=true by simp; omega),idx_at (by omega) h1]
    simp only [bs]
    rw [show (at' t.Nodes a).Parent=par t a from rfl,r_belowF hp hb n m (par t a) (by omega) (by omega) (by omega) (by omega)]
    by_cases hab:a=b
    ·simp [hab]
    ·have:¬ b=a:=fun e=>hab e.symm
     simp [hab,this]
theorem r_below {t:Types} (h:TypesOk t) {a b:Int} (ha:0<=a) (ha2:a<t.Nodes.length) (hb:0<=b):ref04_Below1 t a b=some (isB t a b):=
 lim_eq (a+2).toNat fun n hn=>r_belowF h.par hb n (a+1).toNat a (by omega) ha2 (by omega) (by omega)
def fitsB (t:Types) (e f g:Int):Bool:=
 decide ((typesV t).2=0)&&(inB t f&&inB t g)&&(decide (0<=e)&&decide (e<t.Edges.length))&&(isB t f (at' t.Edges e).From&&isB t g (at' t.Edges e).To)
theorem p_Fits {t:Types} (hf:FewT t) (e f g:Int):types_Fits t e f g=some (fitsB t e f g):=by
 unfold types_Fits fitsB
 rw [p_given hf,bs,show [f,g].all (inB t)=(inB t f&&inB t g) by simp]
 by_cases h:(typesV t).2=0
 ·simp only [h,ne_eq,not_true_eq_false,if_false]
  have hok:=typesOk h
  cases hi:(inB t f&&inB t g)
  ·rfl
  ·rw [Bool.and_eq_true,inB_iff,inB_iff] at hi
   by_cases he:0<=e∧e<t.Edges.length
   ·rw [if_neg (by simp; omega),idx_at he.1 he.2]
    simp only [bs,p_is hok hi.1.1 hi.1.2,p_is hok hi.2.1 hi.2.2,he.1,he.2,decide_true,Bool.true_and]
    cases isB t f (at' t.Edges e).From <;> rfl
   ·rw [if_pos (by simp; omega)]
    have:(decide (0<=e)&&decide (e<t.Edges.length))=false:=by rw [Bool.eq_false_iff]; simpa using he
    rw [this]; simp
 ·simp [h]
theorem r_Fits {t:Types} (hf:FewT t) (e f g:Int):ref04_Fits t e f g=some (fitsB t e f g):=by
 have hl:=hf.edges
 unfold ref04_Fits fitsB ref04_in
 rw [r_given hf,bs]
 by_cases h:(typesV t).2=0
 ·simp only [h,ne_eq,not_true_eq_false,if_false]
  have hok:=typesOk h
  cases hi:(inB t f&&inB t g)
  ·rfl
  ·rw [Bool.and_eq_true,inB_iff,inB_iff] at hi
   rw [w64_id (by omega) (by omega)]
   simp only [bs]
   by_cases he:0<=e∧e<t.Edges.length
   ·have he2:=hok.ends he.1 he.2
    have he3:e<=(t.Edges.length:Int) - 1:=by omega
    rw [if_neg (by simp),bs,if_neg (by simp [he.1,he3]),idx_at he.1 he.2]
    simp only [bs,r_below hok hi.1.1 hi.1.2 he2.1.1,r_below hok hi.2.1 hi.2.2 he2.2.1,he.1,he.2,decide_true,Bool.true_and]
    cases isB t f (at' t.Edges e).From <;> rfl
   ·have:(decide (0<=e)&&decide (e<t.Edges.length))=false:=by rw [Bool.eq_false_iff]; simpa using he
    have h2:(decide (0<=e)&&decide (e<=(t.Edges.length:Int) - 1))=false:=by rw [Bool.eq_false_iff]; simp; omega
    rw [this,h2]; simp
 ·simp [h]
def termB (n:Int) (x:Term):Bool:=(((decide ((-1)<=x.Var))&&(decide (x.Var<n)))&&(decide ((-1000000)<=x.Add)))&&(decide (x.Add<=1000000))
def testE (n:Int) (x:Test):Int:=if ¬ x.Kind=1∧¬ x.Kind=2 then 1 else if (termB n x.Left&&termB n x.Right)=true then 0 else 6
def testsE (n:Int) (l:List Test):Int:=if n<0∨12<n then 6 else if 40<l.length then 3 else (fst (fun i=>nz (testE n (at' l i))) 0 l.length).getD 0
theorem p_test (n:Int) (x:Test):difference_one n x=some (testE n x):=by
 unfold difference_one testE
 simp only [show ∀ n x,difference_term n x=some (termB n x) from fun _ _=>rfl,bs]
 generalize termB n x.Left=b1
 generalize termB n x.Right=b2
 cases b1 <;> cases b2
 all_goals
  simp only [bs,decide_eq_true_eq,Bool.or_eq_true,Bool.and_eq_true,Bool.not_eq_true',decide_eq_false_iff_not,Bool.not_eq_false',Bool.or_eq_false_iff,Bool.and_eq_false_iff,ne_eq]
  repeat' (first | rfl | (exfalso; omega; done) | split)
  all_goals (first | rfl | (exfalso; omega) | omega | simp_all | (simp_all; omega))
theorem r_within (n:Int) (x:Term):ref03_within n x=some (if termB n x=true then 0 else 6):=by
 unfold ref03_within termB
 simp only [bs,decide_eq_true_eq,Bool.or_eq_true,Bool.and_eq_true,Bool.not_eq_true',decide_eq_false_iff_not,Bool.not_eq_false',Bool.or_eq_false_iff,Bool.and_eq_false_iff,ne_eq]
 repeat' (first | rfl | (exfalso; omega; done) | split)
 all_goals (first | rfl | (exfalso; omega) | omega | simp_all | (simp_all; omega))
theorem r_test (n:Int) (x:Test):ref03_One n x=some (testE n x):=by
 unfold ref03_One testE
 simp only [r_within,bs]
 generalize termB n x.Left=b1
 generalize termB n x.Right=b2
 cases b1 <;> cases b2
 all_goals
  simp only [bs,decide_eq_true_eq,Bool.or_eq_true,Bool.and_eq_true,Bool.not_eq_true',decide_eq_false_iff_not,Bool.not_eq_false',Bool.or_eq_false_iff,Bool.and_eq_false_iff,ne_eq]
  repeat' (first | rfl | (exfalso; omega; done) | split)
  all_goals (first | rfl | (exfalso; omega) | omega | simp_all | (simp_all; omega))
theorem p_tests (n:Int) (l:List Test):difference_Valid n l=some (testsE n l):=by
 unfold difference_Valid testsE
 rw [forR_fst (fun i=>nz (testE n (at' l i))),thenR_ans0]
 ·simp only [bs,decide_eq_true_eq,Bool.or_eq_true,Bool.and_eq_true,Bool.not_eq_true',decide_eq_false_iff_not,Bool.not_eq_false',Bool.or_eq_false_iff,Bool.and_eq_false_iff,ne_eq]
  repeat' (first | rfl | (exfalso; omega; done) | split)
  all_goals (first | rfl | (exfalso; omega) | omega | simp_all | (simp_all; omega))
 ·intro i h1 h2 _
  rw [idx_at h1 h2,bs,p_test,bs,nz_ctl]
theorem r_tests (n:Int) (l:List Test):ref03_Valid n l=some (testsE n l):=by
 unfold ref03_Valid testsE
 rw [forR_fst (fun i=>nz (testE n (at' l i))),thenR_ans0]
 ·simp only [bs,decide_eq_true_eq,Bool.or_eq_true,Bool.and_eq_true,Bool.not_eq_true',decide_eq_false_iff_not,Bool.not_eq_false',Bool.or_eq_false_iff,Bool.and_eq_false_iff,ne_eq]
  repeat' (first | rfl | (exfalso; omega; done) | split)
  all_goals (first | rfl | (exfalso; omega) | omega | simp_all | (simp_all; omega))
 ·intro i h1 h2 _
  rw [idx_at h1 h2,bs,r_test,bs,nz_ctl]
def attrP (t:Types) (p:Pattern) (node ix:Int):Attr × Bool:=
 if node<0∨p.Graph.Nodes.length<=node then (default,false) else
 let l:=(attrsR t (at' p.Graph.Nodes node)).1
 if ix<0∨l.length<=ix then (default,false) else (at' l ix,true)
theorem attrsR_len {t:Types} (hf:FewT t) (a:Int):(attrsR t a).1.length<=600∧((attrsR t a).2≠0->(attrsR t a).1=[]):=by
 unfold attrsR
 split
 ·simp
 ·rename_i h
  have hok:=typesOk (t:=t) (by omega)
  split
  ·rename_i hi
   exact ⟨attrsS_len hf (Int.le_refl _) hok.par (inB_iff.1 hi).2,by simp⟩
  ·simp
theorem p_attrP {t:Types} (hf:FewT t) {p:Pattern} (hg:GraphOk p.Graph) (s:Slot):attribute_attr t p s=some (attrP t p s.Node s.Attr):=by
 have hn:=hg.nodes
 unfold attribute_attr attrP attribute_within
 dsimp only
 rw [w64_id (by omega) (by omega),bs]
 by_cases h:s.Node<0∨p.Graph.Nodes.length<=s.Node
 ·rw [if_pos (by simp; omega),if_pos h]; rfl
 ·rw [if_neg (by simp; omega),if_neg h,idx_at (by omega) (by omega),bs,p_Attrs hf,bs]
  have hl:=(attrsR_len hf (at' p.Graph.Nodes s.Node)).1
  rw [w64_id (by omega) (by omega),bs]
  by_cases h2:s.Attr<0∨(attrsR t (at' p.Graph.Nodes s.Node)).1.length<=s.Attr
  ·rw [if_pos (by simp; omega),if_pos h2]; rfl
  ·rw [if_neg (by simp; omega),if_neg h2,idx_at (by omega) (by omega)]; rfl
theorem r_attrP {t:Types} (hf:FewT t) {p:Pattern} (node ix:Int):ref21_attr t p node ix=some (attrP t p node ix):=by
 unfold ref21_attr attrP
 dsimp only
 by_cases h:node<0∨p.Graph.Nodes.length<=node
 ·rw [if_pos (by simp; omega),if_pos h]; rfl
 ·rw [if_neg (by simp; omega),if_neg h,idx_at (by omega) (by omega),bs,r_Attrs hf,bs]
  have hl:=(attrsR_len hf (at' p.Graph.Nodes node)).2
  by_cases h2:ix<0∨(attrsR t (at' p.Graph.Nodes node)).1.length<=ix
  ·rw [if_pos (by simp; omega),if_pos h2]; rfl
  ·by_cases he:(attrsR t (at' p.Graph.Nodes node)).2=0
   ·rw [if_neg (by simp [he]; omega),if_neg h2,idx_at (by omega) (by omega)]; rfl
   ·rw [hl he] at h2; simp at h2; omega
end Go.Sf.Sc
