/- Plain lemmas: what the functions of the program and of the reference compute. -/
import Derived.Test.YtmaobfbhdkafkaaGreatP11
import Derived.Test.YtmaobfbhdkafkaaGreatEvA
set_option maxRecDepth 100000
namespace Go.Sf.Sc
open Go Go.Sf
theorem p_condA {t:Types} (hf:FewT t) (p:Pattern) {c:Condition} (hc:FewC c):condition_Valid t p c=some (condE t p c):=by
 by_cases ht:(typesV t).2=0
 ·exact p_cond hf ht p hc
 ·unfold condition_Valid condE
  rw [p_pat hf,bs]
  refine chE fun h=>?_
  exfalso
  unfold patE at h
  rw [if_pos ht] at h
  exact ht h
theorem plainConditionValid (t:Types) (x:law22_Over) (st:(eTypes t).Sm) (sx:(elaw22_Over x).Sm):law22_ConditionValid t x=some true:=by
 obtain ⟨b1,e1,f1⟩:=few_types st
 have sc:(eCondition x.C).Sm:=by
  obtain ⟨p,c⟩:=x
  cases c
  have sx':TV.Sms [_,_,_,_,_,_,_,_,_,_,_,_,_,_]:=sx
  obtain ⟨_,_,_,_,_,h⟩:=sx'
  exact h
 obtain ⟨b2,e2,f2⟩:=few_cond sc
 obtain ⟨b3,e3,f3⟩:=few_pat x.P
 unfold law22_ConditionValid
 rw [awake_is,bs,if_neg (by decide),e1,e2,e3]
 cases b1
 ·rfl
 cases b2
 ·rfl
 cases b3
 ·rfl
 simp only [bs,Bool.not_true,Bool.false_eq_true,if_false]
 rw [p_condA (f1 rfl) x.P (f2 rfl),r_cond (f1 rfl) x.P (f2 rfl)]
 simp
end Go.Sf.Sc
