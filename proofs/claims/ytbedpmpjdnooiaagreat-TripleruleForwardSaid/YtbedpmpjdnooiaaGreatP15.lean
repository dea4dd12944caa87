/- Plain lemmas: what the functions of the program and of the reference compute. -/
import Derived.Test.YtbedpmpjdnooiaaGreatP14
set_option maxRecDepth 100000
namespace Go.Sf.Sc
open Go Go.Sf
theorem plainForward (c:law53_Case) (r:Rule) (sc:(elaw53_Case c).Sm) (sr:(eRule r).Sm):law53_TripleruleForward c r=some true:=by
 obtain ⟨b,hb,hfew⟩:=law_few sc sr
 unfold law53_TripleruleForward
 rw [awake,bs,if_neg (by decide),hb,bs,bs]
 cases b
 ·rfl
 obtain ⟨hf,hr⟩:=hfew rfl
 rw [if_neg (by decide)]
 unfold triplerule_Forward ref53_Forward triplerule_Backward ref53_Backward
 rw [p_trans hf hr,p_trans hf hr,r_Trans hf hr [1] true false has1,r_Trans hf hr [3] false true has3]
 simp only [bs]
 by_cases h:tripE c.T c.S r=0
 ·simp only [h,ne_eq,not_true_eq_false,if_false,decide_true,bs,Bool.and_self,if_true]
  rw [same_rule (transR_kids c.S r [1]),same_rule (transR_kids c.S r [3]),same_part,same_part]; rfl
 ·simp only [h,ne_eq,not_false_eq_true,if_true,decide_true,bs,Bool.and_self]
  rw [same_rule (r:=zeroR) rfl,same_part]; rfl
end Go.Sf.Sc
