/- Plain lemmas: what the functions of the program and of the reference compute. -/
import Derived.Test.YtbedpmpjdnooiaaGreatP14
set_option maxRecDepth 100000
namespace Go.Sf.Sc
open Go Go.Sf
theorem plainConsistency (c:law53_Case) (r:Rule) (sc:(elaw53_Case c).Sm) (sr:(eRule r).Sm):law53_TripleruleConsistency c r=some true:=by
 obtain ⟨b,hb,hfew⟩:=law_few sc sr
 unfold law53_TripleruleConsistency
 rw [awake,bs,if_neg (by decide),hb,bs,bs]
 cases b
 ·rfl
 obtain ⟨hf,hr⟩:=hfew rfl
 rw [if_neg (by decide)]
 unfold triplerule_Consistency ref53_Consistency
 rw [p_trans hf hr,r_Trans hf hr [1,3] true true has13]
 simp only [bs]
 by_cases h:tripE c.T c.S r=0
 ·simp only [h,ne_eq,not_true_eq_false,if_false,decide_true,bs,if_true]
  rw [same_rule (transR_kids c.S r [1,3]),same_part]; rfl
 ·simp only [h,ne_eq,not_false_eq_true,if_true,decide_true,bs]
  rw [same_rule (r:=zeroR) rfl,same_part]; rfl
end Go.Sf.Sc
