/- Plain lemmas: what the functions of the program and of the reference compute. -/
import Derived.Test.YtmaobfbhdkafkaaGreatP9
import Derived.Test.YtmaobfbhdkafkaaGreatSfRead
set_option maxRecDepth 100000
namespace Go.Sf
theorem list_sm {α:Type} {e:α->TV} {n:Nat} {l:List α} (h:TV.Sm (.list n (l.map e))):(l.length:Int)<=140737488351232∧∀ x∈l,(e x).Sm:=by
 simp only [TV.Sm,List.length_map] at h
 refine ⟨by have:=h.1; unfold reachBytes at this; omega,fun x hx=>sms_mem.1 h.2 _ (List.mem_map.2 ⟨x,hx,rfl⟩)⟩
end Go.Sf
namespace Go.Sf.Sc
open Go Go.Sf
theorem few_pat (p:Pattern):∃ b,ref21_Few p=some b∧(b=true->FewQ p):=by
 refine ⟨_,rfl,fun h=>?_⟩
 simp only [Bool.and_eq_true,decide_eq_true_eq] at h
 exact ⟨by omega,by omega,by omega,by omega⟩
theorem few_sum {a b:Int} (ha:0<=a) (ha2:a<=140737488351232) (hb:0<=b) (hb2:b<=140737488351232):w64 (a+b)=a+b:=w64_id (by omega) (by omega)
theorem few_mor {m:Morphism} (hs:(eMorphism m).Sm):∃ b,ref06_Few m 140=some b∧(b=true->FewM m):=by
 have hs':TV.Sms [_,_]:=hs
 have h1:=(list_sm (e:=eI) hs'.1).1
 have h2:=(list_sm (e:=eI) hs'.2.1).1
 refine ⟨_,rfl,fun h=>?_⟩
 rw [few_sum (by omega) h1 (by omega) h2] at h
 simp only [decide_eq_true_eq] at h
 exact ⟨by omega,by omega⟩
theorem cond_sm {c:Condition} (h:(eCondition c).Sm):(eMorphism c.Map).Sm∧(c.Kids.length:Int)<=140737488351232∧∀ k∈c.Kids,(eCondition k).Sm:=by
 have h':TV.Sms [_,_,_,_,_,_,_,_,_]:=h
 obtain ⟨_,h2,h3,h4,_⟩:=h'
 rw [eLCondition_lst] at h2
 obtain ⟨k1,k2⟩:=list_sm h2
 exact ⟨⟨h3,h4,trivial⟩,k1,k2⟩
end Go.Sf.Sc
