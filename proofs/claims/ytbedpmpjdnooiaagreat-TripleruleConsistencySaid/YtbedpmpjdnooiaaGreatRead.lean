/- What is read of the arguments of the law. -/
import Derived.Test.YtbedpmpjdnooiaaGreatTypes
import Derived.Test.YtbedpmpjdnooiaaGreatSfClaim
import Derived.KernelRfl
set_option maxRecDepth 100000
namespace Go.Sf.Sc
open Go Go.Sf Go.Proofs.Tryz
theorem rd9:∀ fuel,Reads prog 9 1 eS fuel
 | 0=>reads_zero
 | _+1=>reads_str underlying9
theorem rd3:∀ fuel,Reads prog 3 1 eI fuel
 | 0=>reads_zero
 | _+1=>reads_int underlying3
theorem rd4:∀ fuel,Reads prog 4 1 eB fuel
 | 0=>reads_zero
 | _+1=>reads_bool underlying4
theorem rd122:∀ fuel,Reads prog 122 1 (eL 1 eS) fuel
 | 0=>reads_zero
 | n+1=>reads_slice underlying122 (by kernel_rfl) (by decide) (of_decide_eq_true (by kernel_rfl)) (rd9 n)
theorem rd124:∀ fuel,Reads prog 124 4 eAttr fuel
 | 0=>reads_zero
 | n+1=>reads_struct (L:=[(9,0),(3,1),(3,2),(122,3)]) (m:=4) (fun y=>⟨y.1,y.2.1,y.2.2.1,y.2.2.2.1⟩) underlying124 rfl (by kernel_rfl) (fields_cons (by kernel_rfl) (by decide) (rd9 n) (fields_cons (by kernel_rfl) (by decide) (rd3 n) (fields_cons (by kernel_rfl) (by decide) (rd3 n) (fields_cons (by kernel_rfl) (by decide) (rd122 n) (fields_nil))))) (fun _=>rfl)
theorem rd91:∀ fuel,Reads prog 91 1 (eL 4 eAttr) fuel
 | 0=>reads_zero
 | n+1=>reads_slice underlying91 (by kernel_rfl) (by decide) (of_decide_eq_true (by kernel_rfl)) (rd124 n)
theorem rd93:∀ fuel,Reads prog 93 4 eNodeType fuel
 | 0=>reads_zero
 | n+1=>reads_struct (L:=[(9,0),(3,1),(4,2),(91,3)]) (m:=4) (fun y=>⟨y.1,y.2.1,y.2.2.1,y.2.2.2.1⟩) underlying93 rfl (by kernel_rfl) (fields_cons (by kernel_rfl) (by decide) (rd9 n) (fields_cons (by kernel_rfl) (by decide) (rd3 n) (fields_cons (by kernel_rfl) (by decide) (rd4 n) (fields_cons (by kernel_rfl) (by decide) (rd91 n) (fields_nil))))) (fun _=>rfl)
theorem rd22:∀ fuel,Reads prog 22 1 (eL 4 eNodeType) fuel
 | 0=>reads_zero
 | n+1=>reads_slice underlying22 (by kernel_rfl) (by decide) (of_decide_eq_true (by kernel_rfl)) (rd93 n)
theorem rd100:∀ fuel,Reads prog 100 7 eEdgeType fuel
 | 0=>reads_zero
 | n+1=>reads_struct (L:=[(9,0),(3,1),(3,2),(3,3),(3,4),(3,5),(3,6)]) (m:=7) (fun y=>⟨y.1,y.2.1,y.2.2.1,y.2.2.2.1,y.2.2.2.2.1,y.2.2.2.2.2.1,y.2.2.2.2.2.2.1⟩) underlying100 rfl (by kernel_rfl) (fields_cons (by kernel_rfl) (by decide) (rd9 n) (fields_cons (by kernel_rfl) (by decide) (rd3 n) (fields_cons (by kernel_rfl) (by decide) (rd3 n) (fields_cons (by kernel_rfl) (by decide) (rd3 n) (fields_cons (by kernel_rfl) (by decide) (rd3 n) (fields_cons (by kernel_rfl) (by decide) (rd3 n) (fields_cons (by kernel_rfl) (by decide) (rd3 n) (fields_nil)))))))) (fun _=>rfl)
theorem rd23:∀ fuel,Reads prog 23 1 (eL 7 eEdgeType) fuel
 | 0=>reads_zero
 | n+1=>reads_slice underlying23 (by kernel_rfl) (by decide) (of_decide_eq_true (by kernel_rfl)) (rd100 n)
theorem rd25:∀ fuel,Reads prog 25 2 eTypes fuel
 | 0=>reads_zero
 | n+1=>reads_struct (L:=[(22,0),(23,1)]) (m:=2) (fun y=>⟨y.1,y.2.1⟩) underlying25 rfl (by kernel_rfl) (fields_cons (by kernel_rfl) (by decide) (rd22 n) (fields_cons (by kernel_rfl) (by decide) (rd23 n) (fields_nil))) (fun _=>rfl)
theorem rd26:∀ fuel,Reads prog 26 1 (eL 1 eI) fuel
 | 0=>reads_zero
 | n+1=>reads_slice underlying26 (by kernel_rfl) (by decide) (of_decide_eq_true (by kernel_rfl)) (rd3 n)
theorem rd28:∀ fuel,Reads prog 28 2 eSorts fuel
 | 0=>reads_zero
 | n+1=>reads_struct (L:=[(26,0),(26,1)]) (m:=2) (fun y=>⟨y.1,y.2.1⟩) underlying28 rfl (by kernel_rfl) (fields_cons (by kernel_rfl) (by decide) (rd26 n) (fields_cons (by kernel_rfl) (by decide) (rd26 n) (fields_nil))) (fun _=>rfl)
theorem rd30:∀ fuel,Reads prog 30 4 elaw53_Case fuel
 | 0=>reads_zero
 | n+1=>reads_struct (L:=[(25,0),(28,2)]) (m:=4) (fun y=>⟨y.1,y.2.1⟩) underlying30 rfl (by kernel_rfl) (fields_cons (by kernel_rfl) (by decide) (rd25 n) (fields_cons (by kernel_rfl) (by decide) (rd28 n) (fields_nil))) (fun _=>rfl)
theorem rd74:∀ fuel,Reads prog 74 3 eEdge fuel
 | 0=>reads_zero
 | n+1=>reads_struct (L:=[(3,0),(3,1),(3,2)]) (m:=3) (fun y=>⟨y.1,y.2.1,y.2.2.1⟩) underlying74 rfl (by kernel_rfl) (fields_cons (by kernel_rfl) (by decide) (rd3 n) (fields_cons (by kernel_rfl) (by decide) (rd3 n) (fields_cons (by kernel_rfl) (by decide) (rd3 n) (fields_nil)))) (fun _=>rfl)
theorem rd31:∀ fuel,Reads prog 31 1 (eL 3 eEdge) fuel
 | 0=>reads_zero
 | n+1=>reads_slice underlying31 (by kernel_rfl) (by decide) (of_decide_eq_true (by kernel_rfl)) (rd74 n)
theorem rd33:∀ fuel,Reads prog 33 2 eGraph fuel
 | 0=>reads_zero
 | n+1=>reads_struct (L:=[(26,0),(31,1)]) (m:=2) (fun y=>⟨y.1,y.2.1⟩) underlying33 rfl (by kernel_rfl) (fields_cons (by kernel_rfl) (by decide) (rd26 n) (fields_cons (by kernel_rfl) (by decide) (rd31 n) (fields_nil))) (fun _=>rfl)
theorem rd162:∀ fuel,Reads prog 162 2 eTerm fuel
 | 0=>reads_zero
 | n+1=>reads_struct (L:=[(3,0),(3,1)]) (m:=2) (fun y=>⟨y.1,y.2.1⟩) underlying162 rfl (by kernel_rfl) (fields_cons (by kernel_rfl) (by decide) (rd3 n) (fields_cons (by kernel_rfl) (by decide) (rd3 n) (fields_nil))) (fun _=>rfl)
theorem rd164:∀ fuel,Reads prog 164 4 eSlot fuel
 | 0=>reads_zero
 | n+1=>reads_struct (L:=[(3,0),(3,1),(162,2)]) (m:=4) (fun y=>⟨y.1,y.2.1,y.2.2.1⟩) underlying164 rfl (by kernel_rfl) (fields_cons (by kernel_rfl) (by decide) (rd3 n) (fields_cons (by kernel_rfl) (by decide) (rd3 n) (fields_cons (by kernel_rfl) (by decide) (rd162 n) (fields_nil)))) (fun _=>rfl)
theorem rd34:∀ fuel,Reads prog 34 1 (eL 4 eSlot) fuel
 | 0=>reads_zero
 | n+1=>reads_slice underlying34 (by kernel_rfl) (by decide) (of_decide_eq_true (by kernel_rfl)) (rd164 n)
theorem rd188:∀ fuel,Reads prog 188 5 eTest fuel
 | 0=>reads_zero
 | n+1=>reads_struct (L:=[(3,0),(162,1),(162,3)]) (m:=5) (fun y=>⟨y.1,y.2.1,y.2.2.1⟩) underlying188 rfl (by kernel_rfl) (fields_cons (by kernel_rfl) (by decide) (rd3 n) (fields_cons (by kernel_rfl) (by decide) (rd162 n) (fields_cons (by kernel_rfl) (by decide) (rd162 n) (fields_nil)))) (fun _=>rfl)
theorem rd35:∀ fuel,Reads prog 35 1 (eL 5 eTest) fuel
 | 0=>reads_zero
 | n+1=>reads_slice underlying35 (by kernel_rfl) (by decide) (of_decide_eq_true (by kernel_rfl)) (rd188 n)
theorem rd37:∀ fuel,Reads prog 37 5 ePattern fuel
 | 0=>reads_zero
 | n+1=>reads_struct (L:=[(33,0),(34,2),(3,3),(35,4)]) (m:=5) (fun y=>⟨y.1,y.2.1,y.2.2.1,y.2.2.2.1⟩) underlying37 rfl (by kernel_rfl) (fields_cons (by kernel_rfl) (by decide) (rd33 n) (fields_cons (by kernel_rfl) (by decide) (rd34 n) (fields_cons (by kernel_rfl) (by decide) (rd3 n) (fields_cons (by kernel_rfl) (by decide) (rd35 n) (fields_nil))))) (fun _=>rfl)
theorem rd38:∀ fuel,Reads prog 38 2 ePart fuel
 | 0=>reads_zero
 | n+1=>reads_struct (L:=[(26,0),(26,1)]) (m:=2) (fun y=>⟨y.1,y.2.1⟩) underlying38 rfl (by kernel_rfl) (fields_cons (by kernel_rfl) (by decide) (rd26 n) (fields_cons (by kernel_rfl) (by decide) (rd26 n) (fields_nil))) (fun _=>rfl)
theorem rd39:∀ fuel,Reads prog 39 2 eMorphism fuel
 | 0=>reads_zero
 | n+1=>reads_struct (L:=[(26,0),(26,1)]) (m:=2) (fun y=>⟨y.1,y.2.1⟩) underlying39 rfl (by kernel_rfl) (fields_cons (by kernel_rfl) (by decide) (rd26 n) (fields_cons (by kernel_rfl) (by decide) (rd26 n) (fields_nil))) (fun _=>rfl)
theorem rd42S (n:Nat) (ih:∀ k,k<n->Reads prog 42 9 eCondition k):Reads prog 42 9 eCondition n:=by
 cases n with
 | zero=>exact reads_zero
 | succ n=>
  have hk40:Reads prog 40 1 eLCondition n:=by
   cases n with
   | zero=>exact reads_zero
   | succ m=>
    have:=reads_slice underlying40 (n:=9) (by kernel_rfl) (by decide) (of_decide_eq_true (by kernel_rfl)) (ih m (by omega))
    have he:eLCondition=(fun l=>TV.list 9 (l.map eCondition)):=funext eLCondition_lst
    rw [he]; exact this
  exact reads_struct (L:=[(3,0),(40,1),(39,2),(37,4)]) (m:=9) (fun y=>⟨y.1,y.2.1,y.2.2.1,y.2.2.2.1⟩) underlying42 rfl (by kernel_rfl) (fields_cons (by kernel_rfl) (by decide) (rd3 n) (fields_cons (by kernel_rfl) (by decide) hk40 (fields_cons (by kernel_rfl) (by decide) (rd39 n) (fields_cons (by kernel_rfl) (by decide) (rd37 n) (fields_nil))))) (fun _=>rfl)
theorem rd42 (fuel:Nat):Reads prog 42 9 eCondition fuel:=Nat.strongRecOn fuel rd42S
theorem rd44:∀ fuel,Reads prog 44 25 eRule fuel
 | 0=>reads_zero
 | n+1=>reads_struct (L:=[(9,0),(37,1),(37,6),(38,11),(39,13),(4,15),(42,16)]) (m:=25) (fun y=>⟨y.1,y.2.1,y.2.2.1,y.2.2.2.1,y.2.2.2.2.1,y.2.2.2.2.2.1,y.2.2.2.2.2.2.1⟩) underlying44 rfl (by kernel_rfl) (fields_cons (by kernel_rfl) (by decide) (rd9 n) (fields_cons (by kernel_rfl) (by decide) (rd37 n) (fields_cons (by kernel_rfl) (by decide) (rd37 n) (fields_cons (by kernel_rfl) (by decide) (rd38 n) (fields_cons (by kernel_rfl) (by decide) (rd39 n) (fields_cons (by kernel_rfl) (by decide) (rd4 n) (fields_cons (by kernel_rfl) (by decide) (rd42 n) (fields_nil)))))))) (fun _=>rfl)
end Go.Sf.Sc
