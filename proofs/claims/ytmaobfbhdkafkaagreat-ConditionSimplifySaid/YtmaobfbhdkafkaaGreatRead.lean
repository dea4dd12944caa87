/- What is read of the arguments of the law. -/
import Derived.Test.YtmaobfbhdkafkaaGreatTypes
import Derived.Test.YtmaobfbhdkafkaaGreatSfClaim
import Derived.KernelRfl
set_option maxRecDepth 100000
namespace Go.Sf.Sc
open Go Go.Sf Go.Proofs.Tryz
theorem rd3:∀ fuel,Reads prog 3 1 eI fuel
 | 0=>reads_zero
 | _+1=>reads_int underlying3
theorem rd26:∀ fuel,Reads prog 26 1 (eL 1 eI) fuel
 | 0=>reads_zero
 | n+1=>reads_slice underlying26 (by kernel_rfl) (by decide) (of_decide_eq_true (by kernel_rfl)) (rd3 n)
theorem rd36:∀ fuel,Reads prog 36 2 eMorphism fuel
 | 0=>reads_zero
 | n+1=>reads_struct (L:=[(26,0),(26,1)]) (m:=2) (fun y=>⟨y.1,y.2.1⟩) underlying36 rfl (by kernel_rfl) (fields_cons (by kernel_rfl) (by decide) (rd26 n) (fields_cons (by kernel_rfl) (by decide) (rd26 n) (fields_nil))) (fun _=>rfl)
theorem rd96:∀ fuel,Reads prog 96 3 eEdge fuel
 | 0=>reads_zero
 | n+1=>reads_struct (L:=[(3,0),(3,1),(3,2)]) (m:=3) (fun y=>⟨y.1,y.2.1,y.2.2.1⟩) underlying96 rfl (by kernel_rfl) (fields_cons (by kernel_rfl) (by decide) (rd3 n) (fields_cons (by kernel_rfl) (by decide) (rd3 n) (fields_cons (by kernel_rfl) (by decide) (rd3 n) (fields_nil)))) (fun _=>rfl)
theorem rd27:∀ fuel,Reads prog 27 1 (eL 3 eEdge) fuel
 | 0=>reads_zero
 | n+1=>reads_slice underlying27 (by kernel_rfl) (by decide) (of_decide_eq_true (by kernel_rfl)) (rd96 n)
theorem rd29:∀ fuel,Reads prog 29 2 eGraph fuel
 | 0=>reads_zero
 | n+1=>reads_struct (L:=[(26,0),(27,1)]) (m:=2) (fun y=>⟨y.1,y.2.1⟩) underlying29 rfl (by kernel_rfl) (fields_cons (by kernel_rfl) (by decide) (rd26 n) (fields_cons (by kernel_rfl) (by decide) (rd27 n) (fields_nil))) (fun _=>rfl)
theorem rd139:∀ fuel,Reads prog 139 2 eTerm fuel
 | 0=>reads_zero
 | n+1=>reads_struct (L:=[(3,0),(3,1)]) (m:=2) (fun y=>⟨y.1,y.2.1⟩) underlying139 rfl (by kernel_rfl) (fields_cons (by kernel_rfl) (by decide) (rd3 n) (fields_cons (by kernel_rfl) (by decide) (rd3 n) (fields_nil))) (fun _=>rfl)
theorem rd141:∀ fuel,Reads prog 141 4 eSlot fuel
 | 0=>reads_zero
 | n+1=>reads_struct (L:=[(3,0),(3,1),(139,2)]) (m:=4) (fun y=>⟨y.1,y.2.1,y.2.2.1⟩) underlying141 rfl (by kernel_rfl) (fields_cons (by kernel_rfl) (by decide) (rd3 n) (fields_cons (by kernel_rfl) (by decide) (rd3 n) (fields_cons (by kernel_rfl) (by decide) (rd139 n) (fields_nil)))) (fun _=>rfl)
theorem rd30:∀ fuel,Reads prog 30 1 (eL 4 eSlot) fuel
 | 0=>reads_zero
 | n+1=>reads_slice underlying30 (by kernel_rfl) (by decide) (of_decide_eq_true (by kernel_rfl)) (rd141 n)
theorem rd144:∀ fuel,Reads prog 144 5 eTest fuel
 | 0=>reads_zero
 | n+1=>reads_struct (L:=[(3,0),(139,1),(139,3)]) (m:=5) (fun y=>⟨y.1,y.2.1,y.2.2.1⟩) underlying144 rfl (by kernel_rfl) (fields_cons (by kernel_rfl) (by decide) (rd3 n) (fields_cons (by kernel_rfl) (by decide) (rd139 n) (fields_cons (by kernel_rfl) (by decide) (rd139 n) (fields_nil)))) (fun _=>rfl)
theorem rd31:∀ fuel,Reads prog 31 1 (eL 5 eTest) fuel
 | 0=>reads_zero
 | n+1=>reads_slice underlying31 (by kernel_rfl) (by decide) (of_decide_eq_true (by kernel_rfl)) (rd144 n)
theorem rd33:∀ fuel,Reads prog 33 5 ePattern fuel
 | 0=>reads_zero
 | n+1=>reads_struct (L:=[(29,0),(30,2),(3,3),(31,4)]) (m:=5) (fun y=>⟨y.1,y.2.1,y.2.2.1,y.2.2.2.1⟩) underlying33 rfl (by kernel_rfl) (fields_cons (by kernel_rfl) (by decide) (rd29 n) (fields_cons (by kernel_rfl) (by decide) (rd30 n) (fields_cons (by kernel_rfl) (by decide) (rd3 n) (fields_cons (by kernel_rfl) (by decide) (rd31 n) (fields_nil))))) (fun _=>rfl)
theorem rd38S (n:Nat) (ih:∀ k,k<n->Reads prog 38 9 eCondition k):Reads prog 38 9 eCondition n:=by
 cases n with
 | zero=>exact reads_zero
 | succ n=>
  have hk34:Reads prog 34 1 eLCondition n:=by
   cases n with
   | zero=>exact reads_zero
   | succ m=>
    have:=reads_slice underlying34 (n:=9) (by kernel_rfl) (by decide) (of_decide_eq_true (by kernel_rfl)) (ih m (by omega))
    have he:eLCondition=(fun l=>TV.list 9 (l.map eCondition)):=funext eLCondition_lst
    rw [he]; exact this
  exact reads_struct (L:=[(3,0),(34,1),(36,2),(33,4)]) (m:=9) (fun y=>⟨y.1,y.2.1,y.2.2.1,y.2.2.2.1⟩) underlying38 rfl (by kernel_rfl) (fields_cons (by kernel_rfl) (by decide) (rd3 n) (fields_cons (by kernel_rfl) (by decide) hk34 (fields_cons (by kernel_rfl) (by decide) (rd36 n) (fields_cons (by kernel_rfl) (by decide) (rd33 n) (fields_nil))))) (fun _=>rfl)
theorem rd38 (fuel:Nat):Reads prog 38 9 eCondition fuel:=Nat.strongRecOn fuel rd38S
end Go.Sf.Sc
