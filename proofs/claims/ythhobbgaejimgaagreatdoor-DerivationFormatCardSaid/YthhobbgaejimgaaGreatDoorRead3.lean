/- Lemmas. -/
import Derived.Test.YthhobbgaejimgaaGreatDoorTypes
import Derived.Test.YthhobbgaejimgaaGreatDoorSfRead
import Derived.KernelRfl
set_option linter.all false
set_option maxRecDepth 100000
namespace Go.Sf.Sc
open Go Go.Sf Go.Proofs.Tryz
theorem Wf:∀fuel,Ec prog 3 1 eI fuel
 |0=>DD|_+1=>Wg underlying3
theorem Sk:∀fuel,Ec prog 22 1 (eL 1 eI) fuel
 |0=>DD|n+1=>JO underlying22 (by kernel_rfl) (by decide) (of_decide_eq_true (by kernel_rfl)) (Wf n)
theorem iI:∀fuel,Ec prog 147 3 Bj fuel
 |0=>DD|n+1=>Ex (L:=[(3,0),(3,1),(3,2)]) (m:=3) (fun y=>⟨y.1,y.2.1,y.2.2.1⟩) underlying147 rfl (by kernel_rfl) (CB (by kernel_rfl) (by decide) (Wf n) (CB (by kernel_rfl) (by decide) (Wf n) (CB (by kernel_rfl) (by decide) (Wf n) (GO)))) (fun _=>rfl)
theorem kj:∀fuel,Ec prog 23 1 (eL 3 Bj) fuel
 |0=>DD|n+1=>JO underlying23 (by kernel_rfl) (by decide) (of_decide_eq_true (by kernel_rfl)) (iI n)
theorem kl:∀fuel,Ec prog 25 2 BI fuel
 |0=>DD|n+1=>Ex (L:=[(22,0),(23,1)]) (m:=2) (fun y=>⟨y.1,y.2.1⟩) underlying25 rfl (by kernel_rfl) (CB (by kernel_rfl) (by decide) (Sk n) (CB (by kernel_rfl) (by decide) (kj n) (GO))) (fun _=>rfl)
theorem km:∀fuel,Ec prog 26 1 (eL 1 (eL 1 eI)) fuel
 |0=>DD|n+1=>JO underlying26 (by kernel_rfl) (by decide) (of_decide_eq_true (by kernel_rfl)) (Sk n)
theorem ko:∀fuel,Ec prog 28 3 CM fuel
 |0=>DD|n+1=>Ex (L:=[(25,0),(26,2)]) (m:=3) (fun y=>⟨y.1,y.2.1⟩) underlying28 rfl (by kernel_rfl) (CB (by kernel_rfl) (by decide) (kl n) (CB (by kernel_rfl) (by decide) (km n) (GO))) (fun _=>rfl)
theorem kv:∀fuel,Ec prog 61 2 Ba fuel
 |0=>DD|n+1=>Ex (L:=[(22,0),(22,1)]) (m:=2) (fun y=>⟨y.1,y.2.1⟩) underlying61 rfl (by kernel_rfl) (CB (by kernel_rfl) (by decide) (Sk n) (CB (by kernel_rfl) (by decide) (Sk n) (GO))) (fun _=>rfl)
theorem kw:∀fuel,Ec prog 75 3 Bk fuel
 |0=>DD|n+1=>Ex (L:=[(61,0),(22,2)]) (m:=3) (fun y=>⟨y.1,y.2.1⟩) underlying75 rfl (by kernel_rfl) (CB (by kernel_rfl) (by decide) (kv n) (CB (by kernel_rfl) (by decide) (Sk n) (GO))) (fun _=>rfl)
theorem kz:∀fuel,Ec prog 77 4 Dp fuel
 |0=>DD|n+1=>Ex (L:=[(3,0),(75,1)]) (m:=4) (fun y=>⟨y.1,y.2.1⟩) underlying77 rfl (by kernel_rfl) (CB (by kernel_rfl) (by decide) (Wf n) (CB (by kernel_rfl) (by decide) (kw n) (GO))) (fun _=>rfl)
theorem kp:∀fuel,Ec prog 29 1 (eL 4 Dp) fuel
 |0=>DD|n+1=>JO underlying29 (by kernel_rfl) (by decide) (of_decide_eq_true (by kernel_rfl)) (kz n)
theorem ku:∀fuel,Ec prog 31 4 BF fuel
 |0=>DD|n+1=>Ex (L:=[(28,0),(29,3)]) (m:=4) (fun y=>⟨y.1,y.2.1⟩) underlying31 rfl (by kernel_rfl) (CB (by kernel_rfl) (by decide) (ko n) (CB (by kernel_rfl) (by decide) (kp n) (GO))) (fun _=>rfl)
end Go.Sf.Sc
