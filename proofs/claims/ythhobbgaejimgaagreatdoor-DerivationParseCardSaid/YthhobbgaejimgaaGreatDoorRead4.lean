/- Lemmas. -/
import Derived.Test.YthhobbgaejimgaaGreatDoorTypes
import Derived.Test.YthhobbgaejimgaaGreatDoorSfRead
import Derived.KernelRfl
set_option linter.all false
set_option maxRecDepth 100000
namespace Go.Sf.Sc
open Go Go.Sf Go.Proofs.Tryz
theorem WJ:∀fuel,Cm prog 9 1 eS fuel
 |0=>CD|_+1=>WL underlying9
theorem Ls:∀fuel,Cm prog 3 1 eI fuel
 |0=>CD|_+1=>WK underlying3
theorem lG:∀fuel,Cm prog 4 1 eB fuel
 |0=>CD|_+1=>VC underlying4
theorem iE:∀fuel,Cm prog 108 1 (eL 1 eS) fuel
 |0=>CD|n+1=>Fm underlying108 (by kernel_rfl) (by decide) (of_decide_eq_true (by kernel_rfl)) (WJ n)
theorem iF:∀fuel,Cm prog 110 4 FD fuel
 |0=>CD|n+1=>Ez (L:=[(9,0),(3,1),(3,2),(108,3)]) (m:=4) (fun y=>⟨y.1,y.2.1,y.2.2.1,y.2.2.2.1⟩) underlying110 rfl (by kernel_rfl) (BH (by kernel_rfl) (by decide) (WJ n) (BH (by kernel_rfl) (by decide) (Ls n) (BH (by kernel_rfl) (by decide) (Ls n) (BH (by kernel_rfl) (by decide) (iE n) (Ga))))) (fun _=>rfl)
theorem iG:∀fuel,Cm prog 111 1 (eL 4 FD) fuel
 |0=>CD|n+1=>Fm underlying111 (by kernel_rfl) (by decide) (of_decide_eq_true (by kernel_rfl)) (iF n)
theorem iH:∀fuel,Cm prog 113 4 Ej fuel
 |0=>CD|n+1=>Ez (L:=[(9,0),(3,1),(4,2),(111,3)]) (m:=4) (fun y=>⟨y.1,y.2.1,y.2.2.1,y.2.2.2.1⟩) underlying113 rfl (by kernel_rfl) (BH (by kernel_rfl) (by decide) (WJ n) (BH (by kernel_rfl) (by decide) (Ls n) (BH (by kernel_rfl) (by decide) (lG n) (BH (by kernel_rfl) (by decide) (iG n) (Ga))))) (fun _=>rfl)
theorem kj:∀fuel,Cm prog 43 1 (eL 4 Ej) fuel
 |0=>CD|n+1=>Fm underlying43 (by kernel_rfl) (by decide) (of_decide_eq_true (by kernel_rfl)) (iH n)
theorem iI:∀fuel,Cm prog 115 7 FQ fuel
 |0=>CD|n+1=>Ez (L:=[(9,0),(3,1),(3,2),(3,3),(3,4),(3,5),(3,6)]) (m:=7) (fun y=>⟨y.1,y.2.1,y.2.2.1,y.2.2.2.1,y.2.2.2.2.1,y.2.2.2.2.2.1,y.2.2.2.2.2.2.1⟩) underlying115 rfl (by kernel_rfl) (BH (by kernel_rfl) (by decide) (WJ n) (BH (by kernel_rfl) (by decide) (Ls n) (BH (by kernel_rfl) (by decide) (Ls n) (BH (by kernel_rfl) (by decide) (Ls n) (BH (by kernel_rfl) (by decide) (Ls n) (BH (by kernel_rfl) (by decide) (Ls n) (BH (by kernel_rfl) (by decide) (Ls n) (Ga)))))))) (fun _=>rfl)
theorem kl:∀fuel,Cm prog 44 1 (eL 7 FQ) fuel
 |0=>CD|n+1=>Fm underlying44 (by kernel_rfl) (by decide) (of_decide_eq_true (by kernel_rfl)) (iI n)
theorem km:∀fuel,Cm prog 46 2 AS fuel
 |0=>CD|n+1=>Ez (L:=[(43,0),(44,1)]) (m:=2) (fun y=>⟨y.1,y.2.1⟩) underlying46 rfl (by kernel_rfl) (BH (by kernel_rfl) (by decide) (kj n) (BH (by kernel_rfl) (by decide) (kl n) (Ga))) (fun _=>rfl)
theorem dw:∀fuel,Cm prog 22 1 (eL 1 eI) fuel
 |0=>CD|n+1=>Fm underlying22 (by kernel_rfl) (by decide) (of_decide_eq_true (by kernel_rfl)) (Ls n)
theorem iJ:∀fuel,Cm prog 147 3 Bp fuel
 |0=>CD|n+1=>Ez (L:=[(3,0),(3,1),(3,2)]) (m:=3) (fun y=>⟨y.1,y.2.1,y.2.2.1⟩) underlying147 rfl (by kernel_rfl) (BH (by kernel_rfl) (by decide) (Ls n) (BH (by kernel_rfl) (by decide) (Ls n) (BH (by kernel_rfl) (by decide) (Ls n) (Ga)))) (fun _=>rfl)
theorem kf:∀fuel,Cm prog 23 1 (eL 3 Bp) fuel
 |0=>CD|n+1=>Fm underlying23 (by kernel_rfl) (by decide) (of_decide_eq_true (by kernel_rfl)) (iJ n)
theorem kg:∀fuel,Cm prog 25 2 BO fuel
 |0=>CD|n+1=>Ez (L:=[(22,0),(23,1)]) (m:=2) (fun y=>⟨y.1,y.2.1⟩) underlying25 rfl (by kernel_rfl) (BH (by kernel_rfl) (by decide) (dw n) (BH (by kernel_rfl) (by decide) (kf n) (Ga))) (fun _=>rfl)
theorem kh:∀fuel,Cm prog 26 1 (eL 1 (eL 1 eI)) fuel
 |0=>CD|n+1=>Fm underlying26 (by kernel_rfl) (by decide) (of_decide_eq_true (by kernel_rfl)) (dw n)
theorem ki:∀fuel,Cm prog 28 3 CL fuel
 |0=>CD|n+1=>Ez (L:=[(25,0),(26,2)]) (m:=3) (fun y=>⟨y.1,y.2.1⟩) underlying28 rfl (by kernel_rfl) (BH (by kernel_rfl) (by decide) (kg n) (BH (by kernel_rfl) (by decide) (kh n) (Ga))) (fun _=>rfl)
end Go.Sf.Sc
