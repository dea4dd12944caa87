/- Lemmas. -/
import Derived.Test.YthcncnllajfkfaaGreatTypes
import Derived.Test.YthcncnllajfkfaaGreatSfRead
import Derived.KernelRfl
set_option linter.all false
set_option maxRecDepth 100000
namespace Go.Sf.Sc
open Go Go.Sf Go.Proofs.Tryz
theorem Vp:∀fuel,ER prog 5 1 Eh fuel
 |0=>DH|_+1=>Vq underlying5
theorem ABI:∀fuel,ER prog 169 2 LA fuel
 |0=>DH|n+1=>Qe (L:=[(5,0),(5,1)]) (m:=2) (λy=>⟨y.1,y.2.1⟩) underlying169 a? a? (BO a? a! (Vp n) (BO a? a! (Vp n) (IC))) (λ_=>rfl)
theorem rH:∀fuel,ER prog 66 1 (eL 2 LA) fuel
 |0=>DH|n+1=>Qf underlying66 a? a! (of_decide_eq_true a?) (ABI n)
theorem rJ:∀fuel,ER prog 67 1 (eL 1 Eh) fuel
 |0=>DH|n+1=>Qf underlying67 a? a! (of_decide_eq_true a?) (Vp n)
theorem ABJ:∀fuel,ER prog 184 3 DO fuel
 |0=>DH|n+1=>Qe (L:=[(5,0),(5,1),(5,2)]) (m:=3) (λy=>⟨y.1,y.2.1,y.2.2.1⟩) underlying184 a? a? (BO a? a! (Vp n) (BO a? a! (Vp n) (BO a? a! (Vp n) (IC)))) (λ_=>rfl)
theorem fi:∀fuel,ER prog 68 1 (eL 3 DO) fuel
 |0=>DH|n+1=>Qf underlying68 a? a! (of_decide_eq_true a?) (ABJ n)
theorem ACJ:∀fuel,ER prog 70 2 VH fuel
 |0=>DH|n+1=>Mf (L:=[(67,0),(68,1)]) (m:=2) (λy=>⟨y.1,y.2.1⟩) underlying70 rfl a? (BO a? a! (rJ n) (BO a? a! (fi n) (IC))) (λ_=>rfl)
theorem cv:∀fuel,ER prog 228 1 mc fuel
 |0=>DH|_+1=>Vq underlying228
theorem ABK:∀fuel,ER prog 229 4 OZ fuel
 |0=>DH|n+1=>Qe (L:=[(228,0),(228,1),(228,2),(228,3)]) (m:=4) (λy=>⟨y.1,y.2.1,y.2.2.1,y.2.2.2.1⟩) underlying229 a? a? (BO a? a! (cv n) (BO a? a! (cv n) (BO a? a! (cv n) (BO a? a! (cv n) (IC))))) (λ_=>rfl)
theorem ACK:∀fuel,ER prog 71 1 (eL 4 OZ) fuel
 |0=>DH|n+1=>Qf underlying71 a? a! (of_decide_eq_true a?) (ABK n)
theorem ACL:∀fuel,ER prog 73 4 VK fuel
 |0=>DH|n+1=>Mf (L:=[(70,0),(68,2),(71,3)]) (m:=4) (λy=>⟨y.1,y.2.1,y.2.2.1⟩) underlying73 rfl a? (BO a? a! (ACJ n) (BO a? a! (fi n) (BO a? a! (ACK n) (IC)))) (λ_=>rfl)
theorem ACM:∀fuel,ER prog 74 1 Ii fuel
 |0=>DH|_+1=>Vq underlying74
theorem rd4:∀fuel,ER prog 4 1 eB fuel
 |0=>DH|_+1=>lO underlying4
theorem ACN:∀fuel,ER prog 75 4 dh fuel
 |0=>DH|n+1=>Qe (L:=[(5,0),(5,1),(5,2),(5,3)]) (m:=4) (λy=>⟨y.1,y.2.1,y.2.2.1,y.2.2.2.1⟩) underlying75 a? a? (BO a? a! (Vp n) (BO a? a! (Vp n) (BO a? a! (Vp n) (BO a? a! (Vp n) (IC))))) (λ_=>rfl)
theorem yB:∀fuel,ER prog 77 15 KW fuel
 |0=>DH|n+1=>Mf (L:=[(73,0),(74,4),(67,5),(68,6),(68,7),(4,8),(4,9),(75,10),(67,14)]) (m:=15) (λy=>⟨y.1,y.2.1,y.2.2.1,y.2.2.2.1,y.2.2.2.2.1,y.2.2.2.2.2.1,y.2.2.2.2.2.2.1,y.2.2.2.2.2.2.2.1,y.2.2.2.2.2.2.2.2.1⟩) underlying77 rfl a? (BO a? a! (ACL n) (BO a? a! (ACM n) (BO a? a! (rJ n) (BO a? a! (fi n) (BO a? a! (fi n) (BO a? a! (rd4 n) (BO a? a! (rd4 n) (BO a? a! (ACN n) (BO a? a! (rJ n) (IC)))))))))) (λ_=>rfl)
theorem ACO:∀fuel,ER prog 79 2 VJ fuel
 |0=>DH|n+1=>Mf (L:=[(66,0),(68,1)]) (m:=2) (λy=>⟨y.1,y.2.1⟩) underlying79 rfl a? (BO a? a! (rH n) (BO a? a! (fi n) (IC))) (λ_=>rfl)
theorem ACP:∀fuel,ER prog 81 34 I9 fuel
 |0=>DH|n+1=>Mf (L:=[(66,0),(66,1),(77,2),(77,17),(79,32)]) (m:=34) (λy=>⟨y.1,y.2.1,y.2.2.1,y.2.2.2.1,y.2.2.2.2.1⟩) underlying81 rfl a? (BO a? a! (rH n) (BO a? a! (rH n) (BO a? a! (yB n) (BO a? a! (yB n) (BO a? a! (ACO n) (IC)))))) (λ_=>rfl)
end Go.Sf.Sc
