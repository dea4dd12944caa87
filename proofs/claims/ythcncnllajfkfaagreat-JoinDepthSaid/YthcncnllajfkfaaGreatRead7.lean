/- Lemmas. -/
import Derived.Test.YthcncnllajfkfaaGreatTypes
import Derived.Test.YthcncnllajfkfaaGreatSfRead
import Derived.KernelRfl
set_option linter.all false
set_option maxRecDepth 100000
namespace Go.Sf.Sc
open Go Go.Sf Go.Proofs.Tryz
theorem W5:∀fuel,Ef prog 5 1 Eo fuel
 |0=>DH|_+1=>Vy underlying5
theorem ABS:∀fuel,Ef prog 169 2 LB fuel
 |0=>DH|n+1=>Ql (L:=[(5,0),(5,1)]) (m:=2) (λy=>⟨y.1,y.2.1⟩) underlying169 a? a? (BO a? a! (W5 n) (BO a? a! (W5 n) (IA))) (λ_=>rfl)
theorem rP:∀fuel,Ef prog 66 1 (eL 2 LB) fuel
 |0=>DH|n+1=>Qm underlying66 a? a! (of_decide_eq_true a?) (ABS n)
theorem rQ:∀fuel,Ef prog 67 1 (eL 1 Eo) fuel
 |0=>DH|n+1=>Qm underlying67 a? a! (of_decide_eq_true a?) (W5 n)
theorem ABT:∀fuel,Ef prog 184 3 DN fuel
 |0=>DH|n+1=>Ql (L:=[(5,0),(5,1),(5,2)]) (m:=3) (λy=>⟨y.1,y.2.1,y.2.2.1⟩) underlying184 a? a? (BO a? a! (W5 n) (BO a? a! (W5 n) (BO a? a! (W5 n) (IA)))) (λ_=>rfl)
theorem fo:∀fuel,Ef prog 68 1 (eL 3 DN) fuel
 |0=>DH|n+1=>Qm underlying68 a? a! (of_decide_eq_true a?) (ABT n)
theorem ACT:∀fuel,Ef prog 70 2 VQ fuel
 |0=>DH|n+1=>Mk (L:=[(67,0),(68,1)]) (m:=2) (λy=>⟨y.1,y.2.1⟩) underlying70 rfl a? (BO a? a! (rQ n) (BO a? a! (fo n) (IA))) (λ_=>rfl)
theorem cz:∀fuel,Ef prog 228 1 mr fuel
 |0=>DH|_+1=>Vy underlying228
theorem ABU:∀fuel,Ef prog 229 4 Oh fuel
 |0=>DH|n+1=>Ql (L:=[(228,0),(228,1),(228,2),(228,3)]) (m:=4) (λy=>⟨y.1,y.2.1,y.2.2.1,y.2.2.2.1⟩) underlying229 a? a? (BO a? a! (cz n) (BO a? a! (cz n) (BO a? a! (cz n) (BO a? a! (cz n) (IA))))) (λ_=>rfl)
theorem ACU:∀fuel,Ef prog 71 1 (eL 4 Oh) fuel
 |0=>DH|n+1=>Qm underlying71 a? a! (of_decide_eq_true a?) (ABU n)
theorem ACV:∀fuel,Ef prog 73 4 VS fuel
 |0=>DH|n+1=>Mk (L:=[(70,0),(68,2),(71,3)]) (m:=4) (λy=>⟨y.1,y.2.1,y.2.2.1⟩) underlying73 rfl a? (BO a? a! (ACT n) (BO a? a! (fo n) (BO a? a! (ACU n) (IA)))) (λ_=>rfl)
theorem ACW:∀fuel,Ef prog 74 1 Ih fuel
 |0=>DH|_+1=>Vy underlying74
theorem rd4:∀fuel,Ef prog 4 1 eB fuel
 |0=>DH|_+1=>lZ underlying4
theorem ACX:∀fuel,Ef prog 75 4 dm fuel
 |0=>DH|n+1=>Ql (L:=[(5,0),(5,1),(5,2),(5,3)]) (m:=4) (λy=>⟨y.1,y.2.1,y.2.2.1,y.2.2.2.1⟩) underlying75 a? a? (BO a? a! (W5 n) (BO a? a! (W5 n) (BO a? a! (W5 n) (BO a? a! (W5 n) (IA))))) (λ_=>rfl)
theorem yM:∀fuel,Ef prog 77 15 KW fuel
 |0=>DH|n+1=>Mk (L:=[(73,0),(74,4),(67,5),(68,6),(68,7),(4,8),(4,9),(75,10),(67,14)]) (m:=15) (λy=>⟨y.1,y.2.1,y.2.2.1,y.2.2.2.1,y.2.2.2.2.1,y.2.2.2.2.2.1,y.2.2.2.2.2.2.1,y.2.2.2.2.2.2.2.1,y.2.2.2.2.2.2.2.2.1⟩) underlying77 rfl a? (BO a? a! (ACV n) (BO a? a! (ACW n) (BO a? a! (rQ n) (BO a? a! (fo n) (BO a? a! (fo n) (BO a? a! (rd4 n) (BO a? a! (rd4 n) (BO a? a! (ACX n) (BO a? a! (rQ n) (IA)))))))))) (λ_=>rfl)
theorem ACY:∀fuel,Ef prog 79 2 VR fuel
 |0=>DH|n+1=>Mk (L:=[(66,0),(68,1)]) (m:=2) (λy=>⟨y.1,y.2.1⟩) underlying79 rfl a? (BO a? a! (rP n) (BO a? a! (fo n) (IA))) (λ_=>rfl)
theorem ACZ:∀fuel,Ef prog 81 34 I9 fuel
 |0=>DH|n+1=>Mk (L:=[(66,0),(66,1),(77,2),(77,17),(79,32)]) (m:=34) (λy=>⟨y.1,y.2.1,y.2.2.1,y.2.2.2.1,y.2.2.2.2.1⟩) underlying81 rfl a? (BO a? a! (rP n) (BO a? a! (rP n) (BO a? a! (yM n) (BO a? a! (yM n) (BO a? a! (ACY n) (IA)))))) (λ_=>rfl)
end Go.Sf.Sc
