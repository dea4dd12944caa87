/- Lemmas. -/
import Derived.Test.YthcncnllajfkfaaGreatTypes
import Derived.Test.YthcncnllajfkfaaGreatSfRead
import Derived.KernelRfl
set_option linter.all false
set_option maxRecDepth 100000
namespace Go.Sf.Sc
open Go Go.Sf Go.Proofs.Tryz
theorem Wp:∀fuel,ES prog 5 1 Eb fuel
 |0=>C5|_+1=>Vm underlying5
theorem ABG:∀fuel,ES prog 169 2 Kx fuel
 |0=>C5|n+1=>QZ (L:=[(5,0),(5,1)]) (m:=2) (λy=>⟨y.1,y.2.1⟩) underlying169 a? a? (BB a? a! (Wp n) (BB a? a! (Wp n) (Hv))) (λ_=>rfl)
theorem rA:∀fuel,ES prog 66 1 (eL 2 Kx) fuel
 |0=>C5|n+1=>Qa underlying66 a? a! (of_decide_eq_true a?) (ABG n)
theorem rC:∀fuel,ES prog 67 1 (eL 1 Eb) fuel
 |0=>C5|n+1=>Qa underlying67 a? a! (of_decide_eq_true a?) (Wp n)
theorem ABH:∀fuel,ES prog 184 3 DB fuel
 |0=>C5|n+1=>QZ (L:=[(5,0),(5,1),(5,2)]) (m:=3) (λy=>⟨y.1,y.2.1,y.2.2.1⟩) underlying184 a? a? (BB a? a! (Wp n) (BB a? a! (Wp n) (BB a? a! (Wp n) (Hv)))) (λ_=>rfl)
theorem fW:∀fuel,ES prog 68 1 (eL 3 DB) fuel
 |0=>C5|n+1=>Qa underlying68 a? a! (of_decide_eq_true a?) (ABH n)
theorem ACG:∀fuel,ES prog 70 2 VD fuel
 |0=>C5|n+1=>MY (L:=[(67,0),(68,1)]) (m:=2) (λy=>⟨y.1,y.2.1⟩) underlying70 rfl a? (BB a? a! (rC n) (BB a? a! (fW n) (Hv))) (λ_=>rfl)
theorem cj:∀fuel,ES prog 228 1 mW fuel
 |0=>C5|_+1=>Vm underlying228
theorem ABI:∀fuel,ES prog 229 4 OV fuel
 |0=>C5|n+1=>QZ (L:=[(228,0),(228,1),(228,2),(228,3)]) (m:=4) (λy=>⟨y.1,y.2.1,y.2.2.1,y.2.2.2.1⟩) underlying229 a? a? (BB a? a! (cj n) (BB a? a! (cj n) (BB a? a! (cj n) (BB a? a! (cj n) (Hv))))) (λ_=>rfl)
theorem ACH:∀fuel,ES prog 71 1 (eL 4 OV) fuel
 |0=>C5|n+1=>Qa underlying71 a? a! (of_decide_eq_true a?) (ABI n)
theorem ACI:∀fuel,ES prog 73 4 VF fuel
 |0=>C5|n+1=>MY (L:=[(70,0),(68,2),(71,3)]) (m:=4) (λy=>⟨y.1,y.2.1,y.2.2.1⟩) underlying73 rfl a? (BB a? a! (ACG n) (BB a? a! (fW n) (BB a? a! (ACH n) (Hv)))) (λ_=>rfl)
theorem ACJ:∀fuel,ES prog 74 1 IU fuel
 |0=>C5|_+1=>Vm underlying74
theorem rd4:∀fuel,ES prog 4 1 eB fuel
 |0=>C5|_+1=>lJ underlying4
theorem ACK:∀fuel,ES prog 75 4 dZ fuel
 |0=>C5|n+1=>QZ (L:=[(5,0),(5,1),(5,2),(5,3)]) (m:=4) (λy=>⟨y.1,y.2.1,y.2.2.1,y.2.2.2.1⟩) underlying75 a? a? (BB a? a! (Wp n) (BB a? a! (Wp n) (BB a? a! (Wp n) (BB a? a! (Wp n) (Hv))))) (λ_=>rfl)
theorem yA:∀fuel,ES prog 77 15 KJ fuel
 |0=>C5|n+1=>MY (L:=[(73,0),(74,4),(67,5),(68,6),(68,7),(4,8),(4,9),(75,10),(67,14)]) (m:=15) (λy=>⟨y.1,y.2.1,y.2.2.1,y.2.2.2.1,y.2.2.2.2.1,y.2.2.2.2.2.1,y.2.2.2.2.2.2.1,y.2.2.2.2.2.2.2.1,y.2.2.2.2.2.2.2.2.1⟩) underlying77 rfl a? (BB a? a! (ACI n) (BB a? a! (ACJ n) (BB a? a! (rC n) (BB a? a! (fW n) (BB a? a! (fW n) (BB a? a! (rd4 n) (BB a? a! (rd4 n) (BB a? a! (ACK n) (BB a? a! (rC n) (Hv)))))))))) (λ_=>rfl)
theorem ACL:∀fuel,ES prog 79 2 VE fuel
 |0=>C5|n+1=>MY (L:=[(66,0),(68,1)]) (m:=2) (λy=>⟨y.1,y.2.1⟩) underlying79 rfl a? (BB a? a! (rA n) (BB a? a! (fW n) (Hv))) (λ_=>rfl)
theorem ACM:∀fuel,ES prog 81 34 Ix fuel
 |0=>C5|n+1=>MY (L:=[(66,0),(66,1),(77,2),(77,17),(79,32)]) (m:=34) (λy=>⟨y.1,y.2.1,y.2.2.1,y.2.2.2.1,y.2.2.2.2.1⟩) underlying81 rfl a? (BB a? a! (rA n) (BB a? a! (rA n) (BB a? a! (yA n) (BB a? a! (yA n) (BB a? a! (ACL n) (Hv)))))) (λ_=>rfl)
end Go.Sf.Sc
