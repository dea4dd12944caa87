/- Lemmas. -/
import Derived.Test.YtfcfkigfmofniaaGreatTypes
import Derived.Test.YtfcfkigfmofniaaGreatSfRead
import Derived.KernelRfl
set_option linter.all false
set_option maxRecDepth 100000
namespace Go.Sf.Sc
open Go Go.Sf Go.Proofs.Tryz
theorem VS:∀fuel,DX prog 5 1 HF fuel
 |0=>Ca|_+1=>UZ underlying5
theorem xj:∀fuel,DX prog 90 2 EC fuel
 |0=>Ca|n+1=>O6 (L:=[(5,0),(5,1)]) (m:=2) (λy=>⟨y.1,y.2.1⟩) underlying90 a! a! (A6 a! a? (VS n) (A6 a! a? (VS n) (Gm))) (λ_=>rfl)
theorem bL:∀fuel,DX prog 22 1 (eL 2 EC) fuel
 |0=>Ca|n+1=>MB underlying22 a! a? (of_decide_eq_true a!) (xj n)
theorem fh:∀fuel,DX prog 116 1 (eL 1 HF) fuel
 |0=>Ca|n+1=>MB underlying116 a! a? (of_decide_eq_true a!) (VS n)
theorem wN:∀fuel,DX prog 166 3 Fx fuel
 |0=>Ca|n+1=>O6 (L:=[(5,0),(5,1),(5,2)]) (m:=3) (λy=>⟨y.1,y.2.1,y.2.2.1⟩) underlying166 a! a! (A6 a! a? (VS n) (A6 a! a? (VS n) (A6 a! a? (VS n) (Gm)))) (λ_=>rfl)
theorem bM:∀fuel,DX prog 24 1 (eL 3 Fx) fuel
 |0=>Ca|n+1=>MB underlying24 a! a? (of_decide_eq_true a!) (wN n)
theorem wH:∀fuel,DX prog 118 2 Nc fuel
 |0=>Ca|n+1=>K8 (L:=[(116,0),(24,1)]) (m:=2) (λy=>⟨y.1,y.2.1⟩) underlying118 rfl a! (A6 a! a? (fh n) (A6 a! a? (bM n) (Gm))) (λ_=>rfl)
theorem Zb:∀fuel,DX prog 199 1 hU fuel
 |0=>Ca|_+1=>UZ underlying199
theorem wO:∀fuel,DX prog 200 4 Qj fuel
 |0=>Ca|n+1=>O6 (L:=[(199,0),(199,1),(199,2),(199,3)]) (m:=4) (λy=>⟨y.1,y.2.1,y.2.2.1,y.2.2.2.1⟩) underlying200 a! a! (A6 a! a? (Zb n) (A6 a! a? (Zb n) (A6 a! a? (Zb n) (A6 a! a? (Zb n) (Gm))))) (λ_=>rfl)
theorem wI:∀fuel,DX prog 119 1 (eL 4 Qj) fuel
 |0=>Ca|n+1=>MB underlying119 a! a? (of_decide_eq_true a!) (wO n)
theorem wJ:∀fuel,DX prog 121 4 T4 fuel
 |0=>Ca|n+1=>K8 (L:=[(118,0),(24,2),(119,3)]) (m:=4) (λy=>⟨y.1,y.2.1,y.2.2.1⟩) underlying121 rfl a! (A6 a! a? (wH n) (A6 a! a? (bM n) (A6 a! a? (wI n) (Gm)))) (λ_=>rfl)
theorem wK:∀fuel,DX prog 122 1 Ig fuel
 |0=>Ca|_+1=>UZ underlying122
theorem w8:∀fuel,DX prog 4 1 eB fuel
 |0=>Ca|_+1=>fi underlying4
theorem wL:∀fuel,DX prog 123 4 Z3 fuel
 |0=>Ca|n+1=>O6 (L:=[(5,0),(5,1),(5,2),(5,3)]) (m:=4) (λy=>⟨y.1,y.2.1,y.2.2.1,y.2.2.2.1⟩) underlying123 a! a! (A6 a! a? (VS n) (A6 a! a? (VS n) (A6 a! a? (VS n) (A6 a! a? (VS n) (Gm))))) (λ_=>rfl)
theorem wM:∀fuel,DX prog 125 15 JB fuel
 |0=>Ca|n+1=>K8 (L:=[(121,0),(122,4),(116,5),(24,6),(24,7),(4,8),(4,9),(123,10),(116,14)]) (m:=15) (λy=>⟨y.1,y.2.1,y.2.2.1,y.2.2.2.1,y.2.2.2.2.1,y.2.2.2.2.2.1,y.2.2.2.2.2.2.1,y.2.2.2.2.2.2.2.1,y.2.2.2.2.2.2.2.2.1⟩) underlying125 rfl a! (A6 a! a? (wJ n) (A6 a! a? (wK n) (A6 a! a? (fh n) (A6 a! a? (bM n) (A6 a! a? (bM n) (A6 a! a? (w8 n) (A6 a! a? (w8 n) (A6 a! a? (wL n) (A6 a! a? (fh n) (Gm)))))))))) (λ_=>rfl)
theorem xg:∀fuel,DX prog 23 1 (eL 15 JB) fuel
 |0=>Ca|n+1=>MB underlying23 a! a? (of_decide_eq_true a!) (wM n)
theorem xh:∀fuel,DX prog 26 2 T3 fuel
 |0=>Ca|n+1=>K8 (L:=[(22,0),(24,1)]) (m:=2) (λy=>⟨y.1,y.2.1⟩) underlying26 rfl a! (A6 a! a? (bL n) (A6 a! a? (bM n) (Gm))) (λ_=>rfl)
theorem xi:∀fuel,DX prog 28 5 HH fuel
 |0=>Ca|n+1=>K8 (L:=[(22,0),(22,1),(23,2),(26,3)]) (m:=5) (λy=>⟨y.1,y.2.1,y.2.2.1,y.2.2.2.1⟩) underlying28 rfl a! (A6 a! a? (bL n) (A6 a! a? (bL n) (A6 a! a? (xg n) (A6 a! a? (xh n) (Gm))))) (λ_=>rfl)
end Go.Sf.Sc
