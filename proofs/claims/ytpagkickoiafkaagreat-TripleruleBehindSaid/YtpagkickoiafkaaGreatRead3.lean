/- Lemmas. -/
import Derived.Test.YtpagkickoiafkaaGreatTypes
import Derived.Test.YtpagkickoiafkaaGreatSfRead
import Derived.KernelRfl
set_option linter.all false
set_option maxRecDepth 100000
namespace Go.Sf.Sc
open Go Go.Sf Go.Proofs.Tryz
theorem Tp:∀fuel,Ea prog 5 1 JP fuel
 |0=>EL|_+1=>Vn underlying5
theorem gT:∀fuel,Ea prog 94 2 Mg fuel
 |0=>EL|n+1=>Pe (L:=[(5,0),(5,1)]) (m:=2) (λy=>⟨y.1,y.2.1⟩) underlying94 a_ a_ (Cj a_ a? (Tp n) (Cj a_ a? (Tp n) (Jz))) (λ_=>rfl)
theorem gO:∀fuel,Ea prog 22 1 (eL 2 Mg) fuel
 |0=>EL|n+1=>LS underlying22 a_ a? (of_decide_eq_true a_) (gT n)
theorem gR:∀fuel,Ea prog 87 3 KQ fuel
 |0=>EL|n+1=>Pe (L:=[(5,0),(5,1),(5,2)]) (m:=3) (λy=>⟨y.1,y.2.1,y.2.2.1⟩) underlying87 a_ a_ (Cj a_ a? (Tp n) (Cj a_ a? (Tp n) (Cj a_ a? (Tp n) (Jz)))) (λ_=>rfl)
theorem al:∀fuel,Ea prog 23 1 (eL 3 KQ) fuel
 |0=>EL|n+1=>LS underlying23 a_ a? (of_decide_eq_true a_) (gR n)
theorem am:∀fuel,Ea prog 25 2 GK fuel
 |0=>EL|n+1=>Oj (L:=[(22,0),(23,1)]) (m:=2) (λy=>⟨y.1,y.2.1⟩) underlying25 rfl a_ (Cj a_ a? (gO n) (Cj a_ a? (al n) (Jz))) (λ_=>rfl)
theorem gP:∀fuel,Ea prog 26 1 (eL 1 JP) fuel
 |0=>EL|n+1=>LS underlying26 a_ a? (of_decide_eq_true a_) (Tp n)
theorem gQ:∀fuel,Ea prog 28 4 El fuel
 |0=>EL|n+1=>Oj (L:=[(25,0),(26,2),(23,3)]) (m:=4) (λy=>⟨y.1,y.2.1,y.2.2.1⟩) underlying28 rfl a_ (Cj a_ a? (am n) (Cj a_ a? (gP n) (Cj a_ a? (al n) (Jz)))) (λ_=>rfl)
end Go.Sf.Sc
