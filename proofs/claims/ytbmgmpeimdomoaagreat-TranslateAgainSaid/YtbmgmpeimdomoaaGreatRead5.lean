/- Lemmas. -/
import Derived.Test.YtbmgmpeimdomoaaGreatTypes
import Derived.Test.YtbmgmpeimdomoaaGreatSfRead
import Derived.KernelRfl
set_option linter.all false
set_option maxRecDepth 100000
namespace Go.Sf.Sc
open Go Go.Sf Go.Proofs.Tryz
theorem TE:∀fuel,EM prog 5 1 M8 fuel
 |0=>Cs|_+1=>bQ underlying5
theorem kv:∀fuel,EM prog 117 2 PS fuel
 |0=>Cs|n+1=>Pw (L:=[(5,0),(5,1)]) (m:=2) (λy=>⟨y.1,y.2.1⟩) underlying117 a! a! (B0 a! a_ (TE n) (B0 a! a_ (TE n) (G9))) (λ_=>rfl)
theorem qW:∀fuel,EM prog 78 1 (eL 2 PS) fuel
 |0=>Cs|n+1=>IF underlying78 a! a_ (of_decide_eq_true a!) (kv n)
theorem ku:∀fuel,EM prog 116 3 Nz fuel
 |0=>Cs|n+1=>Pw (L:=[(5,0),(5,1),(5,2)]) (m:=3) (λy=>⟨y.1,y.2.1,y.2.2.1⟩) underlying116 a! a! (B0 a! a_ (TE n) (B0 a! a_ (TE n) (B0 a! a_ (TE n) (G9)))) (λ_=>rfl)
theorem fE:∀fuel,EM prog 79 1 (eL 3 Nz) fuel
 |0=>Cs|n+1=>IF underlying79 a! a_ (of_decide_eq_true a!) (ku n)
theorem qX:∀fuel,EM prog 81 2 RR fuel
 |0=>Cs|n+1=>KG (L:=[(78,0),(79,1)]) (m:=2) (λy=>⟨y.1,y.2.1⟩) underlying81 rfl a! (B0 a! a_ (qW n) (B0 a! a_ (fE n) (G9))) (λ_=>rfl)
theorem fD:∀fuel,EM prog 23 1 (eL 1 M8) fuel
 |0=>Cs|n+1=>IF underlying23 a! a_ (of_decide_eq_true a!) (TE n)
theorem qY:∀fuel,EM prog 83 4 Ib fuel
 |0=>Cs|n+1=>KG (L:=[(81,0),(23,2),(79,3)]) (m:=4) (λy=>⟨y.1,y.2.1,y.2.2.1⟩) underlying83 rfl a! (B0 a! a_ (qX n) (B0 a! a_ (fD n) (B0 a! a_ (fE n) (G9)))) (λ_=>rfl)
theorem qU:∀fuel,EM prog 22 1 (eL 4 Ib) fuel
 |0=>Cs|n+1=>IF underlying22 a! a_ (of_decide_eq_true a!) (qY n)
theorem qV:∀fuel,EM prog 25 2 D1 fuel
 |0=>Cs|n+1=>KG (L:=[(22,0),(23,1)]) (m:=2) (λy=>⟨y.1,y.2.1⟩) underlying25 rfl a! (B0 a! a_ (qU n) (B0 a! a_ (fD n) (G9))) (λ_=>rfl)
end Go.Sf.Sc
