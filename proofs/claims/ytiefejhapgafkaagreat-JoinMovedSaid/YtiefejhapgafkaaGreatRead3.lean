/- Lemmas. -/
import Derived.Test.YtiefejhapgafkaaGreatTypes
import Derived.Test.YtiefejhapgafkaaGreatSfRead
import Derived.KernelRfl
set_option linter.all false
set_option maxRecDepth 100000
namespace Go.Sf.Sc
open Go Go.Sf Go.Proofs.Tryz
theorem XC:∀fuel,Ek prog 5 1 Eu fuel
 |0=>DO|_+1=>V4 underlying5
theorem ABn:∀fuel,Ek prog 113 2 LS fuel
 |0=>DO|n+1=>Qg (L:=[(5,0),(5,1)]) (m:=2) (λy=>⟨y.1,y.2.1⟩) underlying113 a? a? (BQ a? a! (XC n) (BQ a? a! (XC n) (IR))) (λ_=>rfl)
theorem ry:∀fuel,Ek prog 22 1 (eL 2 LS) fuel
 |0=>DO|n+1=>Qh underlying22 a? a! (of_decide_eq_true a?) (ABn n)
theorem r6:∀fuel,Ek prog 23 1 (eL 1 Eu) fuel
 |0=>DO|n+1=>Qh underlying23 a? a! (of_decide_eq_true a?) (XC n)
theorem ABo:∀fuel,Ek prog 136 3 DU fuel
 |0=>DO|n+1=>Qg (L:=[(5,0),(5,1),(5,2)]) (m:=3) (λy=>⟨y.1,y.2.1,y.2.2.1⟩) underlying136 a? a? (BQ a? a! (XC n) (BQ a? a! (XC n) (BQ a? a! (XC n) (IR)))) (λ_=>rfl)
theorem gI:∀fuel,Ek prog 24 1 (eL 3 DU) fuel
 |0=>DO|n+1=>Qh underlying24 a? a! (of_decide_eq_true a?) (ABo n)
theorem ACq:∀fuel,Ek prog 26 2 VW fuel
 |0=>DO|n+1=>Mu (L:=[(23,0),(24,1)]) (m:=2) (λy=>⟨y.1,y.2.1⟩) underlying26 rfl a? (BQ a? a! (r6 n) (BQ a? a! (gI n) (IR))) (λ_=>rfl)
theorem dN:∀fuel,Ek prog 183 1 nO fuel
 |0=>DO|_+1=>V4 underlying183
theorem ABp:∀fuel,Ek prog 184 4 Ol fuel
 |0=>DO|n+1=>Qg (L:=[(183,0),(183,1),(183,2),(183,3)]) (m:=4) (λy=>⟨y.1,y.2.1,y.2.2.1,y.2.2.2.1⟩) underlying184 a? a? (BQ a? a! (dN n) (BQ a? a! (dN n) (BQ a? a! (dN n) (BQ a? a! (dN n) (IR))))) (λ_=>rfl)
theorem ACr:∀fuel,Ek prog 27 1 (eL 4 Ol) fuel
 |0=>DO|n+1=>Qh underlying27 a? a! (of_decide_eq_true a?) (ABp n)
theorem ACs:∀fuel,Ek prog 29 4 VY fuel
 |0=>DO|n+1=>Mu (L:=[(26,0),(24,2),(27,3)]) (m:=4) (λy=>⟨y.1,y.2.1,y.2.2.1⟩) underlying29 rfl a? (BQ a? a! (ACq n) (BQ a? a! (gI n) (BQ a? a! (ACr n) (IR)))) (λ_=>rfl)
theorem ACt:∀fuel,Ek prog 30 1 Iw fuel
 |0=>DO|_+1=>V4 underlying30
theorem rd4:∀fuel,Ek prog 4 1 eB fuel
 |0=>DO|_+1=>l9 underlying4
theorem ACu:∀fuel,Ek prog 31 4 eC fuel
 |0=>DO|n+1=>Qg (L:=[(5,0),(5,1),(5,2),(5,3)]) (m:=4) (λy=>⟨y.1,y.2.1,y.2.2.1,y.2.2.2.1⟩) underlying31 a? a? (BQ a? a! (XC n) (BQ a? a! (XC n) (BQ a? a! (XC n) (BQ a? a! (XC n) (IR))))) (λ_=>rfl)
theorem yo:∀fuel,Ek prog 33 15 Kn fuel
 |0=>DO|n+1=>Mu (L:=[(29,0),(30,4),(23,5),(24,6),(24,7),(4,8),(4,9),(31,10),(23,14)]) (m:=15) (λy=>⟨y.1,y.2.1,y.2.2.1,y.2.2.2.1,y.2.2.2.2.1,y.2.2.2.2.2.1,y.2.2.2.2.2.2.1,y.2.2.2.2.2.2.2.1,y.2.2.2.2.2.2.2.2.1⟩) underlying33 rfl a? (BQ a? a! (ACs n) (BQ a? a! (ACt n) (BQ a? a! (r6 n) (BQ a? a! (gI n) (BQ a? a! (gI n) (BQ a? a! (rd4 n) (BQ a? a! (rd4 n) (BQ a? a! (ACu n) (BQ a? a! (r6 n) (IR)))))))))) (λ_=>rfl)
theorem ACv:∀fuel,Ek prog 35 2 VX fuel
 |0=>DO|n+1=>Mu (L:=[(22,0),(24,1)]) (m:=2) (λy=>⟨y.1,y.2.1⟩) underlying35 rfl a? (BQ a? a! (ry n) (BQ a? a! (gI n) (IR))) (λ_=>rfl)
theorem ACw:∀fuel,Ek prog 37 34 JN fuel
 |0=>DO|n+1=>Mu (L:=[(22,0),(22,1),(33,2),(33,17),(35,32)]) (m:=34) (λy=>⟨y.1,y.2.1,y.2.2.1,y.2.2.2.1,y.2.2.2.2.1⟩) underlying37 rfl a? (BQ a? a! (ry n) (BQ a? a! (ry n) (BQ a? a! (yo n) (BQ a? a! (yo n) (BQ a? a! (ACv n) (IR)))))) (λ_=>rfl)
end Go.Sf.Sc
