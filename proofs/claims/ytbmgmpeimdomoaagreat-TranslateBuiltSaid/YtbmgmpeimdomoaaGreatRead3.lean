/- Lemmas. -/
import Derived.Test.YtbmgmpeimdomoaaGreatTypes
import Derived.Test.YtbmgmpeimdomoaaGreatSfRead
import Derived.KernelRfl
set_option linter.all false
set_option maxRecDepth 100000
namespace Go.Sf.Sc
open Go Go.Sf Go.Proofs.Tryz
theorem gQ:∀fuel,IW prog 5 1 Nn fuel
 |0=>Gs|_+1=>mH underlying5
theorem zD:∀fuel,IW prog 117 2 TF fuel
 |0=>Gs|n+1=>WK (L:=[(5,0),(5,1)]) (m:=2) (λy=>⟨y.1,y.2.1⟩) underlying117 b_ b_ (EN b_ a_ (gQ n) (EN b_ a_ (gQ n) (OK))) (λ_=>rfl)
theorem AAl:∀fuel,IW prog 78 1 (eL 2 TF) fuel
 |0=>Gs|n+1=>Pk underlying78 b_ a_ (of_decide_eq_true b_) (zD n)
theorem zC:∀fuel,IW prog 116 3 RE fuel
 |0=>Gs|n+1=>WK (L:=[(5,0),(5,1),(5,2)]) (m:=3) (λy=>⟨y.1,y.2.1,y.2.2.1⟩) underlying116 b_ b_ (EN b_ a_ (gQ n) (EN b_ a_ (gQ n) (EN b_ a_ (gQ n) (OK)))) (λ_=>rfl)
theorem vz:∀fuel,IW prog 79 1 (eL 3 RE) fuel
 |0=>Gs|n+1=>Pk underlying79 b_ a_ (of_decide_eq_true b_) (zC n)
theorem AAm:∀fuel,IW prog 81 2 US fuel
 |0=>Gs|n+1=>RO (L:=[(78,0),(79,1)]) (m:=2) (λy=>⟨y.1,y.2.1⟩) underlying81 rfl b_ (EN b_ a_ (AAl n) (EN b_ a_ (vz n) (OK))) (λ_=>rfl)
theorem vw:∀fuel,IW prog 23 1 (eL 1 Nn) fuel
 |0=>Gs|n+1=>Pk underlying23 b_ a_ (of_decide_eq_true b_) (gQ n)
theorem AAn:∀fuel,IW prog 83 4 LZ fuel
 |0=>Gs|n+1=>RO (L:=[(81,0),(23,2),(79,3)]) (m:=4) (λy=>⟨y.1,y.2.1,y.2.2.1⟩) underlying83 rfl b_ (EN b_ a_ (AAm n) (EN b_ a_ (vw n) (EN b_ a_ (vz n) (OK)))) (λ_=>rfl)
theorem AAj:∀fuel,IW prog 22 1 (eL 4 LZ) fuel
 |0=>Gs|n+1=>Pk underlying22 b_ a_ (of_decide_eq_true b_) (AAn n)
theorem AAk:∀fuel,IW prog 25 2 IH fuel
 |0=>Gs|n+1=>RO (L:=[(22,0),(23,1)]) (m:=2) (λy=>⟨y.1,y.2.1⟩) underlying25 rfl b_ (EN b_ a_ (AAj n) (EN b_ a_ (vw n) (OK))) (λ_=>rfl)
end Go.Sf.Sc
