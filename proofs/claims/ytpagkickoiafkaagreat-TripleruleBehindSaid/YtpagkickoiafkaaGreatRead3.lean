/- Lemmas. -/
import Derived.Test.YtpagkickoiafkaaGreatTypes
import Derived.Test.YtpagkickoiafkaaGreatSfRead
import Derived.KernelRfl
set_option linter.all false
set_option maxRecDepth 100000
namespace Go.Sf.Sc
open Go Go.Sf Go.Proofs.Tryz
theorem gm:∀fuel,I9 prog 5 1 Oa fuel
 |0=>If|_+1=>mU underlying5
theorem AAy:∀fuel,I9 prog 94 2 TJ fuel
 |0=>If|n+1=>WH (L:=[(5,0),(5,1)]) (m:=2) (λy=>⟨y.1,y.2.1⟩) underlying94 b_ b_ (FK b_ a_ (gm n) (FK b_ a_ (gm n) (QT))) (λ_=>rfl)
theorem AAu:∀fuel,I9 prog 22 1 (eL 2 TJ) fuel
 |0=>If|n+1=>SL underlying22 b_ a_ (of_decide_eq_true b_) (AAy n)
theorem AAx:∀fuel,I9 prog 87 3 RD fuel
 |0=>If|n+1=>WH (L:=[(5,0),(5,1),(5,2)]) (m:=3) (λy=>⟨y.1,y.2.1,y.2.2.1⟩) underlying87 b_ b_ (FK b_ a_ (gm n) (FK b_ a_ (gm n) (FK b_ a_ (gm n) (QT)))) (λ_=>rfl)
theorem wT:∀fuel,I9 prog 23 1 (eL 3 RD) fuel
 |0=>If|n+1=>SL underlying23 b_ a_ (of_decide_eq_true b_) (AAx n)
theorem wU:∀fuel,I9 prog 25 2 Hh fuel
 |0=>If|n+1=>VG (L:=[(22,0),(23,1)]) (m:=2) (λy=>⟨y.1,y.2.1⟩) underlying25 rfl b_ (FK b_ a_ (AAu n) (FK b_ a_ (wT n) (QT))) (λ_=>rfl)
theorem AAv:∀fuel,I9 prog 26 1 (eL 1 Oa) fuel
 |0=>If|n+1=>SL underlying26 b_ a_ (of_decide_eq_true b_) (gm n)
theorem AAw:∀fuel,I9 prog 28 4 GU fuel
 |0=>If|n+1=>VG (L:=[(25,0),(26,2),(23,3)]) (m:=4) (λy=>⟨y.1,y.2.1,y.2.2.1⟩) underlying28 rfl b_ (FK b_ a_ (wU n) (FK b_ a_ (AAv n) (FK b_ a_ (wT n) (QT)))) (λ_=>rfl)
end Go.Sf.Sc
