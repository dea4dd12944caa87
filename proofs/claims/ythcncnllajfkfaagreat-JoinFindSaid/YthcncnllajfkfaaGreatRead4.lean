/- Lemmas. -/
import Derived.Test.YthcncnllajfkfaaGreatTypes
import Derived.Test.YthcncnllajfkfaaGreatSfRead
import Derived.KernelRfl
set_option linter.all false
set_option maxRecDepth 100000
namespace Go.Sf.Sc
open Go Go.Sf Go.Proofs.Tryz
theorem Va:∀fuel,BD prog 9 1 eS fuel
 |0=>AX|_+1=>bZ underlying9
theorem FN:∀fuel,BD prog 3 1 eI fuel
 |0=>AX|_+1=>bY underlying3
theorem o6:∀fuel,BD prog 4 1 eB fuel
 |0=>AX|_+1=>Yr underlying4
theorem mL:∀fuel,BD prog 120 1 (eL 1 eS) fuel
 |0=>AX|n+1=>CI underlying120 an a! (of_decide_eq_true an) (Va n)
theorem mM:∀fuel,BD prog 122 4 HF fuel
 |0=>AX|n+1=>A2 (L:=[(9,0),(3,1),(3,2),(120,3)]) (m:=4) (λy=>⟨y.1,y.2.1,y.2.2.1,y.2.2.2.1⟩) underlying122 rfl an (AH an a! (Va n) (AH an a! (FN n) (AH an a! (FN n) (AH an a! (mL n) (BL))))) (λ_=>rfl)
theorem mN:∀fuel,BD prog 123 1 (eL 4 HF) fuel
 |0=>AX|n+1=>CI underlying123 an a! (of_decide_eq_true an) (mM n)
theorem mO:∀fuel,BD prog 125 4 FB fuel
 |0=>AX|n+1=>A2 (L:=[(9,0),(3,1),(4,2),(123,3)]) (m:=4) (λy=>⟨y.1,y.2.1,y.2.2.1,y.2.2.2.1⟩) underlying125 rfl an (AH an a! (Va n) (AH an a! (FN n) (AH an a! (o6 n) (AH an a! (mN n) (BL))))) (λ_=>rfl)
theorem rZ:∀fuel,BD prog 22 1 (eL 4 FB) fuel
 |0=>AX|n+1=>CI underlying22 an a! (of_decide_eq_true an) (mO n)
theorem mP:∀fuel,BD prog 127 7 F1 fuel
 |0=>AX|n+1=>A2 (L:=[(9,0),(3,1),(3,2),(3,3),(3,4),(3,5),(3,6)]) (m:=7) (λy=>⟨y.1,y.2.1,y.2.2.1,y.2.2.2.1,y.2.2.2.2.1,y.2.2.2.2.2.1,y.2.2.2.2.2.2.1⟩) underlying127 rfl an (AH an a! (Va n) (AH an a! (FN n) (AH an a! (FN n) (AH an a! (FN n) (AH an a! (FN n) (AH an a! (FN n) (AH an a! (FN n) (BL)))))))) (λ_=>rfl)
theorem ra:∀fuel,BD prog 23 1 (eL 7 F1) fuel
 |0=>AX|n+1=>CI underlying23 an a! (of_decide_eq_true an) (mP n)
theorem rb:∀fuel,BD prog 25 2 AK fuel
 |0=>AX|n+1=>A2 (L:=[(22,0),(23,1)]) (m:=2) (λy=>⟨y.1,y.2.1⟩) underlying25 rfl an (AH an a! (rZ n) (AH an a! (ra n) (BL))) (λ_=>rfl)
theorem OZ:∀fuel,BD prog 27 1 (eL 1 eI) fuel
 |0=>AX|n+1=>CI underlying27 an a! (of_decide_eq_true an) (FN n)
theorem mR:∀fuel,BD prog 133 3 BQ fuel
 |0=>AX|n+1=>A2 (L:=[(3,0),(3,1),(3,2)]) (m:=3) (λy=>⟨y.1,y.2.1,y.2.2.1⟩) underlying133 rfl an (AH an a! (FN n) (AH an a! (FN n) (AH an a! (FN n) (BL)))) (λ_=>rfl)
theorem rd:∀fuel,BD prog 28 1 (eL 3 BQ) fuel
 |0=>AX|n+1=>CI underlying28 an a! (of_decide_eq_true an) (mR n)
theorem gf:∀fuel,BD prog 30 2 Ay fuel
 |0=>AX|n+1=>A2 (L:=[(27,0),(28,1)]) (m:=2) (λy=>⟨y.1,y.2.1⟩) underlying30 rfl an (AH an a! (OZ n) (AH an a! (rd n) (BL))) (λ_=>rfl)
theorem UM:∀fuel,BD prog 129 2 QI fuel
 |0=>AX|n+1=>A2 (L:=[(3,0),(3,1)]) (m:=2) (λy=>⟨y.1,y.2.1⟩) underlying129 rfl an (AH an a! (FN n) (AH an a! (FN n) (BL))) (λ_=>rfl)
theorem mQ:∀fuel,BD prog 131 4 Da fuel
 |0=>AX|n+1=>A2 (L:=[(3,0),(3,1),(129,2)]) (m:=4) (λy=>⟨y.1,y.2.1,y.2.2.1⟩) underlying131 rfl an (AH an a! (FN n) (AH an a! (FN n) (AH an a! (UM n) (BL)))) (λ_=>rfl)
theorem rf:∀fuel,BD prog 31 1 (eL 4 Da) fuel
 |0=>AX|n+1=>CI underlying31 an a! (of_decide_eq_true an) (mQ n)
theorem mS:∀fuel,BD prog 226 5 Dx fuel
 |0=>AX|n+1=>A2 (L:=[(3,0),(129,1),(129,3)]) (m:=5) (λy=>⟨y.1,y.2.1,y.2.2.1⟩) underlying226 rfl an (AH an a! (FN n) (AH an a! (UM n) (AH an a! (UM n) (BL)))) (λ_=>rfl)
theorem rg:∀fuel,BD prog 32 1 (eL 5 Dx) fuel
 |0=>AX|n+1=>CI underlying32 an a! (of_decide_eq_true an) (mS n)
theorem XN:∀fuel,BD prog 34 5 BE fuel
 |0=>AX|n+1=>A2 (L:=[(30,0),(31,2),(3,3),(32,4)]) (m:=5) (λy=>⟨y.1,y.2.1,y.2.2.1,y.2.2.2.1⟩) underlying34 rfl an (AH an a! (gf n) (AH an a! (rf n) (AH an a! (FN n) (AH an a! (rg n) (BL))))) (λ_=>rfl)
theorem rh:∀fuel,BD prog 36 2 FC fuel
 |0=>AX|n+1=>A2 (L:=[(27,0),(27,1)]) (m:=2) (λy=>⟨y.1,y.2.1⟩) underlying36 rfl an (AH an a! (OZ n) (AH an a! (OZ n) (BL))) (λ_=>rfl)
theorem SE:∀fuel,BD prog 37 2 Ap fuel
 |0=>AX|n+1=>A2 (L:=[(27,0),(27,1)]) (m:=2) (λy=>⟨y.1,y.2.1⟩) underlying37 rfl an (AH an a! (OZ n) (AH an a! (OZ n) (BL))) (λ_=>rfl)
theorem mT(n:Nat)(b:∀k,k<n->BD prog 40 9 AJ k):BD prog 40 9 AJ n:=by
 cases n with
 |zero=>exact AX|succ n=>
  have a:BD prog 38 1 Cz n:=by
   cases n with
   |zero=>exact AX|succ m=>
    have:=CI underlying38 (n:=9) an a! (of_decide_eq_true an) (b m U);have he:Cz=(λl=>TV.list 9 (l.map AJ)):=funext MH;rw[he];exact this
  exact A2 (L:=[(3,0),(38,1),(37,2),(34,4)]) (m:=9) (λy=>⟨y.1,y.2.1,y.2.2.1,y.2.2.2.1⟩) underlying40 rfl an (AH an a! (FN n) (AH an a! a (AH an a! (SE n) (AH an a! (XN n) (BL))))) (λ_=>rfl)
theorem ri(fuel:Nat):BD prog 40 9 AJ fuel:=Nat.strongRecOn fuel mT
theorem gh:∀fuel,BD prog 42 25 Bt fuel
 |0=>AX|n+1=>A2 (L:=[(9,0),(34,1),(34,6),(36,11),(37,13),(4,15),(40,16)]) (m:=25) (λy=>⟨y.1,y.2.1,y.2.2.1,y.2.2.2.1,y.2.2.2.2.1,y.2.2.2.2.2.1,y.2.2.2.2.2.2.1⟩) underlying42 rfl an (AH an a! (Va n) (AH an a! (XN n) (AH an a! (XN n) (AH an a! (rh n) (AH an a! (SE n) (AH an a! (o6 n) (AH an a! (ri n) (BL)))))))) (λ_=>rfl)
theorem rc:∀fuel,BD prog 26 1 (eL 25 Bt) fuel
 |0=>AX|n+1=>CI underlying26 an a! (of_decide_eq_true an) (gh n)
theorem rj:∀fuel,BD prog 44 3 Bb fuel
 |0=>AX|n+1=>A2 (L:=[(37,0),(27,2)]) (m:=3) (λy=>⟨y.1,y.2.1⟩) underlying44 rfl an (AH an a! (SE n) (AH an a! (OZ n) (BL))) (λ_=>rfl)
theorem rk:∀fuel,BD prog 45 1 (eL 1 (eL 1 eI)) fuel
 |0=>AX|n+1=>CI underlying45 an a! (of_decide_eq_true an) (OZ n)
theorem gi:∀fuel,BD prog 47 3 BY fuel
 |0=>AX|n+1=>A2 (L:=[(30,0),(45,2)]) (m:=3) (λy=>⟨y.1,y.2.1⟩) underlying47 rfl an (AH an a! (gf n) (AH an a! (rk n) (BL))) (λ_=>rfl)
theorem gj:∀fuel,BD prog 49 38 Bg fuel
 |0=>AX|n+1=>A2 (L:=[(42,0),(44,25),(47,28),(47,31),(37,34),(37,36)]) (m:=38) (λy=>⟨y.1,y.2.1,y.2.2.1,y.2.2.2.1,y.2.2.2.2.1,y.2.2.2.2.2.1⟩) underlying49 rfl an (AH an a! (gh n) (AH an a! (rj n) (AH an a! (gi n) (AH an a! (gi n) (AH an a! (SE n) (AH an a! (SE n) (BL))))))) (λ_=>rfl)
theorem rl:∀fuel,BD prog 51 77 EF fuel
 |0=>AX|n+1=>A2 (L:=[(26,0),(49,1),(49,39)]) (m:=77) (λy=>⟨y.1,y.2.1,y.2.2.1⟩) underlying51 rfl an (AH an a! (rc n) (AH an a! (gj n) (AH an a! (gj n) (BL)))) (λ_=>rfl)
end Go.Sf.Sc
