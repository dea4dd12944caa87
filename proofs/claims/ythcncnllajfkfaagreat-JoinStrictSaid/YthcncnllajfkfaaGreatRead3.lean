/- Lemmas. -/
import Derived.Test.YthcncnllajfkfaaGreatTypes
import Derived.Test.YthcncnllajfkfaaGreatSfRead
import Derived.KernelRfl
set_option linter.all false
set_option maxRecDepth 100000
namespace Go.Sf.Sc
open Go Go.Sf Go.Proofs.Tryz
theorem Vj:∀fuel,BO prog 9 1 eS fuel
 |0=>AX|_+1=>bg underlying9
theorem FY:∀fuel,BO prog 3 1 eI fuel
 |0=>AX|_+1=>bf underlying3
theorem pG:∀fuel,BO prog 4 1 eB fuel
 |0=>AX|_+1=>Yw underlying4
theorem mU:∀fuel,BO prog 120 1 (eL 1 eS) fuel
 |0=>AX|n+1=>CU underlying120 an a! (of_decide_eq_true an) (Vj n)
theorem mV:∀fuel,BO prog 122 4 HT fuel
 |0=>AX|n+1=>BC (L:=[(9,0),(3,1),(3,2),(120,3)]) (m:=4) (λy=>⟨y.1,y.2.1,y.2.2.1,y.2.2.2.1⟩) underlying122 rfl an (AH an a! (Vj n) (AH an a! (FY n) (AH an a! (FY n) (AH an a! (mU n) (BV))))) (λ_=>rfl)
theorem mW:∀fuel,BO prog 123 1 (eL 4 HT) fuel
 |0=>AX|n+1=>CU underlying123 an a! (of_decide_eq_true an) (mV n)
theorem mX:∀fuel,BO prog 125 4 FM fuel
 |0=>AX|n+1=>BC (L:=[(9,0),(3,1),(4,2),(123,3)]) (m:=4) (λy=>⟨y.1,y.2.1,y.2.2.1,y.2.2.2.1⟩) underlying125 rfl an (AH an a! (Vj n) (AH an a! (FY n) (AH an a! (pG n) (AH an a! (mW n) (BV))))) (λ_=>rfl)
theorem rk:∀fuel,BO prog 22 1 (eL 4 FM) fuel
 |0=>AX|n+1=>CU underlying22 an a! (of_decide_eq_true an) (mX n)
theorem mY:∀fuel,BO prog 127 7 GA fuel
 |0=>AX|n+1=>BC (L:=[(9,0),(3,1),(3,2),(3,3),(3,4),(3,5),(3,6)]) (m:=7) (λy=>⟨y.1,y.2.1,y.2.2.1,y.2.2.2.1,y.2.2.2.2.1,y.2.2.2.2.2.1,y.2.2.2.2.2.2.1⟩) underlying127 rfl an (AH an a! (Vj n) (AH an a! (FY n) (AH an a! (FY n) (AH an a! (FY n) (AH an a! (FY n) (AH an a! (FY n) (AH an a! (FY n) (BV)))))))) (λ_=>rfl)
theorem rl:∀fuel,BO prog 23 1 (eL 7 GA) fuel
 |0=>AX|n+1=>CU underlying23 an a! (of_decide_eq_true an) (mY n)
theorem rm:∀fuel,BO prog 25 2 AK fuel
 |0=>AX|n+1=>BC (L:=[(22,0),(23,1)]) (m:=2) (λy=>⟨y.1,y.2.1⟩) underlying25 rfl an (AH an a! (rk n) (AH an a! (rl n) (BV))) (λ_=>rfl)
theorem Oj:∀fuel,BO prog 27 1 (eL 1 eI) fuel
 |0=>AX|n+1=>CU underlying27 an a! (of_decide_eq_true an) (FY n)
theorem mc:∀fuel,BO prog 133 3 Ba fuel
 |0=>AX|n+1=>BC (L:=[(3,0),(3,1),(3,2)]) (m:=3) (λy=>⟨y.1,y.2.1,y.2.2.1⟩) underlying133 rfl an (AH an a! (FY n) (AH an a! (FY n) (AH an a! (FY n) (BV)))) (λ_=>rfl)
theorem rq:∀fuel,BO prog 28 1 (eL 3 Ba) fuel
 |0=>AX|n+1=>CU underlying28 an a! (of_decide_eq_true an) (mc n)
theorem gq:∀fuel,BO prog 30 2 A8 fuel
 |0=>AX|n+1=>BC (L:=[(27,0),(28,1)]) (m:=2) (λy=>⟨y.1,y.2.1⟩) underlying30 rfl an (AH an a! (Oj n) (AH an a! (rq n) (BV))) (λ_=>rfl)
theorem UW:∀fuel,BO prog 129 2 QT fuel
 |0=>AX|n+1=>BC (L:=[(3,0),(3,1)]) (m:=2) (λy=>⟨y.1,y.2.1⟩) underlying129 rfl an (AH an a! (FY n) (AH an a! (FY n) (BV))) (λ_=>rfl)
theorem mZ:∀fuel,BO prog 131 4 Dk fuel
 |0=>AX|n+1=>BC (L:=[(3,0),(3,1),(129,2)]) (m:=4) (λy=>⟨y.1,y.2.1,y.2.2.1⟩) underlying131 rfl an (AH an a! (FY n) (AH an a! (FY n) (AH an a! (UW n) (BV)))) (λ_=>rfl)
theorem rt:∀fuel,BO prog 31 1 (eL 4 Dk) fuel
 |0=>AX|n+1=>CU underlying31 an a! (of_decide_eq_true an) (mZ n)
theorem md:∀fuel,BO prog 226 5 D7 fuel
 |0=>AX|n+1=>BC (L:=[(3,0),(129,1),(129,3)]) (m:=5) (λy=>⟨y.1,y.2.1,y.2.2.1⟩) underlying226 rfl an (AH an a! (FY n) (AH an a! (UW n) (AH an a! (UW n) (BV)))) (λ_=>rfl)
theorem ru:∀fuel,BO prog 32 1 (eL 5 D7) fuel
 |0=>AX|n+1=>CU underlying32 an a! (of_decide_eq_true an) (md n)
theorem XT:∀fuel,BO prog 34 5 BP fuel
 |0=>AX|n+1=>BC (L:=[(30,0),(31,2),(3,3),(32,4)]) (m:=5) (λy=>⟨y.1,y.2.1,y.2.2.1,y.2.2.2.1⟩) underlying34 rfl an (AH an a! (gq n) (AH an a! (rt n) (AH an a! (FY n) (AH an a! (ru n) (BV))))) (λ_=>rfl)
theorem rx:∀fuel,BO prog 36 2 FN fuel
 |0=>AX|n+1=>BC (L:=[(27,0),(27,1)]) (m:=2) (λy=>⟨y.1,y.2.1⟩) underlying36 rfl an (AH an a! (Oj n) (AH an a! (Oj n) (BV))) (λ_=>rfl)
theorem SO:∀fuel,BO prog 37 2 Az fuel
 |0=>AX|n+1=>BC (L:=[(27,0),(27,1)]) (m:=2) (λy=>⟨y.1,y.2.1⟩) underlying37 rfl an (AH an a! (Oj n) (AH an a! (Oj n) (BV))) (λ_=>rfl)
theorem mf(n:Nat)(b:∀k,k<n->BO prog 40 9 AJ k):BO prog 40 9 AJ n:=by
 cases n with
 |zero=>exact AX|succ n=>
  have a:BO prog 38 1 C9 n:=by
   cases n with
   |zero=>exact AX|succ m=>
    have:=CU underlying38 (n:=9) an a! (of_decide_eq_true an) (b m U);have he:C9=(λl=>TV.list 9 (l.map AJ)):=funext MR;rw[he];exact this
  exact BC (L:=[(3,0),(38,1),(37,2),(34,4)]) (m:=9) (λy=>⟨y.1,y.2.1,y.2.2.1,y.2.2.2.1⟩) underlying40 rfl an (AH an a! (FY n) (AH an a! a (AH an a! (SO n) (AH an a! (XT n) (BV))))) (λ_=>rfl)
theorem ry(fuel:Nat):BO prog 40 9 AJ fuel:=Nat.strongRecOn fuel mf
theorem gu:∀fuel,BO prog 42 25 B3 fuel
 |0=>AX|n+1=>BC (L:=[(9,0),(34,1),(34,6),(36,11),(37,13),(4,15),(40,16)]) (m:=25) (λy=>⟨y.1,y.2.1,y.2.2.1,y.2.2.2.1,y.2.2.2.2.1,y.2.2.2.2.2.1,y.2.2.2.2.2.2.1⟩) underlying42 rfl an (AH an a! (Vj n) (AH an a! (XT n) (AH an a! (XT n) (AH an a! (rx n) (AH an a! (SO n) (AH an a! (pG n) (AH an a! (ry n) (BV)))))))) (λ_=>rfl)
theorem rn:∀fuel,BO prog 26 1 (eL 25 B3) fuel
 |0=>AX|n+1=>CU underlying26 an a! (of_decide_eq_true an) (gu n)
theorem r0:∀fuel,BO prog 44 3 Bn fuel
 |0=>AX|n+1=>BC (L:=[(37,0),(27,2)]) (m:=3) (λy=>⟨y.1,y.2.1⟩) underlying44 rfl an (AH an a! (SO n) (AH an a! (Oj n) (BV))) (λ_=>rfl)
theorem r6:∀fuel,BO prog 45 1 (eL 1 (eL 1 eI)) fuel
 |0=>AX|n+1=>CU underlying45 an a! (of_decide_eq_true an) (Oj n)
theorem gv:∀fuel,BO prog 47 3 Bj fuel
 |0=>AX|n+1=>BC (L:=[(30,0),(45,2)]) (m:=3) (λy=>⟨y.1,y.2.1⟩) underlying47 rfl an (AH an a! (gq n) (AH an a! (r6 n) (BV))) (λ_=>rfl)
theorem gw:∀fuel,BO prog 49 38 Br fuel
 |0=>AX|n+1=>BC (L:=[(42,0),(44,25),(47,28),(47,31),(37,34),(37,36)]) (m:=38) (λy=>⟨y.1,y.2.1,y.2.2.1,y.2.2.2.1,y.2.2.2.2.1,y.2.2.2.2.2.1⟩) underlying49 rfl an (AH an a! (gu n) (AH an a! (r0 n) (AH an a! (gv n) (AH an a! (gv n) (AH an a! (SO n) (AH an a! (SO n) (BV))))))) (λ_=>rfl)
theorem r7:∀fuel,BO prog 51 77 EP fuel
 |0=>AX|n+1=>BC (L:=[(26,0),(49,1),(49,39)]) (m:=77) (λy=>⟨y.1,y.2.1,y.2.2.1⟩) underlying51 rfl an (AH an a! (rn n) (AH an a! (gw n) (AH an a! (gw n) (BV)))) (λ_=>rfl)
end Go.Sf.Sc
