/- Lemmas. -/
import Derived.Test.YtbgedoajacpdbaaGreatDoorTypes
import Derived.Test.YtbgedoajacpdbaaGreatDoorSfRead
import Derived.KernelRfl
set_option linter.all false
set_option maxRecDepth 100000
namespace Go.Sf.Sc
open Go Go.Sf Go.Proofs.Tryz
theorem dW:∀fuel,Br prog 9 1 eS fuel
 |0=>A9|_+1=>dY underlying9
theorem Km:∀fuel,Br prog 3 1 eI fuel
 |0=>A9|_+1=>dX underlying3
theorem tq:∀fuel,Br prog 4 1 eB fuel
 |0=>A9|_+1=>bH underlying4
theorem sC:∀fuel,Br prog 155 1 (eL 1 eS) fuel
 |0=>A9|n+1=>Dl underlying155 (by kernel_rfl) (by decide) (of_decide_eq_true (by kernel_rfl)) (dW n)
theorem sE:∀fuel,Br prog 157 4 GK fuel
 |0=>A9|n+1=>Bu (L:=[(9,0),(3,1),(3,2),(155,3)]) (m:=4) (fun y=>⟨y.1,y.2.1,y.2.2.1,y.2.2.2.1⟩) underlying157 rfl (by kernel_rfl) (AU (by kernel_rfl) (by decide) (dW n) (AU (by kernel_rfl) (by decide) (Km n) (AU (by kernel_rfl) (by decide) (Km n) (AU (by kernel_rfl) (by decide) (sC n) (CL))))) (fun _=>rfl)
theorem sF:∀fuel,Br prog 158 1 (eL 4 GK) fuel
 |0=>A9|n+1=>Dl underlying158 (by kernel_rfl) (by decide) (of_decide_eq_true (by kernel_rfl)) (sE n)
theorem sG:∀fuel,Br prog 160 4 Eb fuel
 |0=>A9|n+1=>Bu (L:=[(9,0),(3,1),(4,2),(158,3)]) (m:=4) (fun y=>⟨y.1,y.2.1,y.2.2.1,y.2.2.2.1⟩) underlying160 rfl (by kernel_rfl) (AU (by kernel_rfl) (by decide) (dW n) (AU (by kernel_rfl) (by decide) (Km n) (AU (by kernel_rfl) (by decide) (tq n) (AU (by kernel_rfl) (by decide) (sF n) (CL))))) (fun _=>rfl)
theorem uQ:∀fuel,Br prog 22 1 (eL 4 Eb) fuel
 |0=>A9|n+1=>Dl underlying22 (by kernel_rfl) (by decide) (of_decide_eq_true (by kernel_rfl)) (sG n)
theorem sH:∀fuel,Br prog 162 7 FC fuel
 |0=>A9|n+1=>Bu (L:=[(9,0),(3,1),(3,2),(3,3),(3,4),(3,5),(3,6)]) (m:=7) (fun y=>⟨y.1,y.2.1,y.2.2.1,y.2.2.2.1,y.2.2.2.2.1,y.2.2.2.2.2.1,y.2.2.2.2.2.2.1⟩) underlying162 rfl (by kernel_rfl) (AU (by kernel_rfl) (by decide) (dW n) (AU (by kernel_rfl) (by decide) (Km n) (AU (by kernel_rfl) (by decide) (Km n) (AU (by kernel_rfl) (by decide) (Km n) (AU (by kernel_rfl) (by decide) (Km n) (AU (by kernel_rfl) (by decide) (Km n) (AU (by kernel_rfl) (by decide) (Km n) (CL)))))))) (fun _=>rfl)
theorem uR:∀fuel,Br prog 23 1 (eL 7 FC) fuel
 |0=>A9|n+1=>Dl underlying23 (by kernel_rfl) (by decide) (of_decide_eq_true (by kernel_rfl)) (sH n)
theorem uS:∀fuel,Br prog 25 2 AP fuel
 |0=>A9|n+1=>Bu (L:=[(22,0),(23,1)]) (m:=2) (fun y=>⟨y.1,y.2.1⟩) underlying25 rfl (by kernel_rfl) (AU (by kernel_rfl) (by decide) (uQ n) (AU (by kernel_rfl) (by decide) (uR n) (CL))) (fun _=>rfl)
theorem SM:∀fuel,Br prog 27 1 (eL 1 eI) fuel
 |0=>A9|n+1=>Dl underlying27 (by kernel_rfl) (by decide) (of_decide_eq_true (by kernel_rfl)) (Km n)
theorem sB:∀fuel,Br prog 153 3 Bs fuel
 |0=>A9|n+1=>Bu (L:=[(3,0),(3,1),(3,2)]) (m:=3) (fun y=>⟨y.1,y.2.1,y.2.2.1⟩) underlying153 rfl (by kernel_rfl) (AU (by kernel_rfl) (by decide) (Km n) (AU (by kernel_rfl) (by decide) (Km n) (AU (by kernel_rfl) (by decide) (Km n) (CL)))) (fun _=>rfl)
theorem uU:∀fuel,Br prog 28 1 (eL 3 Bs) fuel
 |0=>A9|n+1=>Dl underlying28 (by kernel_rfl) (by decide) (of_decide_eq_true (by kernel_rfl)) (sB n)
theorem oS:∀fuel,Br prog 30 2 Ak fuel
 |0=>A9|n+1=>Bu (L:=[(27,0),(28,1)]) (m:=2) (fun y=>⟨y.1,y.2.1⟩) underlying30 rfl (by kernel_rfl) (AU (by kernel_rfl) (by decide) (SM n) (AU (by kernel_rfl) (by decide) (uU n) (CL))) (fun _=>rfl)
theorem bG:∀fuel,Br prog 227 2 OF fuel
 |0=>A9|n+1=>Bu (L:=[(3,0),(3,1)]) (m:=2) (fun y=>⟨y.1,y.2.1⟩) underlying227 rfl (by kernel_rfl) (AU (by kernel_rfl) (by decide) (Km n) (AU (by kernel_rfl) (by decide) (Km n) (CL))) (fun _=>rfl)
theorem sI:∀fuel,Br prog 229 4 FZ fuel
 |0=>A9|n+1=>Bu (L:=[(3,0),(3,1),(227,2)]) (m:=4) (fun y=>⟨y.1,y.2.1,y.2.2.1⟩) underlying229 rfl (by kernel_rfl) (AU (by kernel_rfl) (by decide) (Km n) (AU (by kernel_rfl) (by decide) (Km n) (AU (by kernel_rfl) (by decide) (bG n) (CL)))) (fun _=>rfl)
theorem ua:∀fuel,Br prog 47 1 (eL 4 FZ) fuel
 |0=>A9|n+1=>Dl underlying47 (by kernel_rfl) (by decide) (of_decide_eq_true (by kernel_rfl)) (sI n)
theorem sJ:∀fuel,Br prog 231 5 GM fuel
 |0=>A9|n+1=>Bu (L:=[(3,0),(227,1),(227,3)]) (m:=5) (fun y=>⟨y.1,y.2.1,y.2.2.1⟩) underlying231 rfl (by kernel_rfl) (AU (by kernel_rfl) (by decide) (Km n) (AU (by kernel_rfl) (by decide) (bG n) (AU (by kernel_rfl) (by decide) (bG n) (CL)))) (fun _=>rfl)
theorem ub:∀fuel,Br prog 48 1 (eL 5 GM) fuel
 |0=>A9|n+1=>Dl underlying48 (by kernel_rfl) (by decide) (of_decide_eq_true (by kernel_rfl)) (sJ n)
theorem gI:∀fuel,Br prog 50 5 A7 fuel
 |0=>A9|n+1=>Bu (L:=[(30,0),(47,2),(3,3),(48,4)]) (m:=5) (fun y=>⟨y.1,y.2.1,y.2.2.1,y.2.2.2.1⟩) underlying50 rfl (by kernel_rfl) (AU (by kernel_rfl) (by decide) (oS n) (AU (by kernel_rfl) (by decide) (ua n) (AU (by kernel_rfl) (by decide) (Km n) (AU (by kernel_rfl) (by decide) (ub n) (CL))))) (fun _=>rfl)
theorem uc:∀fuel,Br prog 51 2 GL fuel
 |0=>A9|n+1=>Bu (L:=[(27,0),(27,1)]) (m:=2) (fun y=>⟨y.1,y.2.1⟩) underlying51 rfl (by kernel_rfl) (AU (by kernel_rfl) (by decide) (SM n) (AU (by kernel_rfl) (by decide) (SM n) (CL))) (fun _=>rfl)
theorem gH:∀fuel,Br prog 42 2 Ao fuel
 |0=>A9|n+1=>Bu (L:=[(27,0),(27,1)]) (m:=2) (fun y=>⟨y.1,y.2.1⟩) underlying42 rfl (by kernel_rfl) (AU (by kernel_rfl) (by decide) (SM n) (AU (by kernel_rfl) (by decide) (SM n) (CL))) (fun _=>rfl)
theorem sK(n:Nat)(b:∀k,k<n->Br prog 54 9 AK k):Br prog 54 9 AK n:=by
 cases n with
 |zero=>exact A9|succ n=>
  have a:Br prog 52 1 EC n:=by
   cases n with
   |zero=>exact A9|succ m=>
    have:=Dl underlying52 (n:=9) (by kernel_rfl) (by decide) (of_decide_eq_true (by kernel_rfl)) (b m (by omega));have he:EC=(fun l=>TV.list 9 (l.map AK)):=funext L4;rw[he];exact this
  exact Bu (L:=[(3,0),(52,1),(42,2),(50,4)]) (m:=9) (fun y=>⟨y.1,y.2.1,y.2.2.1,y.2.2.2.1⟩) underlying54 rfl (by kernel_rfl) (AU (by kernel_rfl) (by decide) (Km n) (AU (by kernel_rfl) (by decide) a (AU (by kernel_rfl) (by decide) (gH n) (AU (by kernel_rfl) (by decide) (gI n) (CL))))) (fun _=>rfl)
theorem ud(fuel:Nat):Br prog 54 9 AK fuel:=Nat.strongRecOn fuel sK
theorem ue:∀fuel,Br prog 56 25 B1 fuel
 |0=>A9|n+1=>Bu (L:=[(9,0),(50,1),(50,6),(51,11),(42,13),(4,15),(54,16)]) (m:=25) (fun y=>⟨y.1,y.2.1,y.2.2.1,y.2.2.2.1,y.2.2.2.2.1,y.2.2.2.2.2.1,y.2.2.2.2.2.2.1⟩) underlying56 rfl (by kernel_rfl) (AU (by kernel_rfl) (by decide) (dW n) (AU (by kernel_rfl) (by decide) (gI n) (AU (by kernel_rfl) (by decide) (gI n) (AU (by kernel_rfl) (by decide) (uc n) (AU (by kernel_rfl) (by decide) (gH n) (AU (by kernel_rfl) (by decide) (tq n) (AU (by kernel_rfl) (by decide) (ud n) (CL)))))))) (fun _=>rfl)
theorem uT:∀fuel,Br prog 26 1 (eL 25 B1) fuel
 |0=>A9|n+1=>Dl underlying26 (by kernel_rfl) (by decide) (of_decide_eq_true (by kernel_rfl)) (ue n)
theorem uV:∀fuel,Br prog 31 1 (eL 1 (eL 1 eI)) fuel
 |0=>A9|n+1=>Dl underlying31 (by kernel_rfl) (by decide) (of_decide_eq_true (by kernel_rfl)) (SM n)
theorem uW:∀fuel,Br prog 33 3 BX fuel
 |0=>A9|n+1=>Bu (L:=[(30,0),(31,2)]) (m:=3) (fun y=>⟨y.1,y.2.1⟩) underlying33 rfl (by kernel_rfl) (AU (by kernel_rfl) (by decide) (oS n) (AU (by kernel_rfl) (by decide) (uV n) (CL))) (fun _=>rfl)
theorem uf:∀fuel,Br prog 67 3 BU fuel
 |0=>A9|n+1=>Bu (L:=[(42,0),(27,2)]) (m:=3) (fun y=>⟨y.1,y.2.1⟩) underlying67 rfl (by kernel_rfl) (AU (by kernel_rfl) (by decide) (gH n) (AU (by kernel_rfl) (by decide) (SM n) (CL))) (fun _=>rfl)
theorem ug:∀fuel,Br prog 69 4 D4 fuel
 |0=>A9|n+1=>Bu (L:=[(3,0),(67,1)]) (m:=4) (fun y=>⟨y.1,y.2.1⟩) underlying69 rfl (by kernel_rfl) (AU (by kernel_rfl) (by decide) (Km n) (AU (by kernel_rfl) (by decide) (uf n) (CL))) (fun _=>rfl)
theorem uX:∀fuel,Br prog 34 1 (eL 4 D4) fuel
 |0=>A9|n+1=>Dl underlying34 (by kernel_rfl) (by decide) (of_decide_eq_true (by kernel_rfl)) (ug n)
theorem uY:∀fuel,Br prog 36 4 DE fuel
 |0=>A9|n+1=>Bu (L:=[(33,0),(34,3)]) (m:=4) (fun y=>⟨y.1,y.2.1⟩) underlying36 rfl (by kernel_rfl) (AU (by kernel_rfl) (by decide) (uW n) (AU (by kernel_rfl) (by decide) (uX n) (CL))) (fun _=>rfl)
theorem uZ:∀fuel,Br prog 38 7 GV fuel
 |0=>A9|n+1=>Bu (L:=[(25,0),(26,2),(36,3)]) (m:=7) (fun y=>⟨y.1,y.2.1,y.2.2.1⟩) underlying38 rfl (by kernel_rfl) (AU (by kernel_rfl) (by decide) (uS n) (AU (by kernel_rfl) (by decide) (uT n) (AU (by kernel_rfl) (by decide) (uY n) (CL)))) (fun _=>rfl)
end Go.Sf.Sc
