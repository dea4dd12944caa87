/- Lemmas. -/
import Derived.Test.YtbgedoajacpdbaaGreatDoorTypes
import Derived.Test.YtbgedoajacpdbaaGreatDoorSfRead
import Derived.KernelRfl
set_option linter.all false
set_option maxRecDepth 100000
namespace Go.Sf.Sc
open Go Go.Sf Go.Proofs.Tryz
theorem di:∀fuel,B4 prog 9 1 eS fuel
 |0=>BA|_+1=>dk underlying9
theorem Kk:∀fuel,B4 prog 3 1 eI fuel
 |0=>BA|_+1=>dj underlying3
theorem tq:∀fuel,B4 prog 4 1 eB fuel
 |0=>BA|_+1=>bL underlying4
theorem sE:∀fuel,B4 prog 155 1 (eL 1 eS) fuel
 |0=>BA|n+1=>Dl underlying155 (by kernel_rfl) (by decide) (of_decide_eq_true (by kernel_rfl)) (di n)
theorem sF:∀fuel,B4 prog 157 4 GN fuel
 |0=>BA|n+1=>Bt (L:=[(9,0),(3,1),(3,2),(155,3)]) (m:=4) (fun y=>⟨y.1,y.2.1,y.2.2.1,y.2.2.2.1⟩) underlying157 rfl (by kernel_rfl) (AV (by kernel_rfl) (by decide) (di n) (AV (by kernel_rfl) (by decide) (Kk n) (AV (by kernel_rfl) (by decide) (Kk n) (AV (by kernel_rfl) (by decide) (sE n) (CO))))) (fun _=>rfl)
theorem sG:∀fuel,B4 prog 158 1 (eL 4 GN) fuel
 |0=>BA|n+1=>Dl underlying158 (by kernel_rfl) (by decide) (of_decide_eq_true (by kernel_rfl)) (sF n)
theorem sH:∀fuel,B4 prog 160 4 Eb fuel
 |0=>BA|n+1=>Bt (L:=[(9,0),(3,1),(4,2),(158,3)]) (m:=4) (fun y=>⟨y.1,y.2.1,y.2.2.1,y.2.2.2.1⟩) underlying160 rfl (by kernel_rfl) (AV (by kernel_rfl) (by decide) (di n) (AV (by kernel_rfl) (by decide) (Kk n) (AV (by kernel_rfl) (by decide) (tq n) (AV (by kernel_rfl) (by decide) (sG n) (CO))))) (fun _=>rfl)
theorem uR:∀fuel,B4 prog 22 1 (eL 4 Eb) fuel
 |0=>BA|n+1=>Dl underlying22 (by kernel_rfl) (by decide) (of_decide_eq_true (by kernel_rfl)) (sH n)
theorem sI:∀fuel,B4 prog 162 7 E6 fuel
 |0=>BA|n+1=>Bt (L:=[(9,0),(3,1),(3,2),(3,3),(3,4),(3,5),(3,6)]) (m:=7) (fun y=>⟨y.1,y.2.1,y.2.2.1,y.2.2.2.1,y.2.2.2.2.1,y.2.2.2.2.2.1,y.2.2.2.2.2.2.1⟩) underlying162 rfl (by kernel_rfl) (AV (by kernel_rfl) (by decide) (di n) (AV (by kernel_rfl) (by decide) (Kk n) (AV (by kernel_rfl) (by decide) (Kk n) (AV (by kernel_rfl) (by decide) (Kk n) (AV (by kernel_rfl) (by decide) (Kk n) (AV (by kernel_rfl) (by decide) (Kk n) (AV (by kernel_rfl) (by decide) (Kk n) (CO)))))))) (fun _=>rfl)
theorem uS:∀fuel,B4 prog 23 1 (eL 7 E6) fuel
 |0=>BA|n+1=>Dl underlying23 (by kernel_rfl) (by decide) (of_decide_eq_true (by kernel_rfl)) (sI n)
theorem uT:∀fuel,B4 prog 25 2 AQ fuel
 |0=>BA|n+1=>Bt (L:=[(22,0),(23,1)]) (m:=2) (fun y=>⟨y.1,y.2.1⟩) underlying25 rfl (by kernel_rfl) (AV (by kernel_rfl) (by decide) (uR n) (AV (by kernel_rfl) (by decide) (uS n) (CO))) (fun _=>rfl)
theorem Te:∀fuel,B4 prog 27 1 (eL 1 eI) fuel
 |0=>BA|n+1=>Dl underlying27 (by kernel_rfl) (by decide) (of_decide_eq_true (by kernel_rfl)) (Kk n)
theorem sC:∀fuel,B4 prog 153 3 Bs fuel
 |0=>BA|n+1=>Bt (L:=[(3,0),(3,1),(3,2)]) (m:=3) (fun y=>⟨y.1,y.2.1,y.2.2.1⟩) underlying153 rfl (by kernel_rfl) (AV (by kernel_rfl) (by decide) (Kk n) (AV (by kernel_rfl) (by decide) (Kk n) (AV (by kernel_rfl) (by decide) (Kk n) (CO)))) (fun _=>rfl)
theorem uV:∀fuel,B4 prog 28 1 (eL 3 Bs) fuel
 |0=>BA|n+1=>Dl underlying28 (by kernel_rfl) (by decide) (of_decide_eq_true (by kernel_rfl)) (sC n)
theorem oN:∀fuel,B4 prog 30 2 Am fuel
 |0=>BA|n+1=>Bt (L:=[(27,0),(28,1)]) (m:=2) (fun y=>⟨y.1,y.2.1⟩) underlying30 rfl (by kernel_rfl) (AV (by kernel_rfl) (by decide) (Te n) (AV (by kernel_rfl) (by decide) (uV n) (CO))) (fun _=>rfl)
theorem bK:∀fuel,B4 prog 227 2 OA fuel
 |0=>BA|n+1=>Bt (L:=[(3,0),(3,1)]) (m:=2) (fun y=>⟨y.1,y.2.1⟩) underlying227 rfl (by kernel_rfl) (AV (by kernel_rfl) (by decide) (Kk n) (AV (by kernel_rfl) (by decide) (Kk n) (CO))) (fun _=>rfl)
theorem sJ:∀fuel,B4 prog 229 4 FT fuel
 |0=>BA|n+1=>Bt (L:=[(3,0),(3,1),(227,2)]) (m:=4) (fun y=>⟨y.1,y.2.1,y.2.2.1⟩) underlying229 rfl (by kernel_rfl) (AV (by kernel_rfl) (by decide) (Kk n) (AV (by kernel_rfl) (by decide) (Kk n) (AV (by kernel_rfl) (by decide) (bK n) (CO)))) (fun _=>rfl)
theorem ub:∀fuel,B4 prog 47 1 (eL 4 FT) fuel
 |0=>BA|n+1=>Dl underlying47 (by kernel_rfl) (by decide) (of_decide_eq_true (by kernel_rfl)) (sJ n)
theorem sK:∀fuel,B4 prog 231 5 GP fuel
 |0=>BA|n+1=>Bt (L:=[(3,0),(227,1),(227,3)]) (m:=5) (fun y=>⟨y.1,y.2.1,y.2.2.1⟩) underlying231 rfl (by kernel_rfl) (AV (by kernel_rfl) (by decide) (Kk n) (AV (by kernel_rfl) (by decide) (bK n) (AV (by kernel_rfl) (by decide) (bK n) (CO)))) (fun _=>rfl)
theorem uc:∀fuel,B4 prog 48 1 (eL 5 GP) fuel
 |0=>BA|n+1=>Dl underlying48 (by kernel_rfl) (by decide) (of_decide_eq_true (by kernel_rfl)) (sK n)
theorem gN:∀fuel,B4 prog 50 5 A9 fuel
 |0=>BA|n+1=>Bt (L:=[(30,0),(47,2),(3,3),(48,4)]) (m:=5) (fun y=>⟨y.1,y.2.1,y.2.2.1,y.2.2.2.1⟩) underlying50 rfl (by kernel_rfl) (AV (by kernel_rfl) (by decide) (oN n) (AV (by kernel_rfl) (by decide) (ub n) (AV (by kernel_rfl) (by decide) (Kk n) (AV (by kernel_rfl) (by decide) (uc n) (CO))))) (fun _=>rfl)
theorem ud:∀fuel,B4 prog 51 2 GO fuel
 |0=>BA|n+1=>Bt (L:=[(27,0),(27,1)]) (m:=2) (fun y=>⟨y.1,y.2.1⟩) underlying51 rfl (by kernel_rfl) (AV (by kernel_rfl) (by decide) (Te n) (AV (by kernel_rfl) (by decide) (Te n) (CO))) (fun _=>rfl)
theorem gM:∀fuel,B4 prog 42 2 Ap fuel
 |0=>BA|n+1=>Bt (L:=[(27,0),(27,1)]) (m:=2) (fun y=>⟨y.1,y.2.1⟩) underlying42 rfl (by kernel_rfl) (AV (by kernel_rfl) (by decide) (Te n) (AV (by kernel_rfl) (by decide) (Te n) (CO))) (fun _=>rfl)
theorem sL(n:Nat)(b:∀k,k<n->B4 prog 54 9 AK k):B4 prog 54 9 AK n:=by
 cases n with
 |zero=>exact BA|succ n=>
  have a:B4 prog 52 1 EC n:=by
   cases n with
   |zero=>exact BA|succ m=>
    have:=Dl underlying52 (n:=9) (by kernel_rfl) (by decide) (of_decide_eq_true (by kernel_rfl)) (b m (by omega));have he:EC=(fun l=>TV.list 9 (l.map AK)):=funext Lx;rw[he];exact this
  exact Bt (L:=[(3,0),(52,1),(42,2),(50,4)]) (m:=9) (fun y=>⟨y.1,y.2.1,y.2.2.1,y.2.2.2.1⟩) underlying54 rfl (by kernel_rfl) (AV (by kernel_rfl) (by decide) (Kk n) (AV (by kernel_rfl) (by decide) a (AV (by kernel_rfl) (by decide) (gM n) (AV (by kernel_rfl) (by decide) (gN n) (CO))))) (fun _=>rfl)
theorem ue(fuel:Nat):B4 prog 54 9 AK fuel:=Nat.strongRecOn fuel sL
theorem uf:∀fuel,B4 prog 56 25 Bx fuel
 |0=>BA|n+1=>Bt (L:=[(9,0),(50,1),(50,6),(51,11),(42,13),(4,15),(54,16)]) (m:=25) (fun y=>⟨y.1,y.2.1,y.2.2.1,y.2.2.2.1,y.2.2.2.2.1,y.2.2.2.2.2.1,y.2.2.2.2.2.2.1⟩) underlying56 rfl (by kernel_rfl) (AV (by kernel_rfl) (by decide) (di n) (AV (by kernel_rfl) (by decide) (gN n) (AV (by kernel_rfl) (by decide) (gN n) (AV (by kernel_rfl) (by decide) (ud n) (AV (by kernel_rfl) (by decide) (gM n) (AV (by kernel_rfl) (by decide) (tq n) (AV (by kernel_rfl) (by decide) (ue n) (CO)))))))) (fun _=>rfl)
theorem uU:∀fuel,B4 prog 26 1 (eL 25 Bx) fuel
 |0=>BA|n+1=>Dl underlying26 (by kernel_rfl) (by decide) (of_decide_eq_true (by kernel_rfl)) (uf n)
theorem uW:∀fuel,B4 prog 31 1 (eL 1 (eL 1 eI)) fuel
 |0=>BA|n+1=>Dl underlying31 (by kernel_rfl) (by decide) (of_decide_eq_true (by kernel_rfl)) (Te n)
theorem uX:∀fuel,B4 prog 33 3 Be fuel
 |0=>BA|n+1=>Bt (L:=[(30,0),(31,2)]) (m:=3) (fun y=>⟨y.1,y.2.1⟩) underlying33 rfl (by kernel_rfl) (AV (by kernel_rfl) (by decide) (oN n) (AV (by kernel_rfl) (by decide) (uW n) (CO))) (fun _=>rfl)
theorem ug:∀fuel,B4 prog 67 3 BU fuel
 |0=>BA|n+1=>Bt (L:=[(42,0),(27,2)]) (m:=3) (fun y=>⟨y.1,y.2.1⟩) underlying67 rfl (by kernel_rfl) (AV (by kernel_rfl) (by decide) (gM n) (AV (by kernel_rfl) (by decide) (Te n) (CO))) (fun _=>rfl)
theorem oQ:∀fuel,B4 prog 69 4 DA fuel
 |0=>BA|n+1=>Bt (L:=[(3,0),(67,1)]) (m:=4) (fun y=>⟨y.1,y.2.1⟩) underlying69 rfl (by kernel_rfl) (AV (by kernel_rfl) (by decide) (Kk n) (AV (by kernel_rfl) (by decide) (ug n) (CO))) (fun _=>rfl)
theorem uY:∀fuel,B4 prog 34 1 (eL 4 DA) fuel
 |0=>BA|n+1=>Dl underlying34 (by kernel_rfl) (by decide) (of_decide_eq_true (by kernel_rfl)) (oQ n)
theorem uZ:∀fuel,B4 prog 36 4 B3 fuel
 |0=>BA|n+1=>Bt (L:=[(33,0),(34,3)]) (m:=4) (fun y=>⟨y.1,y.2.1⟩) underlying36 rfl (by kernel_rfl) (AV (by kernel_rfl) (by decide) (uX n) (AV (by kernel_rfl) (by decide) (uY n) (CO))) (fun _=>rfl)
theorem ua:∀fuel,B4 prog 38 7 GW fuel
 |0=>BA|n+1=>Bt (L:=[(25,0),(26,2),(36,3)]) (m:=7) (fun y=>⟨y.1,y.2.1,y.2.2.1⟩) underlying38 rfl (by kernel_rfl) (AV (by kernel_rfl) (by decide) (uT n) (AV (by kernel_rfl) (by decide) (uU n) (AV (by kernel_rfl) (by decide) (uZ n) (CO)))) (fun _=>rfl)
end Go.Sf.Sc
