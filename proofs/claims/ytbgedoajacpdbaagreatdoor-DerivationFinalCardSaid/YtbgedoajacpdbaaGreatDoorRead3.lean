/- Lemmas. -/
import Derived.Test.YtbgedoajacpdbaaGreatDoorTypes
import Derived.Test.YtbgedoajacpdbaaGreatDoorSfRead
import Derived.KernelRfl
set_option linter.all false
set_option maxRecDepth 100000
namespace Go.Sf.Sc
open Go Go.Sf Go.Proofs.Tryz
theorem dR:∀fuel,B1 prog 9 1 eS fuel
 |0=>BA|_+1=>dU underlying9
theorem Kd:∀fuel,B1 prog 3 1 eI fuel
 |0=>BA|_+1=>dT underlying3
theorem tR:∀fuel,B1 prog 4 1 eB fuel
 |0=>BA|_+1=>a7 underlying4
theorem rq:∀fuel,B1 prog 155 1 (eL 1 eS) fuel
 |0=>BA|n+1=>Dj underlying155 (by kernel_rfl) (by decide) (of_decide_eq_true (by kernel_rfl)) (dR n)
theorem rr:∀fuel,B1 prog 157 4 GI fuel
 |0=>BA|n+1=>Bs (L:=[(9,0),(3,1),(3,2),(155,3)]) (m:=4) (fun y=>⟨y.1,y.2.1,y.2.2.1,y.2.2.2.1⟩) underlying157 rfl (by kernel_rfl) (AU (by kernel_rfl) (by decide) (dR n) (AU (by kernel_rfl) (by decide) (Kd n) (AU (by kernel_rfl) (by decide) (Kd n) (AU (by kernel_rfl) (by decide) (rq n) (CM))))) (fun _=>rfl)
theorem rt:∀fuel,B1 prog 158 1 (eL 4 GI) fuel
 |0=>BA|n+1=>Dj underlying158 (by kernel_rfl) (by decide) (of_decide_eq_true (by kernel_rfl)) (rr n)
theorem ru:∀fuel,B1 prog 160 4 EX fuel
 |0=>BA|n+1=>Bs (L:=[(9,0),(3,1),(4,2),(158,3)]) (m:=4) (fun y=>⟨y.1,y.2.1,y.2.2.1,y.2.2.2.1⟩) underlying160 rfl (by kernel_rfl) (AU (by kernel_rfl) (by decide) (dR n) (AU (by kernel_rfl) (by decide) (Kd n) (AU (by kernel_rfl) (by decide) (tR n) (AU (by kernel_rfl) (by decide) (rt n) (CM))))) (fun _=>rfl)
theorem uC:∀fuel,B1 prog 22 1 (eL 4 EX) fuel
 |0=>BA|n+1=>Dj underlying22 (by kernel_rfl) (by decide) (of_decide_eq_true (by kernel_rfl)) (ru n)
theorem rx:∀fuel,B1 prog 162 7 E4 fuel
 |0=>BA|n+1=>Bs (L:=[(9,0),(3,1),(3,2),(3,3),(3,4),(3,5),(3,6)]) (m:=7) (fun y=>⟨y.1,y.2.1,y.2.2.1,y.2.2.2.1,y.2.2.2.2.1,y.2.2.2.2.2.1,y.2.2.2.2.2.2.1⟩) underlying162 rfl (by kernel_rfl) (AU (by kernel_rfl) (by decide) (dR n) (AU (by kernel_rfl) (by decide) (Kd n) (AU (by kernel_rfl) (by decide) (Kd n) (AU (by kernel_rfl) (by decide) (Kd n) (AU (by kernel_rfl) (by decide) (Kd n) (AU (by kernel_rfl) (by decide) (Kd n) (AU (by kernel_rfl) (by decide) (Kd n) (CM)))))))) (fun _=>rfl)
theorem uD:∀fuel,B1 prog 23 1 (eL 7 E4) fuel
 |0=>BA|n+1=>Dj underlying23 (by kernel_rfl) (by decide) (of_decide_eq_true (by kernel_rfl)) (rx n)
theorem uE:∀fuel,B1 prog 25 2 AQ fuel
 |0=>BA|n+1=>Bs (L:=[(22,0),(23,1)]) (m:=2) (fun y=>⟨y.1,y.2.1⟩) underlying25 rfl (by kernel_rfl) (AU (by kernel_rfl) (by decide) (uC n) (AU (by kernel_rfl) (by decide) (uD n) (CM))) (fun _=>rfl)
theorem TS:∀fuel,B1 prog 27 1 (eL 1 eI) fuel
 |0=>BA|n+1=>Dj underlying27 (by kernel_rfl) (by decide) (of_decide_eq_true (by kernel_rfl)) (Kd n)
theorem rn:∀fuel,B1 prog 153 3 Br fuel
 |0=>BA|n+1=>Bs (L:=[(3,0),(3,1),(3,2)]) (m:=3) (fun y=>⟨y.1,y.2.1,y.2.2.1⟩) underlying153 rfl (by kernel_rfl) (AU (by kernel_rfl) (by decide) (Kd n) (AU (by kernel_rfl) (by decide) (Kd n) (AU (by kernel_rfl) (by decide) (Kd n) (CM)))) (fun _=>rfl)
theorem uG:∀fuel,B1 prog 28 1 (eL 3 Br) fuel
 |0=>BA|n+1=>Dj underlying28 (by kernel_rfl) (by decide) (of_decide_eq_true (by kernel_rfl)) (rn n)
theorem oA:∀fuel,B1 prog 30 2 Am fuel
 |0=>BA|n+1=>Bs (L:=[(27,0),(28,1)]) (m:=2) (fun y=>⟨y.1,y.2.1⟩) underlying30 rfl (by kernel_rfl) (AU (by kernel_rfl) (by decide) (TS n) (AU (by kernel_rfl) (by decide) (uG n) (CM))) (fun _=>rfl)
theorem ay:∀fuel,B1 prog 227 2 N6 fuel
 |0=>BA|n+1=>Bs (L:=[(3,0),(3,1)]) (m:=2) (fun y=>⟨y.1,y.2.1⟩) underlying227 rfl (by kernel_rfl) (AU (by kernel_rfl) (by decide) (Kd n) (AU (by kernel_rfl) (by decide) (Kd n) (CM))) (fun _=>rfl)
theorem ry:∀fuel,B1 prog 229 4 FO fuel
 |0=>BA|n+1=>Bs (L:=[(3,0),(3,1),(227,2)]) (m:=4) (fun y=>⟨y.1,y.2.1,y.2.2.1⟩) underlying229 rfl (by kernel_rfl) (AU (by kernel_rfl) (by decide) (Kd n) (AU (by kernel_rfl) (by decide) (Kd n) (AU (by kernel_rfl) (by decide) (ay n) (CM)))) (fun _=>rfl)
theorem uM:∀fuel,B1 prog 47 1 (eL 4 FO) fuel
 |0=>BA|n+1=>Dj underlying47 (by kernel_rfl) (by decide) (of_decide_eq_true (by kernel_rfl)) (ry n)
theorem rz:∀fuel,B1 prog 231 5 GK fuel
 |0=>BA|n+1=>Bs (L:=[(3,0),(227,1),(227,3)]) (m:=5) (fun y=>⟨y.1,y.2.1,y.2.2.1⟩) underlying231 rfl (by kernel_rfl) (AU (by kernel_rfl) (by decide) (Kd n) (AU (by kernel_rfl) (by decide) (ay n) (AU (by kernel_rfl) (by decide) (ay n) (CM)))) (fun _=>rfl)
theorem uN:∀fuel,B1 prog 48 1 (eL 5 GK) fuel
 |0=>BA|n+1=>Dj underlying48 (by kernel_rfl) (by decide) (of_decide_eq_true (by kernel_rfl)) (rz n)
theorem fx:∀fuel,B1 prog 50 5 A9 fuel
 |0=>BA|n+1=>Bs (L:=[(30,0),(47,2),(3,3),(48,4)]) (m:=5) (fun y=>⟨y.1,y.2.1,y.2.2.1,y.2.2.2.1⟩) underlying50 rfl (by kernel_rfl) (AU (by kernel_rfl) (by decide) (oA n) (AU (by kernel_rfl) (by decide) (uM n) (AU (by kernel_rfl) (by decide) (Kd n) (AU (by kernel_rfl) (by decide) (uN n) (CM))))) (fun _=>rfl)
theorem uO:∀fuel,B1 prog 51 2 GJ fuel
 |0=>BA|n+1=>Bs (L:=[(27,0),(27,1)]) (m:=2) (fun y=>⟨y.1,y.2.1⟩) underlying51 rfl (by kernel_rfl) (AU (by kernel_rfl) (by decide) (TS n) (AU (by kernel_rfl) (by decide) (TS n) (CM))) (fun _=>rfl)
theorem fw:∀fuel,B1 prog 42 2 Ap fuel
 |0=>BA|n+1=>Bs (L:=[(27,0),(27,1)]) (m:=2) (fun y=>⟨y.1,y.2.1⟩) underlying42 rfl (by kernel_rfl) (AU (by kernel_rfl) (by decide) (TS n) (AU (by kernel_rfl) (by decide) (TS n) (CM))) (fun _=>rfl)
theorem r0(n:Nat)(b:∀k,k<n->B1 prog 54 9 AJ k):B1 prog 54 9 AJ n:=by
 cases n with
 |zero=>exact BA|succ n=>
  have a:B1 prog 52 1 D8 n:=by
   cases n with
   |zero=>exact BA|succ m=>
    have:=Dj underlying52 (n:=9) (by kernel_rfl) (by decide) (of_decide_eq_true (by kernel_rfl)) (b m (by omega));have he:D8=(fun l=>TV.list 9 (l.map AJ)):=funext Lr;rw[he];exact this
  exact Bs (L:=[(3,0),(52,1),(42,2),(50,4)]) (m:=9) (fun y=>⟨y.1,y.2.1,y.2.2.1,y.2.2.2.1⟩) underlying54 rfl (by kernel_rfl) (AU (by kernel_rfl) (by decide) (Kd n) (AU (by kernel_rfl) (by decide) a (AU (by kernel_rfl) (by decide) (fw n) (AU (by kernel_rfl) (by decide) (fx n) (CM))))) (fun _=>rfl)
theorem uP(fuel:Nat):B1 prog 54 9 AJ fuel:=Nat.strongRecOn fuel r0
theorem uQ:∀fuel,B1 prog 56 25 B3 fuel
 |0=>BA|n+1=>Bs (L:=[(9,0),(50,1),(50,6),(51,11),(42,13),(4,15),(54,16)]) (m:=25) (fun y=>⟨y.1,y.2.1,y.2.2.1,y.2.2.2.1,y.2.2.2.2.1,y.2.2.2.2.2.1,y.2.2.2.2.2.2.1⟩) underlying56 rfl (by kernel_rfl) (AU (by kernel_rfl) (by decide) (dR n) (AU (by kernel_rfl) (by decide) (fx n) (AU (by kernel_rfl) (by decide) (fx n) (AU (by kernel_rfl) (by decide) (uO n) (AU (by kernel_rfl) (by decide) (fw n) (AU (by kernel_rfl) (by decide) (tR n) (AU (by kernel_rfl) (by decide) (uP n) (CM)))))))) (fun _=>rfl)
theorem uF:∀fuel,B1 prog 26 1 (eL 25 B3) fuel
 |0=>BA|n+1=>Dj underlying26 (by kernel_rfl) (by decide) (of_decide_eq_true (by kernel_rfl)) (uQ n)
theorem uH:∀fuel,B1 prog 31 1 (eL 1 (eL 1 eI)) fuel
 |0=>BA|n+1=>Dj underlying31 (by kernel_rfl) (by decide) (of_decide_eq_true (by kernel_rfl)) (TS n)
theorem uI:∀fuel,B1 prog 33 3 Bc fuel
 |0=>BA|n+1=>Bs (L:=[(30,0),(31,2)]) (m:=3) (fun y=>⟨y.1,y.2.1⟩) underlying33 rfl (by kernel_rfl) (AU (by kernel_rfl) (by decide) (oA n) (AU (by kernel_rfl) (by decide) (uH n) (CM))) (fun _=>rfl)
theorem uR:∀fuel,B1 prog 67 3 BW fuel
 |0=>BA|n+1=>Bs (L:=[(42,0),(27,2)]) (m:=3) (fun y=>⟨y.1,y.2.1⟩) underlying67 rfl (by kernel_rfl) (AU (by kernel_rfl) (by decide) (fw n) (AU (by kernel_rfl) (by decide) (TS n) (CM))) (fun _=>rfl)
theorem uS:∀fuel,B1 prog 69 4 Ft fuel
 |0=>BA|n+1=>Bs (L:=[(3,0),(67,1)]) (m:=4) (fun y=>⟨y.1,y.2.1⟩) underlying69 rfl (by kernel_rfl) (AU (by kernel_rfl) (by decide) (Kd n) (AU (by kernel_rfl) (by decide) (uR n) (CM))) (fun _=>rfl)
theorem uJ:∀fuel,B1 prog 34 1 (eL 4 Ft) fuel
 |0=>BA|n+1=>Dj underlying34 (by kernel_rfl) (by decide) (of_decide_eq_true (by kernel_rfl)) (uS n)
theorem uK:∀fuel,B1 prog 36 4 C2 fuel
 |0=>BA|n+1=>Bs (L:=[(33,0),(34,3)]) (m:=4) (fun y=>⟨y.1,y.2.1⟩) underlying36 rfl (by kernel_rfl) (AU (by kernel_rfl) (by decide) (uI n) (AU (by kernel_rfl) (by decide) (uJ n) (CM))) (fun _=>rfl)
theorem uL:∀fuel,B1 prog 38 7 GQ fuel
 |0=>BA|n+1=>Bs (L:=[(25,0),(26,2),(36,3)]) (m:=7) (fun y=>⟨y.1,y.2.1,y.2.2.1⟩) underlying38 rfl (by kernel_rfl) (AU (by kernel_rfl) (by decide) (uE n) (AU (by kernel_rfl) (by decide) (uF n) (AU (by kernel_rfl) (by decide) (uK n) (CM)))) (fun _=>rfl)
end Go.Sf.Sc
