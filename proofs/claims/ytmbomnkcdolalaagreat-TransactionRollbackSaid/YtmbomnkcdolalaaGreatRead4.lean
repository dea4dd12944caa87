/- Lemmas. -/
import Derived.Test.YtmbomnkcdolalaaGreatTypes
import Derived.Test.YtmbomnkcdolalaaGreatSfRead
import Derived.KernelRfl
set_option linter.all false
set_option maxRecDepth 100000
namespace Go.Sf.Sc
open Go Go.Sf Go.Proofs.Tryz
theorem OI:∀fuel,Ae prog 9 1 eS fuel
 |0=>AJ|_+1=>Tb underlying9
theorem CT:∀fuel,Ae prog 3 1 eI fuel
 |0=>AJ|_+1=>Ta underlying3
theorem Yf:∀fuel,Ae prog 4 1 eB fuel
 |0=>AJ|_+1=>R8 underlying4
theorem W4:∀fuel,Ae prog 127 1 (eL 1 eS) fuel
 |0=>AJ|n+1=>A0 underlying127 (by kernel_rfl) (by decide) (of_decide_eq_true (by kernel_rfl)) (OI n)
theorem W5:∀fuel,Ae prog 129 4 FI fuel
 |0=>AJ|n+1=>AW (L:=[(9,0),(3,1),(3,2),(127,3)]) (m:=4) (fun y=>⟨y.1,y.2.1,y.2.2.1,y.2.2.2.1⟩) underlying129 rfl (by kernel_rfl) (AD (by kernel_rfl) (by decide) (OI n) (AD (by kernel_rfl) (by decide) (CT n) (AD (by kernel_rfl) (by decide) (CT n) (AD (by kernel_rfl) (by decide) (W4 n) (Af))))) (fun _=>rfl)
theorem W6:∀fuel,Ae prog 130 1 (eL 4 FI) fuel
 |0=>AJ|n+1=>A0 underlying130 (by kernel_rfl) (by decide) (of_decide_eq_true (by kernel_rfl)) (W5 n)
theorem W7:∀fuel,Ae prog 132 4 DK fuel
 |0=>AJ|n+1=>AW (L:=[(9,0),(3,1),(4,2),(130,3)]) (m:=4) (fun y=>⟨y.1,y.2.1,y.2.2.1,y.2.2.2.1⟩) underlying132 rfl (by kernel_rfl) (AD (by kernel_rfl) (by decide) (OI n) (AD (by kernel_rfl) (by decide) (CT n) (AD (by kernel_rfl) (by decide) (Yf n) (AD (by kernel_rfl) (by decide) (W6 n) (Af))))) (fun _=>rfl)
theorem am:∀fuel,Ae prog 22 1 (eL 4 DK) fuel
 |0=>AJ|n+1=>A0 underlying22 (by kernel_rfl) (by decide) (of_decide_eq_true (by kernel_rfl)) (W7 n)
theorem W8:∀fuel,Ae prog 134 7 DZ fuel
 |0=>AJ|n+1=>AW (L:=[(9,0),(3,1),(3,2),(3,3),(3,4),(3,5),(3,6)]) (m:=7) (fun y=>⟨y.1,y.2.1,y.2.2.1,y.2.2.2.1,y.2.2.2.2.1,y.2.2.2.2.2.1,y.2.2.2.2.2.2.1⟩) underlying134 rfl (by kernel_rfl) (AD (by kernel_rfl) (by decide) (OI n) (AD (by kernel_rfl) (by decide) (CT n) (AD (by kernel_rfl) (by decide) (CT n) (AD (by kernel_rfl) (by decide) (CT n) (AD (by kernel_rfl) (by decide) (CT n) (AD (by kernel_rfl) (by decide) (CT n) (AD (by kernel_rfl) (by decide) (CT n) (Af)))))))) (fun _=>rfl)
theorem ap:∀fuel,Ae prog 23 1 (eL 7 DZ) fuel
 |0=>AJ|n+1=>A0 underlying23 (by kernel_rfl) (by decide) (of_decide_eq_true (by kernel_rfl)) (W8 n)
theorem aq:∀fuel,Ae prog 25 2 AQ fuel
 |0=>AJ|n+1=>AW (L:=[(22,0),(23,1)]) (m:=2) (fun y=>⟨y.1,y.2.1⟩) underlying25 rfl (by kernel_rfl) (AD (by kernel_rfl) (by decide) (am n) (AD (by kernel_rfl) (by decide) (ap n) (Af))) (fun _=>rfl)
theorem F6:∀fuel,Ae prog 27 1 (eL 1 eI) fuel
 |0=>AJ|n+1=>A0 underlying27 (by kernel_rfl) (by decide) (of_decide_eq_true (by kernel_rfl)) (CT n)
theorem W9:∀fuel,Ae prog 144 3 Bm fuel
 |0=>AJ|n+1=>AW (L:=[(3,0),(3,1),(3,2)]) (m:=3) (fun y=>⟨y.1,y.2.1,y.2.2.1⟩) underlying144 rfl (by kernel_rfl) (AD (by kernel_rfl) (by decide) (CT n) (AD (by kernel_rfl) (by decide) (CT n) (AD (by kernel_rfl) (by decide) (CT n) (Af)))) (fun _=>rfl)
theorem av:∀fuel,Ae prog 28 1 (eL 3 Bm) fuel
 |0=>AJ|n+1=>A0 underlying28 (by kernel_rfl) (by decide) (of_decide_eq_true (by kernel_rfl)) (W9 n)
theorem TZ:∀fuel,Ae prog 30 2 At fuel
 |0=>AJ|n+1=>AW (L:=[(27,0),(28,1)]) (m:=2) (fun y=>⟨y.1,y.2.1⟩) underlying30 rfl (by kernel_rfl) (AD (by kernel_rfl) (by decide) (F6 n) (AD (by kernel_rfl) (by decide) (av n) (Af))) (fun _=>rfl)
theorem Mn:∀fuel,Ae prog 247 2 MU fuel
 |0=>AJ|n+1=>AW (L:=[(3,0),(3,1)]) (m:=2) (fun y=>⟨y.1,y.2.1⟩) underlying247 rfl (by kernel_rfl) (AD (by kernel_rfl) (by decide) (CT n) (AD (by kernel_rfl) (by decide) (CT n) (Af))) (fun _=>rfl)
theorem XA:∀fuel,Ae prog 249 4 Eg fuel
 |0=>AJ|n+1=>AW (L:=[(3,0),(3,1),(247,2)]) (m:=4) (fun y=>⟨y.1,y.2.1,y.2.2.1⟩) underlying249 rfl (by kernel_rfl) (AD (by kernel_rfl) (by decide) (CT n) (AD (by kernel_rfl) (by decide) (CT n) (AD (by kernel_rfl) (by decide) (Mn n) (Af)))) (fun _=>rfl)
theorem bB:∀fuel,Ae prog 50 1 (eL 4 Eg) fuel
 |0=>AJ|n+1=>A0 underlying50 (by kernel_rfl) (by decide) (of_decide_eq_true (by kernel_rfl)) (XA n)
theorem XB:∀fuel,Ae prog 251 5 FJ fuel
 |0=>AJ|n+1=>AW (L:=[(3,0),(247,1),(247,3)]) (m:=5) (fun y=>⟨y.1,y.2.1,y.2.2.1⟩) underlying251 rfl (by kernel_rfl) (AD (by kernel_rfl) (by decide) (CT n) (AD (by kernel_rfl) (by decide) (Mn n) (AD (by kernel_rfl) (by decide) (Mn n) (Af)))) (fun _=>rfl)
theorem bC:∀fuel,Ae prog 51 1 (eL 5 FJ) fuel
 |0=>AJ|n+1=>A0 underlying51 (by kernel_rfl) (by decide) (of_decide_eq_true (by kernel_rfl)) (XB n)
theorem Pd:∀fuel,Ae prog 53 5 BF fuel
 |0=>AJ|n+1=>AW (L:=[(30,0),(50,2),(3,3),(51,4)]) (m:=5) (fun y=>⟨y.1,y.2.1,y.2.2.1,y.2.2.2.1⟩) underlying53 rfl (by kernel_rfl) (AD (by kernel_rfl) (by decide) (TZ n) (AD (by kernel_rfl) (by decide) (bB n) (AD (by kernel_rfl) (by decide) (CT n) (AD (by kernel_rfl) (by decide) (bC n) (Af))))) (fun _=>rfl)
theorem bE:∀fuel,Ae prog 55 2 Fr fuel
 |0=>AJ|n+1=>AW (L:=[(27,0),(27,1)]) (m:=2) (fun y=>⟨y.1,y.2.1⟩) underlying55 rfl (by kernel_rfl) (AD (by kernel_rfl) (by decide) (F6 n) (AD (by kernel_rfl) (by decide) (F6 n) (Af))) (fun _=>rfl)
theorem Pe:∀fuel,Ae prog 56 2 Aq fuel
 |0=>AJ|n+1=>AW (L:=[(27,0),(27,1)]) (m:=2) (fun y=>⟨y.1,y.2.1⟩) underlying56 rfl (by kernel_rfl) (AD (by kernel_rfl) (by decide) (F6 n) (AD (by kernel_rfl) (by decide) (F6 n) (Af))) (fun _=>rfl)
theorem XC(n:Nat)(b:∀k,k<n->Ae prog 59 9 AK k):Ae prog 59 9 AK n:=by
 cases n with
 |zero=>exact AJ|succ n=>
  have a:Ae prog 57 1 Cy n:=by
   cases n with
   |zero=>exact AJ|succ m=>
    have:=A0 underlying57 (n:=9) (by kernel_rfl) (by decide) (of_decide_eq_true (by kernel_rfl)) (b m (by omega));have he:Cy=(fun l=>TV.list 9 (l.map AK)):=funext Hu;rw[he];exact this
  exact AW (L:=[(3,0),(57,1),(56,2),(53,4)]) (m:=9) (fun y=>⟨y.1,y.2.1,y.2.2.1,y.2.2.2.1⟩) underlying59 rfl (by kernel_rfl) (AD (by kernel_rfl) (by decide) (CT n) (AD (by kernel_rfl) (by decide) a (AD (by kernel_rfl) (by decide) (Pe n) (AD (by kernel_rfl) (by decide) (Pd n) (Af))))) (fun _=>rfl)
theorem bF(fuel:Nat):Ae prog 59 9 AK fuel:=Nat.strongRecOn fuel XC
theorem bG:∀fuel,Ae prog 61 25 Bc fuel
 |0=>AJ|n+1=>AW (L:=[(9,0),(53,1),(53,6),(55,11),(56,13),(4,15),(59,16)]) (m:=25) (fun y=>⟨y.1,y.2.1,y.2.2.1,y.2.2.2.1,y.2.2.2.2.1,y.2.2.2.2.2.1,y.2.2.2.2.2.2.1⟩) underlying61 rfl (by kernel_rfl) (AD (by kernel_rfl) (by decide) (OI n) (AD (by kernel_rfl) (by decide) (Pd n) (AD (by kernel_rfl) (by decide) (Pd n) (AD (by kernel_rfl) (by decide) (bE n) (AD (by kernel_rfl) (by decide) (Pe n) (AD (by kernel_rfl) (by decide) (Yf n) (AD (by kernel_rfl) (by decide) (bF n) (Af)))))))) (fun _=>rfl)
theorem ar:∀fuel,Ae prog 26 1 (eL 25 Bc) fuel
 |0=>AJ|n+1=>A0 underlying26 (by kernel_rfl) (by decide) (of_decide_eq_true (by kernel_rfl)) (bG n)
theorem aw:∀fuel,Ae prog 31 1 (eL 1 (eL 1 eI)) fuel
 |0=>AJ|n+1=>A0 underlying31 (by kernel_rfl) (by decide) (of_decide_eq_true (by kernel_rfl)) (F6 n)
theorem ax:∀fuel,Ae prog 33 3 Bn fuel
 |0=>AJ|n+1=>AW (L:=[(30,0),(31,2)]) (m:=3) (fun y=>⟨y.1,y.2.1⟩) underlying33 rfl (by kernel_rfl) (AD (by kernel_rfl) (by decide) (TZ n) (AD (by kernel_rfl) (by decide) (aw n) (Af))) (fun _=>rfl)
theorem bH:∀fuel,Ae prog 67 3 Bf fuel
 |0=>AJ|n+1=>AW (L:=[(56,0),(27,2)]) (m:=3) (fun y=>⟨y.1,y.2.1⟩) underlying67 rfl (by kernel_rfl) (AD (by kernel_rfl) (by decide) (Pe n) (AD (by kernel_rfl) (by decide) (F6 n) (Af))) (fun _=>rfl)
theorem Vk:∀fuel,Ae prog 69 4 CZ fuel
 |0=>AJ|n+1=>AW (L:=[(3,0),(67,1)]) (m:=4) (fun y=>⟨y.1,y.2.1⟩) underlying69 rfl (by kernel_rfl) (AD (by kernel_rfl) (by decide) (CT n) (AD (by kernel_rfl) (by decide) (bH n) (Af))) (fun _=>rfl)
theorem ay:∀fuel,Ae prog 34 1 (eL 4 CZ) fuel
 |0=>AJ|n+1=>A0 underlying34 (by kernel_rfl) (by decide) (of_decide_eq_true (by kernel_rfl)) (Vk n)
theorem a7:∀fuel,Ae prog 36 4 Ch fuel
 |0=>AJ|n+1=>AW (L:=[(33,0),(34,3)]) (m:=4) (fun y=>⟨y.1,y.2.1⟩) underlying36 rfl (by kernel_rfl) (AD (by kernel_rfl) (by decide) (ax n) (AD (by kernel_rfl) (by decide) (ay n) (Af))) (fun _=>rfl)
theorem a8:∀fuel,Ae prog 38 5 BL fuel
 |0=>AJ|n+1=>AW (L:=[(36,0),(27,4)]) (m:=5) (fun y=>⟨y.1,y.2.1⟩) underlying38 rfl (by kernel_rfl) (AD (by kernel_rfl) (by decide) (a7 n) (AD (by kernel_rfl) (by decide) (F6 n) (Af))) (fun _=>rfl)
theorem bA:∀fuel,Ae prog 40 8 CP fuel
 |0=>AJ|n+1=>AW (L:=[(25,0),(26,2),(38,3)]) (m:=8) (fun y=>⟨y.1,y.2.1,y.2.2.1⟩) underlying40 rfl (by kernel_rfl) (AD (by kernel_rfl) (by decide) (aq n) (AD (by kernel_rfl) (by decide) (ar n) (AD (by kernel_rfl) (by decide) (a8 n) (Af)))) (fun _=>rfl)
end Go.Sf.Sc
