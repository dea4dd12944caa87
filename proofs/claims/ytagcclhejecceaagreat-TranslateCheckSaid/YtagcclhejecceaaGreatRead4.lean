/- Lemmas. -/
import Derived.Test.YtagcclhejecceaaGreatTypes
import Derived.Test.YtagcclhejecceaaGreatSfRead
import Derived.KernelRfl
set_option linter.all false
set_option maxRecDepth 100000
namespace Go.Sf.Sc
open Go Go.Sf Go.Proofs.Tryz
theorem Sz:∀fuel,Az prog 9 1 eS fuel
 |0=>AT|_+1=>Xy underlying9
theorem ES:∀fuel,Az prog 3 1 eI fuel
 |0=>AT|_+1=>Xx underlying3
theorem fw:∀fuel,Az prog 4 1 eB fuel
 |0=>AT|_+1=>WT underlying4
theorem df:∀fuel,Az prog 183 1 (eL 1 eS) fuel
 |0=>AT|n+1=>Bt underlying183 (by kernel_rfl) (by decide) (of_decide_eq_true (by kernel_rfl)) (Sz n)
theorem dg:∀fuel,Az prog 185 4 Fu fuel
 |0=>AT|n+1=>Ap (L:=[(9,0),(3,1),(3,2),(183,3)]) (m:=4) (fun y=>⟨y.1,y.2.1,y.2.2.1,y.2.2.2.1⟩) underlying185 rfl (by kernel_rfl) (AG (by kernel_rfl) (by decide) (Sz n) (AG (by kernel_rfl) (by decide) (ES n) (AG (by kernel_rfl) (by decide) (ES n) (AG (by kernel_rfl) (by decide) (df n) (A7))))) (fun _=>rfl)
theorem jR:∀fuel,Az prog 95 1 (eL 4 Fu) fuel
 |0=>AT|n+1=>Bt underlying95 (by kernel_rfl) (by decide) (of_decide_eq_true (by kernel_rfl)) (dg n)
theorem jS:∀fuel,Az prog 97 4 Cj fuel
 |0=>AT|n+1=>Ap (L:=[(9,0),(3,1),(4,2),(95,3)]) (m:=4) (fun y=>⟨y.1,y.2.1,y.2.2.1,y.2.2.2.1⟩) underlying97 rfl (by kernel_rfl) (AG (by kernel_rfl) (by decide) (Sz n) (AG (by kernel_rfl) (by decide) (ES n) (AG (by kernel_rfl) (by decide) (fw n) (AG (by kernel_rfl) (by decide) (jR n) (A7))))) (fun _=>rfl)
theorem jB:∀fuel,Az prog 22 1 (eL 4 Cj) fuel
 |0=>AT|n+1=>Bt underlying22 (by kernel_rfl) (by decide) (of_decide_eq_true (by kernel_rfl)) (jS n)
theorem jT:∀fuel,Az prog 99 7 C4 fuel
 |0=>AT|n+1=>Ap (L:=[(9,0),(3,1),(3,2),(3,3),(3,4),(3,5),(3,6)]) (m:=7) (fun y=>⟨y.1,y.2.1,y.2.2.1,y.2.2.2.1,y.2.2.2.2.1,y.2.2.2.2.2.1,y.2.2.2.2.2.2.1⟩) underlying99 rfl (by kernel_rfl) (AG (by kernel_rfl) (by decide) (Sz n) (AG (by kernel_rfl) (by decide) (ES n) (AG (by kernel_rfl) (by decide) (ES n) (AG (by kernel_rfl) (by decide) (ES n) (AG (by kernel_rfl) (by decide) (ES n) (AG (by kernel_rfl) (by decide) (ES n) (AG (by kernel_rfl) (by decide) (ES n) (A7)))))))) (fun _=>rfl)
theorem jC:∀fuel,Az prog 23 1 (eL 7 C4) fuel
 |0=>AT|n+1=>Bt underlying23 (by kernel_rfl) (by decide) (of_decide_eq_true (by kernel_rfl)) (jT n)
theorem jD:∀fuel,Az prog 25 2 AM fuel
 |0=>AT|n+1=>Ap (L:=[(22,0),(23,1)]) (m:=2) (fun y=>⟨y.1,y.2.1⟩) underlying25 rfl (by kernel_rfl) (AG (by kernel_rfl) (by decide) (jB n) (AG (by kernel_rfl) (by decide) (jC n) (A7))) (fun _=>rfl)
theorem J1:∀fuel,Az prog 26 1 (eL 1 eI) fuel
 |0=>AT|n+1=>Bt underlying26 (by kernel_rfl) (by decide) (of_decide_eq_true (by kernel_rfl)) (ES n)
theorem jE:∀fuel,Az prog 28 2 EO fuel
 |0=>AT|n+1=>Ap (L:=[(26,0),(26,1)]) (m:=2) (fun y=>⟨y.1,y.2.1⟩) underlying28 rfl (by kernel_rfl) (AG (by kernel_rfl) (by decide) (J1 n) (AG (by kernel_rfl) (by decide) (J1 n) (A7))) (fun _=>rfl)
theorem jL:∀fuel,Az prog 61 3 Bp fuel
 |0=>AT|n+1=>Ap (L:=[(3,0),(3,1),(3,2)]) (m:=3) (fun y=>⟨y.1,y.2.1,y.2.2.1⟩) underlying61 rfl (by kernel_rfl) (AG (by kernel_rfl) (by decide) (ES n) (AG (by kernel_rfl) (by decide) (ES n) (AG (by kernel_rfl) (by decide) (ES n) (A7)))) (fun _=>rfl)
theorem jI:∀fuel,Az prog 35 1 (eL 3 Bp) fuel
 |0=>AT|n+1=>Bt underlying35 (by kernel_rfl) (by decide) (of_decide_eq_true (by kernel_rfl)) (jL n)
theorem dj:∀fuel,Az prog 37 2 Al fuel
 |0=>AT|n+1=>Ap (L:=[(26,0),(35,1)]) (m:=2) (fun y=>⟨y.1,y.2.1⟩) underlying37 rfl (by kernel_rfl) (AG (by kernel_rfl) (by decide) (J1 n) (AG (by kernel_rfl) (by decide) (jI n) (A7))) (fun _=>rfl)
theorem RZ:∀fuel,Az prog 188 2 N0 fuel
 |0=>AT|n+1=>Ap (L:=[(3,0),(3,1)]) (m:=2) (fun y=>⟨y.1,y.2.1⟩) underlying188 rfl (by kernel_rfl) (AG (by kernel_rfl) (by decide) (ES n) (AG (by kernel_rfl) (by decide) (ES n) (A7))) (fun _=>rfl)
theorem dh:∀fuel,Az prog 190 4 E8 fuel
 |0=>AT|n+1=>Ap (L:=[(3,0),(3,1),(188,2)]) (m:=4) (fun y=>⟨y.1,y.2.1,y.2.2.1⟩) underlying190 rfl (by kernel_rfl) (AG (by kernel_rfl) (by decide) (ES n) (AG (by kernel_rfl) (by decide) (ES n) (AG (by kernel_rfl) (by decide) (RZ n) (A7)))) (fun _=>rfl)
theorem jM:∀fuel,Az prog 68 1 (eL 4 E8) fuel
 |0=>AT|n+1=>Bt underlying68 (by kernel_rfl) (by decide) (of_decide_eq_true (by kernel_rfl)) (dh n)
theorem di:∀fuel,Az prog 295 5 Fv fuel
 |0=>AT|n+1=>Ap (L:=[(3,0),(188,1),(188,3)]) (m:=5) (fun y=>⟨y.1,y.2.1,y.2.2.1⟩) underlying295 rfl (by kernel_rfl) (AG (by kernel_rfl) (by decide) (ES n) (AG (by kernel_rfl) (by decide) (RZ n) (AG (by kernel_rfl) (by decide) (RZ n) (A7)))) (fun _=>rfl)
theorem jN:∀fuel,Az prog 69 1 (eL 5 Fv) fuel
 |0=>AT|n+1=>Bt underlying69 (by kernel_rfl) (by decide) (of_decide_eq_true (by kernel_rfl)) (di n)
theorem VK:∀fuel,Az prog 71 5 Bo fuel
 |0=>AT|n+1=>Ap (L:=[(37,0),(68,2),(3,3),(69,4)]) (m:=5) (fun y=>⟨y.1,y.2.1,y.2.2.1,y.2.2.2.1⟩) underlying71 rfl (by kernel_rfl) (AG (by kernel_rfl) (by decide) (dj n) (AG (by kernel_rfl) (by decide) (jM n) (AG (by kernel_rfl) (by decide) (ES n) (AG (by kernel_rfl) (by decide) (jN n) (A7))))) (fun _=>rfl)
theorem jO:∀fuel,Az prog 72 2 GM fuel
 |0=>AT|n+1=>Ap (L:=[(26,0),(26,1)]) (m:=2) (fun y=>⟨y.1,y.2.1⟩) underlying72 rfl (by kernel_rfl) (AG (by kernel_rfl) (by decide) (J1 n) (AG (by kernel_rfl) (by decide) (J1 n) (A7))) (fun _=>rfl)
theorem Sx:∀fuel,Az prog 46 2 As fuel
 |0=>AT|n+1=>Ap (L:=[(26,0),(26,1)]) (m:=2) (fun y=>⟨y.1,y.2.1⟩) underlying46 rfl (by kernel_rfl) (AG (by kernel_rfl) (by decide) (J1 n) (AG (by kernel_rfl) (by decide) (J1 n) (A7))) (fun _=>rfl)
theorem dk(n:Nat)(b:∀k,k<n->Az prog 75 9 AP k):Az prog 75 9 AP n:=by
 cases n with
 |zero=>exact AT|succ n=>
  have a:Az prog 73 1 DW n:=by
   cases n with
   |zero=>exact AT|succ m=>
    have:=Bt underlying73 (n:=9) (by kernel_rfl) (by decide) (of_decide_eq_true (by kernel_rfl)) (b m (by omega));have he:DW=(fun l=>TV.list 9 (l.map AP)):=funext J3;rw[he];exact this
  exact Ap (L:=[(3,0),(73,1),(46,2),(71,4)]) (m:=9) (fun y=>⟨y.1,y.2.1,y.2.2.1,y.2.2.2.1⟩) underlying75 rfl (by kernel_rfl) (AG (by kernel_rfl) (by decide) (ES n) (AG (by kernel_rfl) (by decide) a (AG (by kernel_rfl) (by decide) (Sx n) (AG (by kernel_rfl) (by decide) (VK n) (A7))))) (fun _=>rfl)
theorem jP(fuel:Nat):Az prog 75 9 AP fuel:=Nat.strongRecOn fuel dk
theorem jQ:∀fuel,Az prog 77 25 Bg fuel
 |0=>AT|n+1=>Ap (L:=[(9,0),(71,1),(71,6),(72,11),(46,13),(4,15),(75,16)]) (m:=25) (fun y=>⟨y.1,y.2.1,y.2.2.1,y.2.2.2.1,y.2.2.2.2.1,y.2.2.2.2.2.1,y.2.2.2.2.2.2.1⟩) underlying77 rfl (by kernel_rfl) (AG (by kernel_rfl) (by decide) (Sz n) (AG (by kernel_rfl) (by decide) (VK n) (AG (by kernel_rfl) (by decide) (VK n) (AG (by kernel_rfl) (by decide) (jO n) (AG (by kernel_rfl) (by decide) (Sx n) (AG (by kernel_rfl) (by decide) (fw n) (AG (by kernel_rfl) (by decide) (jP n) (A7)))))))) (fun _=>rfl)
theorem jF:∀fuel,Az prog 29 1 (eL 25 Bg) fuel
 |0=>AT|n+1=>Bt underlying29 (by kernel_rfl) (by decide) (of_decide_eq_true (by kernel_rfl)) (jQ n)
theorem jG:∀fuel,Az prog 31 5 DB fuel
 |0=>AT|n+1=>Ap (L:=[(25,0),(28,2),(29,4)]) (m:=5) (fun y=>⟨y.1,y.2.1,y.2.2.1⟩) underlying31 rfl (by kernel_rfl) (AG (by kernel_rfl) (by decide) (jD n) (AG (by kernel_rfl) (by decide) (jE n) (AG (by kernel_rfl) (by decide) (jF n) (A7)))) (fun _=>rfl)
theorem u9:∀fuel,Az prog 38 1 (eL 1 (eL 1 eI)) fuel
 |0=>AT|n+1=>Bt underlying38 (by kernel_rfl) (by decide) (of_decide_eq_true (by kernel_rfl)) (J1 n)
theorem vA:∀fuel,Az prog 40 3 CE fuel
 |0=>AT|n+1=>Ap (L:=[(37,0),(38,2)]) (m:=3) (fun y=>⟨y.1,y.2.1⟩) underlying40 rfl (by kernel_rfl) (AG (by kernel_rfl) (by decide) (dj n) (AG (by kernel_rfl) (by decide) (u9 n) (A7))) (fun _=>rfl)
theorem jJ:∀fuel,Az prog 48 3 B7 fuel
 |0=>AT|n+1=>Ap (L:=[(46,0),(26,2)]) (m:=3) (fun y=>⟨y.1,y.2.1⟩) underlying48 rfl (by kernel_rfl) (AG (by kernel_rfl) (by decide) (Sx n) (AG (by kernel_rfl) (by decide) (J1 n) (A7))) (fun _=>rfl)
theorem jK:∀fuel,Az prog 50 4 E7 fuel
 |0=>AT|n+1=>Ap (L:=[(3,0),(48,1)]) (m:=4) (fun y=>⟨y.1,y.2.1⟩) underlying50 rfl (by kernel_rfl) (AG (by kernel_rfl) (by decide) (ES n) (AG (by kernel_rfl) (by decide) (jJ n) (A7))) (fun _=>rfl)
theorem jH:∀fuel,Az prog 32 1 (eL 4 E7) fuel
 |0=>AT|n+1=>Bt underlying32 (by kernel_rfl) (by decide) (of_decide_eq_true (by kernel_rfl)) (jK n)
theorem vB:∀fuel,Az prog 54 6 F7 fuel
 |0=>AT|n+1=>Ap (L:=[(40,0),(32,3),(46,4)]) (m:=6) (fun y=>⟨y.1,y.2.1,y.2.2.1⟩) underlying54 rfl (by kernel_rfl) (AG (by kernel_rfl) (by decide) (vA n) (AG (by kernel_rfl) (by decide) (jH n) (AG (by kernel_rfl) (by decide) (Sx n) (A7)))) (fun _=>rfl)
end Go.Sf.Sc
