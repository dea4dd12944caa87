/- Lemmas. -/
import Derived.Test.YtiaddfklojalbaaGreatTypes
import Derived.Test.YtiaddfklojalbaaGreatSfRead
import Derived.KernelRfl
set_option linter.all false
set_option maxRecDepth 100000
namespace Go.Sf.Sc
open Go Go.Sf Go.Proofs.Tryz
theorem O8:∀fuel,As prog 9 1 eS fuel
 |0=>AN|_+1=>VT underlying9
theorem DB:∀fuel,As prog 3 1 eI fuel
 |0=>AN|_+1=>VS underlying3
theorem Z4:∀fuel,As prog 4 1 eB fuel
 |0=>AN|_+1=>Ts underlying4
theorem YF:∀fuel,As prog 184 1 (eL 1 eS) fuel
 |0=>AN|n+1=>BL underlying184 an a_ (of_decide_eq_true an) (O8 n)
theorem YG:∀fuel,As prog 186 4 F4 fuel
 |0=>AN|n+1=>Aj (L:=[(9,0),(3,1),(3,2),(184,3)]) (m:=4) (λy=>⟨y.1,y.2.1,y.2.2.1,y.2.2.2.1⟩) underlying186 rfl an (AF an a_ (O8 n) (AF an a_ (DB n) (AF an a_ (DB n) (AF an a_ (YF n) (Av))))) (λ_=>rfl)
theorem dW:∀fuel,As prog 97 1 (eL 4 F4) fuel
 |0=>AN|n+1=>BL underlying97 an a_ (of_decide_eq_true an) (YG n)
theorem dX:∀fuel,As prog 99 4 CZ fuel
 |0=>AN|n+1=>Aj (L:=[(9,0),(3,1),(4,2),(97,3)]) (m:=4) (λy=>⟨y.1,y.2.1,y.2.2.1,y.2.2.2.1⟩) underlying99 rfl an (AF an a_ (O8 n) (AF an a_ (DB n) (AF an a_ (Z4 n) (AF an a_ (dW n) (Av))))) (λ_=>rfl)
theorem dG:∀fuel,As prog 22 1 (eL 4 CZ) fuel
 |0=>AN|n+1=>BL underlying22 an a_ (of_decide_eq_true an) (dX n)
theorem YE:∀fuel,As prog 101 7 Cu fuel
 |0=>AN|n+1=>Aj (L:=[(9,0),(3,1),(3,2),(3,3),(3,4),(3,5),(3,6)]) (m:=7) (λy=>⟨y.1,y.2.1,y.2.2.1,y.2.2.2.1,y.2.2.2.2.1,y.2.2.2.2.2.1,y.2.2.2.2.2.2.1⟩) underlying101 rfl an (AF an a_ (O8 n) (AF an a_ (DB n) (AF an a_ (DB n) (AF an a_ (DB n) (AF an a_ (DB n) (AF an a_ (DB n) (AF an a_ (DB n) (Av)))))))) (λ_=>rfl)
theorem dH:∀fuel,As prog 23 1 (eL 7 Cu) fuel
 |0=>AN|n+1=>BL underlying23 an a_ (of_decide_eq_true an) (YE n)
theorem dI:∀fuel,As prog 25 2 AS fuel
 |0=>AN|n+1=>Aj (L:=[(22,0),(23,1)]) (m:=2) (λy=>⟨y.1,y.2.1⟩) underlying25 rfl an (AF an a_ (dG n) (AF an a_ (dH n) (Av))) (λ_=>rfl)
theorem Gy:∀fuel,As prog 26 1 (eL 1 eI) fuel
 |0=>AN|n+1=>BL underlying26 an a_ (of_decide_eq_true an) (DB n)
theorem dJ:∀fuel,As prog 28 2 DE fuel
 |0=>AN|n+1=>Aj (L:=[(26,0),(26,1)]) (m:=2) (λy=>⟨y.1,y.2.1⟩) underlying28 rfl an (AF an a_ (Gy n) (AF an a_ (Gy n) (Av))) (λ_=>rfl)
theorem dV:∀fuel,As prog 69 3 Bx fuel
 |0=>AN|n+1=>Aj (L:=[(3,0),(3,1),(3,2)]) (m:=3) (λy=>⟨y.1,y.2.1,y.2.2.1⟩) underlying69 rfl an (AF an a_ (DB n) (AF an a_ (DB n) (AF an a_ (DB n) (Av)))) (λ_=>rfl)
theorem dM:∀fuel,As prog 32 1 (eL 3 Bx) fuel
 |0=>AN|n+1=>BL underlying32 an a_ (of_decide_eq_true an) (dV n)
theorem VQ:∀fuel,As prog 34 2 BD fuel
 |0=>AN|n+1=>Aj (L:=[(26,0),(32,1)]) (m:=2) (λy=>⟨y.1,y.2.1⟩) underlying34 rfl an (AF an a_ (Gy n) (AF an a_ (dM n) (Av))) (λ_=>rfl)
theorem Nj:∀fuel,As prog 249 2 Qu fuel
 |0=>AN|n+1=>Aj (L:=[(3,0),(3,1)]) (m:=2) (λy=>⟨y.1,y.2.1⟩) underlying249 rfl an (AF an a_ (DB n) (AF an a_ (DB n) (Av))) (λ_=>rfl)
theorem YH:∀fuel,As prog 251 4 FI fuel
 |0=>AN|n+1=>Aj (L:=[(3,0),(3,1),(249,2)]) (m:=4) (λy=>⟨y.1,y.2.1,y.2.2.1⟩) underlying251 rfl an (AF an a_ (DB n) (AF an a_ (DB n) (AF an a_ (Nj n) (Av)))) (λ_=>rfl)
theorem dP:∀fuel,As prog 48 1 (eL 4 FI) fuel
 |0=>AN|n+1=>BL underlying48 an a_ (of_decide_eq_true an) (YH n)
theorem YI:∀fuel,As prog 311 5 GT fuel
 |0=>AN|n+1=>Aj (L:=[(3,0),(249,1),(249,3)]) (m:=5) (λy=>⟨y.1,y.2.1,y.2.2.1⟩) underlying311 rfl an (AF an a_ (DB n) (AF an a_ (Nj n) (AF an a_ (Nj n) (Av)))) (λ_=>rfl)
theorem dQ:∀fuel,As prog 49 1 (eL 5 GT) fuel
 |0=>AN|n+1=>BL underlying49 an a_ (of_decide_eq_true an) (YI n)
theorem QS:∀fuel,As prog 51 5 CG fuel
 |0=>AN|n+1=>Aj (L:=[(34,0),(48,2),(3,3),(49,4)]) (m:=5) (λy=>⟨y.1,y.2.1,y.2.2.1,y.2.2.2.1⟩) underlying51 rfl an (AF an a_ (VQ n) (AF an a_ (dP n) (AF an a_ (DB n) (AF an a_ (dQ n) (Av))))) (λ_=>rfl)
theorem dR:∀fuel,As prog 52 2 If fuel
 |0=>AN|n+1=>Aj (L:=[(26,0),(26,1)]) (m:=2) (λy=>⟨y.1,y.2.1⟩) underlying52 rfl an (AF an a_ (Gy n) (AF an a_ (Gy n) (Av))) (λ_=>rfl)
theorem VR:∀fuel,As prog 41 2 BR fuel
 |0=>AN|n+1=>Aj (L:=[(26,0),(26,1)]) (m:=2) (λy=>⟨y.1,y.2.1⟩) underlying41 rfl an (AF an a_ (Gy n) (AF an a_ (Gy n) (Av))) (λ_=>rfl)
theorem YJ(n:Nat)(b:∀k,k<n->As prog 55 9 AR k):As prog 55 9 AR n:=by
 cases n with
 |zero=>exact AN|succ n=>
  have a:As prog 53 1 DM n:=by
   cases n with
   |zero=>exact AN|succ m=>
    have:=BL underlying53 (n:=9) an a_ (of_decide_eq_true an) (b m U);have he:DM=(λl=>TV.list 9 (l.map AR)):=funext Ie;rw[he];exact this
  exact Aj (L:=[(3,0),(53,1),(41,2),(51,4)]) (m:=9) (λy=>⟨y.1,y.2.1,y.2.2.1,y.2.2.2.1⟩) underlying55 rfl an (AF an a_ (DB n) (AF an a_ a (AF an a_ (VR n) (AF an a_ (QS n) (Av))))) (λ_=>rfl)
theorem dT(fuel:Nat):As prog 55 9 AR fuel:=Nat.strongRecOn fuel YJ
theorem dU:∀fuel,As prog 57 25 Bb fuel
 |0=>AN|n+1=>Aj (L:=[(9,0),(51,1),(51,6),(52,11),(41,13),(4,15),(55,16)]) (m:=25) (λy=>⟨y.1,y.2.1,y.2.2.1,y.2.2.2.1,y.2.2.2.2.1,y.2.2.2.2.2.1,y.2.2.2.2.2.2.1⟩) underlying57 rfl an (AF an a_ (O8 n) (AF an a_ (QS n) (AF an a_ (QS n) (AF an a_ (dR n) (AF an a_ (VR n) (AF an a_ (Z4 n) (AF an a_ (dT n) (Av)))))))) (λ_=>rfl)
theorem dK:∀fuel,As prog 29 1 (eL 25 Bb) fuel
 |0=>AN|n+1=>BL underlying29 an a_ (of_decide_eq_true an) (dU n)
theorem dL:∀fuel,As prog 31 5 CQ fuel
 |0=>AN|n+1=>Aj (L:=[(25,0),(28,2),(29,4)]) (m:=5) (λy=>⟨y.1,y.2.1,y.2.2.1⟩) underlying31 rfl an (AF an a_ (dI n) (AF an a_ (dJ n) (AF an a_ (dK n) (Av)))) (λ_=>rfl)
theorem dN:∀fuel,As prog 35 1 (eL 1 (eL 1 eI)) fuel
 |0=>AN|n+1=>BL underlying35 an a_ (of_decide_eq_true an) (Gy n)
theorem dO:∀fuel,As prog 37 3 CM fuel
 |0=>AN|n+1=>Aj (L:=[(34,0),(35,2)]) (m:=3) (λy=>⟨y.1,y.2.1⟩) underlying37 rfl an (AF an a_ (VQ n) (AF an a_ (dN n) (Av))) (λ_=>rfl)
end Go.Sf.Sc
