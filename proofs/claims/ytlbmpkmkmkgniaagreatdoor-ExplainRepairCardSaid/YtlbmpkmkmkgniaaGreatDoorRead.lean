/- What is read of the arguments of the law. -/
import Derived.Test.YtlbmpkmkmkgniaaGreatDoorTypes
import Derived.Test.YtlbmpkmkmkgniaaGreatDoorSfClaim
import Derived.KernelRfl
set_option linter.all false
set_option maxRecDepth 100000
namespace Go.Sf.Sc
open Go Go.Sf Go.Proofs.Tryz
theorem eC:∀ fuel,DN prog 9 1 eS fuel
 | 0=>B8
 | _+1=>ac underlying9
theorem Md:∀ fuel,DN prog 3 1 eI fuel
 | 0=>B8
 | _+1=>aa underlying3
theorem rP:∀ fuel,DN prog 4 1 eB fuel
 | 0=>B8
 | _+1=>Y7 underlying4
theorem tf:∀ fuel,DN prog 82 1 (eL 1 eS) fuel
 | 0=>B8
 | n+1=>G4 underlying82 (by kernel_rfl) (by decide) (of_decide_eq_true (by kernel_rfl)) (eC n)
theorem qI:∀ fuel,DN prog 116 4 IU fuel
 | 0=>B8
 | n+1=>DP (L:=[(9,0),(3,1),(3,2),(82,3)]) (m:=4) (fun y=>⟨y.1,y.2.1,y.2.2.1,y.2.2.2.1⟩) underlying116 rfl (by kernel_rfl) (At (by kernel_rfl) (by decide) (eC n) (At (by kernel_rfl) (by decide) (Md n) (At (by kernel_rfl) (by decide) (Md n) (At (by kernel_rfl) (by decide) (tf n) (EC))))) (fun _=>rfl)
theorem qJ:∀ fuel,DN prog 117 1 (eL 4 IU) fuel
 | 0=>B8
 | n+1=>G4 underlying117 (by kernel_rfl) (by decide) (of_decide_eq_true (by kernel_rfl)) (qI n)
theorem qK:∀ fuel,DN prog 119 4 F8 fuel
 | 0=>B8
 | n+1=>DP (L:=[(9,0),(3,1),(4,2),(117,3)]) (m:=4) (fun y=>⟨y.1,y.2.1,y.2.2.1,y.2.2.2.1⟩) underlying119 rfl (by kernel_rfl) (At (by kernel_rfl) (by decide) (eC n) (At (by kernel_rfl) (by decide) (Md n) (At (by kernel_rfl) (by decide) (rP n) (At (by kernel_rfl) (by decide) (qJ n) (EC))))) (fun _=>rfl)
theorem tS:∀ fuel,DN prog 22 1 (eL 4 F8) fuel
 | 0=>B8
 | n+1=>G4 underlying22 (by kernel_rfl) (by decide) (of_decide_eq_true (by kernel_rfl)) (qK n)
theorem qL:∀ fuel,DN prog 121 7 GY fuel
 | 0=>B8
 | n+1=>DP (L:=[(9,0),(3,1),(3,2),(3,3),(3,4),(3,5),(3,6)]) (m:=7) (fun y=>⟨y.1,y.2.1,y.2.2.1,y.2.2.2.1,y.2.2.2.2.1,y.2.2.2.2.2.1,y.2.2.2.2.2.2.1⟩) underlying121 rfl (by kernel_rfl) (At (by kernel_rfl) (by decide) (eC n) (At (by kernel_rfl) (by decide) (Md n) (At (by kernel_rfl) (by decide) (Md n) (At (by kernel_rfl) (by decide) (Md n) (At (by kernel_rfl) (by decide) (Md n) (At (by kernel_rfl) (by decide) (Md n) (At (by kernel_rfl) (by decide) (Md n) (EC)))))))) (fun _=>rfl)
theorem tT:∀ fuel,DN prog 23 1 (eL 7 GY) fuel
 | 0=>B8
 | n+1=>G4 underlying23 (by kernel_rfl) (by decide) (of_decide_eq_true (by kernel_rfl)) (qL n)
theorem tU:∀ fuel,DN prog 25 2 AU fuel
 | 0=>B8
 | n+1=>DP (L:=[(22,0),(23,1)]) (m:=2) (fun y=>⟨y.1,y.2.1⟩) underlying25 rfl (by kernel_rfl) (At (by kernel_rfl) (by decide) (tS n) (At (by kernel_rfl) (by decide) (tT n) (EC))) (fun _=>rfl)
theorem Wk:∀ fuel,DN prog 26 1 (eL 1 eI) fuel
 | 0=>B8
 | n+1=>G4 underlying26 (by kernel_rfl) (by decide) (of_decide_eq_true (by kernel_rfl)) (Md n)
theorem qM:∀ fuel,DN prog 123 3 EB fuel
 | 0=>B8
 | n+1=>DP (L:=[(3,0),(3,1),(3,2)]) (m:=3) (fun y=>⟨y.1,y.2.1,y.2.2.1⟩) underlying123 rfl (by kernel_rfl) (At (by kernel_rfl) (by decide) (Md n) (At (by kernel_rfl) (by decide) (Md n) (At (by kernel_rfl) (by decide) (Md n) (EC)))) (fun _=>rfl)
theorem tV:∀ fuel,DN prog 27 1 (eL 3 EB) fuel
 | 0=>B8
 | n+1=>G4 underlying27 (by kernel_rfl) (by decide) (of_decide_eq_true (by kernel_rfl)) (qM n)
theorem jU:∀ fuel,DN prog 29 2 CS fuel
 | 0=>B8
 | n+1=>DP (L:=[(26,0),(27,1)]) (m:=2) (fun y=>⟨y.1,y.2.1⟩) underlying29 rfl (by kernel_rfl) (At (by kernel_rfl) (by decide) (Wk n) (At (by kernel_rfl) (by decide) (tV n) (EC))) (fun _=>rfl)
theorem Y6:∀ fuel,DN prog 210 2 OD fuel
 | 0=>B8
 | n+1=>DP (L:=[(3,0),(3,1)]) (m:=2) (fun y=>⟨y.1,y.2.1⟩) underlying210 rfl (by kernel_rfl) (At (by kernel_rfl) (by decide) (Md n) (At (by kernel_rfl) (by decide) (Md n) (EC))) (fun _=>rfl)
theorem qN:∀ fuel,DN prog 212 4 ME fuel
 | 0=>B8
 | n+1=>DP (L:=[(3,0),(3,1),(210,2)]) (m:=4) (fun y=>⟨y.1,y.2.1,y.2.2.1⟩) underlying212 rfl (by kernel_rfl) (At (by kernel_rfl) (by decide) (Md n) (At (by kernel_rfl) (by decide) (Md n) (At (by kernel_rfl) (by decide) (Y6 n) (EC)))) (fun _=>rfl)
theorem tW:∀ fuel,DN prog 30 1 (eL 4 ME) fuel
 | 0=>B8
 | n+1=>G4 underlying30 (by kernel_rfl) (by decide) (of_decide_eq_true (by kernel_rfl)) (qN n)
theorem qO:∀ fuel,DN prog 256 5 MF fuel
 | 0=>B8
 | n+1=>DP (L:=[(3,0),(210,1),(210,3)]) (m:=5) (fun y=>⟨y.1,y.2.1,y.2.2.1⟩) underlying256 rfl (by kernel_rfl) (At (by kernel_rfl) (by decide) (Md n) (At (by kernel_rfl) (by decide) (Y6 n) (At (by kernel_rfl) (by decide) (Y6 n) (EC)))) (fun _=>rfl)
theorem tX:∀ fuel,DN prog 31 1 (eL 5 MF) fuel
 | 0=>B8
 | n+1=>G4 underlying31 (by kernel_rfl) (by decide) (of_decide_eq_true (by kernel_rfl)) (qO n)
theorem jV:∀ fuel,DN prog 33 5 BN fuel
 | 0=>B8
 | n+1=>DP (L:=[(29,0),(30,2),(3,3),(31,4)]) (m:=5) (fun y=>⟨y.1,y.2.1,y.2.2.1,y.2.2.2.1⟩) underlying33 rfl (by kernel_rfl) (At (by kernel_rfl) (by decide) (jU n) (At (by kernel_rfl) (by decide) (tW n) (At (by kernel_rfl) (by decide) (Md n) (At (by kernel_rfl) (by decide) (tX n) (EC))))) (fun _=>rfl)
theorem jW:∀ fuel,DN prog 36 2 B4 fuel
 | 0=>B8
 | n+1=>DP (L:=[(26,0),(26,1)]) (m:=2) (fun y=>⟨y.1,y.2.1⟩) underlying36 rfl (by kernel_rfl) (At (by kernel_rfl) (by decide) (Wk n) (At (by kernel_rfl) (by decide) (Wk n) (EC))) (fun _=>rfl)
theorem qP (n:Nat) (b:∀ k,k<n->DN prog 38 9 AF k):DN prog 38 9 AF n:=by
 cases n with
 | zero=>exact B8
 | succ n=>
  have a:DN prog 34 1 Hp n:=by
   cases n with
   | zero=>exact B8
   | succ m=>
    have:=G4 underlying34 (n:=9) (by kernel_rfl) (by decide) (of_decide_eq_true (by kernel_rfl)) (b m (by omega));have c:Hp=(fun l=>TV.list 9 (l.map AF)):=funext Kr;rw [c]; exact this
  exact DP (L:=[(3,0),(34,1),(36,2),(33,4)]) (m:=9) (fun y=>⟨y.1,y.2.1,y.2.2.1,y.2.2.2.1⟩) underlying38 rfl (by kernel_rfl) (At (by kernel_rfl) (by decide) (Md n) (At (by kernel_rfl) (by decide) a (At (by kernel_rfl) (by decide) (jW n) (At (by kernel_rfl) (by decide) (jV n) (EC))))) (fun _=>rfl)
theorem tY (fuel:Nat):DN prog 38 9 AF fuel:=Nat.strongRecOn fuel qP
theorem tZ:∀ fuel,DN prog 40 14 Hq fuel
 | 0=>B8
 | n+1=>DP (L:=[(33,0),(38,5)]) (m:=14) (fun y=>⟨y.1,y.2.1⟩) underlying40 rfl (by kernel_rfl) (At (by kernel_rfl) (by decide) (jV n) (At (by kernel_rfl) (by decide) (tY n) (EC))) (fun _=>rfl)
theorem ta:∀ fuel,DN prog 41 1 (eL 1 (eL 1 eI)) fuel
 | 0=>B8
 | n+1=>G4 underlying41 (by kernel_rfl) (by decide) (of_decide_eq_true (by kernel_rfl)) (Wk n)
theorem tc:∀ fuel,DN prog 43 3 EL fuel
 | 0=>B8
 | n+1=>DP (L:=[(29,0),(41,2)]) (m:=3) (fun y=>⟨y.1,y.2.1⟩) underlying43 rfl (by kernel_rfl) (At (by kernel_rfl) (by decide) (jU n) (At (by kernel_rfl) (by decide) (ta n) (EC))) (fun _=>rfl)
theorem td:∀ fuel,DN prog 45 3 AN fuel
 | 0=>B8
 | n+1=>DP (L:=[(36,0),(26,2)]) (m:=3) (fun y=>⟨y.1,y.2.1⟩) underlying45 rfl (by kernel_rfl) (At (by kernel_rfl) (by decide) (jW n) (At (by kernel_rfl) (by decide) (Wk n) (EC))) (fun _=>rfl)
theorem te:∀ fuel,DN prog 47 7 K3 fuel
 | 0=>B8
 | n+1=>DP (L:=[(43,0),(45,3),(4,6)]) (m:=7) (fun y=>⟨y.1,y.2.1,y.2.2.1⟩) underlying47 rfl (by kernel_rfl) (At (by kernel_rfl) (by decide) (tc n) (At (by kernel_rfl) (by decide) (td n) (At (by kernel_rfl) (by decide) (rP n) (EC)))) (fun _=>rfl)
end Go.Sf.Sc
