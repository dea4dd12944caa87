/- What is read of the arguments of the law. -/
import Derived.Test.YtlbmpkmkmkgniaaGreatDoorTypes
import Derived.Test.YtlbmpkmkmkgniaaGreatDoorSfClaim
import Derived.KernelRfl
set_option maxRecDepth 100000
namespace Go.Sf.Sc
open Go Go.Sf Go.Proofs.Tryz
theorem av:∀ fuel,DA prog 9 1 eS fuel
 | 0=>B4
 | _+1=>YM underlying9
theorem K8:∀ fuel,DA prog 3 1 eI fuel
 | 0=>B4
 | _+1=>YL underlying3
theorem nS:∀ fuel,DA prog 4 1 eB fuel
 | 0=>B4
 | _+1=>W4 underlying4
theorem pR:∀ fuel,DA prog 82 1 (eL 1 eS) fuel
 | 0=>B4
 | n+1=>GD underlying82 (by kernel_rfl) (by decide) (of_decide_eq_true (by kernel_rfl)) (av n)
theorem mL:∀ fuel,DA prog 116 4 Hl fuel
 | 0=>B4
 | n+1=>DB (L:=[(9,0),(3,1),(3,2),(82,3)]) (m:=4) (fun y=>⟨y.1,y.2.1,y.2.2.1,y.2.2.2.1⟩) underlying116 rfl (by kernel_rfl) (AX (by kernel_rfl) (by decide) (av n) (AX (by kernel_rfl) (by decide) (K8 n) (AX (by kernel_rfl) (by decide) (K8 n) (AX (by kernel_rfl) (by decide) (pR n) (D1))))) (fun _=>rfl)
theorem mM:∀ fuel,DA prog 117 1 (eL 4 Hl) fuel
 | 0=>B4
 | n+1=>GD underlying117 (by kernel_rfl) (by decide) (of_decide_eq_true (by kernel_rfl)) (mL n)
theorem mN:∀ fuel,DA prog 119 4 HE fuel
 | 0=>B4
 | n+1=>DB (L:=[(9,0),(3,1),(4,2),(117,3)]) (m:=4) (fun y=>⟨y.1,y.2.1,y.2.2.1,y.2.2.2.1⟩) underlying119 rfl (by kernel_rfl) (AX (by kernel_rfl) (by decide) (av n) (AX (by kernel_rfl) (by decide) (K8 n) (AX (by kernel_rfl) (by decide) (nS n) (AX (by kernel_rfl) (by decide) (mM n) (D1))))) (fun _=>rfl)
theorem pF:∀ fuel,DA prog 22 1 (eL 4 HE) fuel
 | 0=>B4
 | n+1=>GD underlying22 (by kernel_rfl) (by decide) (of_decide_eq_true (by kernel_rfl)) (mN n)
theorem mO:∀ fuel,DA prog 121 7 Ho fuel
 | 0=>B4
 | n+1=>DB (L:=[(9,0),(3,1),(3,2),(3,3),(3,4),(3,5),(3,6)]) (m:=7) (fun y=>⟨y.1,y.2.1,y.2.2.1,y.2.2.2.1,y.2.2.2.2.1,y.2.2.2.2.2.1,y.2.2.2.2.2.2.1⟩) underlying121 rfl (by kernel_rfl) (AX (by kernel_rfl) (by decide) (av n) (AX (by kernel_rfl) (by decide) (K8 n) (AX (by kernel_rfl) (by decide) (K8 n) (AX (by kernel_rfl) (by decide) (K8 n) (AX (by kernel_rfl) (by decide) (K8 n) (AX (by kernel_rfl) (by decide) (K8 n) (AX (by kernel_rfl) (by decide) (K8 n) (D1)))))))) (fun _=>rfl)
theorem pG:∀ fuel,DA prog 23 1 (eL 7 Ho) fuel
 | 0=>B4
 | n+1=>GD underlying23 (by kernel_rfl) (by decide) (of_decide_eq_true (by kernel_rfl)) (mO n)
theorem pH:∀ fuel,DA prog 25 2 At fuel
 | 0=>B4
 | n+1=>DB (L:=[(22,0),(23,1)]) (m:=2) (fun y=>⟨y.1,y.2.1⟩) underlying25 rfl (by kernel_rfl) (AX (by kernel_rfl) (by decide) (pF n) (AX (by kernel_rfl) (by decide) (pG n) (D1))) (fun _=>rfl)
theorem Uj:∀ fuel,DA prog 26 1 (eL 1 eI) fuel
 | 0=>B4
 | n+1=>GD underlying26 (by kernel_rfl) (by decide) (of_decide_eq_true (by kernel_rfl)) (K8 n)
theorem mP:∀ fuel,DA prog 123 3 EQ fuel
 | 0=>B4
 | n+1=>DB (L:=[(3,0),(3,1),(3,2)]) (m:=3) (fun y=>⟨y.1,y.2.1,y.2.2.1⟩) underlying123 rfl (by kernel_rfl) (AX (by kernel_rfl) (by decide) (K8 n) (AX (by kernel_rfl) (by decide) (K8 n) (AX (by kernel_rfl) (by decide) (K8 n) (D1)))) (fun _=>rfl)
theorem pI:∀ fuel,DA prog 27 1 (eL 3 EQ) fuel
 | 0=>B4
 | n+1=>GD underlying27 (by kernel_rfl) (by decide) (of_decide_eq_true (by kernel_rfl)) (mP n)
theorem fE:∀ fuel,DA prog 29 2 DM fuel
 | 0=>B4
 | n+1=>DB (L:=[(26,0),(27,1)]) (m:=2) (fun y=>⟨y.1,y.2.1⟩) underlying29 rfl (by kernel_rfl) (AX (by kernel_rfl) (by decide) (Uj n) (AX (by kernel_rfl) (by decide) (pI n) (D1))) (fun _=>rfl)
theorem Wz:∀ fuel,DA prog 210 2 P0 fuel
 | 0=>B4
 | n+1=>DB (L:=[(3,0),(3,1)]) (m:=2) (fun y=>⟨y.1,y.2.1⟩) underlying210 rfl (by kernel_rfl) (AX (by kernel_rfl) (by decide) (K8 n) (AX (by kernel_rfl) (by decide) (K8 n) (D1))) (fun _=>rfl)
theorem mQ:∀ fuel,DA prog 212 4 Km fuel
 | 0=>B4
 | n+1=>DB (L:=[(3,0),(3,1),(210,2)]) (m:=4) (fun y=>⟨y.1,y.2.1,y.2.2.1⟩) underlying212 rfl (by kernel_rfl) (AX (by kernel_rfl) (by decide) (K8 n) (AX (by kernel_rfl) (by decide) (K8 n) (AX (by kernel_rfl) (by decide) (Wz n) (D1)))) (fun _=>rfl)
theorem pJ:∀ fuel,DA prog 30 1 (eL 4 Km) fuel
 | 0=>B4
 | n+1=>GD underlying30 (by kernel_rfl) (by decide) (of_decide_eq_true (by kernel_rfl)) (mQ n)
theorem mR:∀ fuel,DA prog 256 5 LO fuel
 | 0=>B4
 | n+1=>DB (L:=[(3,0),(210,1),(210,3)]) (m:=5) (fun y=>⟨y.1,y.2.1,y.2.2.1⟩) underlying256 rfl (by kernel_rfl) (AX (by kernel_rfl) (by decide) (K8 n) (AX (by kernel_rfl) (by decide) (Wz n) (AX (by kernel_rfl) (by decide) (Wz n) (D1)))) (fun _=>rfl)
theorem pK:∀ fuel,DA prog 31 1 (eL 5 LO) fuel
 | 0=>B4
 | n+1=>GD underlying31 (by kernel_rfl) (by decide) (of_decide_eq_true (by kernel_rfl)) (mR n)
theorem fF:∀ fuel,DA prog 33 5 B1 fuel
 | 0=>B4
 | n+1=>DB (L:=[(29,0),(30,2),(3,3),(31,4)]) (m:=5) (fun y=>⟨y.1,y.2.1,y.2.2.1,y.2.2.2.1⟩) underlying33 rfl (by kernel_rfl) (AX (by kernel_rfl) (by decide) (fE n) (AX (by kernel_rfl) (by decide) (pJ n) (AX (by kernel_rfl) (by decide) (K8 n) (AX (by kernel_rfl) (by decide) (pK n) (D1))))) (fun _=>rfl)
theorem fG:∀ fuel,DA prog 36 2 C9 fuel
 | 0=>B4
 | n+1=>DB (L:=[(26,0),(26,1)]) (m:=2) (fun y=>⟨y.1,y.2.1⟩) underlying36 rfl (by kernel_rfl) (AX (by kernel_rfl) (by decide) (Uj n) (AX (by kernel_rfl) (by decide) (Uj n) (D1))) (fun _=>rfl)
theorem mS (n:Nat) (ih:∀ k,k<n->DA prog 38 9 AF k):DA prog 38 9 AF n:=by
 cases n with
 | zero=>exact B4
 | succ n=>
  have hk34:DA prog 34 1 FM n:=by
   cases n with
   | zero=>exact B4
   | succ m=>
    have:=GD underlying34 (n:=9) (by kernel_rfl) (by decide) (of_decide_eq_true (by kernel_rfl)) (ih m (by omega))
    have he:FM=(fun l=>TV.list 9 (l.map AF)):=funext Jm
    rw [he]; exact this
  exact DB (L:=[(3,0),(34,1),(36,2),(33,4)]) (m:=9) (fun y=>⟨y.1,y.2.1,y.2.2.1,y.2.2.2.1⟩) underlying38 rfl (by kernel_rfl) (AX (by kernel_rfl) (by decide) (K8 n) (AX (by kernel_rfl) (by decide) hk34 (AX (by kernel_rfl) (by decide) (fG n) (AX (by kernel_rfl) (by decide) (fF n) (D1))))) (fun _=>rfl)
theorem pL (fuel:Nat):DA prog 38 9 AF fuel:=Nat.strongRecOn fuel mS
theorem pM:∀ fuel,DA prog 40 14 G2 fuel
 | 0=>B4
 | n+1=>DB (L:=[(33,0),(38,5)]) (m:=14) (fun y=>⟨y.1,y.2.1⟩) underlying40 rfl (by kernel_rfl) (AX (by kernel_rfl) (by decide) (fF n) (AX (by kernel_rfl) (by decide) (pL n) (D1))) (fun _=>rfl)
theorem pN:∀ fuel,DA prog 41 1 (eL 1 (eL 1 eI)) fuel
 | 0=>B4
 | n+1=>GD underlying41 (by kernel_rfl) (by decide) (of_decide_eq_true (by kernel_rfl)) (Uj n)
theorem pO:∀ fuel,DA prog 43 3 IR fuel
 | 0=>B4
 | n+1=>DB (L:=[(29,0),(41,2)]) (m:=3) (fun y=>⟨y.1,y.2.1⟩) underlying43 rfl (by kernel_rfl) (AX (by kernel_rfl) (by decide) (fE n) (AX (by kernel_rfl) (by decide) (pN n) (D1))) (fun _=>rfl)
theorem pP:∀ fuel,DA prog 45 3 AO fuel
 | 0=>B4
 | n+1=>DB (L:=[(36,0),(26,2)]) (m:=3) (fun y=>⟨y.1,y.2.1⟩) underlying45 rfl (by kernel_rfl) (AX (by kernel_rfl) (by decide) (fG n) (AX (by kernel_rfl) (by decide) (Uj n) (D1))) (fun _=>rfl)
theorem pQ:∀ fuel,DA prog 47 7 I9 fuel
 | 0=>B4
 | n+1=>DB (L:=[(43,0),(45,3),(4,6)]) (m:=7) (fun y=>⟨y.1,y.2.1,y.2.2.1⟩) underlying47 rfl (by kernel_rfl) (AX (by kernel_rfl) (by decide) (pO n) (AX (by kernel_rfl) (by decide) (pP n) (AX (by kernel_rfl) (by decide) (nS n) (D1)))) (fun _=>rfl)
end Go.Sf.Sc
