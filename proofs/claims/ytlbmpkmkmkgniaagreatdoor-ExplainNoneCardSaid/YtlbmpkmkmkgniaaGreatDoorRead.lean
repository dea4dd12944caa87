/- What is read of the arguments of the law. -/
import Derived.Test.YtlbmpkmkmkgniaaGreatDoorTypes
import Derived.Test.YtlbmpkmkmkgniaaGreatDoorSfClaim
import Derived.KernelRfl
set_option maxRecDepth 100000
namespace Go.Sf.Sc
open Go Go.Sf Go.Proofs.Tryz
theorem av:∀ fuel,DB prog 9 1 eS fuel
 | 0=>B4
 | _+1=>YM underlying9
theorem K6:∀ fuel,DB prog 3 1 eI fuel
 | 0=>B4
 | _+1=>YL underlying3
theorem nO:∀ fuel,DB prog 4 1 eB fuel
 | 0=>B4
 | _+1=>W4 underlying4
theorem pK:∀ fuel,DB prog 82 1 (eL 1 eS) fuel
 | 0=>B4
 | n+1=>GD underlying82 (by kernel_rfl) (by decide) (of_decide_eq_true (by kernel_rfl)) (av n)
theorem mH:∀ fuel,DB prog 116 4 Hk fuel
 | 0=>B4
 | n+1=>DC (L:=[(9,0),(3,1),(3,2),(82,3)]) (m:=4) (fun y=>⟨y.1,y.2.1,y.2.2.1,y.2.2.2.1⟩) underlying116 rfl (by kernel_rfl) (AX (by kernel_rfl) (by decide) (av n) (AX (by kernel_rfl) (by decide) (K6 n) (AX (by kernel_rfl) (by decide) (K6 n) (AX (by kernel_rfl) (by decide) (pK n) (D4))))) (fun _=>rfl)
theorem mI:∀ fuel,DB prog 117 1 (eL 4 Hk) fuel
 | 0=>B4
 | n+1=>GD underlying117 (by kernel_rfl) (by decide) (of_decide_eq_true (by kernel_rfl)) (mH n)
theorem mJ:∀ fuel,DB prog 119 4 HI fuel
 | 0=>B4
 | n+1=>DC (L:=[(9,0),(3,1),(4,2),(117,3)]) (m:=4) (fun y=>⟨y.1,y.2.1,y.2.2.1,y.2.2.2.1⟩) underlying119 rfl (by kernel_rfl) (AX (by kernel_rfl) (by decide) (av n) (AX (by kernel_rfl) (by decide) (K6 n) (AX (by kernel_rfl) (by decide) (nO n) (AX (by kernel_rfl) (by decide) (mI n) (D4))))) (fun _=>rfl)
theorem o7:∀ fuel,DB prog 22 1 (eL 4 HI) fuel
 | 0=>B4
 | n+1=>GD underlying22 (by kernel_rfl) (by decide) (of_decide_eq_true (by kernel_rfl)) (mJ n)
theorem mK:∀ fuel,DB prog 121 7 Hm fuel
 | 0=>B4
 | n+1=>DC (L:=[(9,0),(3,1),(3,2),(3,3),(3,4),(3,5),(3,6)]) (m:=7) (fun y=>⟨y.1,y.2.1,y.2.2.1,y.2.2.2.1,y.2.2.2.2.1,y.2.2.2.2.2.1,y.2.2.2.2.2.2.1⟩) underlying121 rfl (by kernel_rfl) (AX (by kernel_rfl) (by decide) (av n) (AX (by kernel_rfl) (by decide) (K6 n) (AX (by kernel_rfl) (by decide) (K6 n) (AX (by kernel_rfl) (by decide) (K6 n) (AX (by kernel_rfl) (by decide) (K6 n) (AX (by kernel_rfl) (by decide) (K6 n) (AX (by kernel_rfl) (by decide) (K6 n) (D4)))))))) (fun _=>rfl)
theorem o8:∀ fuel,DB prog 23 1 (eL 7 Hm) fuel
 | 0=>B4
 | n+1=>GD underlying23 (by kernel_rfl) (by decide) (of_decide_eq_true (by kernel_rfl)) (mK n)
theorem o9:∀ fuel,DB prog 25 2 At fuel
 | 0=>B4
 | n+1=>DC (L:=[(22,0),(23,1)]) (m:=2) (fun y=>⟨y.1,y.2.1⟩) underlying25 rfl (by kernel_rfl) (AX (by kernel_rfl) (by decide) (o7 n) (AX (by kernel_rfl) (by decide) (o8 n) (D4))) (fun _=>rfl)
theorem Ul:∀ fuel,DB prog 26 1 (eL 1 eI) fuel
 | 0=>B4
 | n+1=>GD underlying26 (by kernel_rfl) (by decide) (of_decide_eq_true (by kernel_rfl)) (K6 n)
theorem mL:∀ fuel,DB prog 123 3 EQ fuel
 | 0=>B4
 | n+1=>DC (L:=[(3,0),(3,1),(3,2)]) (m:=3) (fun y=>⟨y.1,y.2.1,y.2.2.1⟩) underlying123 rfl (by kernel_rfl) (AX (by kernel_rfl) (by decide) (K6 n) (AX (by kernel_rfl) (by decide) (K6 n) (AX (by kernel_rfl) (by decide) (K6 n) (D4)))) (fun _=>rfl)
theorem pA:∀ fuel,DB prog 27 1 (eL 3 EQ) fuel
 | 0=>B4
 | n+1=>GD underlying27 (by kernel_rfl) (by decide) (of_decide_eq_true (by kernel_rfl)) (mL n)
theorem fB:∀ fuel,DB prog 29 2 DN fuel
 | 0=>B4
 | n+1=>DC (L:=[(26,0),(27,1)]) (m:=2) (fun y=>⟨y.1,y.2.1⟩) underlying29 rfl (by kernel_rfl) (AX (by kernel_rfl) (by decide) (Ul n) (AX (by kernel_rfl) (by decide) (pA n) (D4))) (fun _=>rfl)
theorem Wz:∀ fuel,DB prog 210 2 Ps fuel
 | 0=>B4
 | n+1=>DC (L:=[(3,0),(3,1)]) (m:=2) (fun y=>⟨y.1,y.2.1⟩) underlying210 rfl (by kernel_rfl) (AX (by kernel_rfl) (by decide) (K6 n) (AX (by kernel_rfl) (by decide) (K6 n) (D4))) (fun _=>rfl)
theorem mM:∀ fuel,DB prog 212 4 Km fuel
 | 0=>B4
 | n+1=>DC (L:=[(3,0),(3,1),(210,2)]) (m:=4) (fun y=>⟨y.1,y.2.1,y.2.2.1⟩) underlying212 rfl (by kernel_rfl) (AX (by kernel_rfl) (by decide) (K6 n) (AX (by kernel_rfl) (by decide) (K6 n) (AX (by kernel_rfl) (by decide) (Wz n) (D4)))) (fun _=>rfl)
theorem pB:∀ fuel,DB prog 30 1 (eL 4 Km) fuel
 | 0=>B4
 | n+1=>GD underlying30 (by kernel_rfl) (by decide) (of_decide_eq_true (by kernel_rfl)) (mM n)
theorem mN:∀ fuel,DB prog 256 5 LM fuel
 | 0=>B4
 | n+1=>DC (L:=[(3,0),(210,1),(210,3)]) (m:=5) (fun y=>⟨y.1,y.2.1,y.2.2.1⟩) underlying256 rfl (by kernel_rfl) (AX (by kernel_rfl) (by decide) (K6 n) (AX (by kernel_rfl) (by decide) (Wz n) (AX (by kernel_rfl) (by decide) (Wz n) (D4)))) (fun _=>rfl)
theorem pC:∀ fuel,DB prog 31 1 (eL 5 LM) fuel
 | 0=>B4
 | n+1=>GD underlying31 (by kernel_rfl) (by decide) (of_decide_eq_true (by kernel_rfl)) (mN n)
theorem fC:∀ fuel,DB prog 33 5 B1 fuel
 | 0=>B4
 | n+1=>DC (L:=[(29,0),(30,2),(3,3),(31,4)]) (m:=5) (fun y=>⟨y.1,y.2.1,y.2.2.1,y.2.2.2.1⟩) underlying33 rfl (by kernel_rfl) (AX (by kernel_rfl) (by decide) (fB n) (AX (by kernel_rfl) (by decide) (pB n) (AX (by kernel_rfl) (by decide) (K6 n) (AX (by kernel_rfl) (by decide) (pC n) (D4))))) (fun _=>rfl)
theorem fD:∀ fuel,DB prog 36 2 C9 fuel
 | 0=>B4
 | n+1=>DC (L:=[(26,0),(26,1)]) (m:=2) (fun y=>⟨y.1,y.2.1⟩) underlying36 rfl (by kernel_rfl) (AX (by kernel_rfl) (by decide) (Ul n) (AX (by kernel_rfl) (by decide) (Ul n) (D4))) (fun _=>rfl)
theorem mO (n:Nat) (ih:∀ k,k<n->DB prog 38 9 AF k):DB prog 38 9 AF n:=by
 cases n with
 | zero=>exact B4
 | succ n=>
  have hk34:DB prog 34 1 G3 n:=by
   cases n with
   | zero=>exact B4
   | succ m=>
    have:=GD underlying34 (n:=9) (by kernel_rfl) (by decide) (of_decide_eq_true (by kernel_rfl)) (ih m (by omega))
    have he:G3=(fun l=>TV.list 9 (l.map AF)):=funext Jl
    rw [he]; exact this
  exact DC (L:=[(3,0),(34,1),(36,2),(33,4)]) (m:=9) (fun y=>⟨y.1,y.2.1,y.2.2.1,y.2.2.2.1⟩) underlying38 rfl (by kernel_rfl) (AX (by kernel_rfl) (by decide) (K6 n) (AX (by kernel_rfl) (by decide) hk34 (AX (by kernel_rfl) (by decide) (fD n) (AX (by kernel_rfl) (by decide) (fC n) (D4))))) (fun _=>rfl)
theorem pE (fuel:Nat):DB prog 38 9 AF fuel:=Nat.strongRecOn fuel mO
theorem pF:∀ fuel,DB prog 40 14 G4 fuel
 | 0=>B4
 | n+1=>DC (L:=[(33,0),(38,5)]) (m:=14) (fun y=>⟨y.1,y.2.1⟩) underlying40 rfl (by kernel_rfl) (AX (by kernel_rfl) (by decide) (fC n) (AX (by kernel_rfl) (by decide) (pE n) (D4))) (fun _=>rfl)
theorem pG:∀ fuel,DB prog 41 1 (eL 1 (eL 1 eI)) fuel
 | 0=>B4
 | n+1=>GD underlying41 (by kernel_rfl) (by decide) (of_decide_eq_true (by kernel_rfl)) (Ul n)
theorem pH:∀ fuel,DB prog 43 3 IP fuel
 | 0=>B4
 | n+1=>DC (L:=[(29,0),(41,2)]) (m:=3) (fun y=>⟨y.1,y.2.1⟩) underlying43 rfl (by kernel_rfl) (AX (by kernel_rfl) (by decide) (fB n) (AX (by kernel_rfl) (by decide) (pG n) (D4))) (fun _=>rfl)
theorem pI:∀ fuel,DB prog 45 3 AO fuel
 | 0=>B4
 | n+1=>DC (L:=[(36,0),(26,2)]) (m:=3) (fun y=>⟨y.1,y.2.1⟩) underlying45 rfl (by kernel_rfl) (AX (by kernel_rfl) (by decide) (fD n) (AX (by kernel_rfl) (by decide) (Ul n) (D4))) (fun _=>rfl)
theorem pJ:∀ fuel,DB prog 47 7 Jv fuel
 | 0=>B4
 | n+1=>DC (L:=[(43,0),(45,3),(4,6)]) (m:=7) (fun y=>⟨y.1,y.2.1,y.2.2.1⟩) underlying47 rfl (by kernel_rfl) (AX (by kernel_rfl) (by decide) (pH n) (AX (by kernel_rfl) (by decide) (pI n) (AX (by kernel_rfl) (by decide) (nO n) (D4)))) (fun _=>rfl)
end Go.Sf.Sc
