/- What is read of the arguments of the law. -/
import Derived.Test.YtlbmpkmkmkgniaaGreatDoorTypes
import Derived.Test.YtlbmpkmkmkgniaaGreatDoorSfClaim
import Derived.KernelRfl
set_option linter.all false
set_option maxRecDepth 100000
namespace Go.Sf.Sc
open Go Go.Sf Go.Proofs.Tryz
theorem cc:∀ fuel,DL prog 9 1 eS fuel
 | 0=>B4
 | _+1=>ZR underlying9
theorem Lv:∀ fuel,DL prog 3 1 eI fuel
 | 0=>B4
 | _+1=>ZQ underlying3
theorem pT:∀ fuel,DL prog 4 1 eB fuel
 | 0=>B4
 | _+1=>X2 underlying4
theorem rd:∀ fuel,DL prog 82 1 (eL 1 eS) fuel
 | 0=>B4
 | n+1=>GQ underlying82 (by kernel_rfl) (by decide) (of_decide_eq_true (by kernel_rfl)) (cc n)
theorem oM:∀ fuel,DL prog 116 4 IB fuel
 | 0=>B4
 | n+1=>DM (L:=[(9,0),(3,1),(3,2),(82,3)]) (m:=4) (fun y=>⟨y.1,y.2.1,y.2.2.1,y.2.2.2.1⟩) underlying116 rfl (by kernel_rfl) (AY (by kernel_rfl) (by decide) (cc n) (AY (by kernel_rfl) (by decide) (Lv n) (AY (by kernel_rfl) (by decide) (Lv n) (AY (by kernel_rfl) (by decide) (rd n) (D6))))) (fun _=>rfl)
theorem oN:∀ fuel,DL prog 117 1 (eL 4 IB) fuel
 | 0=>B4
 | n+1=>GQ underlying117 (by kernel_rfl) (by decide) (of_decide_eq_true (by kernel_rfl)) (oM n)
theorem oO:∀ fuel,DL prog 119 4 FV fuel
 | 0=>B4
 | n+1=>DM (L:=[(9,0),(3,1),(4,2),(117,3)]) (m:=4) (fun y=>⟨y.1,y.2.1,y.2.2.1,y.2.2.2.1⟩) underlying119 rfl (by kernel_rfl) (AY (by kernel_rfl) (by decide) (cc n) (AY (by kernel_rfl) (by decide) (Lv n) (AY (by kernel_rfl) (by decide) (pT n) (AY (by kernel_rfl) (by decide) (oN n) (D6))))) (fun _=>rfl)
theorem rR:∀ fuel,DL prog 22 1 (eL 4 FV) fuel
 | 0=>B4
 | n+1=>GQ underlying22 (by kernel_rfl) (by decide) (of_decide_eq_true (by kernel_rfl)) (oO n)
theorem oP:∀ fuel,DL prog 121 7 GH fuel
 | 0=>B4
 | n+1=>DM (L:=[(9,0),(3,1),(3,2),(3,3),(3,4),(3,5),(3,6)]) (m:=7) (fun y=>⟨y.1,y.2.1,y.2.2.1,y.2.2.2.1,y.2.2.2.2.1,y.2.2.2.2.2.1,y.2.2.2.2.2.2.1⟩) underlying121 rfl (by kernel_rfl) (AY (by kernel_rfl) (by decide) (cc n) (AY (by kernel_rfl) (by decide) (Lv n) (AY (by kernel_rfl) (by decide) (Lv n) (AY (by kernel_rfl) (by decide) (Lv n) (AY (by kernel_rfl) (by decide) (Lv n) (AY (by kernel_rfl) (by decide) (Lv n) (AY (by kernel_rfl) (by decide) (Lv n) (D6)))))))) (fun _=>rfl)
theorem rS:∀ fuel,DL prog 23 1 (eL 7 GH) fuel
 | 0=>B4
 | n+1=>GQ underlying23 (by kernel_rfl) (by decide) (of_decide_eq_true (by kernel_rfl)) (oP n)
theorem rT:∀ fuel,DL prog 25 2 At fuel
 | 0=>B4
 | n+1=>DM (L:=[(22,0),(23,1)]) (m:=2) (fun y=>⟨y.1,y.2.1⟩) underlying25 rfl (by kernel_rfl) (AY (by kernel_rfl) (by decide) (rR n) (AY (by kernel_rfl) (by decide) (rS n) (D6))) (fun _=>rfl)
theorem Vi:∀ fuel,DL prog 26 1 (eL 1 eI) fuel
 | 0=>B4
 | n+1=>GQ underlying26 (by kernel_rfl) (by decide) (of_decide_eq_true (by kernel_rfl)) (Lv n)
theorem oQ:∀ fuel,DL prog 123 3 D5 fuel
 | 0=>B4
 | n+1=>DM (L:=[(3,0),(3,1),(3,2)]) (m:=3) (fun y=>⟨y.1,y.2.1,y.2.2.1⟩) underlying123 rfl (by kernel_rfl) (AY (by kernel_rfl) (by decide) (Lv n) (AY (by kernel_rfl) (by decide) (Lv n) (AY (by kernel_rfl) (by decide) (Lv n) (D6)))) (fun _=>rfl)
theorem rU:∀ fuel,DL prog 27 1 (eL 3 D5) fuel
 | 0=>B4
 | n+1=>GQ underlying27 (by kernel_rfl) (by decide) (of_decide_eq_true (by kernel_rfl)) (oQ n)
theorem g7:∀ fuel,DL prog 29 2 C2 fuel
 | 0=>B4
 | n+1=>DM (L:=[(26,0),(27,1)]) (m:=2) (fun y=>⟨y.1,y.2.1⟩) underlying29 rfl (by kernel_rfl) (AY (by kernel_rfl) (by decide) (Vi n) (AY (by kernel_rfl) (by decide) (rU n) (D6))) (fun _=>rfl)
theorem X0:∀ fuel,DL prog 210 2 RD fuel
 | 0=>B4
 | n+1=>DM (L:=[(3,0),(3,1)]) (m:=2) (fun y=>⟨y.1,y.2.1⟩) underlying210 rfl (by kernel_rfl) (AY (by kernel_rfl) (by decide) (Lv n) (AY (by kernel_rfl) (by decide) (Lv n) (D6))) (fun _=>rfl)
theorem oR:∀ fuel,DL prog 212 4 LS fuel
 | 0=>B4
 | n+1=>DM (L:=[(3,0),(3,1),(210,2)]) (m:=4) (fun y=>⟨y.1,y.2.1,y.2.2.1⟩) underlying212 rfl (by kernel_rfl) (AY (by kernel_rfl) (by decide) (Lv n) (AY (by kernel_rfl) (by decide) (Lv n) (AY (by kernel_rfl) (by decide) (X0 n) (D6)))) (fun _=>rfl)
theorem rV:∀ fuel,DL prog 30 1 (eL 4 LS) fuel
 | 0=>B4
 | n+1=>GQ underlying30 (by kernel_rfl) (by decide) (of_decide_eq_true (by kernel_rfl)) (oR n)
theorem oS:∀ fuel,DL prog 256 5 L9 fuel
 | 0=>B4
 | n+1=>DM (L:=[(3,0),(210,1),(210,3)]) (m:=5) (fun y=>⟨y.1,y.2.1,y.2.2.1⟩) underlying256 rfl (by kernel_rfl) (AY (by kernel_rfl) (by decide) (Lv n) (AY (by kernel_rfl) (by decide) (X0 n) (AY (by kernel_rfl) (by decide) (X0 n) (D6)))) (fun _=>rfl)
theorem rW:∀ fuel,DL prog 31 1 (eL 5 L9) fuel
 | 0=>B4
 | n+1=>GQ underlying31 (by kernel_rfl) (by decide) (of_decide_eq_true (by kernel_rfl)) (oS n)
theorem g8:∀ fuel,DL prog 33 5 B2 fuel
 | 0=>B4
 | n+1=>DM (L:=[(29,0),(30,2),(3,3),(31,4)]) (m:=5) (fun y=>⟨y.1,y.2.1,y.2.2.1,y.2.2.2.1⟩) underlying33 rfl (by kernel_rfl) (AY (by kernel_rfl) (by decide) (g7 n) (AY (by kernel_rfl) (by decide) (rV n) (AY (by kernel_rfl) (by decide) (Lv n) (AY (by kernel_rfl) (by decide) (rW n) (D6))))) (fun _=>rfl)
theorem g9:∀ fuel,DL prog 36 2 CD fuel
 | 0=>B4
 | n+1=>DM (L:=[(26,0),(26,1)]) (m:=2) (fun y=>⟨y.1,y.2.1⟩) underlying36 rfl (by kernel_rfl) (AY (by kernel_rfl) (by decide) (Vi n) (AY (by kernel_rfl) (by decide) (Vi n) (D6))) (fun _=>rfl)
theorem oT (n:Nat) (b:∀ k,k<n->DL prog 38 9 AF k):DL prog 38 9 AF n:=by
 cases n with
 | zero=>exact B4
 | succ n=>
  have a:DL prog 34 1 HL n:=by
   cases n with
   | zero=>exact B4
   | succ m=>
    have:=GQ underlying34 (n:=9) (by kernel_rfl) (by decide) (of_decide_eq_true (by kernel_rfl)) (b m (by omega));have c:HL=(fun l=>TV.list 9 (l.map AF)):=funext KN;rw [c]; exact this
  exact DM (L:=[(3,0),(34,1),(36,2),(33,4)]) (m:=9) (fun y=>⟨y.1,y.2.1,y.2.2.1,y.2.2.2.1⟩) underlying38 rfl (by kernel_rfl) (AY (by kernel_rfl) (by decide) (Lv n) (AY (by kernel_rfl) (by decide) a (AY (by kernel_rfl) (by decide) (g9 n) (AY (by kernel_rfl) (by decide) (g8 n) (D6))))) (fun _=>rfl)
theorem rX (fuel:Nat):DL prog 38 9 AF fuel:=Nat.strongRecOn fuel oT
theorem rY:∀ fuel,DL prog 40 14 HM fuel
 | 0=>B4
 | n+1=>DM (L:=[(33,0),(38,5)]) (m:=14) (fun y=>⟨y.1,y.2.1⟩) underlying40 rfl (by kernel_rfl) (AY (by kernel_rfl) (by decide) (g8 n) (AY (by kernel_rfl) (by decide) (rX n) (D6))) (fun _=>rfl)
theorem rZ:∀ fuel,DL prog 41 1 (eL 1 (eL 1 eI)) fuel
 | 0=>B4
 | n+1=>GQ underlying41 (by kernel_rfl) (by decide) (of_decide_eq_true (by kernel_rfl)) (Vi n)
theorem ra:∀ fuel,DL prog 43 3 Iu fuel
 | 0=>B4
 | n+1=>DM (L:=[(29,0),(41,2)]) (m:=3) (fun y=>⟨y.1,y.2.1⟩) underlying43 rfl (by kernel_rfl) (AY (by kernel_rfl) (by decide) (g7 n) (AY (by kernel_rfl) (by decide) (rZ n) (D6))) (fun _=>rfl)
theorem rb:∀ fuel,DL prog 45 3 AN fuel
 | 0=>B4
 | n+1=>DM (L:=[(36,0),(26,2)]) (m:=3) (fun y=>⟨y.1,y.2.1⟩) underlying45 rfl (by kernel_rfl) (AY (by kernel_rfl) (by decide) (g9 n) (AY (by kernel_rfl) (by decide) (Vi n) (D6))) (fun _=>rfl)
theorem rc:∀ fuel,DL prog 47 7 KY fuel
 | 0=>B4
 | n+1=>DM (L:=[(43,0),(45,3),(4,6)]) (m:=7) (fun y=>⟨y.1,y.2.1,y.2.2.1⟩) underlying47 rfl (by kernel_rfl) (AY (by kernel_rfl) (by decide) (ra n) (AY (by kernel_rfl) (by decide) (rb n) (AY (by kernel_rfl) (by decide) (pT n) (D6)))) (fun _=>rfl)
end Go.Sf.Sc
