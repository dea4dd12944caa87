/- What is read of the arguments of the law. -/
import Derived.Test.YtlbmpkmkmkgniaaGreatDoorTypes
import Derived.Test.YtlbmpkmkmkgniaaGreatDoorSfClaim
import Derived.KernelRfl
set_option linter.all false
set_option maxRecDepth 100000
namespace Go.Sf.Sc
open Go Go.Sf Go.Proofs.Tryz
theorem eP:∀ fuel,DQ prog 9 1 eS fuel
 | 0=>CH
 | _+1=>ay underlying9
theorem MZ:∀ fuel,DQ prog 3 1 eI fuel
 | 0=>CH
 | _+1=>ax underlying3
theorem rU:∀ fuel,DQ prog 4 1 eB fuel
 | 0=>CH
 | _+1=>ZU underlying4
theorem t6:∀ fuel,DQ prog 82 1 (eL 1 eS) fuel
 | 0=>CH
 | n+1=>HI underlying82 (by kernel_rfl) (by decide) (of_decide_eq_true (by kernel_rfl)) (eP n)
theorem qO:∀ fuel,DQ prog 116 4 If fuel
 | 0=>CH
 | n+1=>DR (L:=[(9,0),(3,1),(3,2),(82,3)]) (m:=4) (fun y=>⟨y.1,y.2.1,y.2.2.1,y.2.2.2.1⟩) underlying116 rfl (by kernel_rfl) (A0 (by kernel_rfl) (by decide) (eP n) (A0 (by kernel_rfl) (by decide) (MZ n) (A0 (by kernel_rfl) (by decide) (MZ n) (A0 (by kernel_rfl) (by decide) (t6 n) (EK))))) (fun _=>rfl)
theorem qP:∀ fuel,DQ prog 117 1 (eL 4 If) fuel
 | 0=>CH
 | n+1=>HI underlying117 (by kernel_rfl) (by decide) (of_decide_eq_true (by kernel_rfl)) (qO n)
theorem qQ:∀ fuel,DQ prog 119 4 F9 fuel
 | 0=>CH
 | n+1=>DR (L:=[(9,0),(3,1),(4,2),(117,3)]) (m:=4) (fun y=>⟨y.1,y.2.1,y.2.2.1,y.2.2.2.1⟩) underlying119 rfl (by kernel_rfl) (A0 (by kernel_rfl) (by decide) (eP n) (A0 (by kernel_rfl) (by decide) (MZ n) (A0 (by kernel_rfl) (by decide) (rU n) (A0 (by kernel_rfl) (by decide) (qP n) (EK))))) (fun _=>rfl)
theorem te:∀ fuel,DQ prog 22 1 (eL 4 F9) fuel
 | 0=>CH
 | n+1=>HI underlying22 (by kernel_rfl) (by decide) (of_decide_eq_true (by kernel_rfl)) (qQ n)
theorem qR:∀ fuel,DQ prog 121 7 G5 fuel
 | 0=>CH
 | n+1=>DR (L:=[(9,0),(3,1),(3,2),(3,3),(3,4),(3,5),(3,6)]) (m:=7) (fun y=>⟨y.1,y.2.1,y.2.2.1,y.2.2.2.1,y.2.2.2.2.1,y.2.2.2.2.2.1,y.2.2.2.2.2.2.1⟩) underlying121 rfl (by kernel_rfl) (A0 (by kernel_rfl) (by decide) (eP n) (A0 (by kernel_rfl) (by decide) (MZ n) (A0 (by kernel_rfl) (by decide) (MZ n) (A0 (by kernel_rfl) (by decide) (MZ n) (A0 (by kernel_rfl) (by decide) (MZ n) (A0 (by kernel_rfl) (by decide) (MZ n) (A0 (by kernel_rfl) (by decide) (MZ n) (EK)))))))) (fun _=>rfl)
theorem tf:∀ fuel,DQ prog 23 1 (eL 7 G5) fuel
 | 0=>CH
 | n+1=>HI underlying23 (by kernel_rfl) (by decide) (of_decide_eq_true (by kernel_rfl)) (qR n)
theorem th:∀ fuel,DQ prog 25 2 AV fuel
 | 0=>CH
 | n+1=>DR (L:=[(22,0),(23,1)]) (m:=2) (fun y=>⟨y.1,y.2.1⟩) underlying25 rfl (by kernel_rfl) (A0 (by kernel_rfl) (by decide) (te n) (A0 (by kernel_rfl) (by decide) (tf n) (EK))) (fun _=>rfl)
theorem W4:∀ fuel,DQ prog 26 1 (eL 1 eI) fuel
 | 0=>CH
 | n+1=>HI underlying26 (by kernel_rfl) (by decide) (of_decide_eq_true (by kernel_rfl)) (MZ n)
theorem qS:∀ fuel,DQ prog 123 3 EJ fuel
 | 0=>CH
 | n+1=>DR (L:=[(3,0),(3,1),(3,2)]) (m:=3) (fun y=>⟨y.1,y.2.1,y.2.2.1⟩) underlying123 rfl (by kernel_rfl) (A0 (by kernel_rfl) (by decide) (MZ n) (A0 (by kernel_rfl) (by decide) (MZ n) (A0 (by kernel_rfl) (by decide) (MZ n) (EK)))) (fun _=>rfl)
theorem ti:∀ fuel,DQ prog 27 1 (eL 3 EJ) fuel
 | 0=>CH
 | n+1=>HI underlying27 (by kernel_rfl) (by decide) (of_decide_eq_true (by kernel_rfl)) (qS n)
theorem jZ:∀ fuel,DQ prog 29 2 C0 fuel
 | 0=>CH
 | n+1=>DR (L:=[(26,0),(27,1)]) (m:=2) (fun y=>⟨y.1,y.2.1⟩) underlying29 rfl (by kernel_rfl) (A0 (by kernel_rfl) (by decide) (W4 n) (A0 (by kernel_rfl) (by decide) (ti n) (EK))) (fun _=>rfl)
theorem ZT:∀ fuel,DQ prog 210 2 OU fuel
 | 0=>CH
 | n+1=>DR (L:=[(3,0),(3,1)]) (m:=2) (fun y=>⟨y.1,y.2.1⟩) underlying210 rfl (by kernel_rfl) (A0 (by kernel_rfl) (by decide) (MZ n) (A0 (by kernel_rfl) (by decide) (MZ n) (EK))) (fun _=>rfl)
theorem qT:∀ fuel,DQ prog 212 4 MC fuel
 | 0=>CH
 | n+1=>DR (L:=[(3,0),(3,1),(210,2)]) (m:=4) (fun y=>⟨y.1,y.2.1,y.2.2.1⟩) underlying212 rfl (by kernel_rfl) (A0 (by kernel_rfl) (by decide) (MZ n) (A0 (by kernel_rfl) (by decide) (MZ n) (A0 (by kernel_rfl) (by decide) (ZT n) (EK)))) (fun _=>rfl)
theorem tj:∀ fuel,DQ prog 30 1 (eL 4 MC) fuel
 | 0=>CH
 | n+1=>HI underlying30 (by kernel_rfl) (by decide) (of_decide_eq_true (by kernel_rfl)) (qT n)
theorem qU:∀ fuel,DQ prog 256 5 MD fuel
 | 0=>CH
 | n+1=>DR (L:=[(3,0),(210,1),(210,3)]) (m:=5) (fun y=>⟨y.1,y.2.1,y.2.2.1⟩) underlying256 rfl (by kernel_rfl) (A0 (by kernel_rfl) (by decide) (MZ n) (A0 (by kernel_rfl) (by decide) (ZT n) (A0 (by kernel_rfl) (by decide) (ZT n) (EK)))) (fun _=>rfl)
theorem tm:∀ fuel,DQ prog 31 1 (eL 5 MD) fuel
 | 0=>CH
 | n+1=>HI underlying31 (by kernel_rfl) (by decide) (of_decide_eq_true (by kernel_rfl)) (qU n)
theorem ja:∀ fuel,DQ prog 33 5 BT fuel
 | 0=>CH
 | n+1=>DR (L:=[(29,0),(30,2),(3,3),(31,4)]) (m:=5) (fun y=>⟨y.1,y.2.1,y.2.2.1,y.2.2.2.1⟩) underlying33 rfl (by kernel_rfl) (A0 (by kernel_rfl) (by decide) (jZ n) (A0 (by kernel_rfl) (by decide) (tj n) (A0 (by kernel_rfl) (by decide) (MZ n) (A0 (by kernel_rfl) (by decide) (tm n) (EK))))) (fun _=>rfl)
theorem jc:∀ fuel,DQ prog 36 2 CC fuel
 | 0=>CH
 | n+1=>DR (L:=[(26,0),(26,1)]) (m:=2) (fun y=>⟨y.1,y.2.1⟩) underlying36 rfl (by kernel_rfl) (A0 (by kernel_rfl) (by decide) (W4 n) (A0 (by kernel_rfl) (by decide) (W4 n) (EK))) (fun _=>rfl)
theorem qV (n:Nat) (b:∀ k,k<n->DQ prog 38 9 AE k):DQ prog 38 9 AE n:=by
 cases n with
 | zero=>exact CH
 | succ n=>
  have a:DQ prog 34 1 H4 n:=by
   cases n with
   | zero=>exact CH
   | succ m=>
    have:=HI underlying34 (n:=9) (by kernel_rfl) (by decide) (of_decide_eq_true (by kernel_rfl)) (b m (by omega));have c:H4=(fun l=>TV.list 9 (l.map AE)):=funext Kz;rw [c]; exact this
  exact DR (L:=[(3,0),(34,1),(36,2),(33,4)]) (m:=9) (fun y=>⟨y.1,y.2.1,y.2.2.1,y.2.2.2.1⟩) underlying38 rfl (by kernel_rfl) (A0 (by kernel_rfl) (by decide) (MZ n) (A0 (by kernel_rfl) (by decide) a (A0 (by kernel_rfl) (by decide) (jc n) (A0 (by kernel_rfl) (by decide) (ja n) (EK))))) (fun _=>rfl)
theorem tq (fuel:Nat):DQ prog 38 9 AE fuel:=Nat.strongRecOn fuel qV
theorem tr:∀ fuel,DQ prog 40 14 H5 fuel
 | 0=>CH
 | n+1=>DR (L:=[(33,0),(38,5)]) (m:=14) (fun y=>⟨y.1,y.2.1⟩) underlying40 rfl (by kernel_rfl) (A0 (by kernel_rfl) (by decide) (ja n) (A0 (by kernel_rfl) (by decide) (tq n) (EK))) (fun _=>rfl)
theorem tu:∀ fuel,DQ prog 41 1 (eL 1 (eL 1 eI)) fuel
 | 0=>CH
 | n+1=>HI underlying41 (by kernel_rfl) (by decide) (of_decide_eq_true (by kernel_rfl)) (W4 n)
theorem tw:∀ fuel,DQ prog 43 3 ER fuel
 | 0=>CH
 | n+1=>DR (L:=[(29,0),(41,2)]) (m:=3) (fun y=>⟨y.1,y.2.1⟩) underlying43 rfl (by kernel_rfl) (A0 (by kernel_rfl) (by decide) (jZ n) (A0 (by kernel_rfl) (by decide) (tu n) (EK))) (fun _=>rfl)
theorem tz:∀ fuel,DQ prog 45 3 AO fuel
 | 0=>CH
 | n+1=>DR (L:=[(36,0),(26,2)]) (m:=3) (fun y=>⟨y.1,y.2.1⟩) underlying45 rfl (by kernel_rfl) (A0 (by kernel_rfl) (by decide) (jc n) (A0 (by kernel_rfl) (by decide) (W4 n) (EK))) (fun _=>rfl)
theorem t1:∀ fuel,DQ prog 47 7 K9 fuel
 | 0=>CH
 | n+1=>DR (L:=[(43,0),(45,3),(4,6)]) (m:=7) (fun y=>⟨y.1,y.2.1,y.2.2.1⟩) underlying47 rfl (by kernel_rfl) (A0 (by kernel_rfl) (by decide) (tw n) (A0 (by kernel_rfl) (by decide) (tz n) (A0 (by kernel_rfl) (by decide) (rU n) (EK)))) (fun _=>rfl)
end Go.Sf.Sc
