/- What is read of the arguments of the law. -/
import Derived.Test.YtlbmpkmkmkgniaaGreatDoorTypes
import Derived.Test.YtlbmpkmkmkgniaaGreatDoorSfClaim
import Derived.KernelRfl
set_option linter.all false
set_option maxRecDepth 100000
namespace Go.Sf.Sc
open Go Go.Sf Go.Proofs.Tryz
theorem eQ:∀ fuel,DQ prog 9 1 eS fuel
 | 0=>CH
 | _+1=>a8 underlying9
theorem Ma:∀ fuel,DQ prog 3 1 eI fuel
 | 0=>CH
 | _+1=>ay underlying3
theorem rV:∀ fuel,DQ prog 4 1 eB fuel
 | 0=>CH
 | _+1=>ZV underlying4
theorem t7:∀ fuel,DQ prog 82 1 (eL 1 eS) fuel
 | 0=>CH
 | n+1=>HI underlying82 (by kernel_rfl) (by decide) (of_decide_eq_true (by kernel_rfl)) (eQ n)
theorem qP:∀ fuel,DQ prog 116 4 If fuel
 | 0=>CH
 | n+1=>DR (L:=[(9,0),(3,1),(3,2),(82,3)]) (m:=4) (fun y=>⟨y.1,y.2.1,y.2.2.1,y.2.2.2.1⟩) underlying116 rfl (by kernel_rfl) (A0 (by kernel_rfl) (by decide) (eQ n) (A0 (by kernel_rfl) (by decide) (Ma n) (A0 (by kernel_rfl) (by decide) (Ma n) (A0 (by kernel_rfl) (by decide) (t7 n) (EK))))) (fun _=>rfl)
theorem qQ:∀ fuel,DQ prog 117 1 (eL 4 If) fuel
 | 0=>CH
 | n+1=>HI underlying117 (by kernel_rfl) (by decide) (of_decide_eq_true (by kernel_rfl)) (qP n)
theorem qR:∀ fuel,DQ prog 119 4 F9 fuel
 | 0=>CH
 | n+1=>DR (L:=[(9,0),(3,1),(4,2),(117,3)]) (m:=4) (fun y=>⟨y.1,y.2.1,y.2.2.1,y.2.2.2.1⟩) underlying119 rfl (by kernel_rfl) (A0 (by kernel_rfl) (by decide) (eQ n) (A0 (by kernel_rfl) (by decide) (Ma n) (A0 (by kernel_rfl) (by decide) (rV n) (A0 (by kernel_rfl) (by decide) (qQ n) (EK))))) (fun _=>rfl)
theorem tf:∀ fuel,DQ prog 22 1 (eL 4 F9) fuel
 | 0=>CH
 | n+1=>HI underlying22 (by kernel_rfl) (by decide) (of_decide_eq_true (by kernel_rfl)) (qR n)
theorem qS:∀ fuel,DQ prog 121 7 G5 fuel
 | 0=>CH
 | n+1=>DR (L:=[(9,0),(3,1),(3,2),(3,3),(3,4),(3,5),(3,6)]) (m:=7) (fun y=>⟨y.1,y.2.1,y.2.2.1,y.2.2.2.1,y.2.2.2.2.1,y.2.2.2.2.2.1,y.2.2.2.2.2.2.1⟩) underlying121 rfl (by kernel_rfl) (A0 (by kernel_rfl) (by decide) (eQ n) (A0 (by kernel_rfl) (by decide) (Ma n) (A0 (by kernel_rfl) (by decide) (Ma n) (A0 (by kernel_rfl) (by decide) (Ma n) (A0 (by kernel_rfl) (by decide) (Ma n) (A0 (by kernel_rfl) (by decide) (Ma n) (A0 (by kernel_rfl) (by decide) (Ma n) (EK)))))))) (fun _=>rfl)
theorem th:∀ fuel,DQ prog 23 1 (eL 7 G5) fuel
 | 0=>CH
 | n+1=>HI underlying23 (by kernel_rfl) (by decide) (of_decide_eq_true (by kernel_rfl)) (qS n)
theorem ti:∀ fuel,DQ prog 25 2 AV fuel
 | 0=>CH
 | n+1=>DR (L:=[(22,0),(23,1)]) (m:=2) (fun y=>⟨y.1,y.2.1⟩) underlying25 rfl (by kernel_rfl) (A0 (by kernel_rfl) (by decide) (tf n) (A0 (by kernel_rfl) (by decide) (th n) (EK))) (fun _=>rfl)
theorem W5:∀ fuel,DQ prog 26 1 (eL 1 eI) fuel
 | 0=>CH
 | n+1=>HI underlying26 (by kernel_rfl) (by decide) (of_decide_eq_true (by kernel_rfl)) (Ma n)
theorem qT:∀ fuel,DQ prog 123 3 EJ fuel
 | 0=>CH
 | n+1=>DR (L:=[(3,0),(3,1),(3,2)]) (m:=3) (fun y=>⟨y.1,y.2.1,y.2.2.1⟩) underlying123 rfl (by kernel_rfl) (A0 (by kernel_rfl) (by decide) (Ma n) (A0 (by kernel_rfl) (by decide) (Ma n) (A0 (by kernel_rfl) (by decide) (Ma n) (EK)))) (fun _=>rfl)
theorem tj:∀ fuel,DQ prog 27 1 (eL 3 EJ) fuel
 | 0=>CH
 | n+1=>HI underlying27 (by kernel_rfl) (by decide) (of_decide_eq_true (by kernel_rfl)) (qT n)
theorem ja:∀ fuel,DQ prog 29 2 C0 fuel
 | 0=>CH
 | n+1=>DR (L:=[(26,0),(27,1)]) (m:=2) (fun y=>⟨y.1,y.2.1⟩) underlying29 rfl (by kernel_rfl) (A0 (by kernel_rfl) (by decide) (W5 n) (A0 (by kernel_rfl) (by decide) (tj n) (EK))) (fun _=>rfl)
theorem ZU:∀ fuel,DQ prog 210 2 OV fuel
 | 0=>CH
 | n+1=>DR (L:=[(3,0),(3,1)]) (m:=2) (fun y=>⟨y.1,y.2.1⟩) underlying210 rfl (by kernel_rfl) (A0 (by kernel_rfl) (by decide) (Ma n) (A0 (by kernel_rfl) (by decide) (Ma n) (EK))) (fun _=>rfl)
theorem qU:∀ fuel,DQ prog 212 4 MD fuel
 | 0=>CH
 | n+1=>DR (L:=[(3,0),(3,1),(210,2)]) (m:=4) (fun y=>⟨y.1,y.2.1,y.2.2.1⟩) underlying212 rfl (by kernel_rfl) (A0 (by kernel_rfl) (by decide) (Ma n) (A0 (by kernel_rfl) (by decide) (Ma n) (A0 (by kernel_rfl) (by decide) (ZU n) (EK)))) (fun _=>rfl)
theorem tm:∀ fuel,DQ prog 30 1 (eL 4 MD) fuel
 | 0=>CH
 | n+1=>HI underlying30 (by kernel_rfl) (by decide) (of_decide_eq_true (by kernel_rfl)) (qU n)
theorem qV:∀ fuel,DQ prog 256 5 ME fuel
 | 0=>CH
 | n+1=>DR (L:=[(3,0),(210,1),(210,3)]) (m:=5) (fun y=>⟨y.1,y.2.1,y.2.2.1⟩) underlying256 rfl (by kernel_rfl) (A0 (by kernel_rfl) (by decide) (Ma n) (A0 (by kernel_rfl) (by decide) (ZU n) (A0 (by kernel_rfl) (by decide) (ZU n) (EK)))) (fun _=>rfl)
theorem tq:∀ fuel,DQ prog 31 1 (eL 5 ME) fuel
 | 0=>CH
 | n+1=>HI underlying31 (by kernel_rfl) (by decide) (of_decide_eq_true (by kernel_rfl)) (qV n)
theorem jc:∀ fuel,DQ prog 33 5 BT fuel
 | 0=>CH
 | n+1=>DR (L:=[(29,0),(30,2),(3,3),(31,4)]) (m:=5) (fun y=>⟨y.1,y.2.1,y.2.2.1,y.2.2.2.1⟩) underlying33 rfl (by kernel_rfl) (A0 (by kernel_rfl) (by decide) (ja n) (A0 (by kernel_rfl) (by decide) (tm n) (A0 (by kernel_rfl) (by decide) (Ma n) (A0 (by kernel_rfl) (by decide) (tq n) (EK))))) (fun _=>rfl)
theorem je:∀ fuel,DQ prog 36 2 CC fuel
 | 0=>CH
 | n+1=>DR (L:=[(26,0),(26,1)]) (m:=2) (fun y=>⟨y.1,y.2.1⟩) underlying36 rfl (by kernel_rfl) (A0 (by kernel_rfl) (by decide) (W5 n) (A0 (by kernel_rfl) (by decide) (W5 n) (EK))) (fun _=>rfl)
theorem qW (n:Nat) (b:∀ k,k<n->DQ prog 38 9 AE k):DQ prog 38 9 AE n:=by
 cases n with
 | zero=>exact CH
 | succ n=>
  have a:DQ prog 34 1 H4 n:=by
   cases n with
   | zero=>exact CH
   | succ m=>
    have:=HI underlying34 (n:=9) (by kernel_rfl) (by decide) (of_decide_eq_true (by kernel_rfl)) (b m (by omega));have c:H4=(fun l=>TV.list 9 (l.map AE)):=funext K0;rw [c]; exact this
  exact DR (L:=[(3,0),(34,1),(36,2),(33,4)]) (m:=9) (fun y=>⟨y.1,y.2.1,y.2.2.1,y.2.2.2.1⟩) underlying38 rfl (by kernel_rfl) (A0 (by kernel_rfl) (by decide) (Ma n) (A0 (by kernel_rfl) (by decide) a (A0 (by kernel_rfl) (by decide) (je n) (A0 (by kernel_rfl) (by decide) (jc n) (EK))))) (fun _=>rfl)
theorem tr (fuel:Nat):DQ prog 38 9 AE fuel:=Nat.strongRecOn fuel qW
theorem tu:∀ fuel,DQ prog 40 14 H5 fuel
 | 0=>CH
 | n+1=>DR (L:=[(33,0),(38,5)]) (m:=14) (fun y=>⟨y.1,y.2.1⟩) underlying40 rfl (by kernel_rfl) (A0 (by kernel_rfl) (by decide) (jc n) (A0 (by kernel_rfl) (by decide) (tr n) (EK))) (fun _=>rfl)
theorem tw:∀ fuel,DQ prog 41 1 (eL 1 (eL 1 eI)) fuel
 | 0=>CH
 | n+1=>HI underlying41 (by kernel_rfl) (by decide) (of_decide_eq_true (by kernel_rfl)) (W5 n)
theorem tz:∀ fuel,DQ prog 43 3 ER fuel
 | 0=>CH
 | n+1=>DR (L:=[(29,0),(41,2)]) (m:=3) (fun y=>⟨y.1,y.2.1⟩) underlying43 rfl (by kernel_rfl) (A0 (by kernel_rfl) (by decide) (ja n) (A0 (by kernel_rfl) (by decide) (tw n) (EK))) (fun _=>rfl)
theorem t1:∀ fuel,DQ prog 45 3 AO fuel
 | 0=>CH
 | n+1=>DR (L:=[(36,0),(26,2)]) (m:=3) (fun y=>⟨y.1,y.2.1⟩) underlying45 rfl (by kernel_rfl) (A0 (by kernel_rfl) (by decide) (je n) (A0 (by kernel_rfl) (by decide) (W5 n) (EK))) (fun _=>rfl)
theorem t6:∀ fuel,DQ prog 47 7 LA fuel
 | 0=>CH
 | n+1=>DR (L:=[(43,0),(45,3),(4,6)]) (m:=7) (fun y=>⟨y.1,y.2.1,y.2.2.1⟩) underlying47 rfl (by kernel_rfl) (A0 (by kernel_rfl) (by decide) (tz n) (A0 (by kernel_rfl) (by decide) (t1 n) (A0 (by kernel_rfl) (by decide) (rV n) (EK)))) (fun _=>rfl)
end Go.Sf.Sc
