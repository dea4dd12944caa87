/- What is read of the arguments of the law. -/
import Derived.Test.YtlbmpkmkmkgniaaGreatDoorTypes
import Derived.Test.YtlbmpkmkmkgniaaGreatDoorSfClaim
import Derived.KernelRfl
set_option linter.all false
set_option maxRecDepth 100000
namespace Go.Sf.Sc
open Go Go.Sf Go.Proofs.Tryz
theorem eX:∀ fuel,DB prog 9 1 eS fuel
 | 0=>B0
 | _+1=>bG underlying9
theorem Lx:∀ fuel,DB prog 3 1 eI fuel
 | 0=>B0
 | _+1=>bF underlying3
theorem rb:∀ fuel,DB prog 4 1 eB fuel
 | 0=>B0
 | _+1=>Za underlying4
theorem uF:∀ fuel,DB prog 82 1 (eL 1 eS) fuel
 | 0=>B0
 | n+1=>GH underlying82 (by kernel_rfl) (by decide) (of_decide_eq_true (by kernel_rfl)) (eX n)
theorem qV:∀ fuel,DB prog 116 4 Ii fuel
 | 0=>B0
 | n+1=>C5 (L:=[(9,0),(3,1),(3,2),(82,3)]) (m:=4) (fun y=>⟨y.1,y.2.1,y.2.2.1,y.2.2.2.1⟩) underlying116 rfl (by kernel_rfl) (AX (by kernel_rfl) (by decide) (eX n) (AX (by kernel_rfl) (by decide) (Lx n) (AX (by kernel_rfl) (by decide) (Lx n) (AX (by kernel_rfl) (by decide) (uF n) (D3))))) (fun _=>rfl)
theorem qW:∀ fuel,DB prog 117 1 (eL 4 Ii) fuel
 | 0=>B0
 | n+1=>GH underlying117 (by kernel_rfl) (by decide) (of_decide_eq_true (by kernel_rfl)) (qV n)
theorem qX:∀ fuel,DB prog 119 4 F5 fuel
 | 0=>B0
 | n+1=>C5 (L:=[(9,0),(3,1),(4,2),(117,3)]) (m:=4) (fun y=>⟨y.1,y.2.1,y.2.2.1,y.2.2.2.1⟩) underlying119 rfl (by kernel_rfl) (AX (by kernel_rfl) (by decide) (eX n) (AX (by kernel_rfl) (by decide) (Lx n) (AX (by kernel_rfl) (by decide) (rb n) (AX (by kernel_rfl) (by decide) (qW n) (D3))))) (fun _=>rfl)
theorem tm:∀ fuel,DB prog 22 1 (eL 4 F5) fuel
 | 0=>B0
 | n+1=>GH underlying22 (by kernel_rfl) (by decide) (of_decide_eq_true (by kernel_rfl)) (qX n)
theorem qY:∀ fuel,DB prog 121 7 G3 fuel
 | 0=>B0
 | n+1=>C5 (L:=[(9,0),(3,1),(3,2),(3,3),(3,4),(3,5),(3,6)]) (m:=7) (fun y=>⟨y.1,y.2.1,y.2.2.1,y.2.2.2.1,y.2.2.2.2.1,y.2.2.2.2.2.1,y.2.2.2.2.2.2.1⟩) underlying121 rfl (by kernel_rfl) (AX (by kernel_rfl) (by decide) (eX n) (AX (by kernel_rfl) (by decide) (Lx n) (AX (by kernel_rfl) (by decide) (Lx n) (AX (by kernel_rfl) (by decide) (Lx n) (AX (by kernel_rfl) (by decide) (Lx n) (AX (by kernel_rfl) (by decide) (Lx n) (AX (by kernel_rfl) (by decide) (Lx n) (D3)))))))) (fun _=>rfl)
theorem tq:∀ fuel,DB prog 23 1 (eL 7 G3) fuel
 | 0=>B0
 | n+1=>GH underlying23 (by kernel_rfl) (by decide) (of_decide_eq_true (by kernel_rfl)) (qY n)
theorem tr:∀ fuel,DB prog 25 2 AV fuel
 | 0=>B0
 | n+1=>C5 (L:=[(22,0),(23,1)]) (m:=2) (fun y=>⟨y.1,y.2.1⟩) underlying25 rfl (by kernel_rfl) (AX (by kernel_rfl) (by decide) (tm n) (AX (by kernel_rfl) (by decide) (tq n) (D3))) (fun _=>rfl)
theorem TO:∀ fuel,DB prog 26 1 (eL 1 eI) fuel
 | 0=>B0
 | n+1=>GH underlying26 (by kernel_rfl) (by decide) (of_decide_eq_true (by kernel_rfl)) (Lx n)
theorem qZ:∀ fuel,DB prog 123 3 EE fuel
 | 0=>B0
 | n+1=>C5 (L:=[(3,0),(3,1),(3,2)]) (m:=3) (fun y=>⟨y.1,y.2.1,y.2.2.1⟩) underlying123 rfl (by kernel_rfl) (AX (by kernel_rfl) (by decide) (Lx n) (AX (by kernel_rfl) (by decide) (Lx n) (AX (by kernel_rfl) (by decide) (Lx n) (D3)))) (fun _=>rfl)
theorem tu:∀ fuel,DB prog 27 1 (eL 3 EE) fuel
 | 0=>B0
 | n+1=>GH underlying27 (by kernel_rfl) (by decide) (of_decide_eq_true (by kernel_rfl)) (qZ n)
theorem jk:∀ fuel,DB prog 29 2 CZ fuel
 | 0=>B0
 | n+1=>C5 (L:=[(26,0),(27,1)]) (m:=2) (fun y=>⟨y.1,y.2.1⟩) underlying29 rfl (by kernel_rfl) (AX (by kernel_rfl) (by decide) (TO n) (AX (by kernel_rfl) (by decide) (tu n) (D3))) (fun _=>rfl)
theorem ZZ:∀ fuel,DB prog 210 2 OW fuel
 | 0=>B0
 | n+1=>C5 (L:=[(3,0),(3,1)]) (m:=2) (fun y=>⟨y.1,y.2.1⟩) underlying210 rfl (by kernel_rfl) (AX (by kernel_rfl) (by decide) (Lx n) (AX (by kernel_rfl) (by decide) (Lx n) (D3))) (fun _=>rfl)
theorem qa:∀ fuel,DB prog 212 4 ME fuel
 | 0=>B0
 | n+1=>C5 (L:=[(3,0),(3,1),(210,2)]) (m:=4) (fun y=>⟨y.1,y.2.1,y.2.2.1⟩) underlying212 rfl (by kernel_rfl) (AX (by kernel_rfl) (by decide) (Lx n) (AX (by kernel_rfl) (by decide) (Lx n) (AX (by kernel_rfl) (by decide) (ZZ n) (D3)))) (fun _=>rfl)
theorem tw:∀ fuel,DB prog 30 1 (eL 4 ME) fuel
 | 0=>B0
 | n+1=>GH underlying30 (by kernel_rfl) (by decide) (of_decide_eq_true (by kernel_rfl)) (qa n)
theorem qc:∀ fuel,DB prog 256 5 MF fuel
 | 0=>B0
 | n+1=>C5 (L:=[(3,0),(210,1),(210,3)]) (m:=5) (fun y=>⟨y.1,y.2.1,y.2.2.1⟩) underlying256 rfl (by kernel_rfl) (AX (by kernel_rfl) (by decide) (Lx n) (AX (by kernel_rfl) (by decide) (ZZ n) (AX (by kernel_rfl) (by decide) (ZZ n) (D3)))) (fun _=>rfl)
theorem tz:∀ fuel,DB prog 31 1 (eL 5 MF) fuel
 | 0=>B0
 | n+1=>GH underlying31 (by kernel_rfl) (by decide) (of_decide_eq_true (by kernel_rfl)) (qc n)
theorem jm:∀ fuel,DB prog 33 5 BQ fuel
 | 0=>B0
 | n+1=>C5 (L:=[(29,0),(30,2),(3,3),(31,4)]) (m:=5) (fun y=>⟨y.1,y.2.1,y.2.2.1,y.2.2.2.1⟩) underlying33 rfl (by kernel_rfl) (AX (by kernel_rfl) (by decide) (jk n) (AX (by kernel_rfl) (by decide) (tw n) (AX (by kernel_rfl) (by decide) (Lx n) (AX (by kernel_rfl) (by decide) (tz n) (D3))))) (fun _=>rfl)
theorem jn:∀ fuel,DB prog 36 2 CA fuel
 | 0=>B0
 | n+1=>C5 (L:=[(26,0),(26,1)]) (m:=2) (fun y=>⟨y.1,y.2.1⟩) underlying36 rfl (by kernel_rfl) (AX (by kernel_rfl) (by decide) (TO n) (AX (by kernel_rfl) (by decide) (TO n) (D3))) (fun _=>rfl)
theorem qe (n:Nat) (b:∀ k,k<n->DB prog 38 9 AE k):DB prog 38 9 AE n:=by
 cases n with
 | zero=>exact B0
 | succ n=>
  have a:DB prog 34 1 H2 n:=by
   cases n with
   | zero=>exact B0
   | succ m=>
    have:=GH underlying34 (n:=9) (by kernel_rfl) (by decide) (of_decide_eq_true (by kernel_rfl)) (b m (by omega));have c:H2=(fun l=>TV.list 9 (l.map AE)):=funext Kz;rw [c]; exact this
  exact C5 (L:=[(3,0),(34,1),(36,2),(33,4)]) (m:=9) (fun y=>⟨y.1,y.2.1,y.2.2.1,y.2.2.2.1⟩) underlying38 rfl (by kernel_rfl) (AX (by kernel_rfl) (by decide) (Lx n) (AX (by kernel_rfl) (by decide) a (AX (by kernel_rfl) (by decide) (jn n) (AX (by kernel_rfl) (by decide) (jm n) (D3))))) (fun _=>rfl)
theorem t1 (fuel:Nat):DB prog 38 9 AE fuel:=Nat.strongRecOn fuel qe
theorem t6:∀ fuel,DB prog 40 14 H3 fuel
 | 0=>B0
 | n+1=>C5 (L:=[(33,0),(38,5)]) (m:=14) (fun y=>⟨y.1,y.2.1⟩) underlying40 rfl (by kernel_rfl) (AX (by kernel_rfl) (by decide) (jm n) (AX (by kernel_rfl) (by decide) (t1 n) (D3))) (fun _=>rfl)
theorem t7:∀ fuel,DB prog 41 1 (eL 1 (eL 1 eI)) fuel
 | 0=>B0
 | n+1=>GH underlying41 (by kernel_rfl) (by decide) (of_decide_eq_true (by kernel_rfl)) (TO n)
theorem t8:∀ fuel,DB prog 43 3 ET fuel
 | 0=>B0
 | n+1=>C5 (L:=[(29,0),(41,2)]) (m:=3) (fun y=>⟨y.1,y.2.1⟩) underlying43 rfl (by kernel_rfl) (AX (by kernel_rfl) (by decide) (jk n) (AX (by kernel_rfl) (by decide) (t7 n) (D3))) (fun _=>rfl)
theorem uA:∀ fuel,DB prog 45 3 AO fuel
 | 0=>B0
 | n+1=>C5 (L:=[(36,0),(26,2)]) (m:=3) (fun y=>⟨y.1,y.2.1⟩) underlying45 rfl (by kernel_rfl) (AX (by kernel_rfl) (by decide) (jn n) (AX (by kernel_rfl) (by decide) (TO n) (D3))) (fun _=>rfl)
theorem uB:∀ fuel,DB prog 47 7 RR fuel
 | 0=>B0
 | n+1=>C5 (L:=[(43,0),(45,3),(4,6)]) (m:=7) (fun y=>⟨y.1,y.2.1,y.2.2.1⟩) underlying47 rfl (by kernel_rfl) (AX (by kernel_rfl) (by decide) (t8 n) (AX (by kernel_rfl) (by decide) (uA n) (AX (by kernel_rfl) (by decide) (rb n) (D3)))) (fun _=>rfl)
theorem uE:∀ fuel,DB prog 61 3 AR fuel
 | 0=>B0
 | n+1=>C5 (L:=[(26,0),(3,1),(26,2)]) (m:=3) (fun y=>⟨y.1,y.2.1,y.2.2.1⟩) underlying61 rfl (by kernel_rfl) (AX (by kernel_rfl) (by decide) (TO n) (AX (by kernel_rfl) (by decide) (Lx n) (AX (by kernel_rfl) (by decide) (TO n) (D3)))) (fun _=>rfl)
theorem uC:∀ fuel,DB prog 50 1 (eL 3 AR) fuel
 | 0=>B0
 | n+1=>GH underlying50 (by kernel_rfl) (by decide) (of_decide_eq_true (by kernel_rfl)) (uE n)
theorem uD:∀ fuel,DB prog 57 8 K9 fuel
 | 0=>B0
 | n+1=>C5 (L:=[(47,0),(50,7)]) (m:=8) (fun y=>⟨y.1,y.2.1⟩) underlying57 rfl (by kernel_rfl) (AX (by kernel_rfl) (by decide) (uB n) (AX (by kernel_rfl) (by decide) (uC n) (D3))) (fun _=>rfl)
end Go.Sf.Sc
