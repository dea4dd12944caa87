/- Lemmas. -/
import Derived.Test.YtjgaphkmbjbdkaaGreatTypes
import Derived.Test.YtjgaphkmbjbdkaaGreatSfRead
import Derived.KernelRfl
set_option linter.all false
set_option maxRecDepth 100000
namespace Go.Sf.Sc
open Go Go.Sf Go.Proofs.Tryz
theorem jK:∀fuel,CF prog 9 1 eS fuel
 |0=>BE|_+1=>jM underlying9
theorem Mh:∀fuel,CF prog 3 1 eI fuel
 |0=>BE|_+1=>jL underlying3
theorem wI:∀fuel,CF prog 4 1 eB fuel
 |0=>BE|_+1=>fX underlying4
theorem xN:∀fuel,CF prog 99 1 (eL 1 eS) fuel
 |0=>BE|n+1=>ED underlying99 (by kernel_rfl) (by decide) (of_decide_eq_true (by kernel_rfl)) (jK n)
theorem vP:∀fuel,CF prog 101 4 HL fuel
 |0=>BE|n+1=>B1 (L:=[(9,0),(3,1),(3,2),(99,3)]) (m:=4) (fun y=>⟨y.1,y.2.1,y.2.2.1,y.2.2.2.1⟩) underlying101 rfl (by kernel_rfl) (AR (by kernel_rfl) (by decide) (jK n) (AR (by kernel_rfl) (by decide) (Mh n) (AR (by kernel_rfl) (by decide) (Mh n) (AR (by kernel_rfl) (by decide) (xN n) (CZ))))) (fun _=>rfl)
theorem vQ:∀fuel,CF prog 102 1 (eL 4 HL) fuel
 |0=>BE|n+1=>ED underlying102 (by kernel_rfl) (by decide) (of_decide_eq_true (by kernel_rfl)) (vP n)
theorem vR:∀fuel,CF prog 104 4 Fc fuel
 |0=>BE|n+1=>B1 (L:=[(9,0),(3,1),(4,2),(102,3)]) (m:=4) (fun y=>⟨y.1,y.2.1,y.2.2.1,y.2.2.2.1⟩) underlying104 rfl (by kernel_rfl) (AR (by kernel_rfl) (by decide) (jK n) (AR (by kernel_rfl) (by decide) (Mh n) (AR (by kernel_rfl) (by decide) (wI n) (AR (by kernel_rfl) (by decide) (vQ n) (CZ))))) (fun _=>rfl)
theorem w9:∀fuel,CF prog 22 1 (eL 4 Fc) fuel
 |0=>BE|n+1=>ED underlying22 (by kernel_rfl) (by decide) (of_decide_eq_true (by kernel_rfl)) (vR n)
theorem vS:∀fuel,CF prog 106 7 GR fuel
 |0=>BE|n+1=>B1 (L:=[(9,0),(3,1),(3,2),(3,3),(3,4),(3,5),(3,6)]) (m:=7) (fun y=>⟨y.1,y.2.1,y.2.2.1,y.2.2.2.1,y.2.2.2.2.1,y.2.2.2.2.2.1,y.2.2.2.2.2.2.1⟩) underlying106 rfl (by kernel_rfl) (AR (by kernel_rfl) (by decide) (jK n) (AR (by kernel_rfl) (by decide) (Mh n) (AR (by kernel_rfl) (by decide) (Mh n) (AR (by kernel_rfl) (by decide) (Mh n) (AR (by kernel_rfl) (by decide) (Mh n) (AR (by kernel_rfl) (by decide) (Mh n) (AR (by kernel_rfl) (by decide) (Mh n) (CZ)))))))) (fun _=>rfl)
theorem xA:∀fuel,CF prog 23 1 (eL 7 GR) fuel
 |0=>BE|n+1=>ED underlying23 (by kernel_rfl) (by decide) (of_decide_eq_true (by kernel_rfl)) (vS n)
theorem xB:∀fuel,CF prog 25 2 AM fuel
 |0=>BE|n+1=>B1 (L:=[(22,0),(23,1)]) (m:=2) (fun y=>⟨y.1,y.2.1⟩) underlying25 rfl (by kernel_rfl) (AR (by kernel_rfl) (by decide) (w9 n) (AR (by kernel_rfl) (by decide) (xA n) (CZ))) (fun _=>rfl)
theorem VA:∀fuel,CF prog 27 1 (eL 1 eI) fuel
 |0=>BE|n+1=>ED underlying27 (by kernel_rfl) (by decide) (of_decide_eq_true (by kernel_rfl)) (Mh n)
theorem vU:∀fuel,CF prog 117 3 BP fuel
 |0=>BE|n+1=>B1 (L:=[(3,0),(3,1),(3,2)]) (m:=3) (fun y=>⟨y.1,y.2.1,y.2.2.1⟩) underlying117 rfl (by kernel_rfl) (AR (by kernel_rfl) (by decide) (Mh n) (AR (by kernel_rfl) (by decide) (Mh n) (AR (by kernel_rfl) (by decide) (Mh n) (CZ)))) (fun _=>rfl)
theorem xD:∀fuel,CF prog 28 1 (eL 3 BP) fuel
 |0=>BE|n+1=>ED underlying28 (by kernel_rfl) (by decide) (of_decide_eq_true (by kernel_rfl)) (vU n)
theorem rk:∀fuel,CF prog 30 2 Ar fuel
 |0=>BE|n+1=>B1 (L:=[(27,0),(28,1)]) (m:=2) (fun y=>⟨y.1,y.2.1⟩) underlying30 rfl (by kernel_rfl) (AR (by kernel_rfl) (by decide) (VA n) (AR (by kernel_rfl) (by decide) (xD n) (CZ))) (fun _=>rfl)
theorem fW:∀fuel,CF prog 108 2 Py fuel
 |0=>BE|n+1=>B1 (L:=[(3,0),(3,1)]) (m:=2) (fun y=>⟨y.1,y.2.1⟩) underlying108 rfl (by kernel_rfl) (AR (by kernel_rfl) (by decide) (Mh n) (AR (by kernel_rfl) (by decide) (Mh n) (CZ))) (fun _=>rfl)
theorem vT:∀fuel,CF prog 110 4 Da fuel
 |0=>BE|n+1=>B1 (L:=[(3,0),(3,1),(108,2)]) (m:=4) (fun y=>⟨y.1,y.2.1,y.2.2.1⟩) underlying110 rfl (by kernel_rfl) (AR (by kernel_rfl) (by decide) (Mh n) (AR (by kernel_rfl) (by decide) (Mh n) (AR (by kernel_rfl) (by decide) (fW n) (CZ)))) (fun _=>rfl)
theorem xE:∀fuel,CF prog 31 1 (eL 4 Da) fuel
 |0=>BE|n+1=>ED underlying31 (by kernel_rfl) (by decide) (of_decide_eq_true (by kernel_rfl)) (vT n)
theorem vV:∀fuel,CF prog 244 5 Dv fuel
 |0=>BE|n+1=>B1 (L:=[(3,0),(108,1),(108,3)]) (m:=5) (fun y=>⟨y.1,y.2.1,y.2.2.1⟩) underlying244 rfl (by kernel_rfl) (AR (by kernel_rfl) (by decide) (Mh n) (AR (by kernel_rfl) (by decide) (fW n) (AR (by kernel_rfl) (by decide) (fW n) (CZ)))) (fun _=>rfl)
theorem xF:∀fuel,CF prog 32 1 (eL 5 Dv) fuel
 |0=>BE|n+1=>ED underlying32 (by kernel_rfl) (by decide) (of_decide_eq_true (by kernel_rfl)) (vV n)
theorem lZ:∀fuel,CF prog 34 5 A9 fuel
 |0=>BE|n+1=>B1 (L:=[(30,0),(31,2),(3,3),(32,4)]) (m:=5) (fun y=>⟨y.1,y.2.1,y.2.2.1,y.2.2.2.1⟩) underlying34 rfl (by kernel_rfl) (AR (by kernel_rfl) (by decide) (rk n) (AR (by kernel_rfl) (by decide) (xE n) (AR (by kernel_rfl) (by decide) (Mh n) (AR (by kernel_rfl) (by decide) (xF n) (CZ))))) (fun _=>rfl)
theorem xG:∀fuel,CF prog 36 2 Ej fuel
 |0=>BE|n+1=>B1 (L:=[(27,0),(27,1)]) (m:=2) (fun y=>⟨y.1,y.2.1⟩) underlying36 rfl (by kernel_rfl) (AR (by kernel_rfl) (by decide) (VA n) (AR (by kernel_rfl) (by decide) (VA n) (CZ))) (fun _=>rfl)
theorem XF:∀fuel,CF prog 37 2 Ao fuel
 |0=>BE|n+1=>B1 (L:=[(27,0),(27,1)]) (m:=2) (fun y=>⟨y.1,y.2.1⟩) underlying37 rfl (by kernel_rfl) (AR (by kernel_rfl) (by decide) (VA n) (AR (by kernel_rfl) (by decide) (VA n) (CZ))) (fun _=>rfl)
theorem vW(n:Nat)(b:∀k,k<n->CF prog 40 9 AH k):CF prog 40 9 AH n:=by
 cases n with
 |zero=>exact BE|succ n=>
  have a:CF prog 38 1 DB n:=by
   cases n with
   |zero=>exact BE|succ m=>
    have:=ED underlying38 (n:=9) (by kernel_rfl) (by decide) (of_decide_eq_true (by kernel_rfl)) (b m (by omega));have he:DB=(fun l=>TV.list 9 (l.map AH)):=funext Nu;rw[he];exact this
  exact B1 (L:=[(3,0),(38,1),(37,2),(34,4)]) (m:=9) (fun y=>⟨y.1,y.2.1,y.2.2.1,y.2.2.2.1⟩) underlying40 rfl (by kernel_rfl) (AR (by kernel_rfl) (by decide) (Mh n) (AR (by kernel_rfl) (by decide) a (AR (by kernel_rfl) (by decide) (XF n) (AR (by kernel_rfl) (by decide) (lZ n) (CZ))))) (fun _=>rfl)
theorem xH(fuel:Nat):CF prog 40 9 AH fuel:=Nat.strongRecOn fuel vW
theorem rl:∀fuel,CF prog 42 25 Bz fuel
 |0=>BE|n+1=>B1 (L:=[(9,0),(34,1),(34,6),(36,11),(37,13),(4,15),(40,16)]) (m:=25) (fun y=>⟨y.1,y.2.1,y.2.2.1,y.2.2.2.1,y.2.2.2.2.1,y.2.2.2.2.2.1,y.2.2.2.2.2.2.1⟩) underlying42 rfl (by kernel_rfl) (AR (by kernel_rfl) (by decide) (jK n) (AR (by kernel_rfl) (by decide) (lZ n) (AR (by kernel_rfl) (by decide) (lZ n) (AR (by kernel_rfl) (by decide) (xG n) (AR (by kernel_rfl) (by decide) (XF n) (AR (by kernel_rfl) (by decide) (wI n) (AR (by kernel_rfl) (by decide) (xH n) (CZ)))))))) (fun _=>rfl)
theorem xC:∀fuel,CF prog 26 1 (eL 25 Bz) fuel
 |0=>BE|n+1=>ED underlying26 (by kernel_rfl) (by decide) (of_decide_eq_true (by kernel_rfl)) (rl n)
theorem rm:∀fuel,CF prog 44 3 BT fuel
 |0=>BE|n+1=>B1 (L:=[(37,0),(27,2)]) (m:=3) (fun y=>⟨y.1,y.2.1⟩) underlying44 rfl (by kernel_rfl) (AR (by kernel_rfl) (by decide) (XF n) (AR (by kernel_rfl) (by decide) (VA n) (CZ))) (fun _=>rfl)
theorem xI:∀fuel,CF prog 45 1 (eL 1 (eL 1 eI)) fuel
 |0=>BE|n+1=>ED underlying45 (by kernel_rfl) (by decide) (of_decide_eq_true (by kernel_rfl)) (VA n)
theorem lb:∀fuel,CF prog 47 3 BO fuel
 |0=>BE|n+1=>B1 (L:=[(30,0),(45,2)]) (m:=3) (fun y=>⟨y.1,y.2.1⟩) underlying47 rfl (by kernel_rfl) (AR (by kernel_rfl) (by decide) (rk n) (AR (by kernel_rfl) (by decide) (xI n) (CZ))) (fun _=>rfl)
theorem rn:∀fuel,CF prog 49 38 Bv fuel
 |0=>BE|n+1=>B1 (L:=[(42,0),(44,25),(47,28),(47,31),(37,34),(37,36)]) (m:=38) (fun y=>⟨y.1,y.2.1,y.2.2.1,y.2.2.2.1,y.2.2.2.2.1,y.2.2.2.2.2.1⟩) underlying49 rfl (by kernel_rfl) (AR (by kernel_rfl) (by decide) (rl n) (AR (by kernel_rfl) (by decide) (rm n) (AR (by kernel_rfl) (by decide) (lb n) (AR (by kernel_rfl) (by decide) (lb n) (AR (by kernel_rfl) (by decide) (XF n) (AR (by kernel_rfl) (by decide) (XF n) (CZ))))))) (fun _=>rfl)
theorem xJ:∀fuel,CF prog 51 77 L6 fuel
 |0=>BE|n+1=>B1 (L:=[(26,0),(49,1),(49,39)]) (m:=77) (fun y=>⟨y.1,y.2.1,y.2.2.1⟩) underlying51 rfl (by kernel_rfl) (AR (by kernel_rfl) (by decide) (xC n) (AR (by kernel_rfl) (by decide) (rn n) (AR (by kernel_rfl) (by decide) (rn n) (CZ)))) (fun _=>rfl)
theorem xM:∀fuel,CF prog 82 4 GE fuel
 |0=>BE|n+1=>B1 (L:=[(3,0),(44,1)]) (m:=4) (fun y=>⟨y.1,y.2.1⟩) underlying82 rfl (by kernel_rfl) (AR (by kernel_rfl) (by decide) (Mh n) (AR (by kernel_rfl) (by decide) (rm n) (CZ))) (fun _=>rfl)
theorem xK:∀fuel,CF prog 52 1 (eL 4 GE) fuel
 |0=>BE|n+1=>ED underlying52 (by kernel_rfl) (by decide) (of_decide_eq_true (by kernel_rfl)) (xM n)
theorem rq:∀fuel,CF prog 54 4 Kj fuel
 |0=>BE|n+1=>B1 (L:=[(47,0),(52,3)]) (m:=4) (fun y=>⟨y.1,y.2.1⟩) underlying54 rfl (by kernel_rfl) (AR (by kernel_rfl) (by decide) (lb n) (AR (by kernel_rfl) (by decide) (xK n) (CZ))) (fun _=>rfl)
theorem xL:∀fuel,CF prog 56 10 Ow fuel
 |0=>BE|n+1=>B1 (L:=[(54,0),(54,4),(37,8)]) (m:=10) (fun y=>⟨y.1,y.2.1,y.2.2.1⟩) underlying56 rfl (by kernel_rfl) (AR (by kernel_rfl) (by decide) (rq n) (AR (by kernel_rfl) (by decide) (rq n) (AR (by kernel_rfl) (by decide) (XF n) (CZ)))) (fun _=>rfl)
end Go.Sf.Sc
