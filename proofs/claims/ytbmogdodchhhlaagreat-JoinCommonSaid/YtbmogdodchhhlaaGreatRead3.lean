/- Lemmas. -/
import Derived.Test.YtbmogdodchhhlaaGreatTypes
import Derived.Test.YtbmogdodchhhlaaGreatSfRead
import Derived.KernelRfl
set_option linter.all false
set_option maxRecDepth 100000
namespace Go.Sf.Sc
open Go Go.Sf Go.Proofs.Tryz
theorem j7:∀fuel,CM prog 9 1 eS fuel
 |0=>Bf|_+1=>WC underlying9
theorem OE:∀fuel,CM prog 3 1 eI fuel
 |0=>Bf|_+1=>WB underlying3
theorem PJ:∀fuel,CM prog 22 1 (eL 1 eI) fuel
 |0=>Bf|n+1=>Gz underlying22 (by kernel_rfl) (by decide) (of_decide_eq_true (by kernel_rfl)) (OE n)
theorem jn:∀fuel,CM prog 92 3 BN fuel
 |0=>Bf|n+1=>CP (L:=[(3,0),(3,1),(3,2)]) (m:=3) (fun y=>⟨y.1,y.2.1,y.2.2.1⟩) underlying92 rfl (by kernel_rfl) (AZ (by kernel_rfl) (by decide) (OE n) (AZ (by kernel_rfl) (by decide) (OE n) (AZ (by kernel_rfl) (by decide) (OE n) (Cx)))) (fun _=>rfl)
theorem ja:∀fuel,CM prog 23 1 (eL 3 BN) fuel
 |0=>Bf|n+1=>Gz underlying23 (by kernel_rfl) (by decide) (of_decide_eq_true (by kernel_rfl)) (jn n)
theorem cZ:∀fuel,CM prog 25 2 Am fuel
 |0=>Bf|n+1=>CP (L:=[(22,0),(23,1)]) (m:=2) (fun y=>⟨y.1,y.2.1⟩) underlying25 rfl (by kernel_rfl) (AZ (by kernel_rfl) (by decide) (PJ n) (AZ (by kernel_rfl) (by decide) (ja n) (Cx))) (fun _=>rfl)
theorem Xo:∀fuel,CM prog 83 2 K8 fuel
 |0=>Bf|n+1=>CP (L:=[(3,0),(3,1)]) (m:=2) (fun y=>⟨y.1,y.2.1⟩) underlying83 rfl (by kernel_rfl) (AZ (by kernel_rfl) (by decide) (OE n) (AZ (by kernel_rfl) (by decide) (OE n) (Cx))) (fun _=>rfl)
theorem jm:∀fuel,CM prog 85 4 DI fuel
 |0=>Bf|n+1=>CP (L:=[(3,0),(3,1),(83,2)]) (m:=4) (fun y=>⟨y.1,y.2.1,y.2.2.1⟩) underlying85 rfl (by kernel_rfl) (AZ (by kernel_rfl) (by decide) (OE n) (AZ (by kernel_rfl) (by decide) (OE n) (AZ (by kernel_rfl) (by decide) (Xo n) (Cx)))) (fun _=>rfl)
theorem jc:∀fuel,CM prog 26 1 (eL 4 DI) fuel
 |0=>Bf|n+1=>Gz underlying26 (by kernel_rfl) (by decide) (of_decide_eq_true (by kernel_rfl)) (jm n)
theorem gH:∀fuel,CM prog 192 5 Dh fuel
 |0=>Bf|n+1=>CP (L:=[(3,0),(83,1),(83,3)]) (m:=5) (fun y=>⟨y.1,y.2.1,y.2.2.1⟩) underlying192 rfl (by kernel_rfl) (AZ (by kernel_rfl) (by decide) (OE n) (AZ (by kernel_rfl) (by decide) (Xo n) (AZ (by kernel_rfl) (by decide) (Xo n) (Cx)))) (fun _=>rfl)
theorem je:∀fuel,CM prog 27 1 (eL 5 Dh) fuel
 |0=>Bf|n+1=>Gz underlying27 (by kernel_rfl) (by decide) (of_decide_eq_true (by kernel_rfl)) (gH n)
theorem Xn:∀fuel,CM prog 29 5 BI fuel
 |0=>Bf|n+1=>CP (L:=[(25,0),(26,2),(3,3),(27,4)]) (m:=5) (fun y=>⟨y.1,y.2.1,y.2.2.1,y.2.2.2.1⟩) underlying29 rfl (by kernel_rfl) (AZ (by kernel_rfl) (by decide) (cZ n) (AZ (by kernel_rfl) (by decide) (jc n) (AZ (by kernel_rfl) (by decide) (OE n) (AZ (by kernel_rfl) (by decide) (je n) (Cx))))) (fun _=>rfl)
theorem jf:∀fuel,CM prog 31 2 Dw fuel
 |0=>Bf|n+1=>CP (L:=[(22,0),(22,1)]) (m:=2) (fun y=>⟨y.1,y.2.1⟩) underlying31 rfl (by kernel_rfl) (AZ (by kernel_rfl) (by decide) (PJ n) (AZ (by kernel_rfl) (by decide) (PJ n) (Cx))) (fun _=>rfl)
theorem Sz:∀fuel,CM prog 32 2 An fuel
 |0=>Bf|n+1=>CP (L:=[(22,0),(22,1)]) (m:=2) (fun y=>⟨y.1,y.2.1⟩) underlying32 rfl (by kernel_rfl) (AZ (by kernel_rfl) (by decide) (PJ n) (AZ (by kernel_rfl) (by decide) (PJ n) (Cx))) (fun _=>rfl)
theorem j6:∀fuel,CM prog 4 1 eB fuel
 |0=>Bf|_+1=>U7 underlying4
theorem gI(n:Nat)(b:∀k,k<n->CM prog 35 9 AL k):CM prog 35 9 AL n:=by
 cases n with
 |zero=>exact Bf|succ n=>
  have a:CM prog 33 1 Ce n:=by
   cases n with
   |zero=>exact Bf|succ m=>
    have:=Gz underlying33 (n:=9) (by kernel_rfl) (by decide) (of_decide_eq_true (by kernel_rfl)) (b m (by omega));have he:Ce=(fun l=>TV.list 9 (l.map AL)):=funext L3;rw[he];exact this
  exact CP (L:=[(3,0),(33,1),(32,2),(29,4)]) (m:=9) (fun y=>⟨y.1,y.2.1,y.2.2.1,y.2.2.2.1⟩) underlying35 rfl (by kernel_rfl) (AZ (by kernel_rfl) (by decide) (OE n) (AZ (by kernel_rfl) (by decide) a (AZ (by kernel_rfl) (by decide) (Sz n) (AZ (by kernel_rfl) (by decide) (Xn n) (Cx))))) (fun _=>rfl)
theorem jg(fuel:Nat):CM prog 35 9 AL fuel:=Nat.strongRecOn fuel gI
theorem jh:∀fuel,CM prog 37 25 CH fuel
 |0=>Bf|n+1=>CP (L:=[(9,0),(29,1),(29,6),(31,11),(32,13),(4,15),(35,16)]) (m:=25) (fun y=>⟨y.1,y.2.1,y.2.2.1,y.2.2.2.1,y.2.2.2.2.1,y.2.2.2.2.2.1,y.2.2.2.2.2.2.1⟩) underlying37 rfl (by kernel_rfl) (AZ (by kernel_rfl) (by decide) (j7 n) (AZ (by kernel_rfl) (by decide) (Xn n) (AZ (by kernel_rfl) (by decide) (Xn n) (AZ (by kernel_rfl) (by decide) (jf n) (AZ (by kernel_rfl) (by decide) (Sz n) (AZ (by kernel_rfl) (by decide) (j6 n) (AZ (by kernel_rfl) (by decide) (jg n) (Cx)))))))) (fun _=>rfl)
theorem ji:∀fuel,CM prog 39 3 BC fuel
 |0=>Bf|n+1=>CP (L:=[(32,0),(22,2)]) (m:=3) (fun y=>⟨y.1,y.2.1⟩) underlying39 rfl (by kernel_rfl) (AZ (by kernel_rfl) (by decide) (Sz n) (AZ (by kernel_rfl) (by decide) (PJ n) (Cx))) (fun _=>rfl)
theorem jk:∀fuel,CM prog 40 1 (eL 1 (eL 1 eI)) fuel
 |0=>Bf|n+1=>Gz underlying40 (by kernel_rfl) (by decide) (of_decide_eq_true (by kernel_rfl)) (PJ n)
theorem cb:∀fuel,CM prog 42 3 BH fuel
 |0=>Bf|n+1=>CP (L:=[(25,0),(40,2)]) (m:=3) (fun y=>⟨y.1,y.2.1⟩) underlying42 rfl (by kernel_rfl) (AZ (by kernel_rfl) (by decide) (cZ n) (AZ (by kernel_rfl) (by decide) (jk n) (Cx))) (fun _=>rfl)
theorem cc:∀fuel,CM prog 44 38 Bp fuel
 |0=>Bf|n+1=>CP (L:=[(37,0),(39,25),(42,28),(42,31),(32,34),(32,36)]) (m:=38) (fun y=>⟨y.1,y.2.1,y.2.2.1,y.2.2.2.1,y.2.2.2.2.1,y.2.2.2.2.2.1⟩) underlying44 rfl (by kernel_rfl) (AZ (by kernel_rfl) (by decide) (jh n) (AZ (by kernel_rfl) (by decide) (ji n) (AZ (by kernel_rfl) (by decide) (cb n) (AZ (by kernel_rfl) (by decide) (cb n) (AZ (by kernel_rfl) (by decide) (Sz n) (AZ (by kernel_rfl) (by decide) (Sz n) (Cx))))))) (fun _=>rfl)
end Go.Sf.Sc
