/- Lemmas. -/
import Derived.Test.YtfcfkigfmofniaaGreatTypes
import Derived.Test.YtfcfkigfmofniaaGreatSfRead
import Derived.KernelRfl
set_option linter.all false
set_option maxRecDepth 100000
namespace Go.Sf.Sc
open Go Go.Sf Go.Proofs.Tryz
theorem VJ:∀fuel,DV prog 5 1 G9 fuel
 |0=>CZ|_+1=>UT underlying5
theorem xV:∀fuel,DV prog 90 2 Fo fuel
 |0=>CZ|n+1=>O2 (L:=[(5,0),(5,1)]) (m:=2) (fun y=>⟨y.1,y.2.1⟩) underlying90 (by kernel_rfl) (by kernel_rfl) (A6 (by kernel_rfl) (by decide) (VJ n) (A6 (by kernel_rfl) (by decide) (VJ n) (Gk))) (fun _=>rfl)
theorem fM:∀fuel,DV prog 22 1 (eL 2 Fo) fuel
 |0=>CZ|n+1=>MB underlying22 (by kernel_rfl) (by decide) (of_decide_eq_true (by kernel_rfl)) (xV n)
theorem fL:∀fuel,DV prog 116 1 (eL 1 G9) fuel
 |0=>CZ|n+1=>MB underlying116 (by kernel_rfl) (by decide) (of_decide_eq_true (by kernel_rfl)) (VJ n)
theorem v8:∀fuel,DV prog 166 3 Fr fuel
 |0=>CZ|n+1=>O2 (L:=[(5,0),(5,1),(5,2)]) (m:=3) (fun y=>⟨y.1,y.2.1,y.2.2.1⟩) underlying166 (by kernel_rfl) (by kernel_rfl) (A6 (by kernel_rfl) (by decide) (VJ n) (A6 (by kernel_rfl) (by decide) (VJ n) (A6 (by kernel_rfl) (by decide) (VJ n) (Gk)))) (fun _=>rfl)
theorem aw:∀fuel,DV prog 24 1 (eL 3 Fr) fuel
 |0=>CZ|n+1=>MB underlying24 (by kernel_rfl) (by decide) (of_decide_eq_true (by kernel_rfl)) (v8 n)
theorem vr:∀fuel,DV prog 118 2 Na fuel
 |0=>CZ|n+1=>K4 (L:=[(116,0),(24,1)]) (m:=2) (fun y=>⟨y.1,y.2.1⟩) underlying118 rfl (by kernel_rfl) (A6 (by kernel_rfl) (by decide) (fL n) (A6 (by kernel_rfl) (by decide) (aw n) (Gk))) (fun _=>rfl)
theorem ZN:∀fuel,DV prog 199 1 gW fuel
 |0=>CZ|_+1=>UT underlying199
theorem wA:∀fuel,DV prog 200 4 Qa fuel
 |0=>CZ|n+1=>O2 (L:=[(199,0),(199,1),(199,2),(199,3)]) (m:=4) (fun y=>⟨y.1,y.2.1,y.2.2.1,y.2.2.2.1⟩) underlying200 (by kernel_rfl) (by kernel_rfl) (A6 (by kernel_rfl) (by decide) (ZN n) (A6 (by kernel_rfl) (by decide) (ZN n) (A6 (by kernel_rfl) (by decide) (ZN n) (A6 (by kernel_rfl) (by decide) (ZN n) (Gk))))) (fun _=>rfl)
theorem vt:∀fuel,DV prog 119 1 (eL 4 Qa) fuel
 |0=>CZ|n+1=>MB underlying119 (by kernel_rfl) (by decide) (of_decide_eq_true (by kernel_rfl)) (wA n)
theorem vu:∀fuel,DV prog 121 4 Tx fuel
 |0=>CZ|n+1=>K4 (L:=[(118,0),(24,2),(119,3)]) (m:=4) (fun y=>⟨y.1,y.2.1,y.2.2.1⟩) underlying121 rfl (by kernel_rfl) (A6 (by kernel_rfl) (by decide) (vr n) (A6 (by kernel_rfl) (by decide) (aw n) (A6 (by kernel_rfl) (by decide) (vt n) (Gk)))) (fun _=>rfl)
theorem vw:∀fuel,DV prog 122 1 IZ fuel
 |0=>CZ|_+1=>UT underlying122
theorem ws:∀fuel,DV prog 4 1 eB fuel
 |0=>CZ|_+1=>fN underlying4
theorem vz:∀fuel,DV prog 123 4 Zp fuel
 |0=>CZ|n+1=>O2 (L:=[(5,0),(5,1),(5,2),(5,3)]) (m:=4) (fun y=>⟨y.1,y.2.1,y.2.2.1,y.2.2.2.1⟩) underlying123 (by kernel_rfl) (by kernel_rfl) (A6 (by kernel_rfl) (by decide) (VJ n) (A6 (by kernel_rfl) (by decide) (VJ n) (A6 (by kernel_rfl) (by decide) (VJ n) (A6 (by kernel_rfl) (by decide) (VJ n) (Gk))))) (fun _=>rfl)
theorem v7:∀fuel,DV prog 125 15 I8 fuel
 |0=>CZ|n+1=>K4 (L:=[(121,0),(122,4),(116,5),(24,6),(24,7),(4,8),(4,9),(123,10),(116,14)]) (m:=15) (fun y=>⟨y.1,y.2.1,y.2.2.1,y.2.2.2.1,y.2.2.2.2.1,y.2.2.2.2.2.1,y.2.2.2.2.2.2.1,y.2.2.2.2.2.2.2.1,y.2.2.2.2.2.2.2.2.1⟩) underlying125 rfl (by kernel_rfl) (A6 (by kernel_rfl) (by decide) (vu n) (A6 (by kernel_rfl) (by decide) (vw n) (A6 (by kernel_rfl) (by decide) (fL n) (A6 (by kernel_rfl) (by decide) (aw n) (A6 (by kernel_rfl) (by decide) (aw n) (A6 (by kernel_rfl) (by decide) (ws n) (A6 (by kernel_rfl) (by decide) (ws n) (A6 (by kernel_rfl) (by decide) (vz n) (A6 (by kernel_rfl) (by decide) (fL n) (Gk)))))))))) (fun _=>rfl)
theorem xS:∀fuel,DV prog 23 1 (eL 15 I8) fuel
 |0=>CZ|n+1=>MB underlying23 (by kernel_rfl) (by decide) (of_decide_eq_true (by kernel_rfl)) (v7 n)
theorem xT:∀fuel,DV prog 26 2 Tw fuel
 |0=>CZ|n+1=>K4 (L:=[(22,0),(24,1)]) (m:=2) (fun y=>⟨y.1,y.2.1⟩) underlying26 rfl (by kernel_rfl) (A6 (by kernel_rfl) (by decide) (fM n) (A6 (by kernel_rfl) (by decide) (aw n) (Gk))) (fun _=>rfl)
theorem xU:∀fuel,DV prog 28 5 HC fuel
 |0=>CZ|n+1=>K4 (L:=[(22,0),(22,1),(23,2),(26,3)]) (m:=5) (fun y=>⟨y.1,y.2.1,y.2.2.1,y.2.2.2.1⟩) underlying28 rfl (by kernel_rfl) (A6 (by kernel_rfl) (by decide) (fM n) (A6 (by kernel_rfl) (by decide) (fM n) (A6 (by kernel_rfl) (by decide) (xS n) (A6 (by kernel_rfl) (by decide) (xT n) (Gk))))) (fun _=>rfl)
end Go.Sf.Sc
