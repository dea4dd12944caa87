/- What is read of the arguments of the law. -/
import Derived.Test.YtmaobfbhdkafkaaGreatTypes
import Derived.Test.YtmaobfbhdkafkaaGreatSfClaim
import Derived.KernelRfl
set_option maxRecDepth 100000
namespace Go.Sf.Sc
open Go Go.Sf Go.Proofs.Tryz
theorem XW:∀ fuel,GX prog 5 1 HL fuel
 | 0=>EW
 | _+1=>UK underlying5
theorem ol:∀ fuel,GX prog 179 2 Jp fuel
 | 0=>EW
 | n+1=>Pj (L:=[(5,0),(5,1)]) (m:=2) (fun y=>⟨y.1,y.2.1⟩) underlying179 (by kernel_rfl) (by kernel_rfl) (B7 (by kernel_rfl) (by decide) (XW n) (B7 (by kernel_rfl) (by decide) (XW n) (Jr))) (fun _=>rfl)
theorem bf:∀ fuel,GX prog 69 1 (eL 2 Jp) fuel
 | 0=>EW
 | n+1=>NI underlying69 (by kernel_rfl) (by decide) (of_decide_eq_true (by kernel_rfl)) (ol n)
theorem bg:∀ fuel,GX prog 70 1 (eL 1 HL) fuel
 | 0=>EW
 | n+1=>NI underlying70 (by kernel_rfl) (by decide) (of_decide_eq_true (by kernel_rfl)) (XW n)
theorem om:∀ fuel,GX prog 185 3 I9 fuel
 | 0=>EW
 | n+1=>Pj (L:=[(5,0),(5,1),(5,2)]) (m:=3) (fun y=>⟨y.1,y.2.1,y.2.2.1⟩) underlying185 (by kernel_rfl) (by kernel_rfl) (B7 (by kernel_rfl) (by decide) (XW n) (B7 (by kernel_rfl) (by decide) (XW n) (B7 (by kernel_rfl) (by decide) (XW n) (Jr)))) (fun _=>rfl)
theorem bh:∀ fuel,GX prog 71 1 (eL 3 I9) fuel
 | 0=>EW
 | n+1=>NI underlying71 (by kernel_rfl) (by decide) (of_decide_eq_true (by kernel_rfl)) (om n)
theorem sA:∀ fuel,GX prog 73 2 Q7 fuel
 | 0=>EW
 | n+1=>MU (L:=[(70,0),(71,1)]) (m:=2) (fun y=>⟨y.1,y.2.1⟩) underlying73 rfl (by kernel_rfl) (B7 (by kernel_rfl) (by decide) (bg n) (B7 (by kernel_rfl) (by decide) (bh n) (Jr))) (fun _=>rfl)
theorem Un:∀ fuel,GX prog 187 1 ZE fuel
 | 0=>EW
 | _+1=>UK underlying187
theorem oo:∀ fuel,GX prog 188 4 OR fuel
 | 0=>EW
 | n+1=>Pj (L:=[(187,0),(187,1),(187,2),(187,3)]) (m:=4) (fun y=>⟨y.1,y.2.1,y.2.2.1,y.2.2.2.1⟩) underlying188 (by kernel_rfl) (by kernel_rfl) (B7 (by kernel_rfl) (by decide) (Un n) (B7 (by kernel_rfl) (by decide) (Un n) (B7 (by kernel_rfl) (by decide) (Un n) (B7 (by kernel_rfl) (by decide) (Un n) (Jr))))) (fun _=>rfl)
theorem sB:∀ fuel,GX prog 74 1 (eL 4 OR) fuel
 | 0=>EW
 | n+1=>NI underlying74 (by kernel_rfl) (by decide) (of_decide_eq_true (by kernel_rfl)) (oo n)
theorem sC:∀ fuel,GX prog 76 4 Q9 fuel
 | 0=>EW
 | n+1=>MU (L:=[(73,0),(71,2),(74,3)]) (m:=4) (fun y=>⟨y.1,y.2.1,y.2.2.1⟩) underlying76 rfl (by kernel_rfl) (B7 (by kernel_rfl) (by decide) (sA n) (B7 (by kernel_rfl) (by decide) (bh n) (B7 (by kernel_rfl) (by decide) (sB n) (Jr)))) (fun _=>rfl)
theorem sE:∀ fuel,GX prog 78 2 Q8 fuel
 | 0=>EW
 | n+1=>MU (L:=[(69,0),(71,1)]) (m:=2) (fun y=>⟨y.1,y.2.1⟩) underlying78 rfl (by kernel_rfl) (B7 (by kernel_rfl) (by decide) (bf n) (B7 (by kernel_rfl) (by decide) (bh n) (Jr))) (fun _=>rfl)
theorem sF:∀ fuel,GX prog 80 10 JW fuel
 | 0=>EW
 | n+1=>MU (L:=[(69,0),(69,1),(76,2),(70,6),(70,7),(78,8)]) (m:=10) (fun y=>⟨y.1,y.2.1,y.2.2.1,y.2.2.2.1,y.2.2.2.2.1,y.2.2.2.2.2.1⟩) underlying80 rfl (by kernel_rfl) (B7 (by kernel_rfl) (by decide) (bf n) (B7 (by kernel_rfl) (by decide) (bf n) (B7 (by kernel_rfl) (by decide) (sC n) (B7 (by kernel_rfl) (by decide) (bg n) (B7 (by kernel_rfl) (by decide) (bg n) (B7 (by kernel_rfl) (by decide) (sE n) (Jr))))))) (fun _=>rfl)
end Go.Sf.Sc
