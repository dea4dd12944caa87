/- What is read of the arguments of the law. -/
import Derived.Test.YtmaobfbhdkafkaaGreatTypes
import Derived.Test.YtmaobfbhdkafkaaGreatSfClaim
import Derived.KernelRfl
set_option maxRecDepth 100000
namespace Go.Sf.Sc
open Go Go.Sf Go.Proofs.Tryz
theorem WW:∀ fuel,GL prog 5 1 G4 fuel
 | 0=>EJ
 | _+1=>TX underlying5
theorem me:∀ fuel,GL prog 179 2 JP fuel
 | 0=>EJ
 | n+1=>OV (L:=[(5,0),(5,1)]) (m:=2) (fun y=>⟨y.1,y.2.1⟩) underlying179 (by kernel_rfl) (by kernel_rfl) (B3 (by kernel_rfl) (by decide) (WW n) (B3 (by kernel_rfl) (by decide) (WW n) (JQ))) (fun _=>rfl)
theorem Z9:∀ fuel,GL prog 69 1 (eL 2 JP) fuel
 | 0=>EJ
 | n+1=>Mg underlying69 (by kernel_rfl) (by decide) (of_decide_eq_true (by kernel_rfl)) (me n)
theorem aA:∀ fuel,GL prog 70 1 (eL 1 G4) fuel
 | 0=>EJ
 | n+1=>Mg underlying70 (by kernel_rfl) (by decide) (of_decide_eq_true (by kernel_rfl)) (WW n)
theorem mf:∀ fuel,GL prog 185 3 Io fuel
 | 0=>EJ
 | n+1=>OV (L:=[(5,0),(5,1),(5,2)]) (m:=3) (fun y=>⟨y.1,y.2.1,y.2.2.1⟩) underlying185 (by kernel_rfl) (by kernel_rfl) (B3 (by kernel_rfl) (by decide) (WW n) (B3 (by kernel_rfl) (by decide) (WW n) (B3 (by kernel_rfl) (by decide) (WW n) (JQ)))) (fun _=>rfl)
theorem aB:∀ fuel,GL prog 71 1 (eL 3 Io) fuel
 | 0=>EJ
 | n+1=>Mg underlying71 (by kernel_rfl) (by decide) (of_decide_eq_true (by kernel_rfl)) (mf n)
theorem pw:∀ fuel,GL prog 73 2 QU fuel
 | 0=>EJ
 | n+1=>Lv (L:=[(70,0),(71,1)]) (m:=2) (fun y=>⟨y.1,y.2.1⟩) underlying73 rfl (by kernel_rfl) (B3 (by kernel_rfl) (by decide) (aA n) (B3 (by kernel_rfl) (by decide) (aB n) (JQ))) (fun _=>rfl)
theorem Tz:∀ fuel,GL prog 187 1 YC fuel
 | 0=>EJ
 | _+1=>TX underlying187
theorem mg:∀ fuel,GL prog 188 4 Nh fuel
 | 0=>EJ
 | n+1=>OV (L:=[(187,0),(187,1),(187,2),(187,3)]) (m:=4) (fun y=>⟨y.1,y.2.1,y.2.2.1,y.2.2.2.1⟩) underlying188 (by kernel_rfl) (by kernel_rfl) (B3 (by kernel_rfl) (by decide) (Tz n) (B3 (by kernel_rfl) (by decide) (Tz n) (B3 (by kernel_rfl) (by decide) (Tz n) (B3 (by kernel_rfl) (by decide) (Tz n) (JQ))))) (fun _=>rfl)
theorem px:∀ fuel,GL prog 74 1 (eL 4 Nh) fuel
 | 0=>EJ
 | n+1=>Mg underlying74 (by kernel_rfl) (by decide) (of_decide_eq_true (by kernel_rfl)) (mg n)
theorem py:∀ fuel,GL prog 76 4 QW fuel
 | 0=>EJ
 | n+1=>Lv (L:=[(73,0),(71,2),(74,3)]) (m:=4) (fun y=>⟨y.1,y.2.1,y.2.2.1⟩) underlying76 rfl (by kernel_rfl) (B3 (by kernel_rfl) (by decide) (pw n) (B3 (by kernel_rfl) (by decide) (aB n) (B3 (by kernel_rfl) (by decide) (px n) (JQ)))) (fun _=>rfl)
theorem pz:∀ fuel,GL prog 78 2 QV fuel
 | 0=>EJ
 | n+1=>Lv (L:=[(69,0),(71,1)]) (m:=2) (fun y=>⟨y.1,y.2.1⟩) underlying78 rfl (by kernel_rfl) (B3 (by kernel_rfl) (by decide) (Z9 n) (B3 (by kernel_rfl) (by decide) (aB n) (JQ))) (fun _=>rfl)
theorem p0:∀ fuel,GL prog 80 10 I4 fuel
 | 0=>EJ
 | n+1=>Lv (L:=[(69,0),(69,1),(76,2),(70,6),(70,7),(78,8)]) (m:=10) (fun y=>⟨y.1,y.2.1,y.2.2.1,y.2.2.2.1,y.2.2.2.2.1,y.2.2.2.2.2.1⟩) underlying80 rfl (by kernel_rfl) (B3 (by kernel_rfl) (by decide) (Z9 n) (B3 (by kernel_rfl) (by decide) (Z9 n) (B3 (by kernel_rfl) (by decide) (py n) (B3 (by kernel_rfl) (by decide) (aA n) (B3 (by kernel_rfl) (by decide) (aA n) (B3 (by kernel_rfl) (by decide) (pz n) (JQ))))))) (fun _=>rfl)
end Go.Sf.Sc
