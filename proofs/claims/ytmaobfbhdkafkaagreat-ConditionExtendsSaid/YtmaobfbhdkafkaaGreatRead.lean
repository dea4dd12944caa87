/- What is read of the arguments of the law. -/
import Derived.Test.YtmaobfbhdkafkaaGreatTypes
import Derived.Test.YtmaobfbhdkafkaaGreatSfClaim
import Derived.KernelRfl
set_option maxRecDepth 100000
namespace Go.Sf.Sc
open Go Go.Sf Go.Proofs.Tryz
theorem WS:∀ fuel,GL prog 5 1 G6 fuel
 | 0=>EK
 | _+1=>TW underlying5
theorem mj:∀ fuel,GL prog 179 2 JQ fuel
 | 0=>EK
 | n+1=>OY (L:=[(5,0),(5,1)]) (m:=2) (fun y=>⟨y.1,y.2.1⟩) underlying179 (by kernel_rfl) (by kernel_rfl) (B2 (by kernel_rfl) (by decide) (WS n) (B2 (by kernel_rfl) (by decide) (WS n) (JR))) (fun _=>rfl)
theorem Z9:∀ fuel,GL prog 69 1 (eL 2 JQ) fuel
 | 0=>EK
 | n+1=>Mm underlying69 (by kernel_rfl) (by decide) (of_decide_eq_true (by kernel_rfl)) (mj n)
theorem aA:∀ fuel,GL prog 70 1 (eL 1 G6) fuel
 | 0=>EK
 | n+1=>Mm underlying70 (by kernel_rfl) (by decide) (of_decide_eq_true (by kernel_rfl)) (WS n)
theorem ml:∀ fuel,GL prog 185 3 Iq fuel
 | 0=>EK
 | n+1=>OY (L:=[(5,0),(5,1),(5,2)]) (m:=3) (fun y=>⟨y.1,y.2.1,y.2.2.1⟩) underlying185 (by kernel_rfl) (by kernel_rfl) (B2 (by kernel_rfl) (by decide) (WS n) (B2 (by kernel_rfl) (by decide) (WS n) (B2 (by kernel_rfl) (by decide) (WS n) (JR)))) (fun _=>rfl)
theorem aB:∀ fuel,GL prog 71 1 (eL 3 Iq) fuel
 | 0=>EK
 | n+1=>Mm underlying71 (by kernel_rfl) (by decide) (of_decide_eq_true (by kernel_rfl)) (ml n)
theorem p5:∀ fuel,GL prog 73 2 QU fuel
 | 0=>EK
 | n+1=>Lx (L:=[(70,0),(71,1)]) (m:=2) (fun y=>⟨y.1,y.2.1⟩) underlying73 rfl (by kernel_rfl) (B2 (by kernel_rfl) (by decide) (aA n) (B2 (by kernel_rfl) (by decide) (aB n) (JR))) (fun _=>rfl)
theorem Tz:∀ fuel,GL prog 187 1 X7 fuel
 | 0=>EK
 | _+1=>TW underlying187
theorem mn:∀ fuel,GL prog 188 4 Nk fuel
 | 0=>EK
 | n+1=>OY (L:=[(187,0),(187,1),(187,2),(187,3)]) (m:=4) (fun y=>⟨y.1,y.2.1,y.2.2.1,y.2.2.2.1⟩) underlying188 (by kernel_rfl) (by kernel_rfl) (B2 (by kernel_rfl) (by decide) (Tz n) (B2 (by kernel_rfl) (by decide) (Tz n) (B2 (by kernel_rfl) (by decide) (Tz n) (B2 (by kernel_rfl) (by decide) (Tz n) (JR))))) (fun _=>rfl)
theorem p6:∀ fuel,GL prog 74 1 (eL 4 Nk) fuel
 | 0=>EK
 | n+1=>Mm underlying74 (by kernel_rfl) (by decide) (of_decide_eq_true (by kernel_rfl)) (mn n)
theorem p7:∀ fuel,GL prog 76 4 QW fuel
 | 0=>EK
 | n+1=>Lx (L:=[(73,0),(71,2),(74,3)]) (m:=4) (fun y=>⟨y.1,y.2.1,y.2.2.1⟩) underlying76 rfl (by kernel_rfl) (B2 (by kernel_rfl) (by decide) (p5 n) (B2 (by kernel_rfl) (by decide) (aB n) (B2 (by kernel_rfl) (by decide) (p6 n) (JR)))) (fun _=>rfl)
theorem p8:∀ fuel,GL prog 78 2 QV fuel
 | 0=>EK
 | n+1=>Lx (L:=[(69,0),(71,1)]) (m:=2) (fun y=>⟨y.1,y.2.1⟩) underlying78 rfl (by kernel_rfl) (B2 (by kernel_rfl) (by decide) (Z9 n) (B2 (by kernel_rfl) (by decide) (aB n) (JR))) (fun _=>rfl)
theorem p9:∀ fuel,GL prog 80 10 I5 fuel
 | 0=>EK
 | n+1=>Lx (L:=[(69,0),(69,1),(76,2),(70,6),(70,7),(78,8)]) (m:=10) (fun y=>⟨y.1,y.2.1,y.2.2.1,y.2.2.2.1,y.2.2.2.2.1,y.2.2.2.2.2.1⟩) underlying80 rfl (by kernel_rfl) (B2 (by kernel_rfl) (by decide) (Z9 n) (B2 (by kernel_rfl) (by decide) (Z9 n) (B2 (by kernel_rfl) (by decide) (p7 n) (B2 (by kernel_rfl) (by decide) (aA n) (B2 (by kernel_rfl) (by decide) (aA n) (B2 (by kernel_rfl) (by decide) (p8 n) (JR))))))) (fun _=>rfl)
end Go.Sf.Sc
