/- Lemmas. -/
import Derived.Test.YthgbaecihlidaaaGreatDoorTypes
import Derived.Test.YthgbaecihlidaaaGreatDoorSfRead
import Derived.KernelRfl
set_option linter.all false
set_option maxRecDepth 100000
namespace Go.Sf.Sc
open Go Go.Sf Go.Proofs.Tryz
theorem Td:∀fuel,DD prog 5 1 Gt fuel
 |0=>CS|_+1=>Sn underlying5
theorem ue:∀fuel,DD prog 134 2 Ir fuel
 |0=>CS|n+1=>NZ (L:=[(5,0),(5,1)]) (m:=2) (fun y=>⟨y.1,y.2.1⟩) underlying134 (by kernel_rfl) (by kernel_rfl) (BF (by kernel_rfl) (by decide) (Td n) (BF (by kernel_rfl) (by decide) (Td n) (Ga))) (fun _=>rfl)
theorem jY:∀fuel,DD prog 22 1 (eL 2 Ir) fuel
 |0=>CS|n+1=>JS underlying22 (by kernel_rfl) (by decide) (of_decide_eq_true (by kernel_rfl)) (ue n)
theorem jZ:∀fuel,DD prog 86 1 (eL 1 Gt) fuel
 |0=>CS|n+1=>JS underlying86 (by kernel_rfl) (by decide) (of_decide_eq_true (by kernel_rfl)) (Td n)
theorem uf:∀fuel,DD prog 149 3 Ff fuel
 |0=>CS|n+1=>NZ (L:=[(5,0),(5,1),(5,2)]) (m:=3) (fun y=>⟨y.1,y.2.1,y.2.2.1⟩) underlying149 (by kernel_rfl) (by kernel_rfl) (BF (by kernel_rfl) (by decide) (Td n) (BF (by kernel_rfl) (by decide) (Td n) (BF (by kernel_rfl) (by decide) (Td n) (Ga)))) (fun _=>rfl)
theorem Yo:∀fuel,DD prog 24 1 (eL 3 Ff) fuel
 |0=>CS|n+1=>JS underlying24 (by kernel_rfl) (by decide) (of_decide_eq_true (by kernel_rfl)) (uf n)
theorem wq:∀fuel,DD prog 88 2 MD fuel
 |0=>CS|n+1=>J5 (L:=[(86,0),(24,1)]) (m:=2) (fun y=>⟨y.1,y.2.1⟩) underlying88 rfl (by kernel_rfl) (BF (by kernel_rfl) (by decide) (jZ n) (BF (by kernel_rfl) (by decide) (Yo n) (Ga))) (fun _=>rfl)
theorem Yp:∀fuel,DD prog 46 1 Ua fuel
 |0=>CS|_+1=>Sn underlying46
theorem ug:∀fuel,DD prog 184 4 O2 fuel
 |0=>CS|n+1=>NZ (L:=[(46,0),(46,1),(46,2),(46,3)]) (m:=4) (fun y=>⟨y.1,y.2.1,y.2.2.1,y.2.2.2.1⟩) underlying184 (by kernel_rfl) (by kernel_rfl) (BF (by kernel_rfl) (by decide) (Yp n) (BF (by kernel_rfl) (by decide) (Yp n) (BF (by kernel_rfl) (by decide) (Yp n) (BF (by kernel_rfl) (by decide) (Yp n) (Ga))))) (fun _=>rfl)
theorem wt:∀fuel,DD prog 89 1 (eL 4 O2) fuel
 |0=>CS|n+1=>JS underlying89 (by kernel_rfl) (by decide) (of_decide_eq_true (by kernel_rfl)) (ug n)
theorem wu:∀fuel,DD prog 91 4 SF fuel
 |0=>CS|n+1=>J5 (L:=[(88,0),(24,2),(89,3)]) (m:=4) (fun y=>⟨y.1,y.2.1,y.2.2.1⟩) underlying91 rfl (by kernel_rfl) (BF (by kernel_rfl) (by decide) (wq n) (BF (by kernel_rfl) (by decide) (Yo n) (BF (by kernel_rfl) (by decide) (wt n) (Ga)))) (fun _=>rfl)
theorem wv:∀fuel,DD prog 92 1 Hx fuel
 |0=>CS|_+1=>Sn underlying92
theorem v7:∀fuel,DD prog 4 1 eB fuel
 |0=>CS|_+1=>cc underlying4
theorem ww:∀fuel,DD prog 93 4 Xv fuel
 |0=>CS|n+1=>NZ (L:=[(5,0),(5,1),(5,2),(5,3)]) (m:=4) (fun y=>⟨y.1,y.2.1,y.2.2.1,y.2.2.2.1⟩) underlying93 (by kernel_rfl) (by kernel_rfl) (BF (by kernel_rfl) (by decide) (Td n) (BF (by kernel_rfl) (by decide) (Td n) (BF (by kernel_rfl) (by decide) (Td n) (BF (by kernel_rfl) (by decide) (Td n) (Ga))))) (fun _=>rfl)
theorem wx:∀fuel,DD prog 95 15 IN fuel
 |0=>CS|n+1=>J5 (L:=[(91,0),(92,4),(86,5),(24,6),(24,7),(4,8),(4,9),(93,10),(86,14)]) (m:=15) (fun y=>⟨y.1,y.2.1,y.2.2.1,y.2.2.2.1,y.2.2.2.2.1,y.2.2.2.2.2.1,y.2.2.2.2.2.2.1,y.2.2.2.2.2.2.2.1,y.2.2.2.2.2.2.2.2.1⟩) underlying95 rfl (by kernel_rfl) (BF (by kernel_rfl) (by decide) (wu n) (BF (by kernel_rfl) (by decide) (wv n) (BF (by kernel_rfl) (by decide) (jZ n) (BF (by kernel_rfl) (by decide) (Yo n) (BF (by kernel_rfl) (by decide) (Yo n) (BF (by kernel_rfl) (by decide) (v7 n) (BF (by kernel_rfl) (by decide) (v7 n) (BF (by kernel_rfl) (by decide) (ww n) (BF (by kernel_rfl) (by decide) (jZ n) (Ga)))))))))) (fun _=>rfl)
theorem wl:∀fuel,DD prog 23 1 (eL 15 IN) fuel
 |0=>CS|n+1=>JS underlying23 (by kernel_rfl) (by decide) (of_decide_eq_true (by kernel_rfl)) (wx n)
theorem wm:∀fuel,DD prog 26 2 SE fuel
 |0=>CS|n+1=>J5 (L:=[(22,0),(24,1)]) (m:=2) (fun y=>⟨y.1,y.2.1⟩) underlying26 rfl (by kernel_rfl) (BF (by kernel_rfl) (by decide) (jY n) (BF (by kernel_rfl) (by decide) (Yo n) (Ga))) (fun _=>rfl)
theorem wn:∀fuel,DD prog 28 5 IP fuel
 |0=>CS|n+1=>J5 (L:=[(22,0),(22,1),(23,2),(26,3)]) (m:=5) (fun y=>⟨y.1,y.2.1,y.2.2.1,y.2.2.2.1⟩) underlying28 rfl (by kernel_rfl) (BF (by kernel_rfl) (by decide) (jY n) (BF (by kernel_rfl) (by decide) (jY n) (BF (by kernel_rfl) (by decide) (wl n) (BF (by kernel_rfl) (by decide) (wm n) (Ga))))) (fun _=>rfl)
theorem wo:∀fuel,DD prog 29 1 (eL 1 Ua) fuel
 |0=>CS|n+1=>JS underlying29 (by kernel_rfl) (by decide) (of_decide_eq_true (by kernel_rfl)) (Yp n)
end Go.Sf.Sc
