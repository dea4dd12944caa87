/- Lemmas. -/
import Derived.Test.YthgbaecihlidaaaGreatDoorTypes
import Derived.Test.YthgbaecihlidaaaGreatDoorSfRead
import Derived.KernelRfl
set_option linter.all false
set_option maxRecDepth 100000
namespace Go.Sf.Sc
open Go Go.Sf Go.Proofs.Tryz
theorem Ta:∀fuel,DD prog 5 1 Gr fuel
 |0=>CS|_+1=>Sh underlying5
theorem sz:∀fuel,DD prog 134 2 Ip fuel
 |0=>CS|n+1=>NY (L:=[(5,0),(5,1)]) (m:=2) (fun y=>⟨y.1,y.2.1⟩) underlying134 (by kernel_rfl) (by kernel_rfl) (BF (by kernel_rfl) (by decide) (Ta n) (BF (by kernel_rfl) (by decide) (Ta n) (GZ))) (fun _=>rfl)
theorem jL:∀fuel,DD prog 22 1 (eL 2 Ip) fuel
 |0=>CS|n+1=>JP underlying22 (by kernel_rfl) (by decide) (of_decide_eq_true (by kernel_rfl)) (sz n)
theorem jM:∀fuel,DD prog 86 1 (eL 1 Gr) fuel
 |0=>CS|n+1=>JP underlying86 (by kernel_rfl) (by decide) (of_decide_eq_true (by kernel_rfl)) (Ta n)
theorem s5:∀fuel,DD prog 149 3 Fd fuel
 |0=>CS|n+1=>NY (L:=[(5,0),(5,1),(5,2)]) (m:=3) (fun y=>⟨y.1,y.2.1,y.2.2.1⟩) underlying149 (by kernel_rfl) (by kernel_rfl) (BF (by kernel_rfl) (by decide) (Ta n) (BF (by kernel_rfl) (by decide) (Ta n) (BF (by kernel_rfl) (by decide) (Ta n) (GZ)))) (fun _=>rfl)
theorem Ym:∀fuel,DD prog 24 1 (eL 3 Fd) fuel
 |0=>CS|n+1=>JP underlying24 (by kernel_rfl) (by decide) (of_decide_eq_true (by kernel_rfl)) (s5 n)
theorem ui:∀fuel,DD prog 88 2 MC fuel
 |0=>CS|n+1=>J3 (L:=[(86,0),(24,1)]) (m:=2) (fun y=>⟨y.1,y.2.1⟩) underlying88 rfl (by kernel_rfl) (BF (by kernel_rfl) (by decide) (jM n) (BF (by kernel_rfl) (by decide) (Ym n) (GZ))) (fun _=>rfl)
theorem Yn:∀fuel,DD prog 46 1 UW fuel
 |0=>CS|_+1=>Sh underlying46
theorem s7:∀fuel,DD prog 184 4 Oz fuel
 |0=>CS|n+1=>NY (L:=[(46,0),(46,1),(46,2),(46,3)]) (m:=4) (fun y=>⟨y.1,y.2.1,y.2.2.1,y.2.2.2.1⟩) underlying184 (by kernel_rfl) (by kernel_rfl) (BF (by kernel_rfl) (by decide) (Yn n) (BF (by kernel_rfl) (by decide) (Yn n) (BF (by kernel_rfl) (by decide) (Yn n) (BF (by kernel_rfl) (by decide) (Yn n) (GZ))))) (fun _=>rfl)
theorem uj:∀fuel,DD prog 89 1 (eL 4 Oz) fuel
 |0=>CS|n+1=>JP underlying89 (by kernel_rfl) (by decide) (of_decide_eq_true (by kernel_rfl)) (s7 n)
theorem uk:∀fuel,DD prog 91 4 SC fuel
 |0=>CS|n+1=>J3 (L:=[(88,0),(24,2),(89,3)]) (m:=4) (fun y=>⟨y.1,y.2.1,y.2.2.1⟩) underlying91 rfl (by kernel_rfl) (BF (by kernel_rfl) (by decide) (ui n) (BF (by kernel_rfl) (by decide) (Ym n) (BF (by kernel_rfl) (by decide) (uj n) (GZ)))) (fun _=>rfl)
theorem ul:∀fuel,DD prog 92 1 Hu fuel
 |0=>CS|_+1=>Sh underlying92
theorem tq:∀fuel,DD prog 4 1 eB fuel
 |0=>CS|_+1=>cX underlying4
theorem um:∀fuel,DD prog 93 4 Xt fuel
 |0=>CS|n+1=>NY (L:=[(5,0),(5,1),(5,2),(5,3)]) (m:=4) (fun y=>⟨y.1,y.2.1,y.2.2.1,y.2.2.2.1⟩) underlying93 (by kernel_rfl) (by kernel_rfl) (BF (by kernel_rfl) (by decide) (Ta n) (BF (by kernel_rfl) (by decide) (Ta n) (BF (by kernel_rfl) (by decide) (Ta n) (BF (by kernel_rfl) (by decide) (Ta n) (GZ))))) (fun _=>rfl)
theorem uo:∀fuel,DD prog 95 15 IK fuel
 |0=>CS|n+1=>J3 (L:=[(91,0),(92,4),(86,5),(24,6),(24,7),(4,8),(4,9),(93,10),(86,14)]) (m:=15) (fun y=>⟨y.1,y.2.1,y.2.2.1,y.2.2.2.1,y.2.2.2.2.1,y.2.2.2.2.2.1,y.2.2.2.2.2.2.1,y.2.2.2.2.2.2.2.1,y.2.2.2.2.2.2.2.2.1⟩) underlying95 rfl (by kernel_rfl) (BF (by kernel_rfl) (by decide) (uk n) (BF (by kernel_rfl) (by decide) (ul n) (BF (by kernel_rfl) (by decide) (jM n) (BF (by kernel_rfl) (by decide) (Ym n) (BF (by kernel_rfl) (by decide) (Ym n) (BF (by kernel_rfl) (by decide) (tq n) (BF (by kernel_rfl) (by decide) (tq n) (BF (by kernel_rfl) (by decide) (um n) (BF (by kernel_rfl) (by decide) (jM n) (GZ)))))))))) (fun _=>rfl)
theorem ue:∀fuel,DD prog 23 1 (eL 15 IK) fuel
 |0=>CS|n+1=>JP underlying23 (by kernel_rfl) (by decide) (of_decide_eq_true (by kernel_rfl)) (uo n)
theorem uf:∀fuel,DD prog 26 2 SB fuel
 |0=>CS|n+1=>J3 (L:=[(22,0),(24,1)]) (m:=2) (fun y=>⟨y.1,y.2.1⟩) underlying26 rfl (by kernel_rfl) (BF (by kernel_rfl) (by decide) (jL n) (BF (by kernel_rfl) (by decide) (Ym n) (GZ))) (fun _=>rfl)
theorem ug:∀fuel,DD prog 28 5 IL fuel
 |0=>CS|n+1=>J3 (L:=[(22,0),(22,1),(23,2),(26,3)]) (m:=5) (fun y=>⟨y.1,y.2.1,y.2.2.1,y.2.2.2.1⟩) underlying28 rfl (by kernel_rfl) (BF (by kernel_rfl) (by decide) (jL n) (BF (by kernel_rfl) (by decide) (jL n) (BF (by kernel_rfl) (by decide) (ue n) (BF (by kernel_rfl) (by decide) (uf n) (GZ))))) (fun _=>rfl)
theorem uh:∀fuel,DD prog 29 1 (eL 1 UW) fuel
 |0=>CS|n+1=>JP underlying29 (by kernel_rfl) (by decide) (of_decide_eq_true (by kernel_rfl)) (Yn n)
end Go.Sf.Sc
