/- What is read of the arguments of the law. -/
import Derived.Test.YtbedpmpjdnooiaaGreatTypes
import Derived.Test.YtbedpmpjdnooiaaGreatSfClaim
import Derived.KernelRfl
set_option maxRecDepth 100000
namespace Go.Sf.Sc
open Go Go.Sf Go.Proofs.Tryz
theorem rd5:∀ fuel,Reads prog 5 1 eU8 fuel
 | 0=>reads_zero
 | _+1=>reads_int underlying5
theorem rd148:∀ fuel,Reads prog 148 2 eArr2_u8 fuel
 | 0=>reads_zero
 | n+1=>reads_array (L:=[(5,0),(5,1)]) (m:=2) (fun y=>⟨y.1,y.2.1⟩) underlying148 (by kernel_rfl) (by kernel_rfl) (fields_cons (by kernel_rfl) (by decide) (rd5 n) (fields_cons (by kernel_rfl) (by decide) (rd5 n) (fields_nil))) (fun _=>rfl)
theorem rd56:∀ fuel,Reads prog 56 1 (eL 2 eArr2_u8) fuel
 | 0=>reads_zero
 | n+1=>reads_slice underlying56 (by kernel_rfl) (by decide) (of_decide_eq_true (by kernel_rfl)) (rd148 n)
theorem rd107:∀ fuel,Reads prog 107 3 eArr3_u8 fuel
 | 0=>reads_zero
 | n+1=>reads_array (L:=[(5,0),(5,1),(5,2)]) (m:=3) (fun y=>⟨y.1,y.2.1,y.2.2.1⟩) underlying107 (by kernel_rfl) (by kernel_rfl) (fields_cons (by kernel_rfl) (by decide) (rd5 n) (fields_cons (by kernel_rfl) (by decide) (rd5 n) (fields_cons (by kernel_rfl) (by decide) (rd5 n) (fields_nil)))) (fun _=>rfl)
theorem rd57:∀ fuel,Reads prog 57 1 (eL 3 eArr3_u8) fuel
 | 0=>reads_zero
 | n+1=>reads_slice underlying57 (by kernel_rfl) (by decide) (of_decide_eq_true (by kernel_rfl)) (rd107 n)
theorem rd59:∀ fuel,Reads prog 59 2 eref15_Draft fuel
 | 0=>reads_zero
 | n+1=>reads_struct (L:=[(56,0),(57,1)]) (m:=2) (fun y=>⟨y.1,y.2.1⟩) underlying59 rfl (by kernel_rfl) (fields_cons (by kernel_rfl) (by decide) (rd56 n) (fields_cons (by kernel_rfl) (by decide) (rd57 n) (fields_nil))) (fun _=>rfl)
theorem rd60:∀ fuel,Reads prog 60 1 (eL 1 eU8) fuel
 | 0=>reads_zero
 | n+1=>reads_slice underlying60 (by kernel_rfl) (by decide) (of_decide_eq_true (by kernel_rfl)) (rd5 n)
theorem rd62:∀ fuel,Reads prog 62 4 eref53_Draft fuel
 | 0=>reads_zero
 | n+1=>reads_struct (L:=[(59,0),(60,2),(57,3)]) (m:=4) (fun y=>⟨y.1,y.2.1,y.2.2.1⟩) underlying62 rfl (by kernel_rfl) (fields_cons (by kernel_rfl) (by decide) (rd59 n) (fields_cons (by kernel_rfl) (by decide) (rd60 n) (fields_cons (by kernel_rfl) (by decide) (rd57 n) (fields_nil)))) (fun _=>rfl)
end Go.Sf.Sc
