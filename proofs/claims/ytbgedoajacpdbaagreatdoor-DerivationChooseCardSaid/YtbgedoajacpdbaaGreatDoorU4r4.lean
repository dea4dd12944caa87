/- Lemmas. -/
import Derived.Test.YtbgedoajacpdbaaGreatDoorRows
import Derived.SevenTiedAt
import Derived.JoinedAt
import Derived.Handed
set_option linter.all false
set_option maxRecDepth 100000
namespace Go.Proofs.YtbgedoajacpdbaaGreatDoor
open Go Go.Proofs.Tryz
theorem Qq:Rows.derivationChooseRow.wfByText (OpenSpec.ofChange Rows.derivationChooseSpec)=true:=by kernel_rfl
theorem Pw:Tryz.pinned.checked.prog.mainIs=some (true, "861ff3766a97adb182fa939dbd8b4c0878652c50a4619d4f34e27c91b21eb2b9".toList):=by kernel_rfl
theorem Pf:false=Tryz.pinned.checked.prog.looks []:=by kernel_rfl
theorem Pj:([38,27].all fun u=>!Tryz.pinned.checked.prog.wantsStandIn u)=true:=by kernel_rfl
end Go.Proofs.YtbgedoajacpdbaaGreatDoor
