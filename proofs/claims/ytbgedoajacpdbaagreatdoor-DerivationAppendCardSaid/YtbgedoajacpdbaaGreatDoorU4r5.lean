/- Lemmas. -/
import Derived.Test.YtbgedoajacpdbaaGreatDoorRows
import Derived.SevenTiedAt
import Derived.JoinedAt
import Derived.Handed
set_option linter.all false
set_option maxRecDepth 100000
namespace Go.Proofs.YtbgedoajacpdbaaGreatDoor
open Go Go.Proofs.Tryz
theorem Qt:Rows.derivationAppendRow.wfByText (OpenSpec.ofChange Rows.derivationAppendSpec)=true:=by kernel_rfl
theorem Py:Tryz.pinned.checked.prog.mainIs=some (true, "861ff3766a97adb182fa939dbd8b4c0878652c50a4619d4f34e27c91b21eb2b9".toList):=by kernel_rfl
theorem Pe:false=Tryz.pinned.checked.prog.looks []:=by kernel_rfl
theorem Ph:([38,69].all fun u=>!Tryz.pinned.checked.prog.wantsStandIn u)=true:=by kernel_rfl
end Go.Proofs.YtbgedoajacpdbaaGreatDoor
