/- Lemmas. -/
import Derived.Test.YthgbaecihlidaaaGreatDoorRows
import Derived.SevenTiedAt
import Derived.JoinedAt
import Derived.Handed
set_option linter.all false
set_option maxRecDepth 100000
namespace Go.Proofs.YthgbaecihlidaaaGreatDoor
open Go Go.Proofs.Tryz
theorem Qf:Rows.derivationAppendsRow.wfByText (OpenSpec.ofChange Rows.derivationAppendsSpec)=true:=by kernel_rfl
theorem P0:Tryz.pinned.checked.prog.mainIs=some (true, "b1fc1a4ab73de562339688ed86601e62a26f84d51675277b271f0f77fb2a655d".toList):=by kernel_rfl
theorem PH:false=Tryz.pinned.checked.prog.looks []:=by kernel_rfl
theorem PK:([28,29].all fun u=>!Tryz.pinned.checked.prog.wantsStandIn u)=true:=by kernel_rfl
end Go.Proofs.YthgbaecihlidaaaGreatDoor
