/- Lemmas. -/
import Derived.Test.YtlbmpkmkmkgniaaGreatDoorRows
import Derived.SevenTiedAt
import Derived.JoinedAt
import Derived.Handed
set_option maxRecDepth 100000
namespace Go.Proofs.YtlbmpkmkmkgniaaGreatDoor
open Go Go.Proofs.Tryz
theorem Ry:Rows.explainExplainRow.wfByText (OpenSpec.ofChange Rows.explainExplainSpec)=true:=by kernel_rfl
theorem RB : Tryz.pinned.checked.prog.mainIs = some (true, "c921fc44d8610c9993e0e4f921ff1cbe5938a80994765491d6d95cd493d05d18".toList) := by kernel_rfl
theorem QK:false=Tryz.pinned.checked.prog.looks []:=by kernel_rfl
theorem QN:([25,40,47].all fun u=>!Tryz.pinned.checked.prog.wantsStandIn u)=true:=by kernel_rfl
end Go.Proofs.YtlbmpkmkmkgniaaGreatDoor
