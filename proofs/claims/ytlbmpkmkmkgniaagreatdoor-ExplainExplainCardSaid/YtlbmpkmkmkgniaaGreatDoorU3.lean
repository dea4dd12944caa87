/- Lemmas. -/
import Derived.Test.YtlbmpkmkmkgniaaGreatDoorRows
import Derived.SevenTiedAt
import Derived.JoinedAt
import Derived.Handed
set_option maxRecDepth 100000
namespace Go.Proofs.YtlbmpkmkmkgniaaGreatDoor
open Go Go.Proofs.Tryz
theorem Q9:false=Rows.explainExplainRow.goesBy Tryz.pinned.checked.prog:=by kernel_rfl
end Go.Proofs.YtlbmpkmkmkgniaaGreatDoor
