/- Closed facts of the row. -/
import Derived.Test.YtbedpmpjdnooiaaGreatRows
import Derived.JoinedOf
import Derived.JoinedAt
import Derived.Handed
set_option maxRecDepth 100000
namespace Go.Proofs.YtbedpmpjdnooiaaGreat
open Go Go.Proofs.Tryz
theorem sidesNamed:prog.funcNamed Rows.tripleruleSidesRow.func=some 3:=by kernel_rfl
theorem sidesFacts:joinedFacts prog 3 f3 Rows.tripleruleSidesSpec Rows.tripleruleSidesRow=true:=by kernel_rfl
end Go.Proofs.YtbedpmpjdnooiaaGreat
