/- Closed facts of the row. -/
import Derived.Test.YtbedpmpjdnooiaaGreatRows
import Derived.JoinedOf
import Derived.JoinedAt
import Derived.Handed
set_option maxRecDepth 100000
namespace Go.Proofs.YtbedpmpjdnooiaaGreat
open Go Go.Proofs.Tryz
theorem forwardNamed:prog.funcNamed Rows.tripleruleForwardRow.func=some 4:=by kernel_rfl
theorem forwardFacts:joinedFacts prog 4 f4 Rows.tripleruleForwardSpec Rows.tripleruleForwardRow=true:=by kernel_rfl
end Go.Proofs.YtbedpmpjdnooiaaGreat
