/- Closed facts of the row. -/
import Derived.Test.YtbedpmpjdnooiaaGreatRows
import Derived.JoinedOf
import Derived.JoinedAt
import Derived.Handed
set_option maxRecDepth 100000
namespace Go.Proofs.YtbedpmpjdnooiaaGreat
open Go Go.Proofs.Tryz
theorem consistencyNamed:prog.funcNamed Rows.tripleruleConsistencyRow.func=some 5:=by kernel_rfl
theorem consistencyFacts:joinedFacts prog 5 f5 Rows.tripleruleConsistencySpec Rows.tripleruleConsistencyRow=true:=by kernel_rfl
end Go.Proofs.YtbedpmpjdnooiaaGreat
