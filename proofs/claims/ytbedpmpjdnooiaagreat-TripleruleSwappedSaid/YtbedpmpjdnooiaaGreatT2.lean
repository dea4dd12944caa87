/- Closed facts of the row. -/
import Derived.Test.YtbedpmpjdnooiaaGreatRows
import Derived.JoinedOf
import Derived.JoinedAt
import Derived.Handed
set_option maxRecDepth 100000
namespace Go.Proofs.YtbedpmpjdnooiaaGreat
open Go Go.Proofs.Tryz
theorem swappedNamed:prog.funcNamed Rows.tripleruleSwappedRow.func=some 7:=by kernel_rfl
theorem swappedFacts:joinedFacts prog 7 f7 Rows.tripleruleSwappedSpec Rows.tripleruleSwappedRow=true:=by kernel_rfl
end Go.Proofs.YtbedpmpjdnooiaaGreat
