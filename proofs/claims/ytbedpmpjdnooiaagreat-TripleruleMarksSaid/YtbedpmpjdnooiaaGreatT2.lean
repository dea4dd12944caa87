/- Closed facts of the row. -/
import Derived.Test.YtbedpmpjdnooiaaGreatRows
import Derived.JoinedOf
import Derived.JoinedAt
import Derived.Handed
set_option maxRecDepth 100000
namespace Go.Proofs.YtbedpmpjdnooiaaGreat
open Go Go.Proofs.Tryz
theorem marksNamed:prog.funcNamed Rows.tripleruleMarksRow.func=some 6:=by kernel_rfl
theorem marksFacts:joinedFacts prog 6 f6 Rows.tripleruleMarksSpec Rows.tripleruleMarksRow=true:=by kernel_rfl
end Go.Proofs.YtbedpmpjdnooiaaGreat
