/- Closed facts of the row. -/
import Derived.Test.YtbedpmpjdnooiaaGreatRows
import Derived.JoinedOf
import Derived.JoinedAt
import Derived.Handed
set_option maxRecDepth 100000
namespace Go.Proofs.YtbedpmpjdnooiaaGreat
open Go Go.Proofs.Tryz
theorem sameNamed:prog.funcNamed Rows.tripleruleSameRow.func=some 8:=by kernel_rfl
theorem sameFacts:joinedFacts prog 8 f8 Rows.tripleruleSameSpec Rows.tripleruleSameRow=true:=by kernel_rfl
end Go.Proofs.YtbedpmpjdnooiaaGreat
