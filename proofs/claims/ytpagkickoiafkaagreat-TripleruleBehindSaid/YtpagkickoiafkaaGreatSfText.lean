/- Contracts of functions of Go's library that give texts. No program. -/
import Derived.Test.YtpagkickoiafkaaGreatSfLib
import Derived.Lib.ItoaNum
import Derived.Lib.Join
set_option linter.all false
namespace Go.Sf
open Go.RowKit (Below)
end Go.Sf
