/- Plain lemmas: what the functions of the program and of the reference compute. -/
import Derived.Test.YtpagkickoiafkaaGreatP206
set_option linter.all false
set_option maxRecDepth 100000
namespace Go.Sf
end Go.Sf
namespace Go.Sf.Sc
open Go Go.Sf
section
variable{a b:AN}
end
end Go.Sf.Sc
