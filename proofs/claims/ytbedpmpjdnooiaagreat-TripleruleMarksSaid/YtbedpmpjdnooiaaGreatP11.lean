/- Plain lemmas: what the functions of the program and of the reference compute. -/
import Derived.Test.YtbedpmpjdnooiaaGreatP10
import Derived.Test.YtbedpmpjdnooiaaGreatSfRead
set_option maxRecDepth 100000
namespace Go.Sf
end Go.Sf
namespace Go.Sf.Sc
open Go Go.Sf
end Go.Sf.Sc
