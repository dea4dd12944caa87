/- Lemmas. -/
import Derived.Test.YtmaobfbhdkafkaaGreatEval
set_option maxRecDepth 1000000
namespace Go.Sf.Sc
open Go Go.Sf
theorem awake_x:law22_awakex 40=some true:=by decide +kernel
theorem awake_is:law22_awake=some true:=law22_awake_x 40 _ awake_x
end Go.Sf.Sc
