/- Lemmas. -/
import Derived.Test.YtmaobfbhdkafkaaGreatEval
set_option maxRecDepth 1000000
namespace Go.Sf.Sc
open Go Go.Sf
theorem dr:@F6 (eN 40)=some true:=by decide +kernel
theorem ah:F6=some true:=
 have h:Mo (@F6 (eN 40)) (@F6 CB):=inferInstance
 h.le _ dr
end Go.Sf.Sc
