/- Lemmas. -/
import Derived.Test.YtmaobfbhdkafkaaGreatEval
set_option maxRecDepth 1000000
namespace Go.Sf.Sc
open Go Go.Sf
theorem Zf:@FE (eN 40)=some true:=by decide +kernel
theorem XT:FE=some true:=
 have h:Mo (@FE (eN 40)) (@FE B7):=inferInstance
 h.le _ Zf
end Go.Sf.Sc
