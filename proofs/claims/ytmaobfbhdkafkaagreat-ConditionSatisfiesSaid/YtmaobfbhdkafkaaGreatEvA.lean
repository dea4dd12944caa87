/- Lemmas. -/
import Derived.Test.YtmaobfbhdkafkaaGreatEval
set_option maxRecDepth 1000000
namespace Go.Sf.Sc
open Go Go.Sf
theorem Zd:@E8 (eN 40)=some true:=by decide +kernel
theorem XU:E8=some true:=
 have h:Mo (@E8 (eN 40)) (@E8 B4):=inferInstance
 h.le _ Zd
end Go.Sf.Sc
