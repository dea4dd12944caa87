/- Lemmas. -/
import Derived.Test.YtmaobfbhdkafkaaGreatEval
set_option maxRecDepth 1000000
namespace Go.Sf.Sc
open Go Go.Sf
theorem ZY:@FD (eN 40)=some true:=by decide +kernel
theorem XP:FD=some true:=
 have h:Mo (@FD (eN 40)) (@FD B6):=inferInstance
 h.le _ ZY
end Go.Sf.Sc
