/- Plain lemmas: what the functions of the program and of the reference compute. -/
import Derived.Test.YtbedpmpjdnooiaaGreatP13
set_option maxRecDepth 100000
namespace Go.Sf
end Go.Sf
namespace Go.Sf.Sc
open Go Go.Sf
theorem r_copied {g:Graph} (h1:g.Nodes.length<=1000) (h2:g.Edges.length<=1000):ref05_Copied g=some g:=by
 unfold ref05_Copied
 rw [appC_nil (by unfold nmax; omega),bs,appC_nil (by unfold nmax; omega)]; rfl
end Go.Sf.Sc
