/- Plain lemmas: what the functions of the program and of the reference compute. -/
import Derived.Test.YtpagkickoiafkaaGreatP207
set_option linter.all false
set_option maxRecDepth 100000
namespace Go.Sf.Sc
open Go Go.Sf
abbrev rB(L R:ff)(m:f0):jg:=dx ⟨#[114]⟩ L R m
section
variable{L R:ff}{m:f0}{H:ff}{M:f0}
end
end Go.Sf.Sc
