/- Contracts of the functions. -/
import Derived.Test.YthhobbgaejimgaaGreatDoorCon0
import Derived.Test.YthhobbgaejimgaaGreatDoorCon1
import Derived.Test.YthhobbgaejimgaaGreatDoorCon2
import Derived.Test.YthhobbgaejimgaaGreatDoorTryzShelf
import Derived.Test.YthhobbgaejimgaaGreatDoorFo
set_option linter.all false
set_option maxRecDepth 100000
set_option maxHeartbeats 4000000
namespace Go.Sf.Sc
open Go Go.Sf Go.Proofs.Tryz
instance c5:Ct prog (DA ) 5 [] (fun r=>.sh (eB r)):=Fj f5 0xc33f3073300a0eb4d50173300a6f9f53df6da781a9920a4901c9116da71947e438819b14c96db413461947e438194b0ec93f164615461446b4a900c90e5e [.tn [.str ⟨#[]⟩,.list 1 [],.list 3 [],.list 4 [],.int .i64 0,.list 5 [],.list 1 [],.list 3 [],.list 4 [],.int .i64 0,.list 5 [],.list 1 [],.list 1 [],.list 1 [],.list 1 [],.bool false,.int .i64 0,.list 9 [],.list 1 [],.list 1 [],.list 1 [],.list 3 [],.list 4 [],.int .i64 0,.list 5 []] [(0,1,.c (.str ⟨#[98,105,114,116,104]⟩)),(6,5,.s 13),(16,9,.s 14)],.bin (.s) .eql (.s 63) (.c (.str ⟨#[109,111,118,101,32,48,32,40,32,41,32,40,32,41,32,40,32,41,32,59,10,109,111,118,101,32,48,32,40,32,41,32,40,32,41,32,40,32,41,32,59,10]⟩))] [.tmp 0] (h:=fun r h a b=>by
  unfold DA at h;exact nz)
instance c4(t:AB)(a:AL)(b:ByteArray):Ct prog (EQ t a b) 4 [AS t,CL a,eS b] (fun r=>.sh (eB r)):=Fj f4 0xc30ea7a70173ed306c9b14c9116d0165386c9b14c9116d6965970e8a050c300a8965010a898d890163bc [] [.tmp 6] (h:=fun r h c d=>by
  unfold EQ at h;exact nz)
end Go.Sf.Sc
