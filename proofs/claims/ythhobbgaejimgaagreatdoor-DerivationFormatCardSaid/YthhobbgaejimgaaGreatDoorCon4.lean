/- Contracts of the functions. -/
import Derived.Test.YthhobbgaejimgaaGreatDoorCon0
import Derived.Test.YthhobbgaejimgaaGreatDoorCon1
import Derived.Test.YthhobbgaejimgaaGreatDoorCon2
import Derived.Test.YthhobbgaejimgaaGreatDoorCon3
import Derived.Test.YthhobbgaejimgaaGreatDoorTryzShelf
import Derived.Test.YthhobbgaejimgaaGreatDoorFo
set_option linter.all false
set_option maxRecDepth 100000
set_option maxHeartbeats 4000000
namespace Go.Sf.Sc
open Go Go.Sf Go.Proofs.Tryz
instance c5:Ct prog (CY ) 5 [] (fun r=>.sh (eB r)):=Fj f5 0xd63ff7300a0eacd4e7f70b8453e56c9d81b2970a4901c9116c9d1947ea38819b14c96cac13461947ea38194b0ec93f164615461446acb200c90e5f [.tQ [.str ⟨#[]⟩,.list 1 [],.list 3 [],.list 4 [],.int .i64 0,.list 5 [],.list 1 [],.list 3 [],.list 4 [],.int .i64 0,.list 5 [],.list 1 [],.list 1 [],.list 1 [],.list 1 [],.bool false,.int .i64 0,.list 9 [],.list 1 [],.list 1 [],.list 1 [],.list 3 [],.list 4 [],.int .i64 0,.list 5 []] [(0,1,.c (.str ⟨#[98,105,114,116,104]⟩)),(6,5,.s 13),(16,9,.s 14)],.bin (.s) .eql (.s 63) (.c (.str ⟨#[109,111,118,101,32,48,32,40,32,41,32,40,32,41,32,40,32,41,32,59,10,109,111,118,101,32,48,32,40,32,41,32,40,32,41,32,40,32,41,32,59,10]⟩))] [.tmp 0] (h:=fun r h a b=>by
  unfold CY at h;exact nz)
instance c3(d:AL):Ct prog (D7 d) 3 [BF d] (fun r=>.sh (eB r)):=Fj f3 0xc30bd332010a0e8484e778e59b14c9116c0113460e366191116ccb6e6a06308a05f76a06306b6c9d6b6c0e9d360e8a7d9d017d7f00 [] [.tmp 2] (h:=fun r h a b=>by
  unfold D7 at h;exact nz)
instance c4(t:AB)(a:AM)(b:ByteArray):Ct prog (IH t a b) 4 [AU t,CM a,eS b] (fun r=>.sh (eB r)):=Fj f4 0xd60e9d9de7ec306b9b14c9116c0165386b9b14c9116c696538360e8a050c300a7d65010a7d38017d01640201 [] [.tmp 6] (h:=fun r h c d=>by
  unfold IH at h;exact nz)
end Go.Sf.Sc
