/- Contracts of the functions. -/
import Derived.Test.YtbgedoajacpdbaaGreatDoorCon0
import Derived.Test.YtbgedoajacpdbaaGreatDoorCon1
import Derived.Test.YtbgedoajacpdbaaGreatDoorCon2
import Derived.Test.YtbgedoajacpdbaaGreatDoorTryzShelf
import Derived.Test.YtbgedoajacpdbaaGreatDoorFo
set_option linter.all false
set_option maxRecDepth 100000
set_option maxHeartbeats 4000000
namespace Go.Sf.Sc
open Go Go.Sf Go.Proofs.Tryz
instance c9:Ct prog (EF ) 9 [] (fun r=>.sh (eB r)):=Fj f9 0xa13f300aa70a0eb2cd77a70a6cac385d8171c5819d9f084910c91171c51947d13681cb14c971b210461947d136194b0cc93f164615461446b29d15c90e63 [.bld [.str ⟨#[]⟩,.list 1 [],.list 3 [],.list 4 [],.int .i64 0,.list 5 [],.list 1 [],.list 3 [],.list 4 [],.int .i64 0,.list 5 [],.list 1 [],.list 1 [],.list 1 [],.list 1 [],.bool false,.int .i64 0,.list 9 [],.list 1 [],.list 1 [],.list 1 [],.list 3 [],.list 4 [],.int .i64 0,.list 5 []] [(0,1,.c (.str ⟨#[98,105,114,116,104]⟩)),(6,5,.s 13),(16,9,.s 14)],.bin (.s) .eql (.s 63) (.c (.str ⟨#[109,111,118,101,32,48,32,40,32,41,32,40,32,41,32,40,32,41,32,59,10,109,111,118,101,32,48,32,40,32,41,32,40,32,41,32,40,32,41,32,59,10]⟩))] [.tmp 0] (h:=fun r h a b=>by
  unfold EF at h;exact nz)
instance c10(c:He):Ct prog (Nh c) 10 [GV c] (fun r=>.sh (eB r)):=Fj f10 0xa10ec50342770a6c7e410342380b7e41034269655b034276adf4 [] [.tmp 2] (h:=fun r h a b=>by
  unfold Nh at h;exact nz)
instance c4(c:He)(a:Fp):Ct prog (Fa c a) 4 [GV c,lI a] (fun r=>.sh (eB r)):=Fj f4 0xa10ec5c5383081cb14c97101655b034276ad81cb14c9710e69655b03420e76ad370e8a6c300a0a6c306c300a9207440192de [] [.tmp 4] (h:=fun r h b d=>by
  unfold Fa at h;exact nz)
end Go.Sf.Sc
