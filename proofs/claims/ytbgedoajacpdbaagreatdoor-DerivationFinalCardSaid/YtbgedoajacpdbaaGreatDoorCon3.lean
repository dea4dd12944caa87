/- Contracts of the functions. -/
import Derived.Test.YtbgedoajacpdbaaGreatDoorCon0
import Derived.Test.YtbgedoajacpdbaaGreatDoorCon1
import Derived.Test.YtbgedoajacpdbaaGreatDoorCon2
import Derived.Test.YtbgedoajacpdbaaGreatDoorTryzShelf
import Derived.Test.YtbgedoajacpdbaaGreatDoorFo
set_option linter.all false
set_option maxRecDepth 100000
set_option maxHeartbeats 4000000
namespace Go.Sf.Sc
open Go Go.Sf Go.Proofs.Tryz
instance c9:Ct prog (EB ) 9 [] (fun r=>.sh (eB r)):=Fj f9 0xa23f300aa90a0eacc877a90a6ca7385d8171c1819291084910c91171c11947d43681d214c971ac10461947d436194b0cc93f164615461446ac9215c90e63 [.bld [.str ⟨#[]⟩,.list 1 [],.list 3 [],.list 4 [],.int .i64 0,.list 5 [],.list 1 [],.list 3 [],.list 4 [],.int .i64 0,.list 5 [],.list 1 [],.list 1 [],.list 1 [],.list 1 [],.bool false,.int .i64 0,.list 9 [],.list 1 [],.list 1 [],.list 1 [],.list 3 [],.list 4 [],.int .i64 0,.list 5 []] [(0,1,.c (.str ⟨#[98,105,114,116,104]⟩)),(6,5,.s 13),(16,9,.s 14)],.bin (.s) .eql (.s 63) (.c (.str ⟨#[109,111,118,101,32,48,32,40,32,41,32,40,32,41,32,40,32,41,32,59,10,109,111,118,101,32,48,32,40,32,41,32,40,32,41,32,40,32,41,32,59,10]⟩))] [.tmp 0] (h:=fun r h a b=>by
  unfold EB at h;exact nz)
instance c10(c:HT):Ct prog (NW c) 10 [GQ c] (fun r=>.sh (eB r)):=Fj f10 0xa20ec10342770a6c7c410342380b7c4103426a655b034276b1ef [] [.tmp 2] (h:=fun r h a b=>by
  unfold NW at h;exact nz)
instance c3(c:HT):Ct prog (Fu c) 3 [GQ c] (fun r=>.sh (eB r)):=Fj f3 0xa20e9e770e65653830819291de10c91171c1034276b1819291de10c911710ec103420e76b1370e8a9707440197ef [] [.tmp 2] (h:=fun r h a b=>by
  unfold Fu at h;exact nz)
end Go.Sf.Sc
