/- Contracts of the functions. -/
import Derived.Test.YtbgedoajacpdbaaGreatDoorCon0
import Derived.Test.YtbgedoajacpdbaaGreatDoorCon1
import Derived.Test.YtbgedoajacpdbaaGreatDoorCon2
import Derived.Test.YtbgedoajacpdbaaGreatDoorTryzShelf
import Derived.Test.YtbgedoajacpdbaaGreatDoorFo
set_option linter.all false
set_option maxRecDepth 100000
set_option maxHeartbeats 4000000
namespace Go.Sf.Sc
open Go Go.Sf Go.Proofs.Tryz
instance c9:Ct prog (EF ) 9 [] (fun r=>.sh (eB r)):=Fj f9 0xa13f300aaa0a0eacc877aa0a6ca6385d8170b1819691084910c91170b11947d53681bb14c970ac10461947d536194b0cc93f164615461446ac9615c90e63 [.bld [.str ⟨#[]⟩,.list 1 [],.list 3 [],.list 4 [],.int .i64 0,.list 5 [],.list 1 [],.list 3 [],.list 4 [],.int .i64 0,.list 5 [],.list 1 [],.list 1 [],.list 1 [],.list 1 [],.bool false,.int .i64 0,.list 9 [],.list 1 [],.list 1 [],.list 1 [],.list 3 [],.list 4 [],.int .i64 0,.list 5 []] [(0,1,.c (.str ⟨#[98,105,114,116,104]⟩)),(6,5,.s 13),(16,9,.s 14)],.bin (.s) .eql (.s 63) (.c (.str ⟨#[109,111,118,101,32,48,32,40,32,41,32,40,32,41,32,40,32,41,32,59,10,109,111,118,101,32,48,32,40,32,41,32,40,32,41,32,40,32,41,32,59,10]⟩))] [.tmp 0] (h:=fun r h a b=>by
  unfold EF at h;exact nz)
instance c10(c:HZ):Ct prog (Nb c) 10 [GW c] (fun r=>.sh (eB r)):=Fj f10 0xa10eb1f0770a6c7841f0380b7841f069655bf076b2f9 [] [.tmp 2] (h:=fun r h a b=>by
  unfold Nb at h;exact nz)
instance c5(c:HZ)(m:Bq):Ct prog (FV c m) 5 [GW c,DA m] (fun r=>.sh (eB r)):=Fj f5 0xa10eb1b1383081bb14c970b1b1f076b281bb14c970b10eb1f00e76b2370e8a9765b7779707440197019d [] [.tmp 4] (h:=fun r h a b=>by
  unfold FV at h;exact nz)
end Go.Sf.Sc
