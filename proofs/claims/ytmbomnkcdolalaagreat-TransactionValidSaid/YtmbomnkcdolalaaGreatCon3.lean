/- Contracts of the functions. -/
import Derived.Test.YtmbomnkcdolalaaGreatCon0
import Derived.Test.YtmbomnkcdolalaaGreatCon1
import Derived.Test.YtmbomnkcdolalaaGreatCon2
import Derived.Test.YtmbomnkcdolalaaGreatTryzShelf
import Derived.Test.YtmbomnkcdolalaaGreatTw
set_option linter.all false
set_option maxRecDepth 100000
set_option maxHeartbeats 4000000
namespace Go.Sf.Sc
open Go Go.Sf Go.Proofs.Tryz
instance c9:Ct prog (EA ) 9 [] (fun r=>.sh (eB r)):=Fj f9 0x81e0a875e07641df8030bcb7a875e07641df803080ad5c7704fc72d27f7704c9116f5844d28205471c461c461c461c461c46db04fc1646558219473f1b461a461946b79f17c90e62 [.bld [.str ⟨#[]⟩,.list 1 [],.list 3 [],.list 4 [],.int .i64 0,.list 5 [],.list 1 [],.list 3 [],.list 4 [],.int .i64 0,.list 5 [],.list 1 [],.list 1 [],.list 1 [],.list 1 [],.bool false,.int .i64 0,.list 9 [],.list 1 [],.list 1 [],.list 1 [],.list 3 [],.list 4 [],.int .i64 0,.list 5 []] [(0,1,.c (.str ⟨#[98,105,114,116,104]⟩)),(6,5,.s 14),(16,9,.s 15)]] [.tmp 0] (h:=fun r h a b=>by
  unfold EA at h;exact nz)
instance y6(c:GH):Ct prog (Na c) 10 [GO c] (fun r=>.sh (eB r)):=Fj f10 0x81bc7203426a645a5a03429ea901a2 [] [.tmp 2] (h:=fun r h a b=>by
  unfold Na at h;exact nz)
instance c3(c:GH):Ct prog (FO c) 3 [GO c] (fun r=>.sh (eB r)):=Fj f3 0x81800e7203429ea90e0e7203420e9ea901bc72725830db04fc645a5a0342a9db04fc0e645a5a0342a9380e8a910844019101a2 [] [.tmp 2] (h:=fun r h a b=>by
  unfold FO at h;exact nz)
end Go.Sf.Sc
