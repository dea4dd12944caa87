/- Contracts of the functions. -/
import Derived.Test.YtdnblcjdhbadaaaGreatCon0
import Derived.Test.YtdnblcjdhbadaaaGreatCon1
import Derived.Test.YtdnblcjdhbadaaaGreatCon2
import Derived.Test.YtdnblcjdhbadaaaGreatTryzShelf
import Derived.Test.YtdnblcjdhbadaaaGreatTw
set_option linter.all false
set_option maxRecDepth 100000
set_option maxHeartbeats 4000000
namespace Go.Sf.Sc
open Go Go.Sf Go.Proofs.Tryz
instance c21:Ct prog (JK ) 21 [] (fun r=>.sh (Bq r)):=Fj f21 0x194b3f094608460c46034707460746b10ec900 [.bld [.str ⟨#[]⟩,.list 1 [],.list 3 [],.list 4 [],.int .i64 0,.list 5 [],.list 1 [],.list 3 [],.list 4 [],.int .i64 0,.list 5 [],.list 1 [],.list 1 [],.list 1 [],.list 1 [],.bool false,.int .i64 0,.list 9 [],.list 1 [],.list 1 [],.list 1 [],.list 3 [],.list 4 [],.int .i64 0,.list 5 []] [(0,1,.c (.str ⟨#[99,108,97,115,115,101,115]⟩)),(6,5,.s 6),(15,1,.c (.bool true)),(16,9,.s 7)]] [.cell 0 (some 25)] (h:=fun r h a b=>by
  unfold JK at h;exact nz)
instance c5:Ct prog (JW ) 5 [] (fun r=>.sh (eB r)):=Fj f5 0xf578fd066a0aa547920aa547fd016a9f310aa547fdcd585fa7194bdf0ec911bc6f3881194b0ec9bc6f38a7a7df01c9bc69 [] [.tmp 0] (h:=fun r h a b=>by
  unfold JW at h;exact nz)
instance c3(c:Ou)(a:Ai):Ct prog (Fc c a) 3 [Kz c,C1 a] (fun r=>.sh (eB r)):=Fj f3 0x81b72644264401b726442644583181caca14c914c911bc264438c4eb81caca14c914c911bc264438c4eb550e8ad0264438b30a086f026a08a590 [] [.tmp 4] (h:=fun r h b d=>by
  unfold Fc at h;exact nz)
end Go.Sf.Sc
