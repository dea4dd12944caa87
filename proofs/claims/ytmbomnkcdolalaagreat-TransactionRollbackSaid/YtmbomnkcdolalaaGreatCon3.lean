/- Contracts of the functions. -/
import Derived.Test.YtmbomnkcdolalaaGreatCon0
import Derived.Test.YtmbomnkcdolalaaGreatCon1
import Derived.Test.YtmbomnkcdolalaaGreatCon2
import Derived.Test.YtmbomnkcdolalaaGreatTryzShelf
import Derived.Test.YtmbomnkcdolalaaGreatTw
set_option linter.all false
set_option maxRecDepth 100000
set_option maxHeartbeats 4000000
namespace Go.Sf.Sc
open Go Go.Sf Go.Proofs.Tryz
instance c9:Ct prog (C0 ) 9 [] (fun r=>.sh (eB r)):=Fj f9 0xb86ba5740a6b7641dd8930f9ada5740a6b7641dd893089b25b70cf716ccc7d70cf11715844cc8205471c461c461c461c461c46b7cf711646558219473f1b461a461946ad9a17c90e62 [.bld [.str ⟨#[]⟩,.list 1 [],.list 3 [],.list 4 [],.int .i64 0,.list 5 [],.list 1 [],.list 3 [],.list 4 [],.int .i64 0,.list 5 [],.list 1 [],.list 1 [],.list 1 [],.list 1 [],.bool false,.int .i64 0,.list 9 [],.list 1 [],.list 1 [],.list 1 [],.list 3 [],.list 4 [],.int .i64 0,.list 5 []] [(0,1,.c (.str ⟨#[98,105,114,116,104]⟩)),(6,5,.s 14),(16,9,.s 15)]] [.tmp 0] (h:=fun r h a b=>by
  unfold C0 at h;exact nz)
instance c10(c:DM):Ct prog (KN c) 10 [CP c] (fun r=>.sh (eB r)):=Fj f10 0xb80e6c03426a655a5a03429baa019f [] [.tmp 2] (h:=fun r h a b=>by
  unfold KN at h;exact nz)
instance c4(c:DM):Ct prog (E5 c) 4 [CP c] (fun r=>.sh (eB r)):=Fj f4 0xb80e6c6c5830b7cf716c03429baab7cf710e6c03420e9baa380e8a9008440190019f [] [.tmp 2] (h:=fun r h a b=>by
  unfold E5 at h;exact nz)
instance c22(a:BJ):Ct prog (CY a) 22 [Dk a] (fun r=>.sh (eB r)):=Fj f22 0x819065014101749f [] [.tmp 2] (h:=fun r h b c=>by
  unfold CY at h;exact nz)
instance c5(c:DM)(l:List BJ):Ct prog (Ge c l) 5 [CP c,(eL 5 Dk) l] (fun r=>.sh (eB r)):=Fj f5 0xb80e6c6c0189eb307d70cf1171584403429baa7d70cf11710e6a6c03420e9baa380e8a3f300a6b300a0a6b306b300a900844019001c3 [.call 21 [.s 34,.c (.clo 22 [])]] [.tmp 4] (h:=fun r h a b=>by
  unfold Ge at h;exact nz)
instance c8(c:DM)(m:tg):Ct prog (HQ c m) 8 [CP c,CZ m] (fun r=>.sh (eB r)):=Fj f8 0xb80e6c6c5830b7cf71a86c03429baab7cf71a80e6c03420e9baa380e8a906501740a900844019001a1 [] [.tmp 4] (h:=fun r h a b=>by
  unfold HQ at h;exact nz)
end Go.Sf.Sc
