/- Contracts of the functions. -/
import Derived.Test.YtjgaphkmbjbdkaaGreatCon0
import Derived.Test.YtjgaphkmbjbdkaaGreatCon1
import Derived.Test.YtjgaphkmbjbdkaaGreatCon2
import Derived.Test.YtjgaphkmbjbdkaaGreatCon3
import Derived.Test.YtjgaphkmbjbdkaaGreatCon4
import Derived.Test.YtjgaphkmbjbdkaaGreatCon5
import Derived.Test.YtjgaphkmbjbdkaaGreatCon6
import Derived.Test.YtjgaphkmbjbdkaaGreatCon7
import Derived.Test.YtjgaphkmbjbdkaaGreatTryzShelf
import Derived.Test.YtjgaphkmbjbdkaaGreatTw
set_option linter.all false
set_option maxRecDepth 100000
set_option maxHeartbeats 4000000
namespace Go.Sf.Sc
open Go Go.Sf Go.Proofs.Tryz
instance c11:CT (P3 ) 11 [] (fun r=>.sh (Bz r)):=Fk f11 0x194b3f1a461946aa1946aa1846044717460546361846044717461646368007c91546aa0cc900 [.bld [.str ⟨#[]⟩,.list 1 [],.list 3 [],.list 4 [],.int .i64 0,.list 5 [],.list 1 [],.list 3 [],.list 4 [],.int .i64 0,.list 5 [],.list 1 [],.list 1 [],.list 1 [],.list 1 [],.bool false,.int .i64 0,.list 9 [],.list 1 [],.list 1 [],.list 1 [],.list 3 [],.list 4 [],.int .i64 0,.list 5 []] [(0,1,.c (.str ⟨#[97,100,100,115]⟩)),(1,5,.s 8),(6,5,.s 13),(11,2,.s 15),(13,2,.s 17),(16,9,.s 18)]] [.cell 0 (some 25)] fun r h a b=>by
  unfold P3 at h;exact nz
instance c13:CT (SV ) 13 [] (fun r=>.sh (BO r)):=Fk f13 0xa51f463faaaa1e46034707460746aa10c900 [.lst 1 [.c (.list 1 []),.s 6,.s 7]] [.cell 0 (some 3)] fun r h a b=>by
  unfold SV at h;exact nz
instance c4:CT (GI ) 4 [] rB:=Fj f4 0x90725970b60a300a300a0eaa6c08e6728c41ad70728c4132555d80e075c52692c526435d81750a44c52692c526c336904b1ac975c52692c526c336b5ee820e0e7f828015c919470e0e60 [] fun h=>by
  unfold GI at h;exact nz
instance c3(t:AC)(a:RG)(j:x6):CT (LD t a j) 3 [AM t,L6 a,Ow j] rB:=Fj f3 0x90077807309d750a44c52742c5b359369d750a44c52742c5b35936370e8a727d08e6726c08e6a6d4ad70a6d43270a6c527423670a6c5b33670a6621c41b3593601a69a8d [] fun h=>by
  unfold LD at h;exact nz
end Go.Sf.Sc
