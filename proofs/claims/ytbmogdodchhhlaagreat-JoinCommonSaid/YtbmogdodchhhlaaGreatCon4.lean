/- Contracts of the functions. -/
import Derived.Test.YtbmogdodchhhlaaGreatCon0
import Derived.Test.YtbmogdodchhhlaaGreatCon1
import Derived.Test.YtbmogdodchhhlaaGreatCon2
import Derived.Test.YtbmogdodchhhlaaGreatCon3
import Derived.Test.YtbmogdodchhhlaaGreatTryzShelf
import Derived.Test.YtbmogdodchhhlaaGreatTw
set_option linter.all false
set_option maxRecDepth 100000
set_option maxHeartbeats 4000000
namespace Go.Sf.Sc
open Go Go.Sf Go.Proofs.Tryz
instance ph:Ct prog (LB ) 10 [] (fun r=>.sh (CH r)):=Fj f10 0x194b3f07460646aa0646aa0446044703460546360446044703460246367e03c90146aa02c900 [.uy [.str ⟨#[]⟩,.list 1 [],.list 3 [],.list 4 [],.int .i64 0,.list 5 [],.list 1 [],.list 3 [],.list 4 [],.int .i64 0,.list 5 [],.list 1 [],.list 1 [],.list 1 [],.list 1 [],.bool false,.int .i64 0,.list 9 [],.list 1 [],.list 1 [],.list 1 [],.list 3 [],.list 4 [],.int .i64 0,.list 5 []] [(0,1,.c (.str ⟨#[97,100,100,115]⟩)),(1,5,.s 8),(6,5,.s 13),(11,2,.s 15),(13,2,.s 17),(16,9,.s 18)]] [.cell 0 (some 25)] (h:=fun r h a b=>by
  unfold LB at h;exact nz)
instance pj:Ct prog (ND ) 12 [] (fun r=>.sh (BH r)):=Fj f12 0xa217463faaaa164603470c460c46aa0ec900 [.uS 1 [.c (.list 1 []),.s 6,.s 7]] [.cell 0 (some 3)] (h:=fun r h a b=>by
  unfold ND at h;exact nz)
instance c4:Ct prog (DC ) 4 [] (fun r=>.sh (eB r)):=Fj f4 0xf9789d80300a300a30b8aa6c08760a78904104760a78904132555be3f0e0269be026435b81720a44e0269be026cb36f94b1af0e0269be026cb84c101820e0e0e36827e01c919470e0e5e [] [.tmp 0] (h:=fun r h a b=>by
  unfold DC at h;exact nz)
instance c3(a:AT)(b:AT):Ct prog (Gd a b) 3 [Bp a,Bp b] (fun r=>.sh (eB r)):=Fj f3 0x81b8a5553081e3f0e0e081e3f0e0e0370ec3787d22420b6c227680787d22420b6c22760aa1621c760aa1621c76a10196 [] [.tmp 4] (h:=fun r h c d=>by
  unfold Gd at h;exact nz)
end Go.Sf.Sc
