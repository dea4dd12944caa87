/- Contracts of the functions. -/
import Derived.Test.YtfcfkigfmofniaaGreatCon0
import Derived.Test.YtfcfkigfmofniaaGreatCon1
import Derived.Test.YtfcfkigfmofniaaGreatCon2
import Derived.Test.YtfcfkigfmofniaaGreatCon3
import Derived.Test.YtfcfkigfmofniaaGreatCon4
import Derived.Test.YtfcfkigfmofniaaGreatCon5
import Derived.Test.YtfcfkigfmofniaaGreatCon6
import Derived.Test.YtfcfkigfmofniaaGreatTryzShelf
import Derived.Test.YtfcfkigfmofniaaGreatTw
set_option linter.all false
set_option maxRecDepth 100000
set_option maxHeartbeats 4000000
namespace Go.Sf.Sc
open Go Go.Sf Go.Proofs.Tryz
instance c5:CT (F5 ) 5 [] rB:=Fe f5 0xb665a16f0a657f41b5f60a0eaaa16f0a657f41b5f6f658d8e37470c48475e311740170c48205471c461c461c461c461c46d8e3741446388219473f1b461a461946aa8917c90e96 [.z7 [.str ⟨#[]⟩,.list 1 [],.list 3 [],.list 4 [],.int .i64 0,.list 5 [],.list 1 [],.list 3 [],.list 4 [],.int .i64 0,.list 5 [],.list 1 [],.list 1 [],.list 1 [],.list 1 [],.bool false,.int .i64 0,.list 9 [],.list 1 [],.list 1 [],.list 1 [],.list 3 [],.list 4 [],.int .i64 0,.list 5 []] [(0,1,.c (.str ⟨#[98,105,114,116,104]⟩)),(6,5,.s 14),(16,9,.s 15)]] (F5.eq_1 ..)
instance(a):CT (Nh a) 6 [HC a] (fun r=>.tp [AJ r.1,(eL 25 BX) r.2.1,Bk r.2.2.1,eB r.2.2.2]):=Fk f6 0x402023bd882890e6dc4184617466dc49b8289fb17c911747001e3194017c9a2 [] [.cell 2 (some 2),.tmp 3,.cell 4 (some 5),.tmp 5] fun r h b c=>by
  unfold Nh at h;exact nz
instance c4(d:Ew)(a:List EY):CT (F4 d a) 4 [HC d,(eL 2 Fo) a] rB:=Bj f4 0xa52b2a297105069d7570970aa86d6d0105775881899b0849fb1174acb53897050e70018df6f6588475e3117405477070c481899b0849fb1174acb5387516c970054300642b2a297105069f8e0170c4558861758289e317c96a7470550e8a6530a801d5 [] (F4.eq_1 ..) (Az 0 43 42 0 fun s0:AH=>[(7,.bx [⟨false,lI s0.em.hV.d3.ca⟩,⟨false,lE s0.em.hV.d3.ci⟩,⟨false,(eL 1 lI) s0.em.hV.ej⟩,⟨false,(eL 4 E3) s0.em.gn⟩,⟨false,lI s0.gp⟩])])
end Go.Sf.Sc
