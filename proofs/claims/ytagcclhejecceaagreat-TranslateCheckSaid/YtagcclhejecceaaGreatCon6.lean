/- Contracts of the functions. -/
import Derived.Test.YtagcclhejecceaaGreatCon0
import Derived.Test.YtagcclhejecceaaGreatCon1
import Derived.Test.YtagcclhejecceaaGreatCon2
import Derived.Test.YtagcclhejecceaaGreatCon3
import Derived.Test.YtagcclhejecceaaGreatCon4
import Derived.Test.YtagcclhejecceaaGreatCon5
import Derived.Test.YtagcclhejecceaaGreatTryzShelf
import Derived.Test.YtagcclhejecceaaGreatTw
set_option linter.all false
set_option maxRecDepth 100000
set_option maxHeartbeats 4000000
namespace Go.Sf.Sc
open Go Go.Sf Go.Proofs.Tryz
instance c5:CT (ER ) 5 [] rB:=Fe f5 0xdd0e06440e8d010a0eb1735b32010a749b7e9f9761064b19498c17463f2746b10e8d81064b19c98c770e8da710c917463f194603472646b1a9a902c915c98c6b [.yR 1 [.list 1 []] (.c (.int .i64 2)),.yR 1 [.list 1 []] (.c (.int .i64 1))] (ER.eq_1 ..)
instance(a):CT (N4 a) 22 [E7 a] rB:=Fe f22 0xba745f41bb74317fbb0b735b017ebe [] (N4.eq_1 ..)
instance(a):CT (ML a) 7 [(eL 4 E7) a] rB:=Fe f7 0xdd083f300a0a74307430749201 [.call 21 [.s 17,.c (.w8 22 [])]] (ML.eq_1 ..)
instance c3(g:FN)(l:List D8):CT (Gl g l) 3 [DB g,(eL 4 E7) l] rB:=Fe f3 0xdd0e77775c3081a710c98c01cd4255c4c181a710c98c0e01cd4255c4c1580e8aa6300aa61146cd4255c4c101a601df [] (Gl.eq_1 ..)
instance c4(g:FN)(a:Cd):CT (Gm g a) 4 [DB g,F7 a] rB:=Fe f4 0x81070e0644cd4255c4c10e0644cd4255c4c1580ef07490fc0b73047e0aa67732010aa69b7e0aa61146cd4255c4c101a601a8 [] (Gm.eq_1 ..)
end Go.Sf.Sc
