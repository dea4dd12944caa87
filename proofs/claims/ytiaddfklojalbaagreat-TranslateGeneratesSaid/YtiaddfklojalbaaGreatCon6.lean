/- Contracts of the functions. -/
import Derived.Test.YtiaddfklojalbaaGreatCon3
import Derived.Test.YtiaddfklojalbaaGreatCon5
set_option linter.all false
set_option maxRecDepth 100000
set_option maxHeartbeats 4000000
namespace Go.Sf.Sc
open Go Go.Sf Go.Proofs.Tryz
instance c6:CT (Dx ) 6 [] rB:=Fe f6 0xcb0e06440e96010a0ea6926d010a758d74a8ab61f218499115463f2746a60e9681f218c991760e96ad10c915463f174603472646a6b3b302c91ac9916b [.mko 1 [.list 1 []] (.c (.int .i64 2)),.mko 1 [.list 1 []] (.c (.int .i64 1))] (Dx.eq_1 ..)
instance c3(g:Ds)(a:AJ):CT (GU g a) 3 [CQ g,CM a] rB:=Fe f3 0xcb0e064406445c3281f218c99176ba429631579a6cb302c9915502fb578a0a9d0644baa502fb5c320a9d064406445c3281f218c99176baa502fb81f218c991760ebaa502fb570e8a9d76baa502fb019d01a9 [] (GU.eq_1 ..)
instance c4(g:Ds)(a:AJ):CT (F6 g a) 4 [CQ g,CM a] rB:=Fe f4 0xcb0a0a0e7676317d0644baa502fb5c320a0e064406445c3281f218c99176baa502fb81f218c991760ebaa502fb570e8a9d76baa502fb019d01a9 [] (F6.eq_1 ..)
instance c5(g:Ds)(a:AJ):CT (Gq g a) 5 [CQ g,CM a] rB:=Fe f5 0xcb0e767601a8320e0644baa502fb81b3ad024910c9119176315502fb570a0e064406445c32eb320a9d064406445c3281f218c99176baa502fb81f218c991760ebaa502fb570e8a9d76baa502fb019d01a9 [] (Gq.eq_1 ..)
end Go.Sf.Sc
