/- Contracts of the functions. -/
import Derived.Test.YthcncnllajfkfaaGreatCon3
import Derived.Test.YthcncnllajfkfaaGreatCon5
set_option linter.all false
set_option maxRecDepth 100000
set_option maxHeartbeats 4000000
namespace Go.Sf.Sc
open Go Go.Sf Go.Proofs.Tryz
instance c20:CT (Ra ) 20 [] (rS Bz):=Fk f20 0x194b3f22462146a92146a9204604471f46054655204604471f461e465584fc1d46a90cc900 [.bld [.str ⟨#[]⟩,.list 1 [],.list 3 [],.list 4 [],.int .i64 0,.list 5 [],.list 1 [],.list 3 [],.list 4 [],.int .i64 0,.list 5 [],.list 1 [],.list 1 [],.list 1 [],.list 1 [],.bool false,.int .i64 0,.list 9 [],.list 1 [],.list 1 [],.list 1 [],.list 3 [],.list 4 [],.int .i64 0,.list 5 []] [(0,1,.c (.str ⟨#[97,100,100,115]⟩)),(1,5,.s 8),(6,5,.s 13),(11,2,.s 15),(13,2,.s 17),(16,9,.s 18)]] [.cell 0 (some 25)] λr h a b=>by
  unfold Ra at h;exact nz
instance c21:CT (UJ ) 21 [] (rS BT):=Fk f21 0xb124463fa9a92346034707460746a910c900 [.lst 1 [.c (.list 1 []),.s 6,.s 7]] [.cell 0 (some 3)] λr h a b=>by
  unfold UJ at h;exact nz
instance c8:CT (Gv ) 8 [] rB:=Fe f8 0xa5705c76f10a360a360a0ea973084276708941b876708941385a6184f07cde267ede264361817c0a44de267ede26c655a54b15c97cde267ede26c655bce6820e0e9682841ac919470e0e6a [] (Gv.eq_1 ..)
instance(a):CT (Fw a) 16 [Ix a] (λr=>.tp [AL r.1,(eL 25 Bz) r.2.1,BT r.2.2.1,eB r.2.2.2]):=Fk f16 0x402023b81b18284fdb66c0255b18210c99620425519470e0f441142550e0f44a855841ac90e5d5c59b119c084194632468a70735b5b11427670735b5ba876708020427670732042767003064111427670030641a8767003054111427670030541a876d65abd0110c919401ac9fb [] [.cell 2 (some 2),.tmp 3,.cell 4 (some 3),.tmp 5] λr h b c=>by
  unfold Fw at h;exact nz
instance c7(d:G6):CT (MB d) 7 [Ix d] rB:=J2 f7 0xad242322cc0697242322cc062f2e2d24232208cc0a5f2f2e2d24232208cc0a2f2e2d24232208cc0a818a0a05708941b80b89413876b40a440a445a360a058d610a4b15c97cdedeb6a54b15c97cdedeb6ff2f2e2d24232208cc0ad8dedeb6264b11c9de2643242322cc06652f2e2d24232208cc0a9a8e6cd3197e55264b11c9de26430065242322cc069a8e6cd3197e55590e8a0836b481b1828410c91ac9747c2244fa [] (MB.eq_1 ..) (A9 0 36 35 0) (A9 2 47 46 0)
end Go.Sf.Sc
