/- Contracts of the functions. -/
import Derived.Test.YtfcfkigfmofniaaGreatCon3
import Derived.Test.YtfcfkigfmofniaaGreatCon6
set_option linter.all false
set_option maxRecDepth 100000
set_option maxHeartbeats 4000000
open Bool renaming false->T
namespace Go.Sf.Sc
open Go Go.Sf Go.Proofs.Tryz
instance c5:CT (F8 ) 5 [] rB:=Fe f5 0xb4659b700a657f41b6fd0a0eac9b700a657f41b6fdfd58d3dc746fc38975dc1174016fc38205471c461c461c461c461c46d3dc741446388219473f1b461a461946ac8c17c90e97 [.bld [.str ⟨#[]⟩,.list 1 [],.list 3 [],.list 4 [],.int .i64 0,.list 5 [],.list 1 [],.list 3 [],.list 4 [],.int .i64 0,.list 5 [],.list 1 [],.list 1 [],.list 1 [],.list 1 [],.bool T,.int .i64 0,.list 9 [],.list 1 [],.list 1 [],.list 1 [],.list 3 [],.list 4 [],.int .i64 0,.list 5 []] [(0,1,.c (.str ⟨#[98,105,114,116,104]⟩)),(6,5,.s 14),(16,9,.s 15)]] (F8.eq_1 ..)
instance(a):CT (Nj a) 6 [HH a] (λr=>.tp [AJ r.1,(eL 25 BX) r.2.1,Ba r.2.2.1,eB r.2.2.2]):=Fk f6 0x402023bd3828c0e6dc3184617466dc39f828c10c917c911746f01dc194017c9a5 [] [.cell 2 (some 2),.tmp 3,.cell 4 (some 5),.tmp 5] λr h b c=>by
  unfold Nj at h;exact nz
instance c3(d:E2)(b:List DF)(a:List DF):CT (GQ d b a) 3 [HH d,(eL 2 EC) b,(eL 2 EC) a] rB:=Hz f3 0xb40e6f6f0158d3dc746fc31009a80414100f09b36e556975746f1009a804ff8a9e580bec14100f09b381100f09a8054f4e4d100f09a8089d556975117405476f6f018dff100f09a8058a0576580bec7516c96f0543100f09a805644f4e4d100f09a808a18e016fc375dc6f810bec9a9e58d3dc746f09013bb87511740e016fc36fc355886175828cdc17c96a746f550e8a65300a6530a901937802 [] (GQ.eq_1 ..) (Ay 0 79 78 0 λs0:AG=>[(16,.bx [⟨T,lI s0.ei.hV.d3.ca⟩,⟨T,lE s0.ei.hV.d3.ci⟩,⟨T,(eL 1 lI) s0.ei.hV.em⟩,⟨T,(eL 4 EK) s0.ei.gt⟩,⟨T,lI s0.fd⟩])]) (⟨⟩:HW 2 λ(c:AG×Int)=>[(16,.bx [⟨T,lI c.1.ei.hV.d3.ca⟩,⟨T,lE c.1.ei.hV.d3.ci⟩,⟨T,(eL 1 lI) c.1.ei.hV.em⟩,⟨T,(eL 4 EK) c.1.ei.gt⟩,⟨T,lI c.1.fd⟩]),(20,.tv (eI c.2))])
end Go.Sf.Sc
