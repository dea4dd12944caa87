/- Contracts of the functions. -/
import Derived.Test.YtbmgmpeimdomoaaGreatCon3
import Derived.Test.YtbmgmpeimdomoaaGreatCon5
set_option linter.all false
set_option maxRecDepth 100000
set_option maxHeartbeats 4000000
open Bool renaming false->T
namespace Go.Sf.Sc
open Go Go.Sf Go.Proofs.Tryz
instance c6:CT (Gq ) 6 [] rB:=Fe f6 0xe30e06440e8d010a0eb5745c32010a769f80a59761064b18498915463f2746b50e8d81064b18c989730e8da710c915463f174603472646b5adad02c91ac9896b [.mko 1 [.list 1 []] (.c (.int .i64 2)),.mko 1 [.list 1 []] (.c (.int .i64 1))] (Gq.eq_1 ..)
instance(a):CT (OR a) 7 [IH a] (λr=>.tp [Se r.1,(eL 4 Ji) r.2.1,CF r.2.2.1,eB r.2.2.2]):=Fk f7 0x402023b81a782d7ca7302b381a710c98901c8428d820e5fc8ba58a704c0d71146b38aaa1146c8428d5b0ec8428d7e0604ac06097e0604ac077df20442194819470ee9d35d0404427e0604ac06ff8a053076a6097e0604ac07817e0604ac067e0604ac063cf204420e85d4055019c93f8dadad02c91ac9890110c9044019c9bc [.x9 [.v (.s 17) 0 2,.v (.s 17) 1 2,.v (.s 18) 0 2,.v (.s 18) 1 2,.z ⟨true,.list 25 []⟩]] [.cell 2 (some 5),.tmp 3,.cell 4 (some 3),.tmp 5] λr h d e=>by
  unfold OR at h;have:HJ 23 λ(c:CZ)=>[(8,.bx [⟨T,lN c.θ.az⟩,⟨T,lX c.θ.be⟩,⟨T,lI c.S.az⟩,⟨T,lI c.S.be⟩,⟨true,(eL 25 Bm) c.l4⟩])]:=⟨⟩;have:HW 0 λ(b:CZ×Int)=>[(8,.bx [⟨T,lN b.1.θ.az⟩,⟨T,lX b.1.θ.be⟩,⟨T,lI b.1.S.az⟩,⟨T,lI b.1.S.be⟩,⟨true,(eL 25 Bm) b.1.l4⟩]),(9,.tv (eI b.2))]:=⟨⟩;exact nz
instance(a b c):CT (Kj a b c) 8 [Se a,(eL 4 Ji) b,eI c] rB:=ez f8 0xa811e65e059bc10111e60a5e0641403f11e6a95e0a9b41403f11e6a95e0a41403f11e6a95e0a65018aa501605d90da5b30aa01900d42a781fd8c11e60a5e066a41403f11e6a95e0adc0184ec11e6a95e07201f1e11e6a95e0a9b201f1e11e6a95e0a201f1e11e6a95e0a65018aa5019174da5b30aa01740d42a29111e6a95e076a201f1e11e6a95e0adc5c5cec81194b0cc9de19435dc842f714c9e9e1006a11e65e05a1eb93ac02 [] (Kj.eq_1 ..) (BA 0 17 16 0) (BI 2 32 31 0 (hT 10 eI)) (BI 4 65 64 0 (hT 10 eI))
instance c3(d:JO):CT (Hj d) 3 [IH d] rB:=Fe f3 0xe30a0a0e0644c8ba02ba325b97300a0e73735b61064b18c98973c8ba02ba3281a710c98901c8ba02ba329daa73c8ba02ba32010aaa5b44010861a782d710c919c9778955580e8a76c5aa01bc [] (Hj.eq_1 ..)
end Go.Sf.Sc
