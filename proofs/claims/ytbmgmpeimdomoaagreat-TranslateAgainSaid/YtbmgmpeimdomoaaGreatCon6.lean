/- Contracts of the functions. -/
import Derived.Test.YtbmgmpeimdomoaaGreatCon3
import Derived.Test.YtbmgmpeimdomoaaGreatCon5
set_option linter.all false
set_option maxRecDepth 100000
set_option maxHeartbeats 4000000
open Bool renaming false->T
namespace Go.Sf.Sc
open Go Go.Sf Go.Proofs.Tryz
instance c6:CT (FM ) 6 [] rB:=Fe f6 0xda0e06440e8df40eb5765c32f4779f89b6b260064b18497d15463f2746b50e8d81064b18c97d730e8d97f915463f174603472646b5a2a202c91ac97d6b [.mko 1 [.list 1 []] (.c (.int .i64 2)),.mko 1 [.list 1 []] (.c (.int .i64 1))] (FM.eq_1 ..)
instance(a):CT (Mp a) 7 [D1 a] (λr=>.tp [S1 r.1,(eL 4 J2) r.2.1,B4 r.2.2.1,eB r.2.2.2]):=Fk f7 0x402023b819782c3967302b18197f97d01c1428d820e5fc1a8589704c0c31146b18aa91146c1428d5b0ec1428d800604ad0609800604ad077eea0442194819470eebd45d040442800604ad06ff8a053077a709800604ad0781800604ad06800604ad063cea04420e85d6055019c93f8da2a202c91ac97d01f9044019c9bc [.x8 [.v (.s 17) 0 2,.v (.s 17) 1 2,.v (.s 18) 0 2,.v (.s 18) 1 2,.z ⟨true,.list 25 []⟩]] [.cell 2 (some 5),.tmp 3,.cell 4 (some 3),.tmp 5] λr h d e=>by
  unfold Mp at h;have:HJ 23 λ(c:Ce)=>[(8,.bx [⟨T,lN c.θ.az⟩,⟨T,lX c.θ.bi⟩,⟨T,lI c.S.az⟩,⟨T,lI c.S.bi⟩,⟨true,(eL 25 Bp) c.kl⟩])]:=⟨⟩;have:HW 0 λ(b:Ce×Int)=>[(8,.bx [⟨T,lN b.1.θ.az⟩,⟨T,lX b.1.θ.bi⟩,⟨T,lI b.1.S.az⟩,⟨T,lI b.1.S.bi⟩,⟨true,(eL 25 Bp) b.1.kl⟩]),(9,.tv (eI b.2))]:=⟨⟩;exact nz
instance(a b c):CT (GY a b c) 8 [S1 a,(eL 4 J2) b,eI c] rB:=gj f8 0xaa11e75e059bc60111e70a5e0641403f11e7ac5e0a9b41403f11e7ac5e0a41403f11e7ac5e0a65018a0a96615d91d95b30a901910d429781f89011e70a5e066a41403f11e7ac5e0ad5018cee11e7ac5e07201f1e11e7ac5e0a9b201f1e11e7ac5e0a201f1e11e7ac5e0a65018a0a969276d95b30a901760d42a19211e7ac5e076a201f1e11e7ac5e0ad55c5cee81194b0cc9e019435dc142f714c9ebe2006a11e75e059ecb93ad02 [] (GY.eq_1 ..) (BC 0 17 16 0) (BG 2 32 31 0 (hT 10 eI)) (BG 4 65 64 0 (hT 10 eI))
instance c4(d:F7):CT (H6 d) 4 [D1 d] rB:=CJ f4 0xaa222120f50665222120f506222120f506818a0aa90644c1a802a8325b30b630962221200d0cf5083c81064b7d73c1a802a8322221200d0cf5083c81064b7d73c1a802a832850118c97c222120f5068aa973c1a802a83201a930b1586ca2970249f9117d01735502a8328161006a222120f5069e01c75888609782c3f919c9747d55580e8a77c5a901bc [] (H6.eq_1 ..) (BC 0 34 33 0)
instance c5(d:F7):CT (H5 d) 5 [D1 d] rB:=Fe f5 0x81b6b260064b18497d73c1a802a83258968aa973c1a802a832f4a9d7b15b60a2970249f9117d73325502a8320a5e0a5e818a05b260064b18497d7332c1a802a8328e7332c1a802a83258b630966c064b18c97d73c1a802a83258968aa973c1a802a8325b60a2970249f9117d735502a8325888609702c3f919c9747d55580e8a77c5a901bc [] (H5.eq_1 ..)
end Go.Sf.Sc
