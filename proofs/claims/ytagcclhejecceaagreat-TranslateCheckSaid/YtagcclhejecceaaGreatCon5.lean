/- Contracts of the functions. -/
import Derived.Test.YtagcclhejecceaaGreatCon0
import Derived.Test.YtagcclhejecceaaGreatCon4
import Derived.Test.YtagcclhejecceaaGreatTryzShelf
import Derived.Test.YtagcclhejecceaaGreatTw
set_option linter.all false
set_option maxRecDepth 100000
set_option maxHeartbeats 4000000
namespace Go.Sf.Sc
open Go Go.Sf Go.Proofs.Tryz
instance(a):CT (Iv a) 87 [Bg a] rB:=Fe f87 0xdd74fe0b900b7e0a74d10b730b7e9f73107e0a030f7e9fd75c74cd42745f41db0baae209c9b4017ebe [] (Iv.eq_1 ..)
instance(a b):CT (Iw a b) 88 [AM a,Al b] rB:=Gr f88 0xa505edcb05ed9d5f04ac85eb90d45d05ed96a29d5f04a5965d5cedd8a8 [] (Iw.eq_1 ..) (A4 0 5 3 0) (A4 2 6 2 0)
instance(a b):CT (NA a b) 89 [AM a,Al b] rB:=Bz f89 0xa505edacc560aa5d605e5d5d55a7e9f85e00965e5cedd8a8 [] (NA.eq_1 ..) (A4 0 5 3 1)
instance(a b c):CT (Li a b c) 40 [AM a,EO b,Bg c] rI:=Fe f40 0xb28aa6e6bbd90aa6e6dbd9a6e6bbadc5e7e3e7ad9a8d01f1 [] (Li.eq_1 ..)
instance(a b c):CT (Hn a b c) 20 [AM a,EO b,(eL 25 Bg) c] rI:=Gr f20 0xa509045f04ac9ae71943308d00ef09045f048104ed08045f04ace59b41d45d04ed96a208045f04b29a8d58e53069b3 [] (Hn.eq_1 ..) (A4 0 8 3 0) (A4 2 9 2 0)
instance(a b c d):CT (Ju a b c d) 6 [AM a,EO b,(eL 25 Bg) c,CE d] rB:=Bz f6 0xdd0a74d1010a74fe5c0bd15c0b0107020209070203acca5e5cd6a908c9e60641194330070202ef09070203b2850e018d588aa67701a6018d019369b3 [] (Ju.eq_1 ..) (A4 0 9 2 0)
instance(a b c):CT (M5 a b c) 65 [AM a,eI b,lI c] rI:=Bz f65 0xa509070203acf05f41e430919790e4306092ef09070203b2e5010b30828c01ad830241d45d5885d63093b302 [] (M5.eq_1 ..) (A4 0 9 7 0)
instance(a b):CT (Gu a b) 32 [AM a,CE b] (rT eI eI):=Gr f32 0x9e000bedacd8c560aad1605ed15dadd8e55e5da7e9f8fe0096fe010bed815f0209edac81308491aa91d1555f0296d10109edb281e5d10baa58819ac158d86c018c5530a8 [] (Gu.eq_1 ..) (A4 0 9 3 0) (A4 2 11 3 1)
instance(a b c):CT (OD a b c) 48 [AM a,Bg b,CE c] rI:=Fe f48 0x8161018c77ad9ae7d9f1 [] (OD.eq_1 ..)
instance(a b c):CT (Jq a b c) 180 [AM a,Al b,Al c] rI:=Fe f180 0xb28aa68d01a68de3ad9aad016c018cd9f1 [] (Jq.eq_1 ..)
instance(a):CT (Is a) 254 [lI a] rB:=Gr f254 0xa5d302cbd30204d303ac85eaead3026a3004d303a5efd302816b01 [] (Is.eq_1 ..) (A4 0 3 0 0) (A4 2 4 3 0)
instance(a b c d e):CT (LX a b c d e) 181 [AM a,Al b,Al c,As d,eB e] rI:=Gr f181 0xb28a0aa6c6a65d300804020c80060405acf0aa60aa5d5c5e605e5d58855d5da7a7e9e9770343915e5ef85e58ca5e915e5c915e08040296c60c8006040581800604040b80b606acc5eb60eb5dadca5deb5ceb8006040496a20b80b606b2ca5eee5cd60ba269690401 [] (LX.eq_1 ..) (A4 0 11 8 0) (A4 2 12 8 1)
instance(a b c d e):CT (IP a b c d e) 107 [AM a,Al b,Al c,As d,eB e] rI:=Fe f107 0x810e018d8de3558d0169690401 [] (IP.eq_1 ..)
instance(a b c):CT (LZ a b c) 182 [AM a,Bo b,CE c] rI:=Fe f182 0x8161018c77ad9ab4d9f1 [] (LZ.eq_1 ..)
instance(a b):CT (IQ a b) 192 [N0 a,lI b] rI:=Fe f192 0xba5e60a2585e85a2df [] (IQ.eq_1 ..)
instance(a b):CT (Jn a b) 310 [N0 a,lI b] (rT eI eB):=Fe f310 0x9e055e60a25881ca015d5c5d58815e855d30df [] (Jn.eq_1 ..)
instance(a b):CT (LT a b) 255 [Fv a,lI b] rB:=Fe f255 0xdd9f0197a29f01975d588a08300861818c015503429e8c01d97edf [] (LT.eq_1 ..)
instance(a b c):CT (KX a b c) 183 [Bo a,CE b,As c] (rT lI eI):=Gr f183 0x8182180875089bac01c0882014b40589cd42080196cd4275089b81085fc3086d0306ac01c08501201455c4e8c3086d0308e8c3086d03083c01f40590c4301401f401148a0817e101145c6173c481605e60605d5daaf605c9ecd4aa085f96f5c3086d030681993fd7993fd73040f1 [.yg 1 [.int .i64 0] (.s 16),.yg 1 [.bool false] (.s 19)] (KX.eq_1 ..) (BH 0 10 3 2 fun s0:Fp×a5=>[(8,.xo 1 (List.map eI s0.1)),(9,.xo 1 (List.map eB s0.2))]) (A4 2 14 3 4)
instance(a b c d):CT (LY a b c d) 108 [AM a,Bo b,CE c,As d] (rT lI eI):=Fe f108 0x8182760e5577b45801c09a8d32c1ad01c09a77b455304069a8 [] (LY.eq_1 ..)
instance(a b):CT (Kw a b) 109 [lI a,lI b] rB:=Bz f109 0xa505cfac85ea60929697cfb2e5010b01bd [] (Kw.eq_1 ..) (A4 0 5 0 0)
instance(a b c d):CT (Ir a b c d) 110 [AM a,Al b,Al c,As d] (rT Al eI):=Fk f110 0x81a9550b3e0b0802e8809dcb01f460eba21d320b08026a151d3201e8809d8102501dc927ada9f346848d8d0108c969a8 [] [.cell 8 (some 2),.tmp 9] fun r h f g=>by
  unfold Ir at h;have:HW 0 fun(e:c9×Int)=>[(11,.bx [⟨true,.xl 1 (List.map eI e.1.ca)⟩,⟨true,.xl 3 (List.map Bp e.1.ci)⟩]),(12,.tv (eI e.2))]:=⟨⟩;exact nz
instance(a b c d):CT (OC a b c d) 184 [Al a,Al b,GM c,As d] rI:=Fe f184 0x810e8de3558d0169a8 [] (OC.eq_1 ..)
instance(a b):CT (Dt a b) 256 [lI a,eI b] rB:=Bz f256 0xa505cfac850160929697cf81bd [] (Dt.eq_1 ..) (A4 0 5 0 0)
instance(a b):CT (Fo a b) 185 [lI a,lI b] (rO (eL 2 Pw)):=Gr f185 0x8202ccf9cbf9f26b05cbf26b05f26b053c0202480247054630028a0aa60130a60197eaeaf9eff26b05ba5c01eff98102c002406b02 [] (Fo.eq_1 ..) (BH 0 6 0 0 (hO 5 (eL 2 Pw))) (BH 2 7 0 0 (hO 5 (eL 2 Pw)))
instance(a b):CT (JH a b) 188 [lI a,lI b] (rO lI):=Bz f188 0x8202ccf9cbf9f93cb3dcea02c59701eff9d8c001406b02 [] (JH.eq_1 ..) (BH 0 6 0 0 (hO 5 lI))
instance(a b c d):CT (Iq a b c d) 186 [Al a,Al b,GM c,As d] (rO lI):=Bz f186 0x820209010bc3070505cb0bc3070574c30705053cb3dcd08a0a0e5f41de5e300e90de5e30a6015e090196c60bc307050581820e5da2c0014093691300 [] (Iq.eq_1 ..) (BH 0 11 5 1 (hO 9 lI))
instance(a b):CT (Kz a b) 187 [eI a,lI b] (rO lI):=Bz f187 0x8202ccf9cbf9f93cb3dcd0c597fd30f9d8c001406b02 [] (Kz.eq_1 ..) (BH 0 6 0 0 (hO 5 lI))
instance(a b c d):CT (Pl a b c d) 111 [Al a,Al b,GM c,As d] (rT GM eI):=Fk f111 0x8013b81a902460e0e5e5eee0e0e5d5dd658a90146e50e8d8d58a9014685740e5e5e0b0e5d5d58a93046848d8dd0c969a8 [] [.cell 8 (some 2),.tmp 9] fun r h e f=>by
  unfold Pl at h;exact nz
instance(a b c):CT (Iu a b c) 311 [eI a,lI b,lI c] (rO lI):=Gr f311 0x821807010907b304cb01f4eaea140701ef0907b3048107b30380026b05cb19014fb11907b3036a3080026b05d8ce014002cf [] (Iu.eq_1 ..) (BH 0 8 0 0 (hX 7 1 eI)) (BH 2 9 1 0 (hX 7 1 eI))
instance(a b c):CT (It a b c) 355 [lI a,eI b,eI c] rI:=Bz f355 0xa507020003ac8acc91976092ef07020003b285010b3002cf [] (It.eq_1 ..) (A4 0 7 0 0)
instance(a b):CT (E3 a b) 376 [.pt (Rx a).cells,lI b] rB:=Gr f376 0xa505cf655ccf05cf8188010705b5809d6b06cb010a9f60f5f59f60c65e5c5d5d30a7e9f890047f010705b59690047f30809d6b069eff05cfca01aa5c0b015ea7e9f890027f6b9690027f97cf81bd [] (E3.eq_1 ..) (A4 0 5 0 3) (BH 2 8 0 5 (hT 7 eB))
instance(a b c):CT (Cu a b c) 378 [.pt (Rx a).cells,lI b,eI c] rB:=Bz f378 0xa50702b5ac85016092ff8a03087f3074300702b581d0cf [] (Cu.eq_1 ..) (⟨⟩:HW 0 fun(d:Int)=>[(7,.tv (eI d))])
noncomputable def Yd:PC:=PC.of LH f377.body (xq bT 0x18006026b067d8006026b068006026b063c005201dc304830470132ff8006026b06f060f5f59f60c6c69f5da20a203032019f01919006bc5c919006bca7e9f89004bc0001969004bc018006026b0681a7e9f89002bcfff70a7f0248024702460148304701483047040abc32e59002bc610bfd0309bc0b030abc02cf) []
theorem sR:CK f377 Yd []:=by decide +kernel
theorem sz:PC.wl Yd=true/\PC.wm 0 Yd=true:=by decide +kernel
abbrev Q_377(n:Nat):Prop:=∀(b:AZ)(a:Fp)(l:Fp),CT (CL n b a l) 377 [.undef,lI a,lI l] (fun r=>.bo (Br b) (Br r) 0 [])
theorem sF(n:Nat)(_ih_377:Q_377 n)(b:AZ)(a:Fp)(l:Fp):CT (CL (n+1) b a l) 377 [.undef,lI a,lI l] (fun r=>.bo (Br b) (Br r) 0 []):=Yk sR sz fun r h e d f=>by
  unfold Yd;unfold f377;unfold CL at h;have:HW 0 fun(c:AZ×Int)=>[(0,.bx (Br c.1)),(8,.tv (eI c.2))]:=⟨⟩;exact nz
theorem sE:∀n:Nat,Q_377 n:=by
  intro n
  induction n with
  |zero=>exact(fun a d7 l=>⟨fun _ h=>by cases h⟩)
  |succ n b=>exact sF n b
instance(s_0 d7 l):CT (MG s_0 d7 l) 377 [.undef,lI d7,lI l] (fun r=>.bo (Br s_0) (Br r) 0 []):=⟨fun r h=>by
  obtain ⟨N,a⟩:=DD h;exact((sE N) s_0 d7 l).snd r (a N (az _))⟩
noncomputable def Yc:PC:=PC.of LH f370.body (xq bT 0x5c04b5655c04b56db53c005201dc3048304732ff6db58aa6917302bc917304bce65b32010a203032019f01917306bc5c917306bc0001967304bc5c04b581ff3f0132e57302bc610b01ff8a082001325c0309bc0b030abc6b02) [.w6 377 [.s 32,.s 33,.c (.list 1 [])] 0]
theorem sP:CK f370 Yc []:=by decide +kernel
theorem sw:PC.wl Yc=true/\PC.wm 0 Yc=true:=by decide +kernel
abbrev Q_370(n:Nat):Prop:=∀(a:AZ)(l:Fp),CT (CM n a l) 370 [.undef,lI l] (fun r=>.bo (Br a) (Br r) 0 [])
theorem sC(n:Nat)(_ih_370:Q_370 n)(a:AZ)(l:Fp):CT (CM (n+1) a l) 370 [.undef,lI l] (fun r=>.bo (Br a) (Br r) 0 []):=Yk sP sw fun r h d c e=>by
  unfold Yc;unfold f370;unfold CM at h;have:HW 0 fun(b:AZ×Int)=>[(0,.bx (Br b.1)),(5,.tv (eI b.2))]:=⟨⟩;exact nz
theorem sB:∀n:Nat,Q_370 n:=by
  intro n
  induction n with
  |zero=>exact(fun a l=>⟨fun _ h=>by cases h⟩)
  |succ n b=>exact sC n b
instance(s_0 l):CT (Ie s_0 l) 370 [.undef,lI l] (fun r=>.bo (Br s_0) (Br r) 0 []):=⟨fun r h=>by
  obtain ⟨N,a⟩:=DD h;exact((sB N) s_0 l).snd r (a N (az _))⟩
instance(a b c d e f):CT (Od a b c d e f) 356 [AM a,Al b,Al c,As d,eB e,eI f] (rS (eL 2 As)):=Fe f356 0x82030a7f5b3f5b00c2bf2946308d8d024069696d02 [.yn [none,none,none,none,none,none,none,none,none,none,some ⟨true,.list 2 []⟩] (.s 20),.w6 370 [.s 22,.c (.list 1 [])] 0] (Od.eq_1 ..)
instance(a b c d e):CT (KW a b c d e) 312 [AM a,Al b,Al c,As d,eB e] (rT (eL 2 As) eI):=Fe f312 0x8182fb02c0e501820e018d8d5802c09aeeee5e5802c09ad6d65d5802c0ca5eee5cd6d65802c09a558dd04069690401 [] (KW.eq_1 ..)
instance(a b):CT (Eb a b) 117 [N0 a,lI b] (rT eI eI):=Fe f117 0x9e0e01ad81ca015d5c5d30df [] (Eb.eq_1 ..)
instance(a b c d):CT (KZ a b c d) 313 [Bo a,CE b,As c,lI d] (rT lI eB):=kZ f313 0x8182180a01120a0403ac01c08a9f0197a29f01975d6176012014550342617601201455bbe204c9b40589cd420a0196cd7e120a0403dd04020d0b0ab606ac01c0850130817601201455c40f0e0d0b0ab6080f0e0d0b0ab6083c01f401f40590fa73c41473c4148a0817e173c4145c73c481605e60605d5daaf605c9ecd4aa0a040296f50d0b0ab606810b0ab605e80ab60307cbe80ab60307e80ab603073c19014fb119e50130f4740130140b0ab6056a9b7ee80ab6030781993fd799014f30563040936931 [.yg 1 [.bool false] (.s 28)] (KZ.eq_1 ..) (BH 0 12 4 3 fun s0:Fp×a5=>[(10,.xo 1 (List.map eI s0.1)),(11,.xo 1 (List.map eB s0.2))]) (BH 2 13 4 2 fun s2:Fp×a5=>[(10,.xo 1 (List.map eI s2.1)),(11,.xo 1 (List.map eB s2.2))]) (A4 4 18 4 4)
instance(a b c d e):CT (HM a b c d e) 257 [AM a,AP b,CE c,B7 d,eB e] (rT (eL 3 B7) eI):=Bz f257 0x818202100111100e0c8006cb11100e0c800611100e0c80063c020348034709460155024330029e828caa5502433077b41001ef11100e0c80068103c05803c0016c828c018d32c155a902c902460efe90c40bfe0ed173c40bd1e209c9b4047e034069690401 [] (HM.eq_1 ..) (BH 0 17 14 0 (hO 16 (eL 3 B7)))
abbrev Q_189(n:Nat):Prop:=∀(t:AC)(c:d5)(b:AH)(m:AU)(a:Bool),CT (Du n t c b m a) 189 [AM t,AP c,CE b,B7 m,eB a] (rT EN eI)
theorem rc(n:Nat)(_ih_189:Q_189 n)(t:AC)(c:d5)(b:AH)(m:AU)(a:Bool):CT (Du (n+1) t c b m a) 189 [AM t,AP c,CE b,B7 m,eB a] (rT EN eI):=Fk f189 0xba4b0a467ce20a460a0117150a07b607cbff0a013bba4b010c460547b4770343306ce20ec98c017703433077c809435e550a01ef17150a07b607b2e2010a466c828c017777c855baba4b0a460a01120a80b607ace2010b460547b4016ce20ec98c017777c809895e550a0196c6120a80b6079e05ba4bb40e0a020f0e0a80b608cbf7fc05480547b404fc58e2010a466ce20ec98c017777c809895e550e0a0296c60f0e0a80b608ba500ec93fbaba4b010a4658e20a4685fbe20a466ce20e498c017777c809435e55ba833275c969690401 [.wP [.z ⟨false,.int .i64 0⟩,.z ⟨true,.list 1 []⟩,.z ⟨true,.list 1 []⟩,.z ⟨true,.list 1 []⟩,.z ⟨true,.list 5 []⟩]] [.cell 10 (some 5),.tmp 11] fun r h d e=>by
  unfold Du at h;have:=BH 1 15 6 1 fun s1:A6×A6=>[(10,.bx [⟨false,eI s1.1.w2⟩,⟨true,lI s1.1.o3.d3.ca⟩,⟨true,lI s1.1.o3.d3.ci⟩,⟨true,lI s1.1.o3.fd⟩,⟨true,Hj s1.1.gn⟩]),(14,.bx [⟨false,eI s1.2.w2⟩,⟨true,lI s1.2.o3.d3.ca⟩,⟨true,lI s1.2.o3.d3.ci⟩,⟨true,lI s1.2.o3.fd⟩,⟨true,Hj s1.2.gn⟩])];have:=BH 3 18 6 1 fun s3:A6=>[(10,.bx [⟨false,eI s3.w2⟩,⟨true,lI s3.o3.d3.ca⟩,⟨true,lI s3.o3.d3.ci⟩,⟨true,lI s3.o3.fd⟩,⟨true,Hj s3.gn⟩])];have:=BH 5 23 21 0 fun s5:A6=>[(10,.bx [⟨false,eI s5.w2⟩,⟨true,lI s5.o3.d3.ca⟩,⟨true,lI s5.o3.d3.ci⟩,⟨true,lI s5.o3.fd⟩,⟨true,Hj s5.gn⟩])];exact nz
theorem rb:∀n:Nat,Q_189 n:=by
  intro n
  induction n with
  |zero=>exact(fun t c a m em=>⟨fun _ h=>by cases h⟩)
  |succ n b=>exact rc n b
instance(t c h_2 m em):CT (QU t c h_2 m em) 189 [AM t,AP c,CE h_2,B7 m,eB em] (rT EN eI):=⟨fun r h=>by
  obtain ⟨N,a⟩:=DD h;exact((rb N) t c h_2 m em).snd r (a N (az _))⟩
instance(a b c d e):CT (La a b c d e) 112 [AM a,AP b,CE c,B7 d,eB e] (rT eB eI):=Fe f112 0x9e5cfb816ce20e498c017777c8553069690401 [] (La.eq_1 ..)
instance(a b c d):CT (K4 a b c d) 49 [AM a,Bg b,CE c,B7 d] (rT GM eI):=Fk f49 0x81a901550d0b08030d0b08033c018a089730818c030f427777c81042ada930468530a902c98cc1550b42c1ada930468530a908c98cc1c1e6bbada90146c5f558a930466c828cc177b4bbada90146850e030f42c1c1e6bb55d0c969a8 [] [.cell 8 (some 2),.tmp 9] fun r h f g=>by
  unfold K4 at h;have:HJ 95 fun(e:Int)=>[(11,.tv (eI e))]:=⟨⟩;exact nz
instance(a b c):CT (Jb a b c) 113 [AM a,CE b,GM c] (rT CE eI):=Fk f113 0x81a7770d06020e0d0b060405cbf7fadc014860ebf54704c40d0602965d750d0b06040581035010c93fada70111466ca9a902c908c9118c8d3258a70111466c018c77d910c9f1 [.wP [.v (.s 37) 0 2,.v (.s 37) 1 2,.z ⟨true,.list 1 []⟩]] [.cell 6 (some 3),.tmp 7] fun r h e f=>by
  unfold Jb at h;have:HW 0 fun(d:AH×Int)=>[(13,.bx [⟨false,lI d.1.c9.ca⟩,⟨false,lE d.1.c9.ci⟩,⟨true,(eL 1 lI) d.1.eo⟩]),(14,.tv (eI d.2))]:=⟨⟩;exact nz
instance(a b):CT (H8 a b) 70 [lI a,eI b] (rO lI):=Gr f70 0x8218ccf9cbf9f26b05cbf26b05f26b053c01f430148501eaf9eff26b058119014fb119cc6a30f9d8ce01406b02 [] (H8.eq_1 ..) (BH 0 6 1 0 (hX 5 1 eI)) (BH 2 7 0 0 (hX 5 1 eI))
instance(a b):CT (Kb a b) 114 [eI a,lI b] (rO lI):=Fe f114 0x820e0130406b02 [] (Kb.eq_1 ..)
instance(a b c):CT (Lw a b c) 50 [AM a,CE b,GM c] (rT CE As):=Fk f50 0x706023ba9a702460e5e0bfe0e5d0bd17701a710c98c55775502c910c9f1 [] [.cell 6 (some 3),.cell 7 (some 2)] fun r h d e=>by
  unfold Lw at h;exact nz
instance(a b):CT (G0 a b) 51 [lI a,lI b] (rO lI):=Bz f51 0x8202ccf9cbb3dc60913002cceff9d8c001406b02 [] (G0.eq_1 ..) (BH 0 6 0 0 (hO 5 lI))
instance(a b c d e):CT (FQ a b c d e) 52 [lI a,lI b,eI c,lI d,eI e] (rO lI):=Bz f52 0x82020c010de8045f0007cb0de8045f00077db3dcd00de8045f00073cb3dc6060ea300285ea0cfd300de8045f0007d8c0820e013040045f6b05 [] (FQ.eq_1 ..) (BH 0 13 2 0 fun s0:Int×Fp=>[(4,.tv (eI s0.1)),(12,.ow (lI s0.2))])
instance(a b):CT (Hm a b) 115 [lI a,eI b] rB:=Bz f115 0xa505cfac850160929697cf81bd [] (Hm.eq_1 ..) (A4 0 5 0 0)
noncomputable def iq:PC:=PC.of LH f53.body (xq bT 0x35003530806020f09809d06cb0f09809d060f09809d063cf701413203480347074660aa5d605e5d5d04014132a7e9f85e8e01900d4208060296c60f09809d068109809d05c380b6077dc380b607c380b6073c1fc421221923c40dc380b6a60d0bc380b60acb19014fb190e430190dc380b608ef0e0d0bc380b60ad8ce01828cebd94a5b3201dceb045b32ffc380b607c501730d4209809d0596a2c380b60781a908c9e6db1ec993aba8) []
theorem ur:CK f53 iq [.cell 8 (some 3)]:=by decide +kernel
theorem uz:PC.wl iq=true:=by decide +kernel
instance(a b c d):CT (K3 a b c d) 53 [AM a,Bg b,.agg [.undef,.undef,.undef],As d] (fun r=>.ag [⟨true,lI c.c9.ca⟩,⟨true,lE c.c9.ci⟩,⟨true,.xn (List.map lI c.eo)⟩] 2 (.wQ [⟨true,lI r.c9.ca⟩,⟨true,lE r.c9.ci⟩,⟨true,.xn (List.map lI r.eo)⟩])):=t7 ur uz fun r h i g j=>by
  unfold iq;unfold f53;unfold K3 at h;have:HW 0 fun(f:AH×Int)=>[(6,.bx [⟨true,lI f.1.c9.ca⟩,⟨true,lE f.1.c9.ci⟩,⟨true,.xn (List.map lI f.1.eo)⟩]),(10,.tv (eI f.2))]:=⟨⟩;have:=BH 2 14 11 0 (hX 13 1 eI);have:HW 4 fun(e:AH×Int)=>[(6,.bx [⟨true,lI e.1.c9.ca⟩,⟨true,lE e.1.c9.ci⟩,⟨true,.xn (List.map lI e.1.eo)⟩]),(15,.tv (eI e.2))]:=⟨⟩;exact nz
instance(a):CT (KV a) 54 [CE a] (fun r=>.wQ [⟨true,lI r.c9.ca⟩,⟨true,lE r.c9.ci⟩,⟨true,.xn (List.map lI r.eo)⟩]):=Fk f54 0x35003535f02045ff3cb1fc42122014f91f55623c45f0296f5045ff38103501ec93f1bc11ec9be [.wP [.g 7 0 2,.g 7 1 2,.z ⟨true,.xn []⟩]] [.cell 2 (some 3)] fun r h b c=>by
  unfold KV at h;have:=BH 0 4 1 2 fun s0:AH=>[(3,.bx [⟨true,lI s0.c9.ca⟩,⟨true,lE s0.c9.ci⟩,⟨true,.xn (List.map lI s0.eo)⟩])];exact nz
noncomputable def ir:PC:=PC.of LH f55.body (xq bT 0x81a777073e0a0702130c0a806d07cb26240190e43025240123c458a71146f05f41e490d4309790e490d43030828c91d155816073e4305d618c01550241e4300a0702ef130c0a806d07810c0a806d060d0c0a806d07cb0d0c0a806d07100e0d0c0a806d09aca711468acc309f90e43090d4976073e4305d6073e4305d618c01550241e4300d0c0a806d076a30100e0d0c0a806d0981618c01550241e4300c0a806d06ef0d0c0a806d0781825f41067e10c993ab690401) []
theorem ut:CK f55 ir [.cell 10 (some 3),.tmp 11]:=by decide +kernel
theorem u0:PC.wl ir=true:=by decide +kernel
instance(a b c d e):CT (MS a b c d e) 55 [AM a,Bg b,.agg [.undef,.undef,.undef],As d,lI e] (fun r=>.ag [⟨true,lI c.c9.ca⟩,⟨true,lE c.c9.ci⟩,⟨true,.xn (List.map lI c.eo)⟩] 2 (.tp [CE r.1,eI r.2])):=t7 ut u0 fun r h g f i=>by
  unfold ir;unfold f55;unfold MS at h;have:=BH 0 13 12 0 fun s0:AH=>[(10,.bx [⟨true,lI s0.c9.ca⟩,⟨true,lE s0.c9.ci⟩,⟨true,(eL 1 lI) s0.eo⟩])];have:=BH 2 16 13 0 fun s2:AH=>[(10,.bx [⟨true,lI s2.c9.ca⟩,⟨true,lE s2.c9.ci⟩,⟨true,(eL 1 lI) s2.eo⟩])];have:=BH 4 19 12 0 fun s4:AH×AH=>[(7,.bx [⟨true,lI s4.1.c9.ca⟩,⟨true,lE s4.1.c9.ci⟩,⟨true,.xn (List.map lI s4.1.eo)⟩]),(10,.bx [⟨true,lI s4.2.c9.ca⟩,⟨true,lE s4.2.c9.ci⟩,⟨true,(eL 1 lI) s4.2.eo⟩])];exact nz
instance(a b c d):CT (Lh a b c d) 25 [AM a,Bg b,CE c,B7 d] (rT Y7 eI):=Fk f25 0x81264b2a468d777777e758264b0e46cafe5c0bd158264b75468530a776d057aa550353e7550d013b03500257551b77e755a902c902460eee5e0b317fdb900d42900b420ed65d0b735bdb730d42730b42a902c902460e5efe0e5dd1a9a702c91ec98c5577ad264b75466ca902c98c7777e7ad264b75468477e7d911c969a8 [] [.cell 8 (some 38),.tmp 9] fun r h e f=>by
  unfold Lh at h;exact nz
instance(a b c d):CT (Jt a b c d) 10 [AM a,EO b,(eL 25 Bg) c,(eL 4 E7) d] (rT CE eI):=Fk f10 0x81a7770b0802e808045f06cba7771f4258a70111466c264b11c98c770141e43077e7194373d430ada71146ca0173d49773e4300b0802efe808045f0681a710c9114658a71146e5fba701114684018d0110c9695f02 [] [.cell 8 (some 3),.tmp 9] fun r h e f=>by
  unfold Jt at h;have:=BH 0 12 3 0 fun s0:AH×AH=>[(8,.bx [⟨true,lI s0.1.c9.ca⟩,⟨true,lE s0.1.c9.ci⟩,⟨true,(eL 1 lI) s0.1.eo⟩]),(11,.bx [⟨false,lI s0.2.c9.ca⟩,⟨false,lE s0.2.c9.ci⟩,⟨false,(eL 1 lI) s0.2.eo⟩])];exact nz
instance(a b):CT (Kx a b) 56 [lI a,lI b] rB:=Bz f56 0xa505cfac85ea60929697cfb2e5010b01bd [] (Kx.eq_1 ..) (A4 0 5 0 0)
instance(a b):CT (M2 a b) 26 [Al a,Al b] rB:=Bz f26 0xa505edacbff85ef85e00965e5cedb2ca5e0bc6a65da2a8 [.bin (.a [0,0,0]) .neq (.s 32) (.s 37)] (M2.eq_1 ..) (A4 0 5 2 1)
instance(a b):CT (Jc a b) 27 [lI a,lI b] rI:=Bz f27 0x8174010bbd05cfac05eaea85ea91bdffca01307497cf81bd [] (Jc.eq_1 ..) (⟨⟩:HW 0 fun(c:Int)=>[(5,.tv (eI c))])
instance(a b):CT (M4 a b) 11 [CE a,CE b] rB:=Bz f11 0xa505edac850e91aa91aa0096aa5cedb2caaa0bf5a6c1c101a8 [] (M4.eq_1 ..) (A4 0 5 2 2)
instance(a b):CT (Ip a b) 137 [lI a,eI b] rB:=Gr f137 0xa505cfac8801f9f26b05cb019f01ea30f9eff26b059e006a97cf81bd [] (Ip.eq_1 ..) (A4 0 5 1 0) (BH 2 7 0 0 (hT 6 eB))
instance(a b c):CT (HL a b c) 69 [Al a,Al b,As c] rB:=Fe f69 0xdd0eeec60a0ed65d5c0e558d01f1 [] (HL.eq_1 ..)
instance(a b c):CT (Ja a b c) 33 [Al a,Al b,As c] (rT As eI):=Fk f33 0x6013b81a902460eee5e0ed65d58a901468aa6558d01a6558d58a9304684558dd0c9f1 [] [.cell 6 (some 2),.tmp 7] fun r h d e=>by
  unfold Ja at h;exact nz
instance(a b c d):CT (Lj a b c d) 14 [AM a,EO b,(eL 25 Bg) c,F7 d] rB:=Fe f14 0xba308c55fce632c1586c018c7732ad6ca710c98c9b7e8d019369b3 [] (Lj.eq_1 ..)
end Go.Sf.Sc
