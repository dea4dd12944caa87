/- Contracts of the functions. -/
import Derived.Test.YtagcclhejecceaaGreatCon0
import Derived.Test.YtagcclhejecceaaGreatCon1
import Derived.Test.YtagcclhejecceaaGreatTryzShelf
import Derived.Test.YtagcclhejecceaaGreatTw
set_option linter.all false
set_option maxRecDepth 100000
set_option maxHeartbeats 4000000
namespace Go.Sf.Sc
open Go Go.Sf Go.Proofs.Tryz
instance(a b c d e f):CT (E5 a b c d e f) 248 [AM a,Bo b,AP c,CE d,B7 e,eB f] rI:=Fe f248 0xb2c5f558016c828cc177b4ad9a01c1c1c1ad016c018c77ad9ac8b4d9936969cc [] (E5.eq_1 ..)
instance(a b c):CT (Ff a b c) 367 [eI a,lI b,lI c] (rO lI):=Bz f367 0x821807010f0e0d070205da01f49130149e9107fd0f0e0d070205a181991a3047014002cf [] (Ff.eq_1 ..) (BH 0 15 14 0 (hX 7 1 eI))
theorem sQ:CK f371 (.seq (.region [⟨some 4,.mv (.c (.int .i64 0)),none⟩] [0,1])
 (.seq (.seq (.region [⟨some 5,.mv (.s 0),none⟩,
    ⟨some 6,.y9 (.s 5),none⟩] [0,1,6])
  (.cond (.s 6) (.seq (.region [⟨some 4,.mv (.c (.int .i64 (-1))),none⟩] [4])
   (.ret))
  (.skip [0,1])))
 (.seq (.region [⟨some 7,.mv (.s 0),none⟩,
    ⟨some 8,.mv (.s 1),none⟩,
    ⟨some 9,.yb (.s 7) (.s 8) 1,none⟩,
    ⟨some 10,.ld (.s 9),none⟩,
    ⟨some 4,.mv (.s 10),none⟩] [4])
 (.ret)))) [.tmp 4]:=by decide +kernel
instance vc(l:Option Fp)(i:Int):Ct Go.Proofs.Tryz.prog (Kh l i) 371 [(eO 1 eI) l,eI i] (rS eI):=Fi sQ fun r h a b=>by
  cases l with
  |none=>replace h:some (-1)=some r:=h;exact au|some l=>replace h:((VC l).bind fun _=>(idx l i).bind fun x=>some x)=some r:=h;exact au
instance(a b c):CT (Dj a b c) 373 [.pt (Qf a).cells,eI b,eI c] rB:=Fe f373 0x813f074660aa03097f01605e03097f015df890027ffb8acc97610e0190057f01a7e9f8317f5b3002cf [.bin (.a [0,0,0]) .eql (.s 38) (.s 57)] (Dj.eq_1 ..)
instance(a):CT (CC a) 372 [.pt (Qf a).cells] rB:=Gr f372 0xa5141312d30565141312d305141312d30581880114131206d30626251413120604d309daff14131206d306018e0130d814131206d3066a26251413120604d309a190027f61ff141312d30585012caa5ea781e97703436b6a141312d305e0017f5b617403097f9201 [] (CC.eq_1 ..) (A4 0 20 19 0) (BH 2 38 37 0 (hT 6 eB))
noncomputable def Yb:PC:=PC.of LH f359.body (xq bT 0xff00013cf70b7f024802470246201d0abc201d09bc040bbc320001a4a306000465a4a3060004a4a30600043c1f0a7f0151011e0abc320052321f0a7f014fb1011e0abc32ffa4a30600048a0a20011d0abc010307bc0108203032816bfda4a3060004a19002bc81151d0abc8174317f5b32151d0abc00013f3e3d020005653f3e3d0200053f3e3d0200053c1f097f0151011e09bc323f3e3d0200053f3e3d0200053c005232a0321f097f014fb1011e09bc32ff3f3e3d0200058a0a20011d09bc010307bc010a08916091735b5b32cdbc019f0197610e017305bc9e606bfd3f3e3d020005e05b02bc81151d09bc8174735b5b32151d09bc0061050308bc0b030bbc0001) []
theorem sO:CK f359 Yb []:=by decide +kernel
theorem sv:PC.wl Yb=true/\PC.wm 0 Yb=true:=by decide +kernel
abbrev Q_359(n:Nat):Prop:=∀(f:AL),CT (Ay n f) 359 [.undef] (fun r=>.bo (Cv f) (Cv r) 0 [])
theorem sA(n:Nat)(_ih_359:Q_359 n)(f:AL):CT (Ay (n+1) f) 359 [.undef] (fun r=>.bo (Cv f) (Cv r) 0 []):=Yk sO sv fun r h c b d=>by
  unfold Yb;unfold f359;unfold Ay at h;have:=BH 1 63 62 0 fun s1:AL=>[(0,.bx (Cv s1))];have:=BH 3 164 163 0 fun s3:AL=>[(0,.bx (Cv s3))];have:HJ 28 fun(a:AL)=>[(0,.bx (Cv a))]:=⟨⟩;exact nz
theorem r9:∀n:Nat,Q_359 n:=by
  intro n
  induction n with
  |zero=>exact(fun f=>⟨fun _ h=>by cases h⟩)
  |succ n a=>exact sA n a
instance(f):CT (GJ f) 359 [.undef] (fun r=>.bo (Cv f) (Cv r) 0 []):=⟨fun r h=>by
  obtain ⟨N,a⟩:=DD h;exact((r9 N) f).snd r (a N (az _))⟩
theorem sN:CK f321 (Rq [Ac 6 0,Ac 7 1,Ac 8 2,Ac 9 3,⟨some 12,.yw 2,none⟩] [4,5,6,7,8,9]<|Sq (Dr [13,14,15,16,17,18,19,20,21] [Ad 14 7 2,Ad 15 8 2,Ad 16 6 2,⟨some 17,.call 244 [.s 16],none⟩,Ad 18 9 2,Aa 19 4,Aa 20 5,⟨some 21,.yq [.list 1 [],.list 3 [],.list 1 [],.list 3 [],.list 1 [],.nil,.nil,.bool false,.int .i64 0,.nil,.nil,.nil] [(0,2,.s 14),(2,2,.s 15),(4,1,.s 17),(5,2,.s 18),(7,1,.s 19),(8,1,.s 20)],none⟩,⟨some 22,.yn [none,none,none,none,none,none,none,none,none,some ⟨true,.xl 1 []⟩,some ⟨true,.xl 1 []⟩,some ⟨true,.list 2 []⟩] (.s 21),none⟩,⟨some 13,.bad 22 0,none⟩] [13,22])<|Rq [Ae 23 13 0,⟨some 24,.w6 359 [.s 23] 0,none⟩] [13,22]<|Rq [Ae 25 13 0,Ae 26 25 0,Ae 27 26 11,⟨some 28,.ld (.s 27),none⟩,Ab 12 28] [12]<|.ret) [.tmp 12]:=by decide +kernel
instance(a b c d e f):CT (HQ a b c d e f) 321 [AM a,Al b,Al c,ky d,eB e,eI f] (rS (eL 2 As)):=Fi sN fun r h g i=>by
  unfold HQ at h;exact au
instance(a b c d e):CT (JL a b c d e) 278 [AM a,Al b,Al c,ky d,eB e] (rT (eL 2 As) eI):=Fe f278 0x8182fb02c0e501820e018d8dd04069690401 [] (JL.eq_1 ..)
instance(a b):CT (Lz a b) 379 [eI a,.pt [eI b]] rB:=Fe f379 0x819f039701bd [] (Lz.eq_1 ..)
instance(a b):CT (Gy a b) 375 [lI a,eI b] rI:=Fe f375 0xb28e1030be01 [] (Gy.eq_1 ..)
instance(a b c d e):CT (GY a b c d e) 368 [AM a,Al b,Al c,As d,eB e] (rT (eL 2 As) eI):=Fe f368 0x8182760e018d8d5802c09aee5e5802c09ad65d5802c0ca5eee5cd6d65802c09a558dd04069690401 [] (GY.eq_1 ..)
instance(a b):CT (Ei a b) 253 [N0 a,lI b] (rT eI eI):=Fe f253 0x9e0e01ad81c574015d30df [] (Ei.eq_1 ..)
instance(a b c d):CT (Dn a b c d) 369 [CU a,Bo b,As c,lI d] (rT lI eB):=kZ f369 0x8182180a016867660a04d501c0882014b4e204c9b405430afd6867660a04e0fc9f022c2b2a0b0ab608d501c08acc9761817601201455c42c2b2a0f0e0b0ab60a2c2b2a0f0e0b0ab60a3c01f401f40590c4301401148a0817e101145c6173c481605e60605d5d5f41c4f605c9ece49f026a2c2b2a0b0ab608e0c40b0ab60522210b0ab607da01f40114d80b0ab6056a22210b0ab607a101993fd7993f7401d71a013040936931 [.yj 1 22 (.int .i64 0) (.s 27),.yg 1 [.bool false] (.s 30)] (Dn.eq_1 ..) (BH 0 34 33 0 (hX 11 1 eB)) (BH 2 44 43 0 fun s2:Fp×a5=>[(10,.xo 1 (List.map eI s2.1)),(11,.xo 1 (List.map eB s2.2))]) (A4 4 104 103 0)
instance(a b c):CT (CF a b c) 354 [CU a,AP b,B7 c] (rT (eL 3 B7) eI):=Bz f354 0x8182020c013b3a390c6d0307da3b3a390c6d03073b3a390c6d03073c020348034709460155029e828caa55b4fc0644a902c95502430cfd3b3a390c6d0307a18103c05803c0016c828c0305428d5bc48d32a902c902460efe90c4ee0ed173c4d6a908c9e6047e0340f1 [] (CF.eq_1 ..) (BH 0 59 58 0 (hO 12 (eL 3 B7)))
abbrev zq(n:Nat):Prop:=∀(a:BU)(c:d5)(m:AU),CT (An n a c m) 249 [CU a,AP c,B7 m] (rT EN eI)
abbrev zA(n:Nat):Prop:=∀(a:BU)(c:d5)(m:AU),CT (BQ n a c m) 306 [CU a,AP c,B7 m] (rT EN eI)
theorem rq(n:Nat)(_ih_249:zq n)(_ih_306:zA n)(a:BU)(c:d5)(m:AU):CT (An (n+1) a c m) 249 [CU a,AP c,B7 m] (rT EN eI):=Fk f249 0xba4b0a467ce2760e77c80644baba4b0a4606014b4a499d0306d5e2010a4685fbe20b460547b4016ce20ec98c77c80644094bddc9c8098906fd4b4a499d0306e0bbbaba4bb40a06022f2e2d0a9d0307daf7fc05480547b404fc58e2010a466ce20ec98c77c80644094b0ac9c809430a06026a2f2e2d0a9d0307e0bb0ec9baba4b010a467ce20a46baba4b0a46ba9ee20e498c77c809435e0644ba833275c9f1 [] [.cell 6 (some 5),.tmp 7] fun r h b d=>by
  unfold An at h;have:=BH 2 47 46 0 fun s2:A6×A6=>[(6,.bx [⟨false,eI s2.1.w2⟩,⟨true,lI s2.1.o3.d3.ca⟩,⟨true,lI s2.1.o3.d3.ci⟩,⟨true,lI s2.1.o3.fd⟩,⟨true,Hj s2.1.gn⟩]),(10,.bx [⟨false,eI s2.2.w2⟩,⟨true,lI s2.2.o3.d3.ca⟩,⟨true,lI s2.2.o3.d3.ci⟩,⟨true,lI s2.2.o3.fd⟩,⟨true,Hj s2.2.gn⟩])];have:=BH 4 75 74 0 fun s4:A6=>[(6,.bx [⟨false,eI s4.w2⟩,⟨true,lI s4.o3.d3.ca⟩,⟨true,lI s4.o3.d3.ci⟩,⟨true,lI s4.o3.fd⟩,⟨true,Hj s4.gn⟩])];exact nz
theorem r7(n:Nat)(_ih_249:zq n)(_ih_306:zA n)(a:BU)(c:d5)(m:AU):CT (BQ (n+1) a c m) 306 [CU a,AP c,B7 m] (rT EN eI):=Fk f306 0xba4b0a4606011b1a1906040306d5e2010a4685fbe20c460547b4776ce20ec98c77c809435e0644a70fc977034306fd1b1a1906040306a1b2e2010a466c828c77c8064475c9f1 [] [.cell 6 (some 5),.tmp 7] fun r h b d=>by
  unfold BQ at h;have:=BH 0 27 26 0 fun s0:A6=>[(6,.bx [⟨false,eI s0.w2⟩,⟨true,lI s0.o3.d3.ca⟩,⟨true,lI s0.o3.d3.ci⟩,⟨true,lI s0.o3.fd⟩,⟨true,Hj s0.gn⟩])];exact nz
theorem kj:∀n:Nat,zq n/\zA n:=by
  intro n
  induction n with
  |zero=>exact⟨(fun b c m=>⟨fun _ h=>by cases h⟩),(fun b c m=>⟨fun _ h=>by cases h⟩)⟩
  |succ n a=>exact⟨rq n a.1 a.2,r7 n a.1 a.2⟩
instance(s_0 c m):CT (Eu s_0 c m) 249 [CU s_0,AP c,B7 m] (rT EN eI):=⟨fun r h=>by
  obtain ⟨N,a⟩:=DD h;exact((kj N).1 s_0 c m).snd r (a N (az _))⟩
instance(s_0 c m):CT (Ok s_0 c m) 306 [CU s_0,AP c,B7 m] (rT EN eI):=⟨fun r h=>by
  obtain ⟨N,a⟩:=DD h;exact((kj N).2 s_0 c m).snd r (a N (az _))⟩
instance(a b c d e f):CT (EB a b c d e f) 175 [AM a,Bo b,AP c,CE d,B7 e,eB f] (rT EN eI):=Fk f175 0xba4b760e77c80d460177ade2010a4684017777c8b45575c9936969cc [] [.cell 12 (some 5),.tmp 13] fun r h g i=>by
  unfold EB at h;exact nz
instance(a b c d e f):CT (Da a b c d e f) 100 [AM a,Bo b,AP c,CE d,B7 e,eB f] (rT eB eI):=Fe f100 0x9e5cfb816ce20e498c017777c8b45530936969cc [] (Da.eq_1 ..)
instance(a):CT (Iy a) 101 [B7 a] (rS B7):=Fk f101 0xb33ba709460eaa02460efe0ed10fc9be [] [.cell 2 (some 3)] fun r h b c=>by
  unfold Iy at h;exact nz
instance(a):CT (Jf a) 102 [CE a] (rS CE):=Fk f102 0xa7775f021312115f05daf7fadc0148304704c482605f026a1312115f05e0c4035010c93f3f0efe0ed110c9be [.wP [.w 9,.w 13],.wP [.g 14 0 2,.g 14 1 2,.z ⟨true,.list 1 []⟩]] [.cell 2 (some 3)] fun r h b c=>by
  unfold Jf at h;have:=BH 0 19 18 0 fun s0:AH=>[(3,.bx [⟨true,lI s0.c9.ca⟩,⟨true,lE s0.c9.ci⟩,⟨true,(eL 1 lI) s0.eo⟩])];exact nz
instance(a b):CT (LA a b) 103 [eI a,lI b] (rO lI):=Bz f103 0x8218cc0d0ccc04da01f430140d0cf201060d0cf201063c018861818c30815cfd0d0ccc04819514993f30406b02 [.yg 1 [.int .i64 0] (.s 9)] (LA.eq_1 ..) (BH 0 13 12 0 (hX 5 1 eI))
instance(a b c d e f):CT (GF a b c d e f) 104 [eI a,lI b,lI c,lI d,lI e,eI f] (rO lI):=Gr f104 0x82180d012b2a0d6dda2b2a0d6d2b2a0d6d6530f430148517e10114d80dfd2b2a0d6d8195140d05021615140d6d3108da01f46060913030149e910d05026a1615140d6d3108a181991a304701406d5f6b06 [] (GF.eq_1 ..) (BH 0 22 21 0 (hX 13 1 eI)) (BH 2 43 42 0 fun s2:Int×Fp=>[(5,.tv (eI s2.1)),(13,.xo 1 (List.map eI s2.2))])
instance(a b):CT (JO a b) 178 [AM a,eI b] (rO lI):=Bz f178 0x820207011312110704dab3dc5e02f603c9ece407fd1312110704a18182b101828c01d940df [] (JO.eq_1 ..) (BH 0 19 18 0 (hO 7 lI))
noncomputable def YX:PC:=PC.of LH f105.body (xq bT 0x30b0afaef3dab0afaef3b0afaef33cf7017f1f7f03480347074660aa7324bc605e7324bc5d04017f1fbc32e5317f1fbc919024bca781e9f8306ab0afaef3e0bb07d07b7a79073106da7b7a790731067b7a790731063c1f02411f7f21221a01552302411fbc32f75b5b1f7f01dcf35b5b1fbc32e5735b1fbc917324bc9e9107d06a7b7a79073106e0320731a74a4907063107daf7017f1f7f03480347074660aa7322bc605e7322bc5d04017f1fbc32a7e9f8fe81600731036a4b4a4907063107e0bbf231051e1d1cf23108da1f02411f7f2122014f91f5562302411fbc32f75b5b1f7f01dc91d1045b5b1fbc328160f231056a1e1d1cf23108e032a9a708c910c9e6067f5b32771cbc6930) []
theorem sI:CK f105 YX []:=by decide +kernel
theorem si:PC.wl YX=true/\PC.wm 1 YX=true:=by decide +kernel
instance(a b c):CT (IE a b c) 105 [AM a,.undef,GM c] (fun r=>.bo (DV b) (DV r) 1 []):=Yk sI si fun r h e d f=>by
  unfold YX;unfold f105;unfold IE at h;have:=BH 0 30 29 0 fun s0:BS=>[(1,.bx (DV s0))];have:=BH 2 75 74 0 fun s2:BS=>[(1,.bx (DV s2))];have:=BH 4 123 122 0 fun s4:BS=>[(1,.bx (DV s4))];have:=BH 6 176 175 0 fun s6:BS=>[(1,.bx (DV s6))];exact nz
theorem sM:CK f179 (.seq (.region [⟨some 1,.yr (.s 0),none⟩,
    ⟨some 2,.mv (.c .undef),none⟩,
    ⟨some 3,.mv (.c (.int .i64 0)),none⟩] [1])
 (.seq (.region [⟨some 12,.yQ,none⟩,
    ⟨some 4,.zI 12,none⟩] [1,4,12])
 (.seq (.seq (.region [⟨some 13,.bad 1 0,none⟩,
    ⟨some 14,.w3 (.s 13) 6,none⟩,
    ⟨some 15,.w3 (.s 14) 2,none⟩,
    ⟨some 16,.ld (.s 15),none⟩,
    ⟨some 17,.len (.s 16),none⟩,
    ⟨some 18,.mv (.c (.int .i64 0)),none⟩] [1,4,12,16,17,18])
 (.block 0 (.loop [1,4,12,16,17,18] (.seq (.region [⟨some 19,.bin (.i) .lss (.s 18) (.s 17),none⟩] [1,4,12,16,17,18,19])
 (.seq (.cond (.s 19) (.skip [1,4,12,16,17,18])
 (.exit 0 [4,12]))
 (.seq (.block 1 (.seq (.region [⟨some 20,.yb (.s 16) (.s 18) 4,none⟩,
    ⟨some 21,.yt (.s 20) 4,none⟩,
    ⟨some 6,.yY [⟨false,.int .i64 0⟩,⟨false,.int .i64 0⟩,⟨false,.int .i64 0⟩,⟨false,.int .i64 0⟩],none⟩,
    ⟨none,.yy 4 6 (.s 21),none⟩] [1,4,6,12,16,17,18])
 (.seq (.region [⟨some 23,.bad 6 2,none⟩,
    ⟨some 24,.yt (.s 23) 2,none⟩,
    ⟨some 25,.bad 1 25,none⟩,
    ⟨some 26,.w3 (.s 25) 2,none⟩,
    ⟨some 27,.ld (.s 26),none⟩,
    ⟨some 28,.call 253 [.s 24,.s 27],none⟩,
    ⟨some 22,.mv (.s 28),none⟩,
    ⟨some 29,.ext (.s 22) 0,none⟩,
    ⟨some 30,.ext (.s 22) 1,none⟩,
    ⟨some 7,.mv (.s 29),none⟩,
    ⟨some 8,.mv (.s 30),none⟩] [1,4,6,7,8,12,16,17,18])
 (.seq (.seq (.region [⟨some 31,.mv (.s 8),none⟩,
    ⟨some 32,.bin (.i) .neq (.s 31) (.c (.int .i64 0)),none⟩] [1,4,6,7,8,12,16,17,18,32])
 (.cond (.s 32) (.seq (.region [⟨some 33,.mv (.s 8),none⟩,
    ⟨some 2,.mv (.c .undef),none⟩,
    ⟨some 3,.mv (.s 33),none⟩] [2,3,12])
 .ret)
 (.skip [1,4,6,7,12,16,17,18])))
 (.seq (.draw [9,34,35,36,37,38,39,40,41,42,43] [⟨some 34,.bad 1 36,none⟩,
    ⟨some 35,.w3 (.s 34) 0,none⟩,
    ⟨some 36,.ld (.s 35),none⟩,
    ⟨some 37,.bad 6 0,none⟩,
    ⟨some 38,.ld (.s 37),none⟩,
    ⟨some 39,.yb (.s 36) (.s 38) 1,none⟩,
    ⟨some 40,.ld (.s 39),none⟩,
    ⟨some 41,.bad 6 1,none⟩,
    ⟨some 42,.ld (.s 41),none⟩,
    ⟨some 43,.yq [.int .i64 0,.int .i64 0] [(0,1,.s 40),(1,1,.s 42)],none⟩,
    ⟨some 9,.yY [⟨false,.int .i64 0⟩,⟨false,.int .i64 0⟩],none⟩,
    ⟨none,.yy 2 9 (.s 43),none⟩] [1,4,7,9,12,16,17,18])
 (.seq (.seq (.region [⟨some 45,.mv (.s 4),none⟩,
    ⟨some 46,.yt (.s 9) 2,none⟩,
    ⟨some 47,.zK 12 (.s 45) (.s 46),none⟩,
    ⟨some 44,.mv (.s 47),none⟩,
    ⟨some 48,.ext (.s 44) 0,none⟩,
    ⟨some 49,.ext (.s 44) 1,none⟩,
    ⟨some 10,.mv (.s 48),none⟩,
    ⟨some 11,.mv (.s 49),none⟩] [1,4,7,9,10,11,12,16,17,18])
 (.seq (.region [⟨some 50,.mv (.s 11),none⟩,
    ⟨some 51,.mv (.s 50),none⟩,
    ⟨some 52,.mv (.s 10),some (51,true)⟩,
    ⟨some 53,.mv (.s 7),some (51,true)⟩,
    ⟨some 54,.bin (.i) .neq (.s 52) (.s 53),some (51,true)⟩,
    ⟨some 55,.pick (.s 51) (.s 54) (.c (.bool false)),none⟩] [1,4,7,9,12,16,17,18,55])
 (.cond (.s 55) (.seq (.region [⟨some 2,.mv (.c .undef),none⟩,
    ⟨some 3,.mv (.c (.int .i64 11)),none⟩] [2,3,12])
 .ret)
 (.skip [1,4,7,9,12,16,17,18]))))
 (.region [⟨some 56,.mv (.s 4),none⟩,
    ⟨some 57,.yt (.s 9) 2,none⟩,
    ⟨some 58,.mv (.s 7),none⟩,
    ⟨none,.zi 12 (.s 56) (.s 57) (.s 58),none⟩] [1,4,12,16,17,18])))))))
 (.region [⟨some 59,.bin (.i) .add (.s 18) (.c (.int .i64 1)),none⟩,
    ⟨some 18,.mv (.s 59),none⟩] [1,4,12,16,17,18])))))))
 (.seq (.region [⟨some 60,.mv (.s 4),none⟩,
    ⟨some 2,.mv (.s 60),none⟩,
    ⟨some 3,.mv (.c (.int .i64 0)),none⟩] [2,3,12])
 .ret)))) [.tmp 2,.tmp 3]:=by decide +kernel
instance vp(s:BS):Ct Go.Proofs.Tryz.prog (Hp s) 179 [bL s] Mu:=vG sM fun r h d e=>by
  unfold Hp at h;have K:∀b:Nat,HA 0 18 17 0 fun(a:Int)(c:BT)=>[(12,.mx (.mp b c)),(18,.tv (eI a))]:=fun _=>⟨⟩;have:t8 12:=⟨⟩;exact au
theorem XP(t:AC)(s:BS)(V:List Fp)(p:(Int×Int)×Int)(a:BT)(r:Bx (List Fp) Unit)(h:N1 t s V p=some r):WP (AR Go.Proofs.Tryz.prog) (.block 1 (.seq (.region [⟨some 25,.zr 22,none⟩,
    ⟨some 26,.ext (.s 25) 0,none⟩,
    ⟨some 27,.ext (.s 25) 1,none⟩,
    ⟨some 7,.yY [⟨false,.int .i64 0⟩,⟨false,.int .i64 0⟩],none⟩,
    ⟨none,.yy 2 7 (.s 26),none⟩,
    ⟨some 8,.mv (.s 27),none⟩] [1,2,7,8,22])
 (.seq (.draw [9,10,28,29,30,31,32,33,34,35,36,37,38,39,40,41,42] [⟨some 29,.yt (.s 2) 2,none⟩,
    ⟨some 30,.bad 1 0,none⟩,
    ⟨some 31,.w3 (.s 30) 0,none⟩,
    ⟨some 32,.w3 (.s 31) 31,none⟩,
    ⟨some 33,.w3 (.s 32) 0,none⟩,
    ⟨some 34,.w3 (.s 33) 0,none⟩,
    ⟨some 35,.ld (.s 34),none⟩,
    ⟨some 36,.bad 7 0,none⟩,
    ⟨some 37,.ld (.s 36),none⟩,
    ⟨some 38,.yb (.s 35) (.s 37) 1,none⟩,
    ⟨some 39,.ld (.s 38),none⟩,
    ⟨some 40,.call 124 [.s 29,.s 39],none⟩,
    ⟨some 28,.mv (.s 40),none⟩,
    ⟨some 41,.ext (.s 28) 0,none⟩,
    ⟨some 42,.ext (.s 28) 1,none⟩,
    ⟨some 9,.mv (.s 41),none⟩,
    ⟨some 10,.mv (.s 42),none⟩] [1,2,7,8,9,22])
 (.seq (.seq (.region [⟨some 43,.mv (.s 8),none⟩,
    ⟨some 44,.mv (.s 9),none⟩,
    ⟨some 45,.bad 7 1,none⟩,
    ⟨some 46,.ld (.s 45),none⟩,
    ⟨some 47,.yb (.s 44) (.s 46) 4,none⟩,
    ⟨some 48,.w3 (.s 47) 1,none⟩,
    ⟨some 49,.ld (.s 48),none⟩,
    ⟨some 50,.bin (.i) .lss (.s 43) (.s 49),none⟩,
    ⟨some 51,.mv (.s 50),none⟩,
    ⟨some 52,.mv (.s 8),some (51,false)⟩,
    ⟨some 53,.mv (.s 9),some (51,false)⟩,
    ⟨some 54,.bad 7 1,some (51,false)⟩,
    ⟨some 55,.ld (.s 54),some (51,false)⟩,
    ⟨some 56,.yb (.s 53) (.s 55) 4,some (51,false)⟩,
    ⟨some 57,.w3 (.s 56) 2,some (51,false)⟩,
    ⟨some 58,.ld (.s 57),some (51,false)⟩,
    ⟨some 59,.bin (.i) .gtr (.s 52) (.s 58),some (51,false)⟩,
    ⟨some 60,.pick (.s 51) (.c (.bool true)) (.s 59),none⟩] [1,2,7,8,22,60])
 (.cond (.s 60) (.seq (.region [⟨some 4,.mv (.c (.int .i64 6)),none⟩] [1,4])
 .ret)
 (.skip [1,2,7,8,22])))
 (.draw [61,62,63,64,65,66,67,68,69,70,71,72,73] [⟨some 61,.bad 1 0,none⟩,
    ⟨some 62,.w3 (.s 61) 0,none⟩,
    ⟨some 63,.w3 (.s 62) 31,none⟩,
    ⟨some 64,.w3 (.s 63) 2,none⟩,
    ⟨some 65,.zu (.s 64),none⟩,
    ⟨some 66,.bad 7 0,none⟩,
    ⟨some 67,.ld (.s 66),none⟩,
    ⟨some 68,.yO (.s 65) (.s 67),none⟩,
    ⟨some 69,.zj (.s 68),none⟩,
    ⟨some 70,.bad 7 1,none⟩,
    ⟨some 71,.ld (.s 70),none⟩,
    ⟨some 72,.mv (.s 8),none⟩,
    ⟨some 73,.yO (.s 69) (.s 71),none⟩,
    ⟨none,.yP (.s 73) (.s 72),none⟩] [1,2,22]))))) ⟨fun e=>∃b,r=.next b/\Rn (e.ff [1,2,22]) [(1,.bx (DV (NJ s b))),(2,.tv (.pt (AM t).cells)),(22,.mx (.mi (some p) a))],fun _ _=>False,fun e=>∃v,r=.ret v/\Rn e [(1,.bx (DV (NJ s V))),(4,.tv (eI 6))]⟩ [(1,.bx (DV (NJ s V))),(2,.tv (.pt (AM t).cells)),(22,.mx (.mi (some p) a))]:=by
  unfold N1 at h;exact au
noncomputable def YY:PC:=(.seq (.region [⟨some 2,.yr (.s 0),none⟩,
    ⟨some 4,.mv (.c (.int .i64 0)),none⟩] [1,2])
 (.seq (.region [⟨some 12,.bad 1 0,none⟩,
    ⟨some 13,.w3 (.s 12) 0,none⟩,
    ⟨some 14,.yt (.s 13) 38,none⟩,
    ⟨some 15,.xw 179 [.s 14],none⟩,
    ⟨some 11,.zI 15,none⟩,
    ⟨some 16,.ext (.s 11) 0,none⟩,
    ⟨some 17,.ext (.s 11) 1,none⟩,
    ⟨some 5,.mv (.s 16),none⟩,
    ⟨some 6,.mv (.s 17),none⟩] [1,2,5,6,15])
 (.seq (.seq (.region [⟨some 18,.mv (.s 6),none⟩,
    ⟨some 19,.bin (.i) .neq (.s 18) (.c (.int .i64 0)),none⟩] [1,2,5,6,15,19])
 (.cond (.s 19) (.seq (.region [⟨some 20,.mv (.s 6),none⟩,
    ⟨some 4,.mv (.s 20),none⟩] [1,4])
 .ret)
 (.skip [1,2,5,15])))
 (.seq (.seq (.region [⟨some 21,.mv (.s 5),none⟩,
    ⟨some 22,.wi 15 (.s 21),none⟩] [1,2,22])
 (.block 0 (.loop [1,2,22] (.seq (.region [⟨some 23,.zm 22,none⟩,
    ⟨some 24,.ext (.s 23) 0,none⟩] [1,2,22,24])
 (.seq (.cond (.s 24) (.skip [1,2,22])
 (.exit 0 [1]))
 (.block 1 (.seq (.region [⟨some 25,.zr 22,none⟩,
    ⟨some 26,.ext (.s 25) 0,none⟩,
    ⟨some 27,.ext (.s 25) 1,none⟩,
    ⟨some 7,.yY [⟨false,.int .i64 0⟩,⟨false,.int .i64 0⟩],none⟩,
    ⟨none,.yy 2 7 (.s 26),none⟩,
    ⟨some 8,.mv (.s 27),none⟩] [1,2,7,8,22])
 (.seq (.draw [9,10,28,29,30,31,32,33,34,35,36,37,38,39,40,41,42] [⟨some 29,.yt (.s 2) 2,none⟩,
    ⟨some 30,.bad 1 0,none⟩,
    ⟨some 31,.w3 (.s 30) 0,none⟩,
    ⟨some 32,.w3 (.s 31) 31,none⟩,
    ⟨some 33,.w3 (.s 32) 0,none⟩,
    ⟨some 34,.w3 (.s 33) 0,none⟩,
    ⟨some 35,.ld (.s 34),none⟩,
    ⟨some 36,.bad 7 0,none⟩,
    ⟨some 37,.ld (.s 36),none⟩,
    ⟨some 38,.yb (.s 35) (.s 37) 1,none⟩,
    ⟨some 39,.ld (.s 38),none⟩,
    ⟨some 40,.call 124 [.s 29,.s 39],none⟩,
    ⟨some 28,.mv (.s 40),none⟩,
    ⟨some 41,.ext (.s 28) 0,none⟩,
    ⟨some 42,.ext (.s 28) 1,none⟩,
    ⟨some 9,.mv (.s 41),none⟩,
    ⟨some 10,.mv (.s 42),none⟩] [1,2,7,8,9,22])
 (.seq (.seq (.region [⟨some 43,.mv (.s 8),none⟩,
    ⟨some 44,.mv (.s 9),none⟩,
    ⟨some 45,.bad 7 1,none⟩,
    ⟨some 46,.ld (.s 45),none⟩,
    ⟨some 47,.yb (.s 44) (.s 46) 4,none⟩,
    ⟨some 48,.w3 (.s 47) 1,none⟩,
    ⟨some 49,.ld (.s 48),none⟩,
    ⟨some 50,.bin (.i) .lss (.s 43) (.s 49),none⟩,
    ⟨some 51,.mv (.s 50),none⟩,
    ⟨some 52,.mv (.s 8),some (51,false)⟩,
    ⟨some 53,.mv (.s 9),some (51,false)⟩,
    ⟨some 54,.bad 7 1,some (51,false)⟩,
    ⟨some 55,.ld (.s 54),some (51,false)⟩,
    ⟨some 56,.yb (.s 53) (.s 55) 4,some (51,false)⟩,
    ⟨some 57,.w3 (.s 56) 2,some (51,false)⟩,
    ⟨some 58,.ld (.s 57),some (51,false)⟩,
    ⟨some 59,.bin (.i) .gtr (.s 52) (.s 58),some (51,false)⟩,
    ⟨some 60,.pick (.s 51) (.c (.bool true)) (.s 59),none⟩] [1,2,7,8,22,60])
 (.cond (.s 60) (.seq (.region [⟨some 4,.mv (.c (.int .i64 6)),none⟩] [1,4])
 .ret)
 (.skip [1,2,7,8,22])))
 (.draw [61,62,63,64,65,66,67,68,69,70,71,72,73] [⟨some 61,.bad 1 0,none⟩,
    ⟨some 62,.w3 (.s 61) 0,none⟩,
    ⟨some 63,.w3 (.s 62) 31,none⟩,
    ⟨some 64,.w3 (.s 63) 2,none⟩,
    ⟨some 65,.zu (.s 64),none⟩,
    ⟨some 66,.bad 7 0,none⟩,
    ⟨some 67,.ld (.s 66),none⟩,
    ⟨some 68,.yO (.s 65) (.s 67),none⟩,
    ⟨some 69,.zj (.s 68),none⟩,
    ⟨some 70,.bad 7 1,none⟩,
    ⟨some 71,.ld (.s 70),none⟩,
    ⟨some 72,.mv (.s 8),none⟩,
    ⟨some 73,.yO (.s 69) (.s 71),none⟩,
    ⟨none,.yP (.s 73) (.s 72),none⟩] [1,2,22]))))))))))
 (.seq (.region [⟨some 4,.mv (.c (.int .i64 0)),none⟩] [1,4])
 .ret)))))
theorem sJ:CK f106 YY [.tmp 4]:=by decide +kernel
theorem sj:PC.wl YY=true/\PC.wm 1 YY=true:=by decide +kernel
variable{t:AC}{s:BS}
theorem cu{p:(Int×Int)×Int}{b:Bool}(h:N2 t s p=some b){V:List Fp}(a:Km V s.sx.eo):
    (b=true->N1 t s V p=some (.next (Ca V p)))/\(b=false->N1 t s V p=some (.ret ())):=by
  unfold N2 N1 at h;unfold N1;obtain⟨c,d,h⟩:=bind_some h;obtain⟨q,f,d⟩:=bind_some d;obtain⟨r,g,d⟩:=bind_some d;obtain⟨u,i,d⟩:=bind_some d;obtain⟨j,k,d⟩:=bind_some d;simp only[f,g,i,Option.bind_some]at *;rw[k,Option.bind_some];cases j with
  |true=>
    simp only[if_true,tg]at d|-;subst d;simp only[tg]at h;subst h;exact⟨fun e=>(by cases e),fun _=>trivial⟩
  |false=>
    simp only[Bool.false_eq_true,if_false]at d|-;obtain⟨v,l,d⟩:=bind_some d;obtain⟨w,m,d⟩:=bind_some d;cases d;simp only[tg]at h;subst h;obtain⟨x,x',n,o⟩:=a.idx l m;refine⟨fun _=>?_,fun e=>(by cases e)⟩;rw[n,Option.bind_some,o,Option.bind_some,ZE n o]
theorem ey{a:BT}{c:Bool}(g:a.zF)(f:xm (N2 t s) a=some c){M z:AB->Prop}{x:Nat->AB->Prop}{d:AB->Prop}
    (n:c=true->z [(1,.bx (DV (NJ s (a.foldl Ca s.sx.eo))))])(m:c=false->∀V,d [(1,.bx (DV (NJ s V))),(4,.tv (eI 6))]):
    WP (AR Go.Proofs.Tryz.prog) (.loop [1,2,22] (.seq (.region [⟨some 23,.zm 22,none⟩,
    ⟨some 24,.ext (.s 23) 0,none⟩] [1,2,22,24])
 (.seq (.cond (.s 24) (.skip [1,2,22])
 (.exit 0 [1]))
 (.block 1 (.seq (.region [⟨some 25,.zr 22,none⟩,
    ⟨some 26,.ext (.s 25) 0,none⟩,
    ⟨some 27,.ext (.s 25) 1,none⟩,
    ⟨some 7,.yY [⟨false,.int .i64 0⟩,⟨false,.int .i64 0⟩],none⟩,
    ⟨none,.yy 2 7 (.s 26),none⟩,
    ⟨some 8,.mv (.s 27),none⟩] [1,2,7,8,22])
 (.seq (.draw [9,10,28,29,30,31,32,33,34,35,36,37,38,39,40,41,42] [⟨some 29,.yt (.s 2) 2,none⟩,
    ⟨some 30,.bad 1 0,none⟩,
    ⟨some 31,.w3 (.s 30) 0,none⟩,
    ⟨some 32,.w3 (.s 31) 31,none⟩,
    ⟨some 33,.w3 (.s 32) 0,none⟩,
    ⟨some 34,.w3 (.s 33) 0,none⟩,
    ⟨some 35,.ld (.s 34),none⟩,
    ⟨some 36,.bad 7 0,none⟩,
    ⟨some 37,.ld (.s 36),none⟩,
    ⟨some 38,.yb (.s 35) (.s 37) 1,none⟩,
    ⟨some 39,.ld (.s 38),none⟩,
    ⟨some 40,.call 124 [.s 29,.s 39],none⟩,
    ⟨some 28,.mv (.s 40),none⟩,
    ⟨some 41,.ext (.s 28) 0,none⟩,
    ⟨some 42,.ext (.s 28) 1,none⟩,
    ⟨some 9,.mv (.s 41),none⟩,
    ⟨some 10,.mv (.s 42),none⟩] [1,2,7,8,9,22])
 (.seq (.seq (.region [⟨some 43,.mv (.s 8),none⟩,
    ⟨some 44,.mv (.s 9),none⟩,
    ⟨some 45,.bad 7 1,none⟩,
    ⟨some 46,.ld (.s 45),none⟩,
    ⟨some 47,.yb (.s 44) (.s 46) 4,none⟩,
    ⟨some 48,.w3 (.s 47) 1,none⟩,
    ⟨some 49,.ld (.s 48),none⟩,
    ⟨some 50,.bin (.i) .lss (.s 43) (.s 49),none⟩,
    ⟨some 51,.mv (.s 50),none⟩,
    ⟨some 52,.mv (.s 8),some (51,false)⟩,
    ⟨some 53,.mv (.s 9),some (51,false)⟩,
    ⟨some 54,.bad 7 1,some (51,false)⟩,
    ⟨some 55,.ld (.s 54),some (51,false)⟩,
    ⟨some 56,.yb (.s 53) (.s 55) 4,some (51,false)⟩,
    ⟨some 57,.w3 (.s 56) 2,some (51,false)⟩,
    ⟨some 58,.ld (.s 57),some (51,false)⟩,
    ⟨some 59,.bin (.i) .gtr (.s 52) (.s 58),some (51,false)⟩,
    ⟨some 60,.pick (.s 51) (.c (.bool true)) (.s 59),none⟩] [1,2,7,8,22,60])
 (.cond (.s 60) (.seq (.region [⟨some 4,.mv (.c (.int .i64 6)),none⟩] [1,4])
 .ret)
 (.skip [1,2,7,8,22])))
 (.draw [61,62,63,64,65,66,67,68,69,70,71,72,73] [⟨some 61,.bad 1 0,none⟩,
    ⟨some 62,.w3 (.s 61) 0,none⟩,
    ⟨some 63,.w3 (.s 62) 31,none⟩,
    ⟨some 64,.w3 (.s 63) 2,none⟩,
    ⟨some 65,.zu (.s 64),none⟩,
    ⟨some 66,.bad 7 0,none⟩,
    ⟨some 67,.ld (.s 66),none⟩,
    ⟨some 68,.yO (.s 65) (.s 67),none⟩,
    ⟨some 69,.zj (.s 68),none⟩,
    ⟨some 70,.bad 7 1,none⟩,
    ⟨some 71,.ld (.s 70),none⟩,
    ⟨some 72,.mv (.s 8),none⟩,
    ⟨some 73,.yO (.s 69) (.s 71),none⟩,
    ⟨none,.yP (.s 73) (.s 72),none⟩] [1,2,22])))))))) ⟨M,fun j e=>if j=0 then z e else x j e,d⟩ [(1,.bx (DV s)),(2,.tv (.pt (AM t).cells)),(22,.mx (.mi none a))]:=by
  obtain ⟨m1,R⟩:=WD f;refine⟨nO _ (σ:=List Fp×Option ((Int×Int)×Int)×BT) (fun σ=>[(1,.bx (DV (NJ s σ.1))),(2,.tv (.pt (AM t).cells)),(22,.mx (.mi σ.2.1 σ.2.2))])
    (fun σ=>Km σ.1 s.sx.eo/\(∀l,σ.2.2.Perm l->l.foldl Ca σ.1=a.foldl Ca s.sx.eo)/\(∀p∈σ.2.2,p∈a)/\(c=false->∃p∈σ.2.2,N2 t s p=some false))
    (fun σ=>σ.2.2.length) (s.sx.eo,none,a) rfl ⟨rfl,fun l A=>Vp g A _,fun p r=>r,R⟩ ?_⟩
  rintro ⟨V,last,u⟩ ⟨I,J,K,L⟩ W;refine WP.out (?_:WP _ _ _ _);apply J2;apply Ox;refine ta rfl (by decide) (fun e=>?_) (fun p o r=>?_)
  · simp only at e
    subst e;have P:c=true:=by
      cases c with
      |true=>rfl|false=>obtain⟨p,r,_⟩:=L rfl;cases r
    have Q:V=a.foldl Ca s.sx.eo:=J [] (List.Perm.refl _);apply st 1;exact rfl;exact fun _ k=>k;apply Mb;(focus (repeat(first|exact H6|(apply J9;exact rfl)|(apply J6;exact rfl)|(apply J7;exact rfl)|(apply KA;exact rfl)|(apply J8;exact rfl))));intro C;apply J2;apply Qb;exact rfl;exact rfl;apply eX;(focus (repeat(first|exact H6|(apply J9;exact rfl)|(apply J6;exact rfl)|(apply J7;exact rfl)|(apply KA;exact rfl)|(apply J8;exact rfl))));show(if(0:Nat)=0 then z [(1,.bx (DV (NJ s V)))]else x 0 [(1,.bx (DV (NJ s V)))]);rw[a6 rfl,Q];exact n P
  · apply st 1;exact rfl;exact fun _ k=>k
    apply Mb;(focus (repeat(first|exact H6|(apply J9;exact rfl)|(apply J6;exact rfl)|(apply J7;exact rfl)|(apply KA;exact rfl)|(apply J8;exact rfl))));intro C;apply J2;apply Qc;exact rfl;exact rfl;apply Yn;(focus (repeat(first|exact H6|(apply J9;exact rfl)|(apply J6;exact rfl)|(apply J7;exact rfl)|(apply KA;exact rfl)|(apply J8;exact rfl))));intro O;have D:p∈u:=r.mem_iff.2 (by simp);obtain⟨b,H,E⟩:=m1 p (K p D);obtain⟨S,T⟩:=cu H I;cases b with
    |true=>
      refine ⟨PC.ns _ _ _ _ (XP t s V p o _ (S rfl)).out _ (fun e he=>?_) (fun _ _ h=>h.elim) (fun e he=>?_)⟩
      · obtain⟨U,y,F⟩:=he
        cases y;refine⟨(Ca V p,some p,o),F.out,⟨(XO V p).trans I,fun l A=>?_,fun q B=>K q (r.mem_iff.2 (by simp[B])),fun N=>?_⟩,?_⟩
        .exact J (p::l) (r.trans (A.cons p))
        · obtain⟨q,B,w⟩:=L N
          rcases List.mem_cons.1 (r.mem_iff.1 B)with rfl|G
          .rw[H]at w;cases w
          .exact⟨q,G,w⟩
        · have:=r.length_eq
          simp only[cE]at this;show o.length<u.length;omega
      · obtain⟨v,y,_⟩:=he
        cases y
    |false=>
      refine ⟨PC.ns _ _ _ _ (XP t s V p o _ (T rfl)).out _ (fun e he=>?_) (fun _ _ h=>h.elim) (fun e he=>?_)⟩
      · obtain⟨U,y,_⟩:=he
        cases y
      · obtain⟨v,_,F⟩:=he
        rw [F.out];exact m (by cases c with|false=>rfl|true=>exact absurd (E rfl) (by simp)) V
instance vh(t:AC)(s:BS):Ct Go.Proofs.Tryz.prog (Ki t s) 106 [AM t,.undef] (fun r=>.bo (DV s) (if(!decide (r.1=0))=true then(DV r.2).set 33 ⟨false,.undef⟩else DV r.2) 1 [eI r.1]):=uT sJ sj fun r h v l=>by
  unfold YY;unfold Ki at h;obtain⟨a,q,h⟩:=bind_some h;have d:=(inferInstance:Ct Go.Proofs.Tryz.prog (Hp s) 179 [bL s] Mu).snd a q;apply J2;apply Ox;apply st 1;exact rfl;exact fun _ k=>k;apply st 1;exact rfl;exact fun _ k=>k;apply Mb;(focus (repeat(first|exact H6|(apply J9;exact rfl)|(apply J6;exact rfl)|(apply J7;exact rfl)|(apply KA;exact rfl)|(apply J8;exact rfl))));intro m;apply J2;apply Ox;apply st 1;exact rfl;exact fun _ k=>k;apply st 1;exact rfl;exact fun _ k=>k;apply st 2;exact rfl;exact fun _ k=>⟨Nat.le_of_ble_eq_true rfl,k⟩;by_cases he:a.2=0
  · have e:Mu a=.mpr a.1 [.int .i64 a.2]:=a6 he
    rw [e]at d;rw[ae (by simp[he])]at h;split at h
    · rename_i hd
      have hd:BT.zF a.1:=(show List.Pairwise (fun x y:(Int×Int)×Int=>x.1≠y.1) a.1 from of_decide_eq_true hd);obtain⟨c,u,h⟩:=bind_some h;refine ja rfl d (fun b=>?_);apply st 1;exact rfl;exact fun _ k=>k;apply st 1;exact rfl;exact fun _ k=>k;apply st 1;exact rfl;exact fun _ k=>k;apply st 1;exact rfl;exact fun _ k=>k;apply st 1;exact rfl;exact fun _ k=>k;apply Mb;(focus (repeat(first|exact H6|(apply J9;exact rfl)|(apply J6;exact rfl)|(apply J7;exact rfl)|(apply KA;exact rfl)|(apply J8;exact rfl))));intro g;apply J2;apply J2;apply Ox;apply st 1;exact rfl;exact fun _ k=>k;apply st 1;exact rfl;exact fun _ k=>k;apply Mb;(focus (repeat(first|exact H6|(apply J9;exact rfl)|(apply J6;exact rfl)|(apply J7;exact rfl)|(apply KA;exact rfl)|(apply J8;exact rfl))));intro i;apply Qb;exact rfl;simp[he];apply Yn;(focus (repeat(first|exact H6|(apply J9;exact rfl)|(apply J6;exact rfl)|(apply J7;exact rfl)|(apply KA;exact rfl)|(apply J8;exact rfl))));intro j;apply J2;apply J2;apply Ox;apply st 1;exact rfl;exact fun _ k=>k;apply st 2;exact rfl;exact fun _ k=>⟨⟨by decide,rfl⟩,k⟩;apply Mb;(focus (repeat(first|exact H6|(apply J9;exact rfl)|(apply J6;exact rfl)|(apply J7;exact rfl)|(apply KA;exact rfl)|(apply J8;exact rfl))));intro n;apply bB;refine ey hd u (fun f=>?_) (fun f V=>?_)
      · intro o
        apply J2;apply Ox;apply st 1;exact rfl;exact fun _ k=>k;apply Mb;(focus (repeat(first|exact H6|(apply J9;exact rfl)|(apply J6;exact rfl)|(apply J7;exact rfl)|(apply KA;exact rfl)|(apply J8;exact rfl))));intro p;apply cc;rw[a6 f]at h;cases h;exact⟨_,Wk.refl _,rfl,rfl⟩
      · rw[ae (by simp[f])]at h
        cases h;refine⟨_,?_,rfl,rfl⟩;exact Wk.set (DV (NJ s V)) 33
    .cases h
  · have e:Mu a=.tp [.undef,.int .i64 a.2]:=ae he
    rw [e]at d;rw[a6 (by simp[he])]at h;refine jZ rfl d ?_;apply st 1;exact rfl;exact fun _ k=>k;apply st 1;exact rfl;exact fun _ k=>k;apply st 1;exact rfl;exact fun _ k=>k;apply st 1;exact rfl;exact fun _ k=>k;apply st 1;exact rfl;exact fun _ k=>k;apply Mb;(focus (repeat(first|exact H6|(apply J9;exact rfl)|(apply J6;exact rfl)|(apply J7;exact rfl)|(apply KA;exact rfl)|(apply J8;exact rfl))));intro g;apply J2;apply J2;apply Ox;apply st 1;exact rfl;exact fun _ k=>k;apply st 1;exact rfl;exact fun _ k=>k;apply Mb;(focus (repeat(first|exact H6|(apply J9;exact rfl)|(apply J6;exact rfl)|(apply J7;exact rfl)|(apply KA;exact rfl)|(apply J8;exact rfl))));intro i;apply Qc;exact rfl;simp[he];apply J2;apply Ox;apply st 1;exact rfl;exact fun _ k=>k;apply st 1;exact rfl;exact fun _ k=>k;apply Mb;(focus (repeat(first|exact H6|(apply J9;exact rfl)|(apply J6;exact rfl)|(apply J7;exact rfl)|(apply KA;exact rfl)|(apply J8;exact rfl))));intro j;apply cc;cases h;simp only[he,decide_false,Bool.not_false,if_true];exact⟨_,Wk.set (DV s) 33,rfl,rfl⟩
end Go.Sf.Sc
