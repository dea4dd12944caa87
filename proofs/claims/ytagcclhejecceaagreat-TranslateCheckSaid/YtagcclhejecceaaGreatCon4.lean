/- Contracts of the functions. -/
import Derived.Test.YtagcclhejecceaaGreatCon0
import Derived.Test.YtagcclhejecceaaGreatTryzShelf
import Derived.Test.YtagcclhejecceaaGreatTw
set_option linter.all false
set_option maxRecDepth 100000
set_option maxHeartbeats 4000000
namespace Go.Sf.Sc
open Go Go.Sf Go.Proofs.Tryz
instance(a b c):CT (H9 a b c) 34 [eS a,eI b,eI c] (rS C4):=Fk f34 0x74b12463030c902cf [] [.cell 6 (some 7)] fun r h d e=>by
  unfold H9 at h;exact nz
instance vz:CT (Lx ) 15 [] (rT AM EO):=Fk f15 0xa9a90246b1b155a915c9134607473f3f3f3f3f3f04473f3f3f3f3f02c915c900 [.yq [.str ⟨#[]⟩,.int .i64 0,.bool false,.list 4 []] [(0,1,.c (.str ⟨#[67,108,97,115,115]⟩)),(1,1,.c (.int .i64 (-1)))],.yq [.str ⟨#[]⟩,.int .i64 0,.bool false,.list 4 []] [(0,1,.c (.str ⟨#[65,116,116,114,105,98,117,116,101]⟩)),(1,1,.c (.int .i64 (-1)))],.yq [.str ⟨#[]⟩,.int .i64 0,.bool false,.list 4 []] [(0,1,.c (.str ⟨#[84,97,98,108,101]⟩)),(1,1,.c (.int .i64 (-1)))],.yq [.str ⟨#[]⟩,.int .i64 0,.bool false,.list 4 []] [(0,1,.c (.str ⟨#[67,111,108,117,109,110]⟩)),(1,1,.c (.int .i64 (-1)))],.yq [.str ⟨#[]⟩,.int .i64 0,.bool false,.list 4 []] [(0,1,.c (.str ⟨#[77,97,112]⟩)),(1,1,.c (.int .i64 (-1)))],.call 34 [.c (.str ⟨#[104,97,115]⟩),.c (.int .i64 0),.c (.int .i64 1)],.call 34 [.c (.str ⟨#[119,105,116,104]⟩),.c (.int .i64 2),.c (.int .i64 3)],.call 34 [.c (.str ⟨#[111,102,67,108,97,115,115]⟩),.c (.int .i64 4),.c (.int .i64 0)],.call 34 [.c (.str ⟨#[111,102,65,116,116,114,105,98,117,116,101]⟩),.c (.int .i64 4),.c (.int .i64 1)],.call 34 [.c (.str ⟨#[116,111,84,97,98,108,101]⟩),.c (.int .i64 4),.c (.int .i64 2)],.call 34 [.c (.str ⟨#[116,111,67,111,108,117,109,110]⟩),.c (.int .i64 4),.c (.int .i64 3)]] [.cell 0 (some 2),.cell 1 (some 2)] fun r h a b=>by
  unfold Lx at h;exact nz
instance(a b c):CT (Dd a b c) 134 [eI a,eI b,eI c] rB:=Fe f134 0x819f0197013002cf [] (Dd.eq_1 ..)
instance(a):CT (O5 a) 281 [Vo a] (rS eS):=Fe f281 0x815e583f3f5e855d3fbe [.mv (.c (.str ⟨#[]⟩)),.bin (.s) .add (.c (.str ⟨#[34]⟩)) (.s 7),.bin (.s) .add (.s 8) (.c (.str ⟨#[34]⟩))] (O5.eq_1 ..)
instance(a):CT (KS a) 322 [Pc a] rB:=Fe f322 0xdd9f97309f979201 [] (KS.eq_1 ..)
instance(a):CT (IK a) 323 [Pc a] rB:=Fe f323 0x819f979201 [] (IK.eq_1 ..)
instance(a b c):CT (KU a b c) 324 [eS a,eI b,eB c] rI:=Bz f324 0xd80701ff0702b57d0701ff8a0a0a9f120530300e1205303008300e120530970c5c300702b581d0cf [] (KU.eq_1 ..) (⟨⟩:HW 0 fun(d:Int)=>[(7,.tv (eI d))])
instance(a b):CT (HI a b) 325 [eS a,eI b] rI:=Bz f325 0xa505cfacf097fbcc6c12cc926a0c5c97cf81bd [] (HI.eq_1 ..) (⟨⟩:HW 0 fun(c:Int)=>[(5,.tv (eI c))])
instance vX:CT (N9 ) 326 [] (rO lB):=Fe f326 0x823f014000 [.yI 1 [.c (.str ⟨#[45,62]⟩),.c (.str ⟨#[60,61]⟩),.c (.str ⟨#[62,61]⟩),.c (.str ⟨#[61,61]⟩),.c (.str ⟨#[33,61]⟩),.c (.str ⟨#[123]⟩),.c (.str ⟨#[125]⟩),.c (.str ⟨#[40]⟩),.c (.str ⟨#[41]⟩),.c (.str ⟨#[91]⟩),.c (.str ⟨#[93]⟩),.c (.str ⟨#[44]⟩),.c (.str ⟨#[59]⟩),.c (.str ⟨#[58]⟩),.c (.str ⟨#[61]⟩),.c (.str ⟨#[43]⟩),.c (.str ⟨#[45]⟩),.c (.str ⟨#[42]⟩),.c (.str ⟨#[60]⟩),.c (.str ⟨#[62]⟩),.c (.str ⟨#[33]⟩),.c (.str ⟨#[38]⟩),.c (.str ⟨#[124]⟩),.c (.str ⟨#[46]⟩),.c (.str ⟨#[63]⟩)]] (N9.eq_1 ..)
instance(a b):CT (KT a b) 282 [eS a,eI b] (fun r=>.tp [Vo r.1,eI r.2.1,eI r.2.2]):=Fk f282 0x9ea71d4604010d0c046b05cbff04013b9ea70c609246ea8a06ea0d050cea30970c5c0c91300401ef0d0c046b0581820e5881a76b460d050597305881a71d4685cc5881a71d46843085fb81a76b460dcc30305881a71d468530c308046b06c308046b063c308e619e0e0e01308a0e300e611230301bc96b02 [] [.cell 4 (some 3),.tmp 5,.tmp 6] fun r h d e=>by
  unfold KT at h;have:HJ 29 fun(c:Int×Int)=>[(9,.tv (eI c.1)),(10,.tv (eI c.2))]:=⟨⟩;have:=BH 0 13 12 0 fun s0:Ft=>[(4,.bx [⟨false,eI s0.kp⟩,⟨false,eS s0.y6⟩,⟨false,eI s0.Line⟩])];exact nz
instance(a):CT (Jm a) 215 [Vo a] rB:=Fe f215 0x819f5da29f0c01976181a71bc9118cfbbf610e7701be [.bin (.s) .eql (.s 9) (.c (.str ⟨#[]⟩))] (Jm.eq_1 ..)
instance(a):CT (Dq a) 150 [eS a] rB:=Fe f150 0x810e00469201 [] (Dq.eq_1 ..)
abbrev Q_191(n:Nat):Prop:=∀(t:AC)(a:Int),CT (Ds n t a) 191 [AM t,eI a] (rO lA)
theorem rf(n:Nat)(_ih_191:Q_191 n)(t:AC)(a:Int):CT (Ds (n+1) t a) 191 [AM t,eI a] (rO lA):=Fj f191 0x8204489b41d45d04480e90d45d550447ff04c085f340df [] fun h=>by
  unfold Ds at h;exact nz
theorem rd:∀n:Nat,Q_191 n:=by
  intro n
  induction n with
  |zero=>exact(fun t a=>⟨fun _ h=>by cases h⟩)
  |succ n b=>exact rf n b
instance(t a):CT (LV t a) 191 [AM t,eI a] (rO lA):=⟨fun r h=>by
  obtain ⟨N,b⟩:=DD h;exact((rd N) t a).snd r (b N (az _))⟩
instance(a):CT (IL a) 275 [lB a] rI:=Gr f275 0xa5d302cbd30204d303ac86eaead3026a3004d303b2c56092efd302b2e59201 [] (IL.eq_1 ..) (A4 0 3 0 0) (A4 2 4 3 0)
instance(a):CT (FE a) 206 [Fu a] rI:=Fe f206 0xb2f074d7aa5c5ee3d758588aa65ef5a65ee59b7ebe [] (FE.eq_1 ..)
instance(a b):CT (JG a b) 129 [AM a,eI b] rI:=kZ f129 0xa58002ac9aece4308002098003ac8673e43073e43080026a30098003b2c573e492ef80028174d70bfbca3074d7820e01adc5cc5e05b3039db304ac865d73d45d05b3036a309db304b2c55df600c9ecd4a2df [] (JG.eq_1 ..) (A4 0 6 1 0) (A4 2 8 7 0) (A4 4 9 8 0)
instance(a b):CT (Jo a b) 207 [eI a,eI b] rB:=Fe f207 0xdd0a0e0197300e01bd [] (Jo.eq_1 ..)
instance(a b):CT (JF a b) 130 [AM a,eI b] rI:=Bz f130 0xb28aa603db03057e0aa6cd429b7e0aa601f5a6015e81745d0502029db304ac865d7307895e0502026a309db304b2c55d074b01c907440789c6df [] (JF.eq_1 ..) (A4 0 6 1 0)
instance(a):CT (Dy a) 63 [AM a] (rT eS eI):=Gr f63 0x81bf0006d0acd87307895e8401550096c606d0813004d0acd873d45d8401553096a204d0b2bfca5e5cd658bfe5a23fbe [.mv (.c (.str ⟨#[]⟩)),.mv (.c (.str ⟨#[]⟩)),.mv (.c (.str ⟨#[]⟩)),.mv (.c (.str ⟨#[]⟩))] (Dy.eq_1 ..) (A4 0 4 1 0) (A4 2 6 1 1)
instance(a b c):CT (Gt a b c) 133 [AM a,eI b,eI c] rI:=Fe f133 0xb28aa6745d30a674a258016c018cd993b302 [] (Gt.eq_1 ..)
abbrev Q_135(n:Nat):Prop:=∀(t:AC)(a:Int)(b:Int),CT (DT n t a b) 135 [AM t,eI a,eI b] rB
theorem rZ(n:Nat)(_ih_135:Q_135 n)(t:AC)(a:Int)(b:Int):CT (DT (n+1) t a b) 135 [AM t,eI a,eI b] rB:=Fj f135 0xdd0a0e0190d45d555c97013093b302 [] fun h=>by
  unfold DT at h;exact nz
theorem rY:∀n:Nat,Q_135 n:=by
  intro n
  induction n with
  |zero=>exact(fun t a b=>⟨fun _ h=>by cases h⟩)
  |succ n c=>exact rZ n c
instance(t a b):CT (FC t a b) 135 [AM t,eI a,eI b] rB:=⟨fun r h=>by
  obtain ⟨N,c⟩:=DD h;exact((rY N) t a b).snd r (c N (az _))⟩
instance(a b c d):CT (FD a b c d) 66 [AM a,eI b,eI c,eI d] rB:=Fe f66 0xdd0e5f410789c65575900789c6ad8aa6745e970e30d9935f0103 [] (FD.eq_1 ..)
instance(a b):CT (Dx a b) 116 [AM a,eI b] (rT lA eI):=Bz f116 0x8182020701098003cb0204480447ecb34a037e489b7e47f603c9ece4300701ef09800381820e015504c05804c09a30d90440df [] (Dx.eq_1 ..) (BH 0 9 8 0 (hO 7 lA))
instance(a):CT (Ns a) 143 [AM a] (rO lI):=Bz f143 0x820231043103cb0431cd31033cb3dcd0885f41d45d3196a2043103d8c00140be [] (Ns.eq_1 ..) (BH 0 4 1 0 (hO 3 lI))
instance(a b):CT (M3 a b) 78 [AM a,Y8 b] (rS CE):=Fk f78 0xa7776d020e0d6d5f06cb0e0d6d5f060e0d6d5f063cf70141320348034777040141328e60aad1605ed15d55a7e90746cc3f033fde5ecc3f033fde5e745e3f033fde5e6d02ffcac69f309f30745e750d6d5f069e0bd16d5f0407b65f06cbf7fa4a5b3201dcf3fadcf35b320b80b65f08e80980b65f0acbb3dc0505050590e4305f41e497cc3f033f02895d90e430020b80b65f08efe80980b65f0a8182b101828c0155816074013f033f02895d5c045f04ffca309f3074a207b65f0681820e5510c910c9a8 [.y4 (.s 38) (.c (.int .i64 0)) 1 2,.yA .i64 (.s 40),.y4 (.s 69) (.c (.int .i64 1)) 1 2,.yA .i64 (.s 71),.y4 (.s 134) (.c (.int .i64 0)) 1 3,.yA .i64 (.s 136),.y4 (.s 145) (.c (.int .i64 1)) 1 3,.yA .i64 (.s 147),.y4 (.s 154) (.c (.int .i64 2)) 1 3,.yA .i64 (.s 156)] [.cell 4 (some 3)] fun r h f g=>by
  unfold M3 at h;have:HW 0 fun(e:AH×Int)=>[(5,.bx [⟨true,lI e.1.c9.ca⟩,⟨true,lE e.1.c9.ci⟩,⟨true,(eL 1 lI) e.1.eo⟩]),(7,.tv (eI e.2))]:=⟨⟩;have:=BH 2 12 9 0 (hO 11 lI);have:HW 4 fun(d:AH×Int)=>[(5,.bx [⟨true,lI d.1.c9.ca⟩,⟨true,lE d.1.c9.ci⟩,⟨true,(eL 1 lI) d.1.eo⟩]),(14,.tv (eI d.2))]:=⟨⟩;exact nz
instance(a):CT (HK a) 79 [Al a] (fun r=>.wQ [⟨true,lI r.ca⟩,⟨true,lE r.ci⟩]):=Fk f79 0xb33b02503f03485e03470148a24708c9be [.wP [.w 6,.w 10]] [.cell 2 (some 2)] fun r h b c=>by
  unfold HK at h;exact nz
instance(a b):CT (Lu a b) 213 [eI a,eI b] (rO lI):=Bz f213 0x8202ccf9cbb3dc053002cc6a30f9d8c001406b02 [] (Lu.eq_1 ..) (BH 0 6 1 0 (hO 5 lI))
instance(a):CT (QV a) 144 [Al a] (fun r=>.wQ [⟨true,lI r.ca⟩,⟨true,lI r.ci⟩]):=Fk f144 0xb33b02503f0eee0ed602c9be [.wP [.w 6,.w 10]] [.cell 2 (some 2)] fun r h b c=>by
  unfold QV at h;exact nz
instance(a b c d):CT (Rb a b c d) 80 [Bg a,Al b,Al c,As d] (rS Bg):=Fk f80 0x8013b194b20461f46550e551e46551e46555d0cc969a8 [] [.cell 8 (some 25)] fun r h e f=>by
  unfold Rb at h;exact nz
instance(a):CT (M1 a) 145 [eI a] (rO lI):=Bz f145 0x82023104d303cbb3dcd0316a3004d303d8c001400001 [] (M1.eq_1 ..) (BH 0 4 0 0 (hO 3 lI))
instance(a):CT (VL a) 81 [Al a] (fun r=>.wQ [⟨true,lI r.ca⟩,⟨true,lI r.ci⟩]):=Fk f81 0xb33b02503f0eee0ed602c9be [.wP [.w 6,.w 10]] [.cell 2 (some 2)] fun r h b c=>by
  unfold VL at h;exact nz
instance(a):CT (K6 a) 37 [Y9 a] (rS Bg):=Fk f37 0xb33b194b0e0e558d3f9d020309089d5f0107cb09089d5f010709089d5f01073cf7bb034803477704bb8e60aa5d605e5d5d55a7e90746cc3f033fded7cc3f033fded7745e3f033fded79d0203fff0309f30749b7e09089d5f01079ed69d5f5cf25f0106cbf73201dc745d3f91aa04329d5f5cfff03074f5f25f010681025008c91b55a908c93f0e214603452d0bfefe02452d0bd1d155a9a9024915c98c0cc9be [.yG (.s 35) 0 2 true,.yA .i64 (.s 56),.y4 (.s 86) (.c (.int .i64 0)) 1 3,.yA .i64 (.s 88),.y4 (.s 97) (.c (.int .i64 1)) 1 3,.yA .i64 (.s 99),.y4 (.s 106) (.c (.int .i64 2)) 1 3,.yA .i64 (.s 108),.yq [.str ⟨#[]⟩,.list 1 [],.list 3 [],.list 4 [],.int .i64 0,.list 5 [],.list 1 [],.list 3 [],.list 4 [],.int .i64 0,.list 5 [],.list 1 [],.list 1 [],.list 1 [],.list 1 [],.bool false,.int .i64 0,.list 9 [],.list 1 [],.list 1 [],.list 1 [],.list 3 [],.list 4 [],.int .i64 0,.list 5 []] [(0,1,.c (.str ⟨#[114]⟩))]] [.cell 2 (some 25)] fun r h e f=>by
  unfold K6 at h;have:HW 0 fun(b:c9×Int)=>[(6,.bx [⟨true,lI b.1.ca⟩,⟨true,lE b.1.ci⟩]),(7,.tv (eI b.2))]:=⟨⟩;have:HW 2 fun(d:c9×Int)=>[(6,.bx [⟨true,lI d.1.ca⟩,⟨true,lE d.1.ci⟩]),(9,.tv (eI d.2))]:=⟨⟩;exact nz
instance v7:CT (JI ) 17 [] (rO (eL 25 Bg)):=Fe f17 0x8219470eec0eecf61cc9254603472246224622462246b121460347224622460247244624462446f61cc92346034722462246b1194000 [] (JI.eq_1 ..)
instance(a):CT (Oa a) 28 [Al a] rB:=Fe f28 0xdd745e5c0ba2be [] (Oa.eq_1 ..)
instance(a):CT (MQ a) 12 [CE a] rB:=Bz f12 0xa53102ace591aa0096f53102b2caf5a6c101be [] (MQ.eq_1 ..) (A4 0 3 1 2)
instance(a):CT (OZ a) 82 [AM a] rB:=Fj f82 0xa508d0ac850c7307895e0096c608d08130043103cb0431036d3104cb6d310407b63106ac850c91d76d3104969b7e07b63106b2cad75c0c5df603c9ecd49b41d45d043103969b41d45d5c043104b2f00c73d45d5c30749b41d4a23096a20431039e58ca5e5c0ba2be [] fun h=>by
  unfold OZ at h;have:=BH 0 4 1 0 (hT 3 eI);have:HW 2 fun(c:Int)=>[(5,.tv (eI c))]:=⟨⟩;have:HW 4 fun(b:Int)=>[(7,.tv (eI b))]:=⟨⟩;have:=A4 6 8 1 1;exact nz
instance(a):CT (QI a) 83 [EO a] rB:=Fe f83 0xba745e0ba2be [] (QI.eq_1 ..)
instance(a):CT (MR a) 146 [Bo a] rB:=Fe f146 0xdd74cd7e0a74aa75c101be [] (MR.eq_1 ..)
instance(a b):CT (QG a b) 147 [GM a,eI b] rB:=Fe f147 0xba5cee0ba2df [] (QG.eq_1 ..)
instance(a b):CT (Ob a b) 148 [As a,eI b] rB:=Fe f148 0xba5cee0ba2df [] (Ob.eq_1 ..)
abbrev Q_214(n:Nat):Prop:=∀(c:d5)(a:Int),CT (ET n c a) 214 [AP c,eI a] rI
theorem rj(n:Nat)(_ih_214:Q_214 n)(c:d5)(a:Int):CT (ET (n+1) c a) 214 [AP c,eI a] rI:=Fj f214 0xd897b303cb7501c809895e30fff030745e5cb303b28aa655faa6b4fc5c30df [] fun h=>by
  unfold ET at h;have:HW 0 fun(b:Int×Int)=>[(1,.tv (eI b.1)),(5,.tv (eI b.2))]:=⟨⟩;exact nz
theorem ri:∀n:Nat,Q_214 n:=by
  intro n
  induction n with
  |zero=>exact(fun c tc=>⟨fun _ h=>by cases h⟩)
  |succ n a=>exact rj n a
instance(c tc):CT (Ra c tc) 214 [AP c,eI tc] rI:=⟨fun r h=>by
  obtain ⟨N,a⟩:=DD h;exact((ri N) c tc).snd r (a N (az _))⟩
instance(a):CT (Oe a) 149 [AP a] rB:=Fe f149 0xba0ec801be [] (Oe.eq_1 ..)
instance(a):CT (Of a) 84 [Bg a] rB:=Fe f84 0xdd0ec8107e0a0e550d7e0a0e550b7e0a0eb4067e0a0eb4bb5c0ca2be [] (Of.eq_1 ..)
instance(a b c):CT (Kc a b c) 38 [AM a,EO b,Bg c] rB:=Fe f38 0xdd0ee7010a0e5575d9f1 [] (Kc.eq_1 ..)
instance(a b c):CT (Og a b c) 19 [AM a,EO b,(eL 25 Bg) c] rB:=Bz f19 0x810e28468d045f07045f04acc5e71943308d045fef07045f04b2e53069b3 [] (Og.eq_1 ..) (A4 0 7 2 0)
instance(a):CT (K5 a) 85 [eI a] rB:=Fe f85 0x819f979201 [] (K5.eq_1 ..)
instance(a b):CT (Js a b) 39 [AM a,EO b] rI:=Gr f39 0xa509edac8a9f9791c60a9f915e97915e5c915e6181605f4107895e5d609007895e5d58c5915e0096c609ed815f0207edacf0ebeb5c6190d45d58c5eb5f0296a207edb2ca5eee5cd6d658016c018cd9a8 [] (Js.eq_1 ..) (A4 0 7 2 0) (A4 2 9 2 1)
instance(a):CT (Eo a) 136 [lI a] rB:=Gr f136 0xa5d302cbd30204d303ac85eaead3026a3004d303a5efd302816b01 [] (Eo.eq_1 ..) (A4 0 3 0 0) (A4 2 4 3 0)
instance(a):CT (Ky a) 131 [eI a] rB:=Fe f131 0x819f979201 [] (Ky.eq_1 ..)
instance(a b):CT (OA a b) 132 [Bp a,eI b] rB:=Fe f132 0x819f01f59ff59f01c69f5e75a2df [] (OA.eq_1 ..)
instance(a):CT (Dz a) 64 [Al a] rI:=Gr f64 0xa504d0acc5d6f85e0096c604d081303102acc5eb3096a23102b2ca5e5c0ba2be [] (Dz.eq_1 ..) (A4 0 3 1 0) (A4 2 4 1 1)
instance(a b):CT (Gv a b) 216 [AM a,Al b] rB:=Gr f216 0xa506edacca5e73de5e5c73de5e0096c606ed815f0205edacca5deb5ceb5f02965d5cedd8a8 [] (Gv.eq_1 ..) (A4 0 5 3 0) (A4 2 6 3 1)
instance(a b c d):CT (M6 a b c d) 217 [AM a,Bo b,eI c,eI d] (rT Fu eB):=Fk f217 0x81f6ece43058f60346ca01309f9761828c91d1adf60346cad1973003c9695f02 [] [.cell 8 (some 4),.tmp 9] fun r h e f=>by
  unfold M6 at h;exact nz
instance(a):CT (Lv a) 218 [eI a] rB:=Fe f218 0x819f979201 [] (Lv.eq_1 ..)
instance(a b):CT (Io a b) 327 [eI a,N0 b] rI:=Fe f327 0xb2f0c69fc69f015d5ca2be01 [] (Io.eq_1 ..)
instance(a b):CT (OY a b) 283 [eI a,Fv b] rI:=Fe f283 0x810e55037ee3d97e58f05d5ca2be01 [] (OY.eq_1 ..)
instance(a b):CT (LU a b) 219 [eI a,lT b] rI:=Bz f219 0xa505cfac9ab40589929697cfb2e5fbf09701bd [] (LU.eq_1 ..) (A4 0 5 1 0)
instance(a b):CT (KY a b) 220 [Bo a,eI b] rB:=Bz f220 0xa505b303ac8501730241d4aa0096aa5cb303d8df [] (KY.eq_1 ..) (A4 0 5 2 2)
instance(a b):CT (Gw a b) 151 [AM a,Bo b] rI:=Gr f151 0xa50d5facc55c44006a9b7e0d5fb29acd42d73108edac8aa690fa9fd773fa9f73fa0861f603498c5e5db455f605c9ecd4aa3196f508edb2cacd425c0baa58f0d75cd758c5c1ad9ac158016c018cd9a8 [] (Gw.eq_1 ..) (A4 0 8 3 2) (A4 2 13 3 3)
instance(a b c):CT (M8 a b c) 221 [AM a,Bo b,eI c] rI:=Bz f221 0xa50a07040204acf05e90d4aa5c5d73d4aa006a300a07040204b2f090fa9f90fa9fd773fa9f73fa0a74015e5cc6828c605dd1adcad15d5c5df605c9ecd4f569b3 [] (M8.eq_1 ..) (A4 0 10 2 0)
instance(a b):CT (Lg a b) 152 [AM a,Bg b] rI:=Bz f152 0xa506edac9a5c44db5500965f41067e06edb2e55f41db58cacd41db5c9b41bb9b41db58c5e6dbad9ae6067ea8 [] (Lg.eq_1 ..) (A4 0 6 3 8)
instance(a b c):CT (Ey a b c) 67 [Al a,Al b,As c] rI:=Gr f67 0xa50a6dcdacf0aa60aa5d5c5e605e5d58855d5da7a7e9e9770343915e5ef85e58ca5e915e5c915e0096c60a6dcd816d9b096dcdac85eb60eb5d58ca5deb5ceb6d9b96a2096dcdb2ca5eee5cd6d6e3ad9ad9f1 [] (Ey.eq_1 ..) (A4 0 9 3 0) (A4 2 10 3 1)
instance(a b):CT (GQ a b) 328 [lI a,eI b] rI:=Bz f328 0xa505cfacf06005309197fb8acc919760929697cf81bd [] (GQ.eq_1 ..) (A4 0 5 0 0)
instance(a b):CT (Oc a b) 329 [lI a,eI b] rB:=Bz f329 0xa505cfac850160929697cf81bd [] (Oc.eq_1 ..) (A4 0 5 0 0)
instance(a b):CT (OB a b) 284 [Al a,GM b] rI:=Bz f284 0xa507edac8aa6aaa2a65e5da7e9770343915e5e0096c607edb29aee5ee3d6a2a8 [] (OB.eq_1 ..) (A4 0 7 3 1)
instance(a b):CT (IM a b) 222 [Al a,GM b] rI:=Fe f222 0x810e8de3d9a8 [] (IM.eq_1 ..)
instance(a b):CT (IN a b) 258 [lI a,eI b] rI:=Bz f258 0xa505cfac01850160929697cf81bd [] (IN.eq_1 ..) (A4 0 5 0 0)
instance(a b):CT (Hl a b) 190 [Al a,GM b] (fun r=>.tp [Al r.1,As r.2.1,eI r.2.2]):=Fk f190 0x6d023b81a9a9024601485eb10148a24755086dcd0a086d5f06cbf7bb0348034707460eaa5d0e5e5d5d04bba7e9770343915e5e086dcd96c60a086d5f0681086d5f0509086d5f06cbf73201dc60eb5d0432086d5f0596a209086d5f068108c958a9a930460446848dd0c908c9a8 [] [.cell 4 (some 2),.cell 5 (some 2),.tmp 6] fun r h c d=>by
  unfold Hl at h;have:=BH 0 9 3 0 fun s0:c9=>[(8,.bx [⟨true,lI s0.ca⟩,⟨true,lE s0.ci⟩])];have:=BH 2 10 3 1 fun s2:c9=>[(8,.bx [⟨true,lI s2.ca⟩,⟨true,lE s2.ci⟩])];exact nz
instance(a):CT (M9 a) 153 [Bg a] rI:=Fe f153 0x810e550d42e6dbd9a9a9024908c9118c550b42e6bbe3550b42e6017ebe [] (M9.eq_1 ..)
instance(a b):CT (QH a b) 285 [lI a,eI b] rB:=Bz f285 0xa505cfac850160929697cf81bd [] (QH.eq_1 ..) (A4 0 5 0 0)
instance(a b):CT (K0 a b) 223 [eI a,lI b] (rO lI):=Bz f223 0x8202ccf9cbf9f93cb3dcd0c597fd30f9d8c001406b02 [] (K0.eq_1 ..) (BH 0 6 0 0 (hO 5 lI))
instance(a):CT (Jd a) 154 [Bg a] (rT lI lI):=Fe f154 0x82820e900d420b317fdb0e730d420b735b067e400140be [] (Jd.eq_1 ..)
instance(a b c d):CT (Ka a b c d) 155 [AM a,Al b,lI c,lI d] rB:=Gr f155 0xa50a6dcdacc560aa5d605e5d5d55a7e9770343ea5e00ef0a6dcd816d9b096d5f05ac830241e460ea5d5d6d9bef096d5f05d8695f02 [] (Ka.eq_1 ..) (A4 0 9 2 0) (A4 2 10 3 0)
instance(a):CT (HN a) 360 [AP a] rB:=Fe f360 0x819f9b41047e9f74cd41fc0b5f41fc30ba74317ffc74735bfc7490c40b73fabe [] (HN.eq_1 ..)
instance(a):CT (Lf a) 330 [AP a] rB:=Bz f330 0x817c745ebadd0ec85cee190401036519040103badd0ec85ceebadd0ec85ceeba833201be [] (Lf.eq_1 ..) (⟨⟩:HJ 25 fun(b:Bool)=>[(25,.tv (eB b))])
abbrev Q_286(n:Nat):Prop:=∀(c:d5),CT (EI n c) 286 [AP c] rB
theorem rt(n:Nat)(_ih_286:Q_286 n)(c:d5):CT (EI (n+1) c) 286 [AP c] rB:=Fj f286 0xa53102acc5c809895e0096c63102b2c5c801be [] fun h=>by
  unfold EI at h;have:=A4 0 3 1 1;exact nz
theorem rr:∀n:Nat,Q_286 n:=by
  intro n
  induction n with
  |zero=>exact(fun c=>⟨fun _ h=>by cases h⟩)
  |succ n a=>exact rt n a
instance(c):CT (Nt c) 286 [AP c] rB:=⟨fun r h=>by
  obtain ⟨N,a⟩:=DD h;exact((rr N) c).snd r (a N (az _))⟩
abbrev Q_287(n:Nat):Prop:=∀(c:d5),CT (Ep n c) 287 [AP c] (rT eI eI)
theorem rx(n:Nat)(_ih_287:Q_287 n)(c:d5):CT (Ep (n+1) c) 287 [AP c] (rT eI eI):=Fj f287 0x9e306d026d027d855d6d0103b6f3cb302c97309e8cc809895e6d010396c6b6f3819e30be [] fun h=>by
  unfold Ep at h;have:=BH 0 6 1 1 fun s0:Int×Int=>[(4,.tv (eI s0.1)),(5,.tv (eI s0.2))];have:HJ 33 fun(a:Int)=>[(5,.tv (eI a))]:=⟨⟩;exact nz
theorem ru:∀n:Nat,Q_287 n:=by
  intro n
  induction n with
  |zero=>exact(fun c=>⟨fun _ h=>by cases h⟩)
  |succ n a=>exact rx n a
instance(c):CT (On c) 287 [AP c] (rT eI eI):=⟨fun r h=>by
  obtain ⟨N,a⟩:=DD h;exact((ru N) c).snd r (a N (az _))⟩
instance(a):CT (Lb a) 224 [AP a] rI:=Fe f224 0xb2f09761818cc858c5c801be [] (Lb.eq_1 ..)
instance(a b c):CT (GP a b c) 68 [Al a,Al b,As c] rB:=Fe f68 0xdd0ec60a0e5d5c0e558d01f1 [] (GP.eq_1 ..)
instance(a b):CT (M7 a b) 331 [Bo a,eI b] rB:=Bz f331 0xa505b303ac8501730241d4aa0096aa5cb303d8df [] (M7.eq_1 ..) (A4 0 5 2 2)
instance(a b c):CT (Ld a b c) 288 [AM a,eI b,Bo c] rI:=Bz f288 0xa5800503ac01c55c44006a9b7e800503d8e3b4ad85019b7e6930 [] (Ld.eq_1 ..) (A4 0 8 5 3)
abbrev Q_225(n:Nat):Prop:=∀(t:AC)(p:d6)(c:d5),CT (Ez n t p c) 225 [AM t,Bo p,AP c] rI
theorem rl(n:Nat)(_ih_225:Q_225 n)(t:AC)(p:d6)(c:d5):CT (Ez (n+1) t p c) 225 [AM t,Bo p,AP c] rI:=Fj f225 0xa50a0705cdac9ac809895eb4550096c60a0705cd8107059b07059b3ce2b4fc58c555c4e6fcc1e355c4e6fcc1e3b4fcd755855de209c9b401f1 [] fun h=>by
  unfold Ez at h;have:=A4 0 10 5 1;exact nz
theorem rk:∀n:Nat,Q_225 n:=by
  intro n
  induction n with
  |zero=>exact(fun t p c=>⟨fun _ h=>by cases h⟩)
  |succ n a=>exact rl n a
instance(t p c):CT (WU t p c) 225 [AM t,Bo p,AP c] rI:=⟨fun r h=>by
  obtain ⟨N,a⟩:=DD h;exact((rk N) t p c).snd r (a N (az _))⟩
instance(a b c):CT (Lc a b c) 156 [AM a,Bo b,AP c] rI:=Fe f156 0x810ec8b4ad9ac8e3b4d9f1 [] (Lc.eq_1 ..)
instance(a b):CT (Jr a b) 86 [AM a,Bg b] rI:=Fe f86 0x810ec81042b4bbadc530e6db5582828ce7588aa6900d7ea6730d42e3e7e3e7ad9ab4bbadc55d58016c018cd9a8 [] (Jr.eq_1 ..)
end Go.Sf.Sc
