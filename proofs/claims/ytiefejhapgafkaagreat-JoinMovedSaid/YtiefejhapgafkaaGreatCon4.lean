/- Contracts of the functions. -/
import Derived.Test.YtiefejhapgafkaaGreatCon0
set_option linter.all false
set_option maxRecDepth 100000
set_option maxHeartbeats 4000000
open Option renaming some->Y
open Bool renaming true->X,false->T
open List renaming map->x!
namespace Go.Sf.Sc
open Go Go.Sf Go.Proofs.Tryz
instance(a b):CT (Pg a b) 11 [(eL 2 LS) a,(eL 2 LS) b] (rS AL):=Fk f11 0x89556a020a6a010476e8c107480747044684e23f02bc84e23f02bc3f053604c181e06a02ff8a053670360a6a0104816a0103a76b0576e83804480447d90438ff08a76b0608a76b063ce80342044703463f600508a76b063ce803420447024605053f055d6005855d813f0536044b02c901460505055c0505843f5c3f053607a76b0607a76b063c895502bcd1368901c900466a0103ff8aa63670013684a76b05acc900c96b02 [.Aai (.c (.str ⟨#[65,66,67,68,69,70]⟩)) (Y (.s 35)) (Y (.s 37)),.cvt .i64 (.s 40),.Aai (.c (.str ⟨#[117,118,119,120,121,122]⟩)) (Y (.s 52)) (Y (.s 54)),.cvt .i64 (.s 64),.lst 1 [.c (.str ⟨#[111,102,102]⟩),.c (.str ⟨#[111,110]⟩)],.Aai (.c (.str ⟨#[101,102,103,104,105]⟩)) (Y (.s 99)) (Y (.s 101)),.aad (.s 105) (.c (.int .i64 0)) 1 2,.cvt .i64 (.s 107),.aad (.s 113) (.c (.int .i64 1)) 1 2,.cvt .i64 (.s 115)] [.cell 4 (Y 2)] λr h f g=>by
  unfold Pg at h;have:HW 0 λ(d:AC×Int)=>[(5,.bx [⟨X,lN d.1.dl⟩,⟨X,lX d.1.dr⟩]),(6,.tv (eI d.2))]:=⟨⟩;have:HW 3 λ(e:AC×Int)=>[(5,.bx [⟨X,lN e.1.dl⟩,⟨X,lX e.1.dr⟩]),(10,.tv (eI e.2))]:=⟨⟩;exact nz
instance(a b c):CT (EJ a b c) 93 [eI a,eI b,eI c] rB:=Fe f93 0xb78436843602dd [] (EJ.eq_1 ..)
abbrev Q_92(n:Nat):Prop:=∀(t:AC)(a:Int),CT (Ee n t a) 92 [AL t,eI a] (rO lA)
theorem ACd(n:Nat)(_ih_92:Q_92 n)(t:AC)(a:Int):CT (Ee (n+1) t a) 92 [AL t,eI a] (rO lA):=Fj f92 0x8204489041de5c04480e80de5c550447ff04c085010440dc [] λh=>by
  unfold Ee at h;exact nz
theorem ACc:∀n:Nat,Q_92 n:=by
  intro n
  induction n with
  |zero=>exact(λt a=>⟨λ_ h=>c!⟩)
  |succ n b=>exact ACd n b
instance(t a):CT (OB t a) 92 [AL t,eI a] (rO lA):=⟨λr h=>by
  obtain ⟨N,b⟩:=C3 h;exact((ACc N) t a).snd r (b N (az _))⟩
instance(a):CT (Ro a) 242 [YN a] (rS eS):=Fe f242 0x815d593f3f5d855c3fb8 [.mv (.c (.str ⟨#[]⟩)),.bin (.s) .add (.c (.str ⟨#[34]⟩)) (.s 7),.bin (.s) .add (.s 8) (.c (.str ⟨#[34]⟩))] (Ro.eq_1 ..)
instance(a):CT (Mv a) 305 [Eu a] rB:=Fe f305 0xb7a6a536a6a59101 [] (Mv.eq_1 ..)
instance(a):CT (KF a) 306 [Eu a] rB:=Fe f306 0x81a6a59101 [] (KF.eq_1 ..)
instance(a b c):CT (Mx a b c) 307 [eS a,eI b,eB c] rI:=B3 f307 0xc407750702b35f0107758a0a0aa6120536360e1205363608360e120536a50c5a360702b3c402dd [] (Mx.eq_1 ..) (⟨⟩:HW 0 λ(d:Int)=>[(7,.tv (eI d))])
instance(a b):CT (I1 a b) 308 [eS a,eI b] rI:=B3 f308 0xac05dd76aa05368459057f128491650c5aa5dd81ba [] (I1.eq_1 ..) (⟨⟩:HW 0 λ(c:Int)=>[(5,.tv (eI c))])
instance AC8:CT (Qi ) 309 [] (rO lB):=Fe f309 0x823f014000 [.lst 1 [.c (.str ⟨#[45,62]⟩),.c (.str ⟨#[60,61]⟩),.c (.str ⟨#[62,61]⟩),.c (.str ⟨#[61,61]⟩),.c (.str ⟨#[33,61]⟩),.c (.str ⟨#[123]⟩),.c (.str ⟨#[125]⟩),.c (.str ⟨#[40]⟩),.c (.str ⟨#[41]⟩),.c (.str ⟨#[91]⟩),.c (.str ⟨#[93]⟩),.c (.str ⟨#[44]⟩),.c (.str ⟨#[59]⟩),.c (.str ⟨#[58]⟩),.c (.str ⟨#[61]⟩),.c (.str ⟨#[43]⟩),.c (.str ⟨#[45]⟩),.c (.str ⟨#[42]⟩),.c (.str ⟨#[60]⟩),.c (.str ⟨#[62]⟩),.c (.str ⟨#[33]⟩),.c (.str ⟨#[38]⟩),.c (.str ⟨#[124]⟩),.c (.str ⟨#[46]⟩),.c (.str ⟨#[63]⟩)]] (Qi.eq_1 ..)
instance(a b):CT (Mw a b) 243 [eS a,eI b] (λr=>.tp [YN r.1,eI r.2.1,eI r.2.2]):=Fk f243 0x9dad05460401c8046b0576ff04013b9dad0cf70646f78a06f70d050cf736a50c5a0c8c360401e9c8046b0581820efbad0106460d0505a536fbad05468584fbad05f80e368501fbad0106460d843636fbad05468536b608046b06b608046b063c368e609d0e0e01368a0e360e6012363603c96b02 [] [.cell 4 (Y 3),.tmp 5,.tmp 6] λr h d e=>by
  unfold Mw at h;have:HJ 29 λ(c:Int×Int)=>[(9,.tv (eI c.1)),(10,.tv (eI c.2))]:=⟨⟩;have:=BH 0 13 12 0 λs0:HK=>[(4,.bx [⟨T,eI s0.kg⟩,⟨T,eS s0.AbK⟩,⟨T,eI s0.Line⟩])];exact nz
instance(a):CT (MC a) 189 [YN a] rB:=Fe f189 0x81a65c9aa60c01a56081ad03c911780159bf600e6c01b8 [.bin (.s) .eql (.s 9) (.c (.str ⟨#[]⟩))] (MC.eq_1 ..)
instance(a):CT (Ed a) 146 [eS a] rB:=Fe f146 0x810e06469101 [] (Ed.eq_1 ..)
instance(a):CT (KG a) 302 [lB a] rI:=KV f302 0xacc50276c50204c503ca86f7f7c502653604c503dfd56191e9c502dfd19101 [] (KG.eq_1 ..) (BN 0 3 0 0) (BN 2 4 3 0)
instance(a):CT (GR a) 236 [Jh a] rI:=Fe f236 0x81aa0570ccb45a5d59bdcc59aab55d5e7db55dd1907db8 [] (GR.eq_1 ..)
instance(a b):CT (Lb a b) 183 [AL a,eI b] rI:=iq f183 0xac7c02cabdd904bc7c02097c03ca867404bc7404bc7c026536097c03dfd574044391e97c028170cc0b01aa703670cc820e019fd5845d05a9039ea904ca865c74de5c05a90365369ea904dfd55c044b02c9d9de9adc [] (Lb.eq_1 ..) (BN 0 6 1 0) (BN 2 8 7 0) (BN 4 9 8 0)
instance(a b):CT (ME a b) 237 [eI a,eI b] rB:=Fe f237 0xb7ee01a5360e01ba [] (ME.eq_1 ..)
instance(a b):CT (La a b) 184 [AL a,eI b] rI:=B3 f184 0x81aab503d403057d0ab5cb42907d0ab5015e7db5015d81705c0502029ea904ca865c7407e505020265369ea904dfd55c074b04c90744077ebbdc [] (La.eq_1 ..) (BN 0 6 1 0)
instance(a):CT (Ej a) 137 [AL a] (rT eS eI):=KV f137 0x81bf0006dacac47407e5710eed008dbb06da813604dacac474de5c710eed368d9a04dadfbf8aeb5ae059bfd19a3fb8 [.mv (.c (.str ⟨#[]⟩)),.mv (.c (.str ⟨#[]⟩)),.mv (.c (.str ⟨#[]⟩)),.mv (.c (.str ⟨#[]⟩))] (Ej.eq_1 ..) (BN 0 4 1 0) (BN 2 6 1 1)
instance(a b c):CT (Ib a b c) 91 [AL a,eI b,eI c] rI:=Fe f91 0x81aab5705c36b5709a597f0178a293a902 [] (Ib.eq_1 ..)
instance(a b):CT (Dz a b) 44 [AL a,eI b] (rT lA eI):=B3 f44 0x81f00701097c03760204480447d9a94a037d48907d47044b05c9d904bc0701e9097c0381820eed04c05904c0bd36a20440dc [] (Dz.eq_1 ..) (BH 0 9 8 0 (hO 7 lA))
abbrev Q_94(n:Nat):Prop:=∀(t:AC)(a:Int)(b:Int),CT (D7 n t a b) 94 [AL t,eI a,eI b] rB
theorem ACf(n:Nat)(_ih_94:Q_94 n)(t:AC)(a:Int)(b:Int):CT (D7 (n+1) t a b) 94 [AL t,eI a,eI b] rB:=Fj f94 0xb7ee0180de5c555a36843693a902 [] λh=>by
  unfold D7 at h;exact nz
theorem ACe:∀n:Nat,Q_94 n:=by
  intro n
  induction n with
  |zero=>exact(λt a b=>⟨λ_ h=>c!⟩)
  |succ n c=>exact ACf n c
instance(t a b):CT (FL t a b) 94 [AL t,eI a,eI b] rB:=⟨λr h=>by
  obtain ⟨N,c⟩:=C3 h;exact((ACe N) t a b).snd r (c N (az _))⟩
instance(a b c):CT (MG a b c) 130 [AL a,A5 b,eI c] (rO lI):=B3 f130 0xf007017cdb05767cdb057cdb053ca9cfda8e018c5c5507018d9a7cdb05c4c0014062a9 [] (MG.eq_1 ..) (BH 0 8 4 0 (hO 7 lI))
instance(a b c):CT (Pk a b c) 80 [AL a,VW b,eB c] (rS A5):=Fk f80 0x89550906020b0906040305760b090604037009060403053ce8c1034803470746617001e2e27ebb617001e2e2e53604c18a7036700182820e5e4107e555550e8007e5555581ebe2e2e5090602ff8a70bba63670bb0b090604030581090604cbb6070604030676e83801cf6170013f8c9a0438090604cbff8a7036a636709ab6070604030681fd070604cb7c06db06767c06db067c06db063ca9cfda8a085e41de5c36070604cb8d9a7c06db06c4c0fd62a9 [.cvt .i64 (.s 59),.aad (.s 89) (.c (.int .i64 0)) 1 3,.cvt .i64 (.s 91),.aad (.s 130) (.c (.int .i64 1)) 1 3,.cvt .i64 (.s 132),.aad (.s 143) (.c (.int .i64 2)) 1 3,.cvt .i64 (.s 145)] [.cell 6 (Y 2)] λr h f g=>by
  unfold Pk at h;have:=BH 0 8 3 0 (hO 7 lI);have:HW 2 λ(e:d3×Int)=>[(9,.bx [⟨X,lI e.1.dl⟩,⟨X,lE e.1.dr⟩]),(10,.tv (eI e.2))]:=⟨⟩;have:HW 4 λ(d:d3×Int)=>[(9,.bx [⟨X,lI d.1.dl⟩,⟨X,lE d.1.dr⟩]),(11,.tv (eI d.2))]:=⟨⟩;exact nz
instance(a b):CT (GQ a b) 131 [eI a,eI b] rI:=Fe f131 0xd75a5a36ba [] (GQ.eq_1 ..)
instance(a b):CT (Pf a b) 81 [eI a,Ol b] (rS F9):=Fk f81 0xb90a46094605e23f010846369d050e84e23f050e84e23fd7050ee23f07c9b801 [.aad (.s 3) (.c (.int .i64 0)) 1 4,.cvt .i64 (.s 9),.aad (.s 3) (.c (.int .i64 1)) 1 4,.cvt .i64 (.s 15),.aad (.s 3) (.c (.int .i64 2)) 1 4,.cvt .i64 (.s 22),.aad (.s 3) (.c (.int .i64 3)) 1 4,.cvt .i64 (.s 33)] [.cell 4 (Y 5)] λr h d e=>by
  unfold Pf at h;exact nz
instance(a b):CT (Pl a b) 34 [AL a,VY b] (rS BS):=Fk f34 0xb99b6a020f6acb76e8f2054805470ed9decccc04f26a02ff8a053670907d0f6acb816a900ba7030576e8be04480447d904be0e0ba703060e0ba703063ce85b027d4a034285cc0e0ba703060e0ba703063ce8034205cc024abe0846cc85cc74be044b0bc90b46094605053fb405053f5d5d5c890ac955024370013f9aad09c9d67eb46a90ff8a7036a636705e7d0ba7030581a7cb07a75e067607a75e060a7ca75e087602024802470946360207a75e06e90a7ca75e08c4e48cc355a7cb8dc30107a75e068102c0055008c93f96385508c9a1 [.Aaj [.v (.s 19) 0 2,.v (.s 19) 1 2,.z ⟨X,.list 4 []⟩,.z ⟨T,.int .i64 0⟩,.z ⟨X,.list 5 []⟩],.cvt .i64 (.s 75),.cvt .i64 (.s 87),.cvt .i64 (.s 92)] [.cell 4 (Y 5)] λr h f g=>by
  unfold Pl at h;have:HW 0 λ(e:List LI×Int)=>[(6,.ow ((eL 2 aE) e.1)),(7,.tv (eI e.2))]:=⟨⟩;have:=BH 2 10 8 0 (hO 6 (eL 2 aE));have:HW 4 λ(c:d6×Int)=>[(5,.bx [⟨T,lI c.1.d3.dl⟩,⟨T,lE c.1.d3.dr⟩,⟨X,lS c.1.ei⟩,⟨T,eI c.1.em⟩,⟨X,lT c.1.jj⟩]),(11,.tv (eI c.2))]:=⟨⟩;have:HW 6 λ(d:d6×Int)=>[(5,.bx [⟨T,lI d.1.d3.dl⟩,⟨T,lE d.1.d3.dr⟩,⟨X,lS d.1.ei⟩,⟨T,eI d.1.em⟩,⟨X,lT d.1.jj⟩]),(15,.tv (eI d.2))]:=⟨⟩;exact nz
instance(a):CT (Kw a) 132 [(eL 1 eB) a] (rO lI):=B3 f132 0xf03704c5037604c5cbc5033ca9cfda8301bc37e904c503c4c001400001 [] (Kw.eq_1 ..) (BH 0 4 0 0 (hO 3 lI))
instance(a b c):CT (OD a b c) 82 [A5 a,(eL 1 eB) b,(eL 1 eB) c] (λr=>.oag [⟨X,lI r.dl⟩,⟨X,lI r.dr⟩]):=Fk f82 0x2503f0e012014070602037c065e05767c065e057c065e053cf5f55e4103e5148003e5148301bc07060203e97c065e058199014f3656d893a902 [.Aaj [.w 39,.w 41]] [.cell 6 (Y 2)] λr h d e=>by
  unfold OD at h;have:=BH 0 8 2 0 (hX 7 1 eB);exact nz
instance(a b):CT (Ph a b) 35 [A5 a,Iw b] (λr=>.oag [⟨X,lI r.dl⟩,⟨X,lI r.dr⟩]):=Fk f35 0x2501b181855a7020408a7a90676f5053f3f058415143614a702046515140108a7a90681a7025a07a7a90676f5053f3f843614a7025a6515140107a7a9068199993ff93fe0d8dc [.mkx 1 [.bool T] (.s 11),.mkx 1 [.bool T] (.s 15),.bin (.w) .shr (.s 25) (.s 27),.bin (.w) .and (.s 28) (.c (.int .u64 1)),.bin (.w) .shr (.s 40) (.s 45),.bin (.w) .and (.s 46) (.c (.int .u64 1))] [.cell 4 (Y 2)] λr h f g=>by
  unfold Ph at h;have:HW 0 λ(d:a6×Int)=>[(5,.xo 1 (x! eB d.1)),(7,.tv (eI d.2))]:=⟨⟩;have:HW 2 λ(e:a6×Int)=>[(6,.xo 1 (x! eB e.1)),(8,.tv (eI e.2))]:=⟨⟩;exact nz
instance(a):CT (Nc a) 134 [eI a] rB:=Fe f134 0x81a6a59101 [] (Nc.eq_1 ..)
instance(a b):CT (Qj a b) 135 [CB a,eI b] rB:=Fe f135 0xb7845e7da65e7d0a84bba65d729adc [] (Qj.eq_1 ..)
instance(a):CT (EC a) 88 [A5 a] rI:=KV f88 0xac04dacad5e0d6e5008dbb04da81363702cad58c5c368d9a370281aaeb5a0b9ab8 [] (EC.eq_1 ..) (BN 0 3 1 0) (BN 2 4 1 1)
instance(a b):CT (Hx a b) 181 [lI a,eI b] rI:=B3 f181 0xac05dd76aa056105368c3684aa848ca561918da5dd81ba [] (Hx.eq_1 ..) (BN 0 5 0 0)
instance(a b):CT (Q8 a b) 182 [lI a,eI b] rB:=B3 f182 0xac05ddca850161918da5dd81ba [] (Q8.eq_1 ..) (BN 0 5 0 0)
instance(a b):CT (Qk a b) 133 [A5 a,Ht b] rI:=B3 f133 0xac075e0376aab5b49ab55d5cadf1d6438c5d5d008dbb075e03dfbdf95d59bde09aa1 [] (Qk.eq_1 ..) (BN 0 7 3 1)
instance(a b):CT (KH a b) 83 [A5 a,Ht b] rI:=Fe f83 0x81969ff601a1 [] (KH.eq_1 ..)
instance(a b):CT (KI a b) 84 [lI a,eI b] rI:=B3 f84 0xac05ddca01850161918da5dd81ba [] (KI.eq_1 ..) (BN 0 5 0 0)
instance(a b):CT (H5 a b) 36 [A5 a,Ht b] (λr=>.tp [A5 r.1,A9 r.2.1,eI r.2.2]):=Fk f36 0x6a023b8189890e4601485db201489a4755086acb0a08e70676e8c10348034707460eb45c0e5d5c5c04c1adf1d6438c5d5d086acb8dbb0a08e7068108e7050908e70676e83801cf618c5c5c043808e7058d9a0908e70681fd598989010d460cf896a2d8fda1 [] [.cell 4 (Y 2),.cell 5 (Y 2),.tmp 6] λr h c d=>by
  unfold H5 at h;have:=BH 0 9 3 0 λs0:d3=>[(8,.bx [⟨X,lI s0.dl⟩,⟨X,lE s0.dr⟩])];have:=BH 2 10 3 1 λs2:d3=>[(8,.bx [⟨X,lI s2.dl⟩,⟨X,lE s2.dr⟩])];exact nz
instance(a b c d):CT (HT a b c d) 45 [AL a,eI b,eI c,eI d] rB:=Fe f45 0xb70e5e41077ebb557280077ebb9f8ab5eba50e36a2935e0103 [] (HT.eq_1 ..)
instance(a):CT (Dq a) 85 [A5 a] (λr=>.oag [⟨X,lI r.dl⟩,⟨X,lE r.dr⟩]):=Fk f85 0xa93b0250e2485d034701489a47fdb8 [.Aaj [.w 6,.w 10]] [.cell 2 (Y 2)] λr h b c=>by
  unfold Dq at h;exact nz
instance(a):CT (Nj a) 86 [AL a] (rO lI):=B3 f86 0xf037f40376f4cb37033ca9cfda885e41de5c378d9af403c4c00140b8 [] (Nj.eq_1 ..) (BH 0 4 1 0 (hO 3 lI))
instance(a b c):CT (OJ a b c) 37 [AL a,A5 b,Kn c] (rS A5):=Fk f37 0x8955070602e1fe030676e1fe0306e1fe03063ce8c1034803476c04c18e61b45c615d5c5c55adf1074684e2e27e03d484e2e27e03d4ebe2e27e03d4070602ff8a70bba636a6367003067de1fe03069de0fecb097c9e030676e83801cf6170013f8c03057d0438fecbff8a7036a6367003057d097c9e03068182960250fd1b55fdfa [.cvt .i64 (.s 40),.aad (.s 77) (.c (.int .i64 0)) 1 3,.cvt .i64 (.s 79),.aad (.s 88) (.c (.int .i64 1)) 1 3,.cvt .i64 (.s 90),.aad (.s 97) (.c (.int .i64 2)) 1 3,.cvt .i64 (.s 99)] [.cell 6 (Y 2)] λr h f g=>by
  unfold OJ at h;have:HW 0 λ(d:d3×Int)=>[(7,.bx [⟨X,lI d.1.dl⟩,⟨X,lE d.1.dr⟩]),(9,.tv (eI d.2))]:=⟨⟩;have:HW 2 λ(e:d3×Int)=>[(7,.bx [⟨X,lI e.1.dl⟩,⟨X,lE e.1.dr⟩]),(11,.tv (eI e.2))]:=⟨⟩;exact nz
instance(a b):CT (L3 a b) 87 [eI a,eI b] (rO lI):=B3 f87 0xf0849eb376a9cf0536028465369eb3c4c001406b02 [] (L3.eq_1 ..) (BH 0 6 1 0 (hO 5 lI))
instance(a b):CT (JP a b) 38 [eI a,(eL 1 Eu) b] (rO lI):=B3 f38 0x8218849eb376f5f517cd011417cd011401140114d70505363f8ca5758a7001a5369eb381991a36406b02 [.cvt .i64 (.s 25)] (JP.eq_1 ..) (⟨⟩:HW 0 λ(c:Fp×Int)=>[(5,.xo 1 (x! eI c.1)),(6,.tv (eI c.2))])
instance(a):CT (Gc a) 89 [lI a] rI:=iq f89 0xac040002760400026a0003ca85f7f704000265366a0003ace9040002ac01c50276aa70018ca5619101e9c502816b01 [] (Gc.eq_1 ..) (BN 0 3 0 0) (BN 2 4 0 0) (BN 4 5 4 0)
instance(a b):CT (L4 a b) 39 [A5 a,A9 b] (rT A5 eI):=Fk f39 0x818955093e0904020b09db0576034d034c074661b45c615d5c5c8c5d1dc1adf1d6e50904028dbb0b09db058109db04b6db0576f58c5c8c5c1d3809db048d9ab6db058102500ec9279f89010cf80e5d5989010cf80e5c59890c468aebf95ae0e05989010cf89601fda1 [] [.cell 4 (Y 2),.tmp 5] λr h d e=>by
  unfold L4 at h;have:=BH 0 10 2 0 λs0:d3=>[(9,.bx [⟨X,.xl 1 (x! eI s0.dl)⟩,⟨X,.xl 3 (x! CB s0.dr)⟩])];have:=BH 2 11 2 1 λs2:d3=>[(9,.bx [⟨X,.xl 1 (x! eI s2.dl)⟩,⟨X,.xl 3 (x! CB s2.dr)⟩])];have:HY 106 (λ(a:Int)(b:Int)(c:Int)=>B0.mk a b c) (eI) (eI) (eI):=⟨⟩;exact nz
instance(a b c d):CT (OK a b c d) 40 [AL a,A5 b,eI c,(eL 3 DU) d] (rO lS):=KV f40 0xf00901b6e7065f01b6e706b6e706b6e7063c0204480447d90288010f0eb6e708100f0eb6e70976010aa65d80dea55c7404bc360f0eb6e708e9100f0eb6e7099d044b0bc90b46094605e2e243a505843f0503e2bc7001e2e27e36ffb6e706d136e48c5c5581705ce2e2bc09758a709aa6367036b6e7068104c00440625e02 [.aad (.s 35) (.c (.int .i64 0)) 1 3,.cvt .i64 (.s 37),.aad (.s 59) (.c (.int .i64 1)) 1 3,.cvt .i64 (.s 61),.aad (.s 68) (.c (.int .i64 1)) 1 3,.cvt .i64 (.s 71),.aad (.s 79) (.c (.int .i64 2)) 1 3,.cvt .i64 (.s 81)] (OK.eq_1 ..) (⟨⟩:HW 0 λ(e:List CF×Int)=>[(9,.ow (lS e.1)),(10,.tv (eI e.2))]) (BH 2 16 9 0 (hT 15 eB))
instance(a):CT (Ku a) 136 [eI a] (rO lI):=B3 f136 0xf03704c50376a9cfda37653604c503c4c001400001 [] (Ku.eq_1 ..) (BH 0 4 0 0 (hO 3 lI))
instance(a):CT (QL a) 90 [A5 a] (λr=>.oag [⟨X,lI r.dl⟩,⟨X,lI r.dr⟩]):=Fk f90 0xa93b02503f0ef90ee0d8b8 [.Aaj [.w 6,.w 10]] [.cell 2 (Y 2)] λr h b c=>by
  unfold QL at h;exact nz
instance(a b c):CT (M3 a b c) 41 [AL a,BS b,eC c] (rS AI):=Fk f41 0x94b12460947a8094b0fc9114609470f461046cc555589d89638ff094b0f46070604033ce8c103480347074684e23f84e23febe23f04c1ff094b0f468aeb5a6005070604033ce83801cf705ce23f0438d785033f81e00250fd1bc60fc9fa [.aad (.s 5) (.c (.int .i64 0)) 1 4,.aad (.s 5) (.c (.int .i64 1)) 1 4,.cvt .i64 (.s 26),.aad (.s 5) (.c (.int .i64 1)) 1 4,.cvt .i64 (.s 49),.aad (.s 5) (.c (.int .i64 2)) 1 4,.cvt .i64 (.s 56),.aad (.s 5) (.c (.int .i64 3)) 1 4,.cvt .i64 (.s 61)] [.cell 6 (Y 9)] λr h d e=>by
  unfold M3 at h;exact nz
instance(a):CT (Qo a) 42 [CH a] (rS CH):=Fk f42 0xa93b194b14460f46030f420e460148800d7d470148740d7d470e460148800b7d470148740b7d471346965bd41346965bc15c10c9b8 [] [.cell 2 (Y 25)] λr h b c=>by
  unfold Qo at h;exact nz
instance(a b):CT (Ni a b) 12 [AL a,Kn b] (rS CH):=Fk f12 0x194bd0ff194b0ed0830842094a10420ed90a429ba24a0241d40e030742cc555bd455024a0d420e460145f936450b9a024a5bd4780e463655054ad41546cc82820e030e42f90e030e42e089fd0e0f4455a289890c49fd1178550b42c6194b10c93f0ecb42c60309429bb908c90ed9385510c9a1 [.bld [.str ⟨#[]⟩,.list 1 [],.list 3 [],.list 4 [],.int .i64 0,.list 5 [],.list 1 [],.list 3 [],.list 4 [],.int .i64 0,.list 5 [],.list 1 [],.list 1 [],.list 1 [],.list 1 [],.bool T,.int .i64 0,.list 9 [],.list 1 [],.list 1 [],.list 1 [],.list 3 [],.list 4 [],.int .i64 0,.list 5 []] [(0,1,.c (.str ⟨#[114]⟩)),(1,5,.s 17),(15,1,.s 19),(11,2,.s 24)]] [.cell 4 (Y 25)] λr h d e=>by
  unfold Ni at h;exact nz
instance(a):CT (Ng a) 43 [AL a] (rO lI):=B3 f43 0xf037f40376f4cb37033ca9cfda885e41de5c378d9af403c4c00140b8 [] (Ng.eq_1 ..) (BH 0 4 1 0 (hO 3 lI))
instance(a b):CT (Pj a b) 13 [AL a,VX b] (rS Bn):=Fk f13 0xad6c6a020e0de706760e0de7060e0de7063ce8014138034803476c040141388e61b4c3615dc35c55adf1074684e2e2e584e2e2e5ebe2e2e56a02ff8a70bba636a636eb720de7069d0bc3e70407a75e0676e8027d4a5b3801cf0104027dcf01045b380b7ca75e080c0b097ca75e0a76a9cf050505058004bc5e410443a584e23f027e5c8004bc020b7ca75e08e90c0b097ca75e0a8182b201e4ed81617001e23f027e5c5adb04ff8a7036a636709a07a75e0681829611c911c9a1 [.aad (.s 38) (.c (.int .i64 0)) 1 2,.cvt .i64 (.s 40),.aad (.s 69) (.c (.int .i64 1)) 1 2,.cvt .i64 (.s 71),.aad (.s 134) (.c (.int .i64 0)) 1 3,.cvt .i64 (.s 136),.aad (.s 145) (.c (.int .i64 1)) 1 3,.cvt .i64 (.s 147),.aad (.s 154) (.c (.int .i64 2)) 1 3,.cvt .i64 (.s 156)] [.cell 4 (Y 3)] λr h f g=>by
  unfold Pj at h;have:HW 0 λ(e:AE×Int)=>[(5,.bx [⟨X,lI e.1.d3.dl⟩,⟨X,lE e.1.d3.dr⟩,⟨X,(eL 1 lI) e.1.ec⟩]),(7,.tv (eI e.2))]:=⟨⟩;have:=BH 2 12 9 0 (hO 11 lI);have:HW 4 λ(d:AE×Int)=>[(5,.bx [⟨X,lI d.1.d3.dl⟩,⟨X,lE d.1.d3.dr⟩,⟨X,(eL 1 lI) d.1.ec⟩]),(14,.tv (eI d.2))]:=⟨⟩;exact nz
instance(a):CT (My a) 46 [AL a] rB:=Fj f46 0xac08daca850c7407e5008dbb08da8136f40376f4036a3704766a370407a73706ca850c8ccc6a37048d907d07a7370681aa70cc5a0c5c044b05c9d9de9041de5cf4038d9041de5c5af40481aa050c74de5c5a36709041de9a368d9af4039daaeb5a0b9ab8 [] λh=>by
  unfold My at h;have:=BH 0 4 1 0 (hT 3 eI);have:HW 2 λ(c:Int)=>[(5,.tv (eI c))]:=⟨⟩;have:HW 4 λ(b:Int)=>[(7,.tv (eI b))]:=⟨⟩;have:=BN 6 8 1 1;exact nz
instance(a):CT (Ju a) 95 [A5 a] rB:=Fe f95 0xb7eb5a0b9ab8 [] (Ju.eq_1 ..)
instance(a):CT (Ie a) 47 [Bn a] rB:=B3 f47 0xac3702cad18cb4008d5e7d370281aa705e7d08963801b8 [] (Ie.eq_1 ..) (BN 0 3 1 2)
instance(a b):CT (Jv a b) 61 [A9 a,eI b] rB:=Fe f61 0xd75af90b9adc [] (Jv.eq_1 ..)
instance(a):CT (LD a) 138 [BS a] rB:=Fe f138 0xb770cb7d0a70b472c601b8 [] (LD.eq_1 ..)
instance(a b):CT (TD a b) 139 [Ht a,eI b] rB:=Fe f139 0xd75af90b9adc [] (TD.eq_1 ..)
abbrev Q_185(n:Nat):Prop:=∀(c:d5)(a:Int),CT (DF n c a) 185 [AI c,eI a] rI
theorem AAS(n:Nat)(_ih_185:Q_185 n)(c:d5)(a:Int):CT (DF (n+1) c a) 185 [AI c,eI a] rI:=Fj f185 0xc4a5a903767201a809e536ff8a0536eb5aa90381aa0896027db59bf25a36dc [] λh=>by
  unfold DF at h;have:HW 0 λ(b:Int×Int)=>[(1,.tv (eI b.1)),(5,.tv (eI b.2))]:=⟨⟩;exact nz
theorem AAR:∀n:Nat,Q_185 n:=by
  intro n
  induction n with
  |zero=>exact(λc po=>⟨λ_ h=>c!⟩)
  |succ n a=>exact AAS n a
instance(c po):CT (Rp c po) 185 [AI c,eI po] rI:=⟨λr h=>by
  obtain ⟨N,a⟩:=C3 h;exact((AAR N) c po).snd r (a N (az _))⟩
instance(a):CT (LE a) 140 [AI a] rB:=Fe f140 0xd70ea801b8 [] (LE.eq_1 ..)
instance(a):CT (Q9 a) 96 [CH a] rB:=Fe f96 0xb70ea8107d0a960d7d0a960b7dee9b067dee9bc15a0c9ab8 [] (Q9.eq_1 ..)
instance(a b):CT (If a b) 190 [AL a,A5 b] rB:=KV f190 0xac065e0376aaeb7403e55a7403e5008dbb065e03815e02055e0376aa705c8c5c5a8c5c5e028d5c5a5e03c4a1 [] (If.eq_1 ..) (BN 0 5 3 0) (BN 2 6 3 1)
instance(a b c d):CT (Lg a b c d) 191 [AL a,BS b,eI c,eI d] (rT Jh eB):=Fk f191 0x81044bd904bc59044b16468a700136a6a560e48cc39f044b16468a70c3a5a5c9625e02 [] [.cell 8 (Y 4),.tmp 9] λr h e f=>by
  unfold Lg at h;exact nz
instance(a):CT (OY a) 192 [eI a] rB:=Fe f192 0x81a6a59101 [] (OY.eq_1 ..)
instance(a b):CT (Kv a b) 310 [eI a,Sv b] rI:=Fe f310 0x81aa05bba6bb0a845c5a9ab801 [] (Kv.eq_1 ..)
instance(a b):CT (Q7 a b) 244 [eI a,F9 b] rI:=Fe f244 0x8196037d59f6017daa055c5a9ab801 [] (Q7.eq_1 ..)
instance(a b):CT (OA a b) 193 [eI a,lT b] rI:=B3 f193 0xac05ddcabd9b057e918da5dddfd101aa053684ba [] (OA.eq_1 ..) (BN 0 5 1 0)
instance(a b):CT (M1 a b) 194 [BS a,eI b] rB:=B3 f194 0xac05a903ca8501740241deb4008db45aa903c4dc [] (M1.eq_1 ..) (BN 0 5 2 2)
instance(a b):CT (GF a b) 147 [AL a,BS b] rI:=KV f147 0xac0d5ecad55a440065907d0d5edfbdcb42cc37085e0376aab580027da6cc74027da674027d0860044b0549785d5c9b55044b0bc9d9deb4378d5e7d085e0381aa70cb425a0bb4aa05cc5acc598896389ff638597f0178a2a1 [] (GF.eq_1 ..) (BN 0 8 3 2) (BN 2 13 3 3)
instance(a):CT (I4 a) 348 [AI a] rB:=Fe f348 0x81a69041047da670cb41f20b5e41f236d7703777f270745bf27080be0b74027db8 [] (I4.eq_1 ..)
instance(a):CT (OI a) 303 [AI a] rB:=B3 f303 0x81ff59ebd7b70ea85af9190401035f19040103d7b70ea85af9d7b70ea85af9d7833801b8 [] (OI.eq_1 ..) (⟨⟩:HJ 25 λ(b:Bool)=>[(25,.tv (eB b))])
abbrev Q_238(n:Nat):Prop:=∀(c:d5),CT (DP n c) 238 [AI c] rB
theorem AAa(n:Nat)(_ih_238:Q_238 n)(c:d5):CT (DP (n+1) c) 238 [AI c] rB:=Fj f238 0xac3702cad5a809e5008dbb3702dfd5a801b8 [] λh=>by
  unfold DP at h;have:=BN 0 3 1 1;exact nz
theorem AAZ:∀n:Nat,Q_238 n:=by
  intro n
  induction n with
  |zero=>exact(λc=>⟨λ_ h=>c!⟩)
  |succ n a=>exact AAa n a
instance(c):CT (Nh c) 238 [AI c] rB:=⟨λr h=>by
  obtain ⟨N,a⟩:=C3 h;exact((AAZ N) c).snd r (a N (az _))⟩
abbrev Q_239(n:Nat):Prop:=∀(c:d5),CT (Ds n c) 239 [AI c] (rT eI eI)
theorem AAc(n:Nat)(_ih_239:Q_239 n)(c:d5):CT (Ds (n+1) c) 239 [AI c] (rT eI eI):=Fj f239 0x9d366a026a025f01855c6a0103a7010476362ca5369d78a809e56a01038dbba70104819d36b8 [] λh=>by
  unfold Ds at h;have:=BH 0 6 1 1 λs0:Int×Int=>[(4,.tv (eI s0.1)),(5,.tv (eI s0.2))];have:HJ 33 λ(a:Int)=>[(5,.tv (eI a))]:=⟨⟩;exact nz
theorem AAb:∀n:Nat,Q_239 n:=by
  intro n
  induction n with
  |zero=>exact(λc=>⟨λ_ h=>c!⟩)
  |succ n a=>exact AAc n a
instance(c):CT (OZ c) 239 [AI c] (rT eI eI):=⟨λr h=>by
  obtain ⟨N,a⟩:=C3 h;exact((AAb N) c).snd r (a N (az _))⟩
instance(a):CT (KN a) 186 [AI a] rI:=Fe f186 0x81aa05a5608178a859d5a801b8 [] (KN.eq_1 ..)
instance(a b c):CT (Ic a b c) 196 [A5 a,A5 b,A9 c] rI:=KV f196 0xac0a6acb76aa05b461b45c5a5d615d5c59855c5cadadf1f1d6438c5d5dd6e5aaeb8c5d5a8c5d008dbb0a6acb816a90096acbca858c5c618c5c5caa705c8c5c5a8c5c6a908d9a096acb81aaebf95ae0e059f659f601fa [] (Ic.eq_1 ..) (BN 0 9 3 0) (BN 2 10 3 1)
instance(a b):CT (Pm a b) 304 [BS a,eI b] rB:=B3 f304 0xac05a903ca8501740241deb4008db45aa903c4dc [] (Pm.eq_1 ..) (BN 0 5 2 2)
instance(a b c):CT (KO a b c) 240 [AL a,eI b,BS c] rI:=B3 f240 0xac7c0503ca01d55a440065907d7c0503c459bd9b9f8501907d6236 [] (KO.eq_1 ..) (BN 0 8 5 3)
instance(a):CT (F2 a) 150 [lI a] rB:=KV f150 0xacc50276c50204c503ca85f7f7c502653604c503ace9c502816b01 [] (F2.eq_1 ..) (BN 0 3 0 0) (BN 2 4 3 0)
instance(a b c):CT (Jw a b c) 241 [A5 a,A5 b,A9 c] rB:=Fe f241 0xb70ebbee5c5a9655a2fa [] (Jw.eq_1 ..)
abbrev Q_187(n:Nat):Prop:=∀(t:AC)(p:d6)(c:d5),CT (ED n t p c) 187 [AL t,BS p,AI c] rI
theorem AAU(n:Nat)(_ih_187:Q_187 n)(t:AC)(p:d6)(c:d5):CT (ED (n+1) t p c) 187 [AL t,BS p,AI c] rI:=Fj f187 0xac0a0705cbcabda809e59b55008dbb0a0705cb810705900705903cb99bf2598896be555bf2c659f6be555bf2c659bd9bf2cc55855cb908c99b01fa [] λh=>by
  unfold ED at h;have:=BN 0 10 5 1;exact nz
theorem AAT:∀n:Nat,Q_187 n:=by
  intro n
  induction n with
  |zero=>exact(λt p c=>⟨λ_ h=>c!⟩)
  |succ n a=>exact AAU n a
instance(t p c):CT (Uq t p c) 187 [AL t,BS p,AI c] rI:=⟨λr h=>by
  obtain ⟨N,a⟩:=C3 h;exact((AAT N) t p c).snd r (a N (az _))⟩
instance(a b c):CT (Ih a b c) 141 [AL a,BS b,AI c] rI:=Fe f141 0x810ea89b9fbda859bd9ba2fa [] (Ih.eq_1 ..)
instance(a b c):CT (GE a b c) 153 [AL a,A5 b,A5 c] rI:=Fe f153 0x81aa0896a208969ff659f6597f0178a2fa [] (GE.eq_1 ..)
instance(a b c):CT (OF a b c) 188 [AL a,A5 b,A5 c] rB:=Fe f188 0xb70a0a70bb0a705c5aebe05a9655a20a96010a9672a2fa [] (OF.eq_1 ..)
instance(a b c):CT (Qm a b c) 142 [AL a,BS b,Bn c] rB:=Fe f142 0xb79638c6a2ee6c729b01fa [] (Qm.eq_1 ..)
abbrev Q_143(n:Nat):Prop:=∀(c:d5),CT (Gk n c) 143 [AI c] rB
theorem AAK(n:Nat)(_ih_143:Q_143 n)(c:d5):CT (Gk (n+1) c) 143 [AI c] rB:=Fj f143 0xd7703777f20b745bf2363702cad5a809e5368dbb3702c4b8 [] λh=>by
  unfold Gk at h;have:=BN 0 3 1 1;exact nz
theorem AAJ:∀n:Nat,Q_143 n:=by
  intro n
  induction n with
  |zero=>exact(λc=>⟨λ_ h=>c!⟩)
  |succ n a=>exact AAK n a
instance(c):CT (Se c) 143 [AI c] rB:=⟨λr h=>by
  obtain ⟨N,a⟩:=C3 h;exact((AAJ N) c).snd r (a N (az _))⟩
abbrev Q_144(n:Nat):Prop:=∀(p:d6)(c:d5)(b:Int)(a:Int),CT (Ep n p c b a) 144 [BS p,AI c,eI b,eI a] rB
theorem AAM(n:Nat)(_ih_144:Q_144 n)(p:d6)(c:d5)(b:Int)(a:Int):CT (Ep (n+1) p c b a) 144 [BS p,AI c,eI b,eI a] rB:=Fj f144 0x81840a010db6055e06cad536a809e59b0a018dbb0db6055e0681b6055e050cb6055e06765a36b6055e058df3010cb6055e06810bf3b6e7060bb6e707765a36b6e7068dc3010bb6e707810bc38109e70509e7053cb99bf2855cb908c99b01625e02 [] λh=>by
  unfold Ep at h;have:HJ 17 λ(d:d6)=>[(9,.bx [⟨T,lI d.d3.dl⟩,⟨T,lE d.d3.dr⟩,⟨T,lS d.ei⟩,⟨T,eI d.em⟩,⟨T,lT d.jj⟩])]:=⟨⟩;have:HW 0 λ(f:Int×Int)=>[(10,.tv (eI f.1)),(11,.tv (eI f.2))]:=⟨⟩;have:HW 2 λ(e:Int×Int)=>[(10,.tv (eI e.1)),(12,.tv (eI e.2))]:=⟨⟩;have:=BN 4 13 5 1;exact nz
theorem AAL:∀n:Nat,Q_144 n:=by
  intro n
  induction n with
  |zero=>exact(λp c ea eb=>⟨λ_ h=>c!⟩)
  |succ n a=>exact AAM n a
instance(p c ea eb):CT (RK p c ea eb) 144 [BS p,AI c,eI ea,eI eb] rB:=⟨λr h=>by
  obtain ⟨N,a⟩:=C3 h;exact((AAL N) p c ea eb).snd r (a N (az _))⟩
end Go.Sf.Sc
