/- Contracts of the functions. -/
import Derived.Test.YtfcfkigfmofniaaGreatCon0
import Derived.Test.YtfcfkigfmofniaaGreatTryzShelf
import Derived.Test.YtfcfkigfmofniaaGreatTw
set_option linter.all false
set_option maxRecDepth 100000
set_option maxHeartbeats 4000000
namespace Go.Sf.Sc
open Go Go.Sf Go.Proofs.Tryz
instance yR:CT (Pp ) 16 [] (fun r=>.yr [⟨true,lN r.ca⟩,⟨true,lX r.ci⟩]):=Fk f16 0x2503f07473f3f04473f3f04473f3f3f3f04473f17c900 [.z7 [.str ⟨#[]⟩,.int .i64 0,.int .i64 0,.list 1 []] [(0,1,.c (.str ⟨#[98,97,108,97,110,99,101]⟩)),(1,1,.c (.int .i64 (-1000))),(2,1,.c (.int .i64 1000))],.z7 [.str ⟨#[]⟩,.int .i64 0,.bool false,.list 4 []] [(0,1,.c (.str ⟨#[65,99,99,111,117,110,116]⟩)),(1,1,.c (.int .i64 (-1))),(2,1,.c (.bool true)),(3,1,.s 2)],.z7 [.str ⟨#[]⟩,.int .i64 0,.bool false,.list 4 []] [(0,1,.c (.str ⟨#[67,97,115,104]⟩)),(1,1,.c (.int .i64 0))],.lst 1 [.c (.str ⟨#[111,112,101,110]⟩),.c (.str ⟨#[99,108,111,115,101,100]⟩)],.z7 [.str ⟨#[]⟩,.int .i64 0,.int .i64 0,.list 1 []] [(0,1,.c (.str ⟨#[115,116,97,116,101]⟩)),(2,1,.c (.int .i64 1)),(3,1,.s 5)],.z7 [.str ⟨#[]⟩,.int .i64 0,.bool false,.list 4 []] [(0,1,.c (.str ⟨#[76,111,97,110]⟩)),(1,1,.c (.int .i64 0)),(3,1,.s 7)],.z7 [.str ⟨#[]⟩,.int .i64 0,.bool false,.list 4 []] [(0,1,.c (.str ⟨#[80,101,114,115,111,110]⟩)),(1,1,.c (.int .i64 (-1)))],.z7 [.str ⟨#[]⟩,.int .i64 0,.int .i64 0,.int .i64 0,.int .i64 0,.int .i64 0,.int .i64 0] [(0,1,.c (.str ⟨#[111,119,110,115]⟩)),(1,1,.c (.int .i64 3)),(2,1,.c (.int .i64 0)),(4,1,.c (.int .i64 (-1))),(5,1,.c (.int .i64 1)),(6,1,.c (.int .i64 1))],.z7 [.str ⟨#[]⟩,.int .i64 0,.int .i64 0,.int .i64 0,.int .i64 0,.int .i64 0,.int .i64 0] [(0,1,.c (.str ⟨#[112,97,121,115]⟩)),(1,1,.c (.int .i64 1)),(2,1,.c (.int .i64 1)),(4,1,.c (.int .i64 (-1))),(6,1,.c (.int .i64 (-1)))],.yt [.w 10,.w 13]] [.cell 0 (some 2)] fun r h a b=>by
  unfold Pp at h;exact nz
instance(a b):CT (Nt a b) 37 [(eL 2 Fo) a,(eL 2 Fo) b] (rS AJ):=Fk f37 0x893863020a6301046ee6b907480747214658ec3f02c658ec3f02c63f9e04b981ee6302ff8a9e65300a63010481630103d096056ee63704480447ac0437ff08d0960608d096065f4a0342044720463f610508d096065f4a034204471f4605053f055e6105855e813f9ed300c91e460505055b0505583f5b3f9e71639606716396063c893802c6f7308918c91d46630103ff8af6fa3058d096058117c917c99602 [.yu (.c (.str ⟨#[65,66,67,68,69,70]⟩)) (some (.s 35)) (some (.s 37)),.y8 .i64 (.s 40),.yu (.c (.str ⟨#[117,118,119,120,121,122]⟩)) (some (.s 52)) (some (.s 54)),.y8 .i64 (.s 64),.lst 1 [.c (.str ⟨#[111,102,102]⟩),.c (.str ⟨#[111,110]⟩)],.yu (.c (.str ⟨#[101,102,103,104,105]⟩)) (some (.s 99)) (some (.s 101)),.zr (.s 105) (.c (.int .i64 0)) 1 2,.y8 .i64 (.s 107),.zr (.s 113) (.c (.int .i64 1)) 1 2,.y8 .i64 (.s 115)] [.cell 4 (some 2)] fun r h f g=>by
  unfold Nt at h;have:HW 0 fun(e:eb×Int)=>[(5,.bx [⟨true,lN e.1.ca⟩,⟨true,lX e.1.ci⟩]),(6,.tv (eI e.2))]:=⟨⟩;have:HW 3 fun(d:eb×Int)=>[(5,.bx [⟨true,lN d.1.ca⟩,⟨true,lX d.1.ci⟩]),(10,.tv (eI d.2))]:=⟨⟩;exact nz
instance(a b c):CT (MS a b c) 38 [Na a,eI b,eI c] (rS Na):=Fk f38 0x6013b89104603452d010b5e92452d01ee5bfc937802 [] [.cell 6 (some 2)] fun r h d e=>by
  unfold MS at h;exact nz
instance(a b c):CT (DR a b c) 120 [eI a,eI b,eI c] rB:=Fe f120 0xb658305830780003 [] (DR.eq_1 ..)
abbrev Q_119(n:Nat):Prop:=∀(t:eb)(a:Int),CT (GA n t a) 119 [AJ t,eI a] (rO lA)
theorem uG(n:Nat)(_ih_119:Q_119 n)(t:eb)(a:Int):CT (GA (n+1) t a) 119 [AJ t,eI a] (rO lA):=Fj f119 0x8204487f41cc5b04480e7ecc5b380447ff04c085010440d5 [] fun h=>by
  unfold GA at h;exact nz
theorem uF:∀n:Nat,Q_119 n:=by
  intro n
  induction n with
  |zero=>exact(fun t a=>⟨fun _ h=>by cases h⟩)
  |succ n b=>exact uG n b
instance(t a):CT (O5 t a) 119 [AJ t,eI a] (rO lA):=⟨fun r h=>by
  obtain ⟨N,b⟩:=Cp h;exact((uF N) t a).snd r (b N (b6 _))⟩
instance(a):CT (QA a) 295 [WG a] (rS eS):=Fe f295 0x815e553f3f5e855b3fa2 [.mv (.c (.str ⟨#[]⟩)),.bin (.s) .add (.c (.str ⟨#[34]⟩)) (.s 7),.bin (.s) .add (.s 8) (.c (.str ⟨#[34]⟩))] (QA.eq_1 ..)
instance(a):CT (K5 a) 336 [G9 a] rB:=Fe f336 0xb6f69ef6058c01 [] (K5.eq_1 ..)
instance(a):CT (Ib a) 337 [G9 a] rB:=Fe f337 0xb69e058c01 [] (Ib.eq_1 ..)
instance(a b c):CT (PX a b c) 338 [eS a,eI b,eB c] rI:=Bj f338 0xb80701ff077800046b0701ff8a0a0af8129e300e129e3008300e129e30050c019e07780004b8780003 [] (PX.eq_1 ..) (⟨⟩:HW 0 fun(d:Int)=>[(7,.tv (eI d))])
instance(a b):CT (K6 a b) 339 [eS a,eI b] rI:=Bj f339 0xa59acf979e5855586912588c640c019e9adfb7 [] (K6.eq_1 ..) (⟨⟩:HW 0 fun(c:Int)=>[(5,.tv (eI c))])
instance yA:CT (O4 ) 340 [] (rO lB):=Fe f340 0x823f014000 [.lst 1 [.c (.str ⟨#[45,62]⟩),.c (.str ⟨#[60,61]⟩),.c (.str ⟨#[62,61]⟩),.c (.str ⟨#[61,61]⟩),.c (.str ⟨#[33,61]⟩),.c (.str ⟨#[123]⟩),.c (.str ⟨#[125]⟩),.c (.str ⟨#[40]⟩),.c (.str ⟨#[41]⟩),.c (.str ⟨#[91]⟩),.c (.str ⟨#[93]⟩),.c (.str ⟨#[44]⟩),.c (.str ⟨#[59]⟩),.c (.str ⟨#[58]⟩),.c (.str ⟨#[61]⟩),.c (.str ⟨#[43]⟩),.c (.str ⟨#[45]⟩),.c (.str ⟨#[42]⟩),.c (.str ⟨#[60]⟩),.c (.str ⟨#[62]⟩),.c (.str ⟨#[33]⟩),.c (.str ⟨#[38]⟩),.c (.str ⟨#[124]⟩),.c (.str ⟨#[46]⟩),.c (.str ⟨#[63]⟩)]] (O4.eq_1 ..)
instance(a b):CT (PW a b) 296 [eS a,eI b] (fun r=>.tp [WG r.1,eI r.2.1,eI r.2.2]):=Fk f296 0x849b22460401d20496056eff04013b849b0c608c46de8a06de0d050cde3030050c01050c80300401bdd204960581820edc9b96460d059e9edc9b22468558dc9b224676308501dc9b96460d583030dc9b22468530a608049606a6080496063c308e61840e0e01308a0e300e6112303019c99602 [] [.cell 4 (some 3),.tmp 5,.tmp 6] fun r h d e=>by
  unfold PW at h;have:HJ 29 fun(c:Int×Int)=>[(9,.tv (eI c.1)),(10,.tv (eI c.2))]:=⟨⟩;have:=Az 0 13 12 0 fun s0:F2=>[(4,.bx [⟨false,eI s0.ll⟩,⟨false,eS s0.AaK⟩,⟨false,eI s0.Line⟩])];exact nz
instance(a):CT (O3 a) 252 [WG a] rB:=Fe f252 0xb6055b77f80c013058849b19c911740155bf610e6d01a2 [.bin (.s) .eql (.s 9) (.c (.str ⟨#[]⟩))] (O3.eq_1 ..)
instance(a):CT (E7 a) 183 [eS a] rB:=Fe f183 0x810e00468c01 [] (E7.eq_1 ..)
instance(a):CT (ME a) 294 [lB a] rI:=Ip f294 0xa5d7026ed70204d7cf5586deded702643004d7dfe8608cbdd70281bc0b8c01 [] (ME.eq_1 ..) (A5 0 3 0 0) (A5 2 4 3 0)
instance(a):CT (II a) 250 [IA a] rI:=Fe f250 0x81970565bedb055ea9be5597a85edba85ef77f6fa2 [] (II.eq_1 ..)
instance(a b):CT (Nv a b) 181 [AJ a,eI b] rI:=gB f181 0xa5b2026ea9ac04c6b20209b2cf55867204c67204c6b202643009b2dfe87204438cbdb2028165be0b01e43065be820ec4e8585e0578eb0578046e55865b72cc5b05780364300605780481e85bd300c9accc77d5 [] (Nv.eq_1 ..) (A5 0 6 1 0) (A5 2 8 7 0) (A5 4 9 8 0)
instance(a b):CT (KG a b) 251 [eI a,eI b] rB:=Fe f251 0xb60a0e01309e0e01b7 [] (KG.eq_1 ..)
instance(a b):CT (Nu a b) 182 [AJ a,eI b] rI:=Bj f182 0x8197a803d403056f0aa8a1427f6f0aa801dba8015e81655b050202060578046e55865b7207735e05020264300605780481e85b074b01c90744077392d5 [] (Nu.eq_1 ..) (A5 0 6 1 0)
instance(a):CT (Es a) 130 [AJ a] (rT eS eI):=Ip f130 0x81bf0006ca6e55b87207735e76c4007c9206ca813004ca6e55b872cc5b76c4307c7704ca8155bf8a6592655b55bff7773fa2 [.mv (.c (.str ⟨#[]⟩)),.mv (.c (.str ⟨#[]⟩)),.mv (.c (.str ⟨#[]⟩)),.mv (.c (.str ⟨#[]⟩))] (Es.eq_1 ..) (A5 0 4 1 0) (A5 2 6 1 1)
instance(a b c):CT (KH a b c) 118 [AJ a,eI b,eI c] rI:=Fe f118 0x8197a8655b30a865777d6901748d937802 [] (KH.eq_1 ..)
instance(a b):CT (Dp a b) 76 [AJ a,eI b] (rT lA eI):=Bj f76 0x81ed070109b2cf0204480447ac784a036f487f6f47d302c9ac04c60701bd09b2df820ec404c05504d676308d0440d5 [] (Dp.eq_1 ..) (Az 0 9 8 0 (hO 7 lA))
abbrev Q_121(n:Nat):Prop:=∀(t:eb)(a:Int)(b:Int),CT (FO n t a b) 121 [AJ t,eI a,eI b] rB
theorem uI(n:Nat)(_ih_121:Q_121 n)(t:eb)(a:Int)(b:Int):CT (FO (n+1) t a b) 121 [AJ t,eI a,eI b] rB:=Fj f121 0xb60a0e017ecc5b8d9e5830937802 [] fun h=>by
  unfold FO at h;exact nz
theorem uH:∀n:Nat,Q_121 n:=by
  intro n
  induction n with
  |zero=>exact(fun t a b=>⟨fun _ h=>by cases h⟩)
  |succ n c=>exact uI n c
instance(t a b):CT (E9 t a b) 121 [AJ t,eI a,eI b] rB:=⟨fun r h=>by
  obtain ⟨N,c⟩:=Cp h;exact((uH N) t a b).snd r (c N (b6 _))⟩
instance(a b c):CT (KJ a b c) 170 [AJ a,Ah b,eI c] (rO lI):=Bj f170 0xed0701b2e5056eb2e505b2e5053c78cbca8e01805b3807017c77b2e505b8d6406278 [] (KJ.eq_1 ..) (Az 0 8 4 0 (hO 7 lI))
instance(a b c):CT (N0 a b c) 109 [AJ a,Na b,eB c] (rS Ah):=Fk f109 0x89380906020b09060403056e0b090604036509060403055f4ab903480347074660faec3fc19260faec3fc15e3004b98a6530fa82820e5d4107735ead0e7e07735ead81655eec3fc15e090602ff8a6592f665920b090604030581090604a1a67104eb6ee6b5cb60fa3f80770437090604a1ff8a6530f66577a67104eb81fc7104a1b3e5066eb3e506b3e5063c78cbca8a085d41cc5b307104a17c77b3e506b8c0fc6278 [.y8 .i64 (.s 59),.zr (.s 89) (.c (.int .i64 0)) 1 3,.y8 .i64 (.s 91),.zr (.s 130) (.c (.int .i64 1)) 1 3,.y8 .i64 (.s 132),.zr (.s 143) (.c (.int .i64 2)) 1 3,.y8 .i64 (.s 145)] [.cell 6 (some 2)] fun r h f g=>by
  unfold N0 at h;have:=Az 0 8 3 0 (hO 7 lI);have:HW 2 fun(d:d3×Int)=>[(9,.bx [⟨true,lI d.1.ca⟩,⟨true,lE d.1.ci⟩]),(10,.tv (eI d.2))]:=⟨⟩;have:HW 4 fun(e:d3×Int)=>[(9,.bx [⟨true,lI e.1.ca⟩,⟨true,lE e.1.ci⟩]),(11,.tv (eI e.2))]:=⟨⟩;exact nz
instance(a b):CT (E8 a b) 171 [eI a,eI b] rI:=Fe f171 0x8158589eb7 [] (E8.eq_1 ..)
instance(a b):CT (Ns a b) 110 [eI a,Qa b] (rS GN):=Fk f110 0x752446054605ec3f0123463084050e58ec3f050e58ec3fc3050eec3f04c9a201 [.zr (.s 3) (.c (.int .i64 0)) 1 4,.y8 .i64 (.s 9),.zr (.s 3) (.c (.int .i64 1)) 1 4,.y8 .i64 (.s 15),.zr (.s 3) (.c (.int .i64 2)) 1 4,.y8 .i64 (.s 22),.zr (.s 3) (.c (.int .i64 3)) 1 4,.y8 .i64 (.s 33)] [.cell 4 (some 5)] fun r h d e=>by
  unfold Ns at h;exact nz
instance(a b):CT (N2 a b) 66 [AJ a,Tx b] (rS BB):=Fk f66 0x757063020f63a16ee6ef054805470eacccbebe04ef6302ff8a9e657f6f0f63a181637f0bd003056ee6bb04480447ac04bb0e0bd0eb0e0bd0eb5f4a5c026f4a034285be0e0bd0eb0e0bd0eb5f4a034205be024abb2346be85be72bbd305c92546054605053fb405053f5e5e5b8906c9380243fa3f779b1ac9f3b4637fff8a6530f665db0bd0030581d0a171ba066e71ba060ab3ba086e02024802470546300271ba06bd0ab3ba08b8e980d938d0a17c72b571ba068102c0055009c93f0ecd3809c9a7 [.yt [.v (.s 19) 0 2,.v (.s 19) 1 2,.z ⟨true,.list 4 []⟩,.z ⟨false,.int .i64 0⟩,.z ⟨true,.list 5 []⟩],.y8 .i64 (.s 75),.y8 .i64 (.s 87),.y8 .i64 (.s 92)] [.cell 4 (some 5)] fun r h f g=>by
  unfold N2 at h;have:HW 0 fun(e:List JX×Int)=>[(6,.ow ((eL 2 X0) e.1)),(7,.tv (eI e.2))]:=⟨⟩;have:=Az 2 10 8 0 (hO 6 (eL 2 X0));have:HW 4 fun(d:d7×Int)=>[(5,.bx [⟨false,lI d.1.d3.ca⟩,⟨false,lE d.1.d3.ci⟩,⟨true,lS d.1.ed⟩,⟨false,eI d.1.fd⟩,⟨true,lT d.1.mh⟩]),(11,.tv (eI d.2))]:=⟨⟩;have:HW 6 fun(c:d7×Int)=>[(5,.bx [⟨false,lI c.1.d3.ca⟩,⟨false,lE c.1.d3.ci⟩,⟨true,lS c.1.ed⟩,⟨false,eI c.1.fd⟩,⟨true,lT c.1.mh⟩]),(15,.tv (eI c.2))]:=⟨⟩;exact nz
instance(a):CT (JE a) 172 [(eL 1 eB) a] (rO lI):=Bj f172 0xed3604d7cf04d7a1d7033c78cbca8301c636bd04d703b8d6400001 [] (JE.eq_1 ..) (Az 0 4 0 0 (hO 3 lI))
instance(a b c):CT (MG a b c) 111 [Ah a,(eL 1 eB) b,(eL 1 eB) c] (fun r=>.yr [⟨true,lI r.ca⟩,⟨true,lI r.ci⟩]):=Fk f111 0x2503f0e012014710203b35d056eb35d05b35d055fe201e25d41c15e147ec15e148301c6710203bdb35d058199014f3056f1937802 [.yt [.w 39,.w 41]] [.cell 6 (some 2)] fun r h d e=>by
  unfold MG at h;have:=Az 0 8 2 0 (hX 7 1 eB);exact nz
instance(a b):CT (Nx a b) 67 [Ah a,IZ b] (fun r=>.yr [⟨true,lI r.ca⟩,⟨true,lI r.ci⟩]):=Fk f67 0x2501b181838d0020408d078066e01e2053f3f055815143014d002046415140108d0780681d07805716378066e01e2053f3f583014d0780564151401716378068199993f0b5e3feef1d5 [.z8 1 [.bool false] (.s 11),.z8 1 [.bool false] (.s 15),.bin (.w) .shr (.s 25) (.s 27),.bin (.w) .and (.s 28) (.c (.int .u64 1)),.bin (.w) .shr (.s 40) (.s 45),.bin (.w) .and (.s 46) (.c (.int .u64 1))] [.cell 4 (some 2)] fun r h f g=>by
  unfold Nx at h;have:HW 0 fun(e:a6×Int)=>[(5,.xo 1 (List.map eB e.1)),(7,.tv (eI e.2))]:=⟨⟩;have:HW 2 fun(d:a6×Int)=>[(6,.xo 1 (List.map eB d.1)),(8,.tv (eI d.2))]:=⟨⟩;exact nz
instance(a):CT (Lg a) 174 [eI a] rB:=Fe f174 0xb69e058c01 [] (Lg.eq_1 ..)
instance(a b):CT (O6 a b) 175 [Bu a,eI b] rB:=Fe f175 0xb658dbf8db0a5892f85e6c77d5 [] (O6.eq_1 ..)
instance(a):CT (DK a) 116 [Ah a] rI:=Ip f116 0xa504ca6ee8eef35e007c9204ca813036026ee8805b307c77360281e4926577a2 [] (DK.eq_1 ..) (A5 0 3 1 0) (A5 2 4 1 1)
instance(a b):CT (GQ a b) 238 [lI a,eI b] rI:=Bj f238 0xa59acf9705609e8030589758803005608cbd9adfb7 [] (GQ.eq_1 ..) (A5 0 5 0 0)
instance(a b):CT (Pa a b) 239 [lI a,eI b] rB:=Bj f239 0xa59acfbc01608cbd9adfb7 [] (Pa.eq_1 ..) (A5 0 5 0 0)
instance(a b):CT (O7 a b) 173 [Ah a,Hh b] rI:=Bj f173 0xa5075dcf97a8b477a85e5b9bf26d0343805e5e007c92075ddfa90b5e5ea9ee77a7 [] (O7.eq_1 ..) (A5 0 7 3 1)
instance(a b):CT (Ic a b) 112 [Ah a,Hh b] rI:=Fe f112 0x810eada98da7 [] (Ic.eq_1 ..)
instance(a b):CT (Ie a b) 113 [lI a,eI b] rI:=Bj f113 0xa59acf7d8501608cbd9adfb7 [] (Ie.eq_1 ..) (A5 0 5 0 0)
instance(a b):CT (GV a b) 68 [Ah a,Hh b] (fun r=>.tp [Ah r.1,Aq r.2.1,eI r.2.2]):=Fk f68 0x63023b81898904460148924701487747380863a10a08ba066ee6b90348034707f0b45b0e5e5b5b04b99bf26d0343805e5e0863a17c920a08ba068108ba050908ba066ee6b5cb60805b5b043708ba057c770908ba0681fc558989010346024676388df1fca7 [] [.cell 4 (some 2),.cell 5 (some 2),.tmp 6] fun r h c d=>by
  unfold GV at h;have:=Az 0 9 3 0 fun s0:d3=>[(8,.bx [⟨true,lI s0.ca⟩,⟨true,lE s0.ci⟩])];have:=Az 2 10 3 1 fun s2:d3=>[(8,.bx [⟨true,lI s2.ca⟩,⟨true,lE s2.ci⟩])];exact nz
instance(a b c d):CT (IH a b c d) 77 [AJ a,eI b,eI c,eI d] rB:=Fe f77 0xb60e5d41077392386c7e0773923897a8655e30050e308d935d0103 [] (IH.eq_1 ..)
instance(a):CT (C4 a) 86 [Ah a] (fun r=>.yr [⟨true,lI r.ca⟩,⟨true,lE r.ci⟩]):=Fk f86 0x783b0250ec485e034701487747fca2 [.yt [.w 6,.w 10]] [.cell 2 (some 2)] fun r h b c=>by
  unfold C4 at h;exact nz
instance(a):CT (Ll a) 114 [AJ a] (rO lI):=Bj f114 0xed36fdcffda136033c78cbca885d41cc5b367c77fd03b8d640a2 [] (Ll.eq_1 ..) (Az 0 4 1 0 (hO 3 lI))
instance(a b c):CT (MP a b c) 69 [AJ a,Ah b,I8 c] (rS Ah):=Fk f69 0x89387102e07105eb6ee07105ebe07105eb5f4ab9034803476d04b98e60b45b605e5b5b389bf2074658ec3fc103d458ec3fc103d4655eec3fc103d47102ff8a6592f6f665eb6fe07105eb84ee7105a109b305eb6ee6b5cb60fa3f8003056f04377105a1ff8a6530f66503056f09b305eb81820e380250fc1b38fcf5 [.y8 .i64 (.s 40),.zr (.s 77) (.c (.int .i64 0)) 1 3,.y8 .i64 (.s 79),.zr (.s 88) (.c (.int .i64 1)) 1 3,.y8 .i64 (.s 90),.zr (.s 97) (.c (.int .i64 2)) 1 3,.y8 .i64 (.s 99)] [.cell 6 (some 2)] fun r h f g=>by
  unfold MP at h;have:HW 0 fun(e:d3×Int)=>[(7,.bx [⟨true,lI e.1.ca⟩,⟨true,lE e.1.ci⟩]),(9,.tv (eI e.2))]:=⟨⟩;have:HW 2 fun(d:d3×Int)=>[(7,.bx [⟨true,lI d.1.ca⟩,⟨true,lE d.1.ci⟩]),(11,.tv (eI d.2))]:=⟨⟩;exact nz
instance(a b):CT (J2 a b) 115 [eI a,eI b] (rO lI):=Bj f115 0xed58e76e78cb9e02586430e7b8d6409602 [] (J2.eq_1 ..) (Az 0 6 1 0 (hO 5 lI))
instance(a b):CT (Hq a b) 70 [eI a,(eL 1 G9) b] (rO lI):=Bj f70 0x821858e76e01e201e217d1011417d1011401140114c3059e3f803058ff8afa309ee781991a30409602 [.y8 .i64 (.s 25)] (Hq.eq_1 ..) (⟨⟩:HW 0 fun(c:Fp×Int)=>[(5,.xo 1 (List.map eI c.1)),(6,.tv (eI c.2))])
instance(a):CT (FL a) 117 [lI a] rI:=gB f117 0xa50400026e0400026300cfbcdede0400026430630003a5bd040002a501d7026ee401803005608c01bdd702819601 [] (FL.eq_1 ..) (A5 0 3 0 0) (A5 2 4 0 0) (A5 4 5 4 0)
instance(a b):CT (J3 a b) 71 [Ah a,Aq b] (rT Ah eI):=Fk f71 0x818938093e0904020b09e5056e034d034c074660b45b605e5b5b805e1db99bf2f35e0904027c920b09e5058109e504a6e5056e01e2805b805b1d3709e5047c77a6e5058102501bc927385589ca46765e5589ca46765b558902468a655e0b92655bee5589ca46768dfca7 [] [.cell 4 (some 2),.tmp 5] fun r h d e=>by
  unfold J3 at h;have:=Az 0 10 2 0 fun s0:d3=>[(9,.bx [⟨true,.xl 1 (List.map eI s0.ca)⟩,⟨true,.xl 3 (List.map Bu s0.ci)⟩])];have:=Az 2 11 2 1 fun s2:d3=>[(9,.bx [⟨true,.xl 1 (List.map eI s2.ca)⟩,⟨true,.xl 3 (List.map Bu s2.ci)⟩])];have:HY 106 (fun(a:Int)(b:Int)(c:Int)=>Bn.mk a b c) (eI) (eI) (eI):=⟨⟩;exact nz
instance(a b c d):CT (MR a b c d) 72 [AJ a,Ah b,eI c,(eL 3 Fr) d] (rO lS):=Ip f72 0xed0901a6ba066ba6ba06a6ba06a6ba063c0204480447ac0288010f0ea6ba08100f0ea6ba096e010af85e7ecc30055b7204c6300f0ea6ba08bd100f0ea6ba0984d305c92546054605ececc60505583f0503ecc6faec3fc130ffa6ba06f730e9805b3881655bececc60901ff8a6577f66530a6ba068104c00440625d02 [.zr (.s 35) (.c (.int .i64 0)) 1 3,.y8 .i64 (.s 37),.zr (.s 59) (.c (.int .i64 1)) 1 3,.y8 .i64 (.s 61),.zr (.s 68) (.c (.int .i64 1)) 1 3,.y8 .i64 (.s 71),.zr (.s 79) (.c (.int .i64 2)) 1 3,.y8 .i64 (.s 81)] (MR.eq_1 ..) (⟨⟩:HW 0 fun(e:List Bw×Int)=>[(9,.ow (lS e.1)),(10,.tv (eI e.2))]) (Az 2 16 9 0 (hT 15 eB))
instance(a):CT (JB a) 85 [eI a] (rO lI):=Bj f85 0xed3604d7cf78cbca36643004d703b8d6400001 [] (JB.eq_1 ..) (Az 0 4 0 0 (hO 3 lI))
instance(a):CT (My a) 50 [Ah a] (fun r=>.yr [⟨true,lI r.ca⟩,⟨true,lI r.ci⟩]):=Fk f50 0x783b02503f0e0b5e0eeef1a2 [.yt [.w 6,.w 10]] [.cell 2 (some 2)] fun r h b c=>by
  unfold My at h;exact nz
instance(a b c):CT (LC a b c) 73 [AJ a,BB b,Zp c] (rS AI):=Fk f73 0x94b28460947b1094b0ac9274609471b462646bead89f10ecdff094b1b467104035f4ab903480347074658ec3f58ec3f655eec3f04b9ff094b1b468a659258c37104035f4ab5cb655bec3f0437c385033f81ee0250fc1bcd0ac9f5 [.zr (.s 5) (.c (.int .i64 0)) 1 4,.zr (.s 5) (.c (.int .i64 1)) 1 4,.y8 .i64 (.s 26),.zr (.s 5) (.c (.int .i64 1)) 1 4,.y8 .i64 (.s 49),.zr (.s 5) (.c (.int .i64 2)) 1 4,.y8 .i64 (.s 56),.zr (.s 5) (.c (.int .i64 3)) 1 4,.y8 .i64 (.s 61)] [.cell 6 (some 9)] fun r h d e=>by
  unfold LC at h;exact nz
instance(a):CT (PA a) 74 [BX a] (rS BX):=Fk f74 0x783b194b29461b46030f42044601487e0d6f470148720d6f47044601487e0b6f470148720b6f471af0f4d41af0f4b95b0cc9a2 [] [.cell 2 (some 25)] fun r h b c=>by
  unfold PA at h;exact nz
instance(a b):CT (N5 a b) 39 [AJ a,I8 b] (rS BX):=Fk f39 0x194beaff194b0eea830842094a10420eac0a42708d4a0241d40e030742bef4d438024a0d42044601450b5e30450b77024a5cd47404463038054ad42a46be82820e030e420b5e0e030e42ee89fc0e0f44388d89890849fc1174380b42cd194b0cc93f0ea142cd030942707509c90eac37380cc9a7 [.z7 [.str ⟨#[]⟩,.list 1 [],.list 3 [],.list 4 [],.int .i64 0,.list 5 [],.list 1 [],.list 3 [],.list 4 [],.int .i64 0,.list 5 [],.list 1 [],.list 1 [],.list 1 [],.list 1 [],.bool false,.int .i64 0,.list 9 [],.list 1 [],.list 1 [],.list 1 [],.list 3 [],.list 4 [],.int .i64 0,.list 5 []] [(0,1,.c (.str ⟨#[114]⟩)),(1,5,.s 17),(15,1,.s 19),(11,2,.s 24)]] [.cell 4 (some 25)] fun r h d e=>by
  unfold N5 at h;exact nz
instance(a):CT (Lk a) 75 [AJ a] (rO lI):=Bj f75 0xed36fdcffda136033c78cbca885d41cc5b367c77fd03b8d640a2 [] (Lk.eq_1 ..) (Az 0 4 1 0 (hO 3 lI))
instance(a b):CT (Ny a b) 40 [AJ a,Tw b] (rS Bi):=Fk f40 0x9b6d63020e0dba066e0e0dba060e0dba065f4a014137034803476d040141378e60b4d9605ed95b389bf2074658ec3fc15e58ec3fc15e655eec3fc15e6302ff8a6592f6f6655e6c0dba06840bd9ba0471ba066ee6026f4a5cb5cb0104026fcb01045c370bb3ba080c0b09b3ba0a6e78cb050505057e04c65d4104c60558ec3f02735b7e04c6020bb3ba08bd0c0b09b3ba0a8182aa01e9c48160faec3f027377ba04ff8a6530f6657771ba0681820e38fbfba7 [.zr (.s 38) (.c (.int .i64 0)) 1 2,.y8 .i64 (.s 40),.zr (.s 69) (.c (.int .i64 1)) 1 2,.y8 .i64 (.s 71),.zr (.s 134) (.c (.int .i64 0)) 1 3,.y8 .i64 (.s 136),.zr (.s 145) (.c (.int .i64 1)) 1 3,.y8 .i64 (.s 147),.zr (.s 154) (.c (.int .i64 2)) 1 3,.y8 .i64 (.s 156)] [.cell 4 (some 3)] fun r h f g=>by
  unfold Ny at h;have:HW 0 fun(e:ff×Int)=>[(5,.bx [⟨true,lI e.1.d3.ca⟩,⟨true,lE e.1.d3.ci⟩,⟨true,(eL 1 lI) e.1.ej⟩]),(7,.tv (eI e.2))]:=⟨⟩;have:=Az 2 12 9 0 (hO 11 lI);have:HW 4 fun(d:ff×Int)=>[(5,.bx [⟨true,lI d.1.d3.ca⟩,⟨true,lE d.1.d3.ci⟩,⟨true,(eL 1 lI) d.1.ej⟩]),(14,.tv (eI d.2))]:=⟨⟩;exact nz
end Go.Sf.Sc
