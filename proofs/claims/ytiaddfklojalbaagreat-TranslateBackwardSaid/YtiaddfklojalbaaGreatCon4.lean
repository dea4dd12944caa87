/- Contracts of the functions. -/
import Derived.Test.YtiaddfklojalbaaGreatCon0
set_option linter.all false
set_option maxRecDepth 100000
set_option maxHeartbeats 4000000
open Option renaming some->Y
open Bool renaming true->X,false->T
namespace Go.Sf.Sc
open Go Go.Sf Go.Proofs.Tryz
instance(a b c):CT (Im a b c) 42 [eS a,eI b,eI c] (rS Cu):=Fk f42 0x74b1b463232c902d1 [] [.cell 6 (Y 7)] λr h d e=>by
  unfold Im at h;exact nz
instance c20:CT (Mk ) 20 [] (rT AS DE):=Fk f20 0xb3b30246a6a655b31ac91c4607473f3f3f3f3f3f04473f3f3f3f3f02c91ac900 [.bld [.str ⟨#[]⟩,.int .i64 0,.bool T,.list 4 []] [(0,1,.c (.str ⟨#[67,108,97,115,115]⟩)),(1,1,.c (.int .i64 (-1)))],.bld [.str ⟨#[]⟩,.int .i64 0,.bool T,.list 4 []] [(0,1,.c (.str ⟨#[65,116,116,114,105,98,117,116,101]⟩)),(1,1,.c (.int .i64 (-1)))],.bld [.str ⟨#[]⟩,.int .i64 0,.bool T,.list 4 []] [(0,1,.c (.str ⟨#[84,97,98,108,101]⟩)),(1,1,.c (.int .i64 (-1)))],.bld [.str ⟨#[]⟩,.int .i64 0,.bool T,.list 4 []] [(0,1,.c (.str ⟨#[67,111,108,117,109,110]⟩)),(1,1,.c (.int .i64 (-1)))],.bld [.str ⟨#[]⟩,.int .i64 0,.bool T,.list 4 []] [(0,1,.c (.str ⟨#[77,97,112]⟩)),(1,1,.c (.int .i64 (-1)))],.call 42 [.c (.str ⟨#[104,97,115]⟩),.c (.int .i64 0),.c (.int .i64 1)],.call 42 [.c (.str ⟨#[119,105,116,104]⟩),.c (.int .i64 2),.c (.int .i64 3)],.call 42 [.c (.str ⟨#[111,102,67,108,97,115,115]⟩),.c (.int .i64 4),.c (.int .i64 0)],.call 42 [.c (.str ⟨#[111,102,65,116,116,114,105,98,117,116,101]⟩),.c (.int .i64 4),.c (.int .i64 1)],.call 42 [.c (.str ⟨#[116,111,84,97,98,108,101]⟩),.c (.int .i64 4),.c (.int .i64 2)],.call 42 [.c (.str ⟨#[116,111,67,111,108,117,109,110]⟩),.c (.int .i64 4),.c (.int .i64 3)]] [.cell 0 (Y 2),.cell 1 (Y 2)] λr h a b=>by
  unfold Mk at h;exact nz
instance(a b c):CT (D7 a b c) 120 [eI a,eI b,eI c] rB:=Fe f120 0xcb9a329a3202d1 [] (D7.eq_1 ..)
instance(a):CT (Pq a) 245 [Xe a] (rS eS):=Fe f245 0x815f573f3f5f855d3fb6 [.mv (.c (.str ⟨#[]⟩)),.bin (.s) .add (.c (.str ⟨#[34]⟩)) (.s 7),.bin (.s) .add (.s 8) (.c (.str ⟨#[34]⟩))] (Pq.eq_1 ..)
instance(a):CT (LF a) 290 [QF a] rB:=Fe f290 0xcba8ab32a8ab9001 [] (LF.eq_1 ..)
instance(a):CT (I1 a) 291 [QF a] rB:=Fe f291 0x81a8ab9001 [] (I1.eq_1 ..)
instance(a b c):CT (LH a b c) 292 [eS a,eI b,eB c] rI:=CW f292 0xde0701ff0702ca840701ff8a0a0aa8120532320e1205323208320e120532ab0c5c320702ca81d3d1 [] (LH.eq_1 ..) (⟨⟩:HW 0 λ(d:Int)=>[(7,.tv (eI d))])
instance(a b):CT (H0 a b) 293 [eS a,eI b] rI:=CW f293 0x9e05d1b4eb329a579a6c129a90690c5cabd181bc [] (H0.eq_1 ..) (⟨⟩:HW 0 λ(c:Int)=>[(5,.tv (eI c))])
instance AAS:CT (Ol ) 294 [] (rO lB):=Fe f294 0x823f014000 [.lst 1 [.c (.str ⟨#[45,62]⟩),.c (.str ⟨#[60,61]⟩),.c (.str ⟨#[62,61]⟩),.c (.str ⟨#[61,61]⟩),.c (.str ⟨#[33,61]⟩),.c (.str ⟨#[123]⟩),.c (.str ⟨#[125]⟩),.c (.str ⟨#[40]⟩),.c (.str ⟨#[41]⟩),.c (.str ⟨#[91]⟩),.c (.str ⟨#[93]⟩),.c (.str ⟨#[44]⟩),.c (.str ⟨#[59]⟩),.c (.str ⟨#[58]⟩),.c (.str ⟨#[61]⟩),.c (.str ⟨#[43]⟩),.c (.str ⟨#[45]⟩),.c (.str ⟨#[42]⟩),.c (.str ⟨#[60]⟩),.c (.str ⟨#[62]⟩),.c (.str ⟨#[33]⟩),.c (.str ⟨#[38]⟩),.c (.str ⟨#[124]⟩),.c (.str ⟨#[46]⟩),.c (.str ⟨#[63]⟩)]] (Ol.eq_1 ..)
instance(a b):CT (LG a b) 246 [eS a,eI b] (λr=>.tp [Xe r.1,eI r.2.1,eI r.2.2]):=Fk f246 0xa1ad1d4604010d0c046b05dfff04013ba1ad0c60904660328a0660320d050c603232ab0c5c0c8c3204019f320d0c046b0581820e5781ad6b460d0505ab325781ad1d46859a5781ad1d467e3285015781ad6b460d9a32325781ad1d468532b508046b06b508046b063c328e61a10e0e01328a0e320e611232321bc96b02 [] [.cell 4 (Y 3),.tmp 5,.tmp 6] λr h d e=>by
  unfold LG at h;have:HJ 29 λ(c:Int×Int)=>[(9,.tv (eI c.1)),(10,.tv (eI c.2))]:=⟨⟩;have:=Bu 0 13 12 0 λs0:Gn=>[(4,.bx [⟨T,eI s0.gN⟩,⟨T,eS s0.AbJ⟩,⟨T,eI s0.Line⟩])];exact nz
instance(a):CT (Kb a) 185 [Xe a] rB:=Fe f185 0x81a85da2a80c01ab6181ad1bc911910157bf610e7601b6 [.bin (.s) .eql (.s 9) (.c (.str ⟨#[]⟩))] (Kb.eq_1 ..)
instance(a):CT (EP a) 130 [eS a] rB:=Fe f130 0x810e00469001 [] (EP.eq_1 ..)
abbrev Q_180(n:Nat):Prop:=∀(t:AC)(a:Int),CT (EQ n t a) 180 [AS t,eI a] (rO lA)
theorem w4(n:Nat)(_ih_180:Q_180 n)(t:AC)(a:Int):CT (EQ (n+1) t a) 180 [AS t,eI a] (rO lA):=Fj f180 0x8204488d41da5d04480e80da5d550447ff04c085ec40e0 [] λh=>by
  unfold EQ at h;exact nz
theorem w3:∀n:Nat,Q_180 n:=by
  intro n
  induction n with
  |zero=>exact(λt a=>⟨λ_ h=>e_⟩)
  |succ n b=>exact w4 n b
instance(t a):CT (MI t a) 180 [AS t,eI a] (rO lA):=⟨λr h=>by
  obtain ⟨N,b⟩:=Dc h;exact((w3 N) t a).snd r (b N (a5 _))⟩
instance(a):CT (I2 a) 244 [lB a] rI:=Jl f244 0x9ec102dfc10204c103b48660326032c102693204c103aabe60909f32c102aae79001 [] (I2.eq_1 ..) (BJ 0 3 0 0) (BJ 2 4 3 0)
instance(a):CT (F9 a) 183 [F4 a] rI:=Fe f183 0xaaeb75c5a75c5fbdc557578a9d5ff89d5fe78d74b6 [] (F9.eq_1 ..)
instance(a b):CT (J3 a b) 128 [AS a,eI b] rI:=tD f128 0x9e8902b49be50443328902098903b486920443329204433289026932098903aabe920443909f3289028175c50b0157cd3275c5820e01f1be9a5f05b203e9b204b4865d92da5d05b2036932e9b204aabe5ded00c9e5daa2e0 [] (J3.eq_1 ..) (BJ 0 6 1 0) (BJ 2 8 7 0) (BJ 4 9 8 0)
instance(a b):CT (Kc a b) 184 [eI a,eI b] rB:=Fe f184 0xcb0a0e01ab320e01bc [] (Kc.eq_1 ..)
instance(a b):CT (J2 a b) 129 [AS a,eI b] rI:=CW f129 0xaa8a9d03e30305740a9dba428d740a9d01f89d015f81755d050202e9b204b4865d92077f5f0502026932e9b204aabe5d074b01c90744077fc4e0 [] (J2.eq_1 ..) (BJ 0 6 1 0)
instance(a):CT (EW a) 82 [AS a] (rT eS eI):=Jl f82 0x81bf0006d3b4de92077f5f7e0155009fc406d3813204d3b4de92da5d7e0155329fa204d3aabfcdf6db57bfe7a23fb6 [.mv (.c (.str ⟨#[]⟩)),.mv (.c (.str ⟨#[]⟩)),.mv (.c (.str ⟨#[]⟩)),.mv (.c (.str ⟨#[]⟩))] (EW.eq_1 ..) (BJ 0 4 1 0) (BJ 2 6 1 1)
instance(a b c):CT (Hh a b c) 119 [AS a,eI b,eI c] rI:=Fe f119 0xaa8a9d755d329d75a257016c0191e193b202 [] (Hh.eq_1 ..)
abbrev Q_121(n:Nat):Prop:=∀(t:AC)(a:Int)(b:Int),CT (Dt n t a b) 121 [AS t,eI a,eI b] rB
theorem wy(n:Nat)(_ih_121:Q_121 n)(t:AC)(a:Int)(b:Int):CT (Dt (n+1) t a b) 121 [AS t,eI a,eI b] rB:=Fj f121 0xcb0a0e0180da5d555c329a3293b202 [] λh=>by
  unfold Dt at h;exact nz
theorem wx:∀n:Nat,Q_121 n:=by
  intro n
  induction n with
  |zero=>exact(λt a b=>⟨λ_ h=>e_⟩)
  |succ n c=>exact wy n c
instance(t a b):CT (H4 t a b) 121 [AS t,eI a,eI b] rB:=⟨λr h=>by
  obtain ⟨N,c⟩:=Dc h;exact((wx N) t a b).snd r (c N (a5 _))⟩
instance(a b c d):CT (F8 a b c d) 76 [AS a,eI b,eI c,eI d] rB:=Fe f76 0xcb0e5e41077fc4557d80077fc4f18a9d755fab0e32e1935e0103 [] (F8.eq_1 ..)
instance(a):CT (OW a) 117 [AS a] (rO lI):=CW f117 0x820230043003df0430ba30033cb2d4d3885e41da5d309fa2043003dec00140b6 [] (OW.eq_1 ..) (Bu 0 4 1 0 (hO 3 lI))
instance(a b):CT (Fr a b) 118 [AS a,eI b] (rT lA eI):=CW f118 0x8182020701098903df0204480447e5b24a0374488d7447ed03c9e504433207019f3209890381820e015504c05704c09b32e10440e0 [] (Fr.eq_1 ..) (Bu 0 9 8 0 (hO 7 lA))
instance(a b):CT (Nn a b) 74 [AS a,bf b] (rS CM):=Fk f74 0xad7673020e0df506df0e0df5060e0df5063cdc0141310348034776040141318e60a7c6605fc65d55fc07469a3f033fd95f9a3f033fd95f755f3f033fd95f7302ffcdc4a832a832755f7d0df506a10bc6f504b1f506dfdcea4a6d01d4ecead4ec6d0b8906f508d6098906f50adfb2d405050505800443325e410443ab9a3f033f027f5d80044332020b8906f5089f32d6098906f50a8182a60182910155816075013f033f027f5d5c045e04ffcd32a83275a2b1f50681820e5510c910c9a9 [.aad (.s 38) (.c (.int .i64 0)) 1 2,.cvt .i64 (.s 40),.aad (.s 69) (.c (.int .i64 1)) 1 2,.cvt .i64 (.s 71),.aad (.s 134) (.c (.int .i64 0)) 1 3,.cvt .i64 (.s 136),.aad (.s 145) (.c (.int .i64 1)) 1 3,.cvt .i64 (.s 147),.aad (.s 154) (.c (.int .i64 2)) 1 3,.cvt .i64 (.s 156)] [.cell 4 (Y 3)] λr h f g=>by
  unfold Nn at h;have:HW 0 λ(d:AJ×Int)=>[(5,.bx [⟨X,lI d.1.ci.bq⟩,⟨X,lE d.1.ci.ca⟩,⟨X,(eL 1 lI) d.1.eo⟩]),(7,.tv (eI d.2))]:=⟨⟩;have:=Bu 2 12 9 0 (hO 11 lI);have:HW 4 λ(e:AJ×Int)=>[(5,.bx [⟨X,lI e.1.ci.bq⟩,⟨X,lE e.1.ci.ca⟩,⟨X,(eL 1 lI) e.1.eo⟩]),(14,.tv (eI e.2))]:=⟨⟩;exact nz
instance(a):CT (H5 a) 75 [BD a] (λr=>.oag [⟨X,lI r.bq⟩,⟨X,lE r.ca⟩]):=Fk f75 0xb23b02503f03485f03470148a247fdb6 [.zt [.w 6,.w 10]] [.cell 2 (Y 2)] λr h b c=>by
  unfold H5 at h;exact nz
instance(a b):CT (Mi a b) 181 [eI a,eI b] (rO lI):=CW f181 0x82029ae9cadfb2d40532029a6932e9cadec001406b02 [] (Mi.eq_1 ..) (Bu 0 6 1 0 (hO 5 lI))
instance(a):CT (RW a) 122 [BD a] (λr=>.oag [⟨X,lI r.bq⟩,⟨X,lI r.ca⟩]):=Fk f122 0xb23b02503f0e0b5f0edb02c9b6 [.zt [.w 6,.w 10]] [.cell 2 (Y 2)] λr h b c=>by
  unfold RW at h;exact nz
instance(a b c d):CT (Tu a b c d) 77 [Bb a,BD b,BD c,BR d] (rS Bb):=Fk f77 0x8013b194b20461f46550e551e46551e46555d0cc96aa9 [] [.cell 8 (Y 25)] λr h e f=>by
  unfold Tu at h;exact nz
instance(a):CT (Nk a) 123 [eI a] (rO lI):=CW f123 0x82023004c103dfb2d4d330693204c103dec001400001 [] (Nk.eq_1 ..) (Bu 0 4 0 0 (hO 3 lI))
instance(a):CT (W9 a) 78 [BD a] (λr=>.oag [⟨X,lI r.bq⟩,⟨X,lI r.ca⟩]):=Fk f78 0xb23b02503f0e0b5f0edb02c9b6 [.zt [.w 6,.w 10]] [.cell 2 (Y 2)] λr h b c=>by
  unfold W9 at h;exact nz
instance(a):CT (Lq a) 43 [bg a] (rS Bb):=Fk f43 0xb23b194b0e0e55963fe902030908e95e0107df0908e95e01070908e95e01073cdcc3034803477604c38e60a75d605f5d5d55fc07469a3f033fd9c59a3f033fd9c5755f3f033fd9c5e90203ffeb32a832758d740908e95e0107a1dbe95e5cb1055e0106dfdc3101d4755d3f8ca70431e95e5cffeb3275f8b1055e0106810250fd1b55b3fd3f0e214603452d0bf7f702452d0bc6c655b3b302491ac9910cc9b6 [.Abx (.s 35) 0 2 X,.cvt .i64 (.s 56),.aad (.s 86) (.c (.int .i64 0)) 1 3,.cvt .i64 (.s 88),.aad (.s 97) (.c (.int .i64 1)) 1 3,.cvt .i64 (.s 99),.aad (.s 106) (.c (.int .i64 2)) 1 3,.cvt .i64 (.s 108),.bld [.str ⟨#[]⟩,.list 1 [],.list 3 [],.list 4 [],.int .i64 0,.list 5 [],.list 1 [],.list 3 [],.list 4 [],.int .i64 0,.list 5 [],.list 1 [],.list 1 [],.list 1 [],.list 1 [],.bool T,.int .i64 0,.list 9 [],.list 1 [],.list 1 [],.list 1 [],.list 3 [],.list 4 [],.int .i64 0,.list 5 []] [(0,1,.c (.str ⟨#[114]⟩))]] [.cell 2 (Y 25)] λr h e f=>by
  unfold Lq at h;have:HW 0 λ(d:ci×Int)=>[(6,.bx [⟨X,lI d.1.bq⟩,⟨X,lE d.1.ca⟩]),(7,.tv (eI d.2))]:=⟨⟩;have:HW 2 λ(b:ci×Int)=>[(6,.bx [⟨X,lI b.1.bq⟩,⟨X,lE b.1.ca⟩]),(9,.tv (eI b.2))]:=⟨⟩;exact nz
instance c21:CT (J5 ) 21 [] (rO (eL 25 Bb)):=Fe f21 0x8219470ee50ee5ed1cc9254603472246224622462246a621460347224622460247244624462446ed1cc92346034722462246a6194000 [] (J5.eq_1 ..)
instance(a):CT (PA a) 79 [AS a] rB:=Fj f79 0x9e08d3b4850c92077f5f009fc408d38132043003df043003733004df733004b1733006b4850c8cc57330049f8d74b1733006aacdc55c0c5ded03c9e5da8d41da5d0430039f8d41da5d5c043004aaeb0c92da5d5c32758d41daa2329fa2043003a157cdf60ba2b6 [] λh=>by
  unfold PA at h;have:=Bu 0 4 1 0 (hT 3 eI);have:HW 2 λ(b:Int)=>[(5,.tv (eI b))]:=⟨⟩;have:HW 4 λ(c:Int)=>[(7,.tv (eI c))]:=⟨⟩;have:=BJ 6 8 1 1;exact nz
instance(a):CT (RE a) 80 [DE a] rB:=Fe f80 0xd0755f0ba2b6 [] (RE.eq_1 ..)
instance(a):CT (PB a) 45 [BD a] rB:=Fe f45 0xcb75f60ba2b6 [] (PB.eq_1 ..)
instance(a):CT (M7 a) 124 [CG a] rB:=Fe f124 0xcb75ba740a75f80ee601b6 [] (M7.eq_1 ..)
instance(a b):CT (RC a b) 125 [If a,eI b] rB:=Fe f125 0xd05c0b5f0ba2e0 [] (RC.eq_1 ..)
instance(a b):CT (PD a b) 126 [BR a,eI b] rB:=Fe f126 0xd05c0b5f0ba2e0 [] (PD.eq_1 ..)
abbrev Q_182(n:Nat):Prop:=∀(c:c8)(a:Int),CT (FB n c a) 182 [AR c,eI a] rI
theorem w6(n:Nat)(_ih_182:Q_182 n)(c:c8)(a:Int):CT (FB (n+1) c a) 182 [AR c,eI a] rI:=Fj f182 0xdeabb203df7d01cf097f5f32ffeb3275f6b203aa8a9d55ea9dbb04425c32e0 [] λh=>by
  unfold FB at h;have:HW 0 λ(b:Int×Int)=>[(1,.tv (eI b.1)),(5,.tv (eI b.2))]:=⟨⟩;exact nz
theorem w5:∀n:Nat,Q_182 n:=by
  intro n
  induction n with
  |zero=>exact(λc o3=>⟨λ_ h=>e_⟩)
  |succ n a=>exact w6 n a
instance(c o3):CT (Tt c o3) 182 [AR c,eI o3] rI:=⟨λr h=>by
  obtain ⟨N,a⟩:=Dc h;exact((w5 N) c o3).snd r (a N (a5 _))⟩
instance(a):CT (PI a) 127 [AR a] rB:=Fe f127 0xd00ecf01b6 [] (PI.eq_1 ..)
instance(a):CT (PJ a) 81 [Bb a] rB:=Fe f81 0xcb0ecf10740a0e550d740a0e550b740a0ebb06740a0ebbc35c0ca2b6 [] (PJ.eq_1 ..)
instance(a b c):CT (LK a b c) 44 [AS a,DE b,Bb c] rB:=Fe f44 0xcb0ef3010a0e557de1fe [] (LK.eq_1 ..)
instance(a b c):CT (M8 a b c) 23 [AS a,DE b,(eL 25 Bb) c] rB:=CW f23 0x810e284696045e07045e04b4bef319433296045e9f3207045e04aae7326ab2 [] (M8.eq_1 ..) (BJ 0 7 2 0)
instance(a):CT (PF a) 24 [CM a] rB:=CW f24 0x9e3002b4e78ca7009ff83002aacdf89de601b6 [] (PF.eq_1 ..) (BJ 0 3 1 2)
instance(a):CT (Lp a) 83 [eI a] rB:=Fe f83 0x81a8ab9001 [] (Lp.eq_1 ..)
instance(a b):CT (Kf a b) 46 [AS a,DE b] rI:=Jl f46 0x9e09ddb48aa8ab8cc40aa88c5fab8cf68c5f6181605e41077f5f5d6080077f5f5d57be8c5f009fc409dd815e0207ddb4ebf0f05c6180da5d57bef05e029fa207ddaacd5f0bf6dbdb57016c0191e1a9 [] (Kf.eq_1 ..) (BJ 0 7 2 0) (BJ 2 9 2 1)
instance(a):CT (Lk a) 148 [eI a] rB:=Fe f148 0x81a8ab9001 [] (Lk.eq_1 ..)
instance(a b):CT (Om a b) 149 [Bx a,eI b] rB:=Fe f149 0xcb9af8a8f80a9ac4a85f7da2e0 [] (Om.eq_1 ..)
instance(a):CT (EX a) 96 [BD a] rI:=Jl f96 0x9e04d3b4bedbef5f009fc404d381323002b4bef0329fa23002aacdf60ba2b6 [] (EX.eq_1 ..) (BJ 0 3 1 0) (BJ 2 4 1 1)
instance(a b):CT (Hi a b) 186 [AS a,BD b] rB:=Jl f186 0x9e06ddb4cd5f92d9f692d95f009fc406dd815e0205ddb4cd5df05cf05e029f5d5cdddea9 [] (Hi.eq_1 ..) (BJ 0 5 3 0) (BJ 2 6 3 1)
instance(a b c d):CT (Nr a b c d) 187 [AS a,CG b,eI c,eI d] (rT F4 eB):=Fk f187 0x81ede504433257ed0346cd0132a8ab6182918cc6f1ed0346cdc6ab3203c96a5e02 [] [.cell 8 (Y 4),.tmp 9] λr h e f=>by
  unfold Nr at h;exact nz
instance(a):CT (Mj a) 188 [eI a] rB:=Fe f188 0x81a8ab9001 [] (Mj.eq_1 ..)
instance(a b):CT (Jd a b) 295 [eI a,Qu b] rI:=Fe f295 0xaaebc4a8c40a9a5d5ca2b601 [] (Jd.eq_1 ..)
instance(a b):CT (O9 a b) 247 [eI a,GT b] rI:=Fe f247 0x810e550374bde17457eb5d5ca2b601 [] (O9.eq_1 ..)
instance(a b):CT (MH a b) 189 [eI a,lT b] rI:=CW f189 0x9e05d1b49bbb057f909fabd1aae70157eb329abc [] (MH.eq_1 ..) (BJ 0 5 1 0)
instance(a b):CT (LI a b) 190 [CG a,eI b] rB:=CW f190 0x9e05b203b48501920241daa7009fa75cb203dee0 [] (LI.eq_1 ..) (BJ 0 5 2 2)
instance(a b):CT (I5 a b) 131 [AS a,CG b] rI:=Jl f131 0x9e0d5eb4be5c4400698d740d5eaa9bba42c53008ddb48a9d80eaa8c592eaa892ea0861ed0349915f5dbb55ed05c9e5daa7309ff808ddaacdba425c0ba757ebc55cc557bee655bde657016c0191e1a9 [] (I5.eq_1 ..) (BJ 0 8 3 2) (BJ 2 13 3 3)
instance(a b c):CT (Nt a b c) 191 [AS a,CG b,eI c] rI:=CW f191 0x9e0a07040204b4eb5f80daa75c5d92daa70069320a07040204aaeb80eaa880eaa8c592eaa892ea0a7501f6c48291605dc6f1cdc65d5c5ded05c9e5daf86ab2 [] (Nt.eq_1 ..) (BJ 0 10 2 0)
instance(a b):CT (MQ a b) 132 [AS a,Bb b] rI:=CW f132 0x9e06ddb49b5c4406a5009f5e41067406ddaae75e41e357cdba41e35c8d41c38d41e357befa06a5bdfa0674a9 [] (MQ.eq_1 ..) (BJ 0 6 3 8)
instance(a b):CT (HF a b) 296 [lI a,eI b] rI:=CW f296 0x9e05d1b4eb6005328c329a578a9a8cab60909fabd181bc [] (HF.eq_1 ..) (BJ 0 5 0 0)
instance(a b):CT (PE a b) 297 [lI a,eI b] rB:=CW f297 0x9e05d1b4850160909fabd181bc [] (PE.eq_1 ..) (BJ 0 5 0 0)
instance(a b):CT (On a b) 248 [BD a,If b] rI:=CW f248 0x9e07ddb48a9da7a29d5f5dfc7603438c5f5f009fc407ddaa9b0b5f5fbddba2a9 [] (On.eq_1 ..) (BJ 0 7 3 1)
instance(a b):CT (Kd a b) 192 [BD a,If b] rI:=Fe f192 0x810e96bde1a9 [] (Kd.eq_1 ..)
instance(a b):CT (I4 a b) 249 [lI a,eI b] rI:=CW f249 0x9e05d1b401850160909fabd181bc [] (I4.eq_1 ..) (BJ 0 5 0 0)
instance(a b):CT (KP a b) 193 [BD a,If b] (λr=>.tp [BD r.1,BR r.2.1,eI r.2.2]):=Fk f193 0x73023b81b3b3024601485fa60148a247550873ba0a08f506dfdcc30348034707460ea75d0e5f5d5d04c3fc7603438c5f5f0873ba9fc40a08f5068108f5050908f506dfdc3101d460f05d043108f5059fa20908f50681fd57b3b3324604467e96d3c9fda9 [] [.cell 4 (Y 2),.cell 5 (Y 2),.tmp 6] λr h c d=>by
  unfold KP at h;have:=Bu 0 9 3 0 λs0:ci=>[(8,.bx [⟨X,lI s0.bq⟩,⟨X,lE s0.ca⟩])];have:=Bu 2 10 3 1 λs2:ci=>[(8,.bx [⟨X,lI s2.bq⟩,⟨X,lE s2.ca⟩])];exact nz
instance(a b c):CT (I3 a b c) 194 [BD a,BD b,BR c] rI:=Jl f194 0x9e0a73bab4eba760a75d5c5f605f5d57855d5dadfce47603438c5f5fef5f57cd5f8cf68c5f009fc40a73ba81738d0973bab485f060f05d57cd5df05cf0738d9fa20973baaacd5f0bf6dbdbbd55bde1fe [] (I3.eq_1 ..) (BJ 0 9 3 0) (BJ 2 10 3 1)
instance(a):CT (Nu a) 133 [Bb a] rI:=Fe f133 0x810e550da55b06a501b3b30249fd1191550ba55bc3bd550ba55b0174b6 [] (Nu.eq_1 ..)
instance(a):CT (FW a) 134 [lI a] rB:=Jl f134 0x9ec102dfc10204c103b48560326032c102693204c1039e9f32c102816b01 [] (FW.eq_1 ..) (BJ 0 3 0 0) (BJ 2 4 3 0)
instance(a b):CT (RD a b) 250 [lI a,eI b] rB:=CW f250 0x9e05d1b4850160909fabd181bc [] (RD.eq_1 ..) (BJ 0 5 0 0)
instance(a b):CT (Ln a b) 195 [eI a,lI b] (rO lI):=CW f195 0x82029ae9cadfe9cae9ca3cb2d4d3be329a6932e9cadec001406b02 [] (Ln.eq_1 ..) (Bu 0 6 0 0 (hO 5 lI))
instance(a):CT (KS a) 135 [Bb a] (rT lI lI):=Fe f135 0x82820e800d420b805be30e920d420b925b0674400140b6 [] (KS.eq_1 ..)
instance(a b c d):CT (LJ a b c d) 136 [AS a,BD b,lI c,lI d] rB:=Jl f136 0x9e0a73bab4be60a75d605f5d5d55fc76034360325f009f320a73ba81738d09f505b483024104436060325d5d738d9f3209f505de6a5e02 [] (LJ.eq_1 ..) (BJ 0 9 2 0) (BJ 2 10 3 0)
instance(a):CT (H6 a) 328 [AR a] rB:=Fe f328 0x81a88d410474a875ba4104420b5e41044232d075805b044275925b04427580ee0b92eab6 [] (H6.eq_1 ..)
instance(a):CT (MO a) 298 [AR a] rB:=CW f298 0x8177755fd0cb0ecf5c0b5f190401036519040103d0cb0ecf5c0b5fd0cb0ecf5c0b5fd0833101b6 [] (MO.eq_1 ..) (⟨⟩:HJ 25 λ(b:Bool)=>[(25,.tv (eB b))])
end Go.Sf.Sc
