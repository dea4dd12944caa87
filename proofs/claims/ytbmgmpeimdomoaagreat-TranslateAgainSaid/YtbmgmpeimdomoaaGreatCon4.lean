/- Contracts of the functions. -/
import Derived.Test.YtbmgmpeimdomoaaGreatCon0
set_option linter.all false
set_option maxRecDepth 100000
set_option maxHeartbeats 4000000
open Option renaming some->Y
open Bool renaming true->X,false->T
namespace Go.Sf.Sc
open Go Go.Sf Go.Proofs.Tryz
instance(a b c):CT (JV a b c) 39 [eS a,eI b,eI c] (rS E9):=Fk f39 0x74b1b463030c902dd [] [.cell 6 (Y 7)] λr h d e=>by
  unfold JV at h;exact nz
instance c17:CT (I7 ) 17 [] (rT AN ER):=Fk f17 0xa2a20246b5b555a21ac91c4607473f3f3f3f3f3f04473f3f3f3f3f02c91ac900 [.bld [.str ⟨#[]⟩,.int .i64 0,.bool T,.list 4 []] [(0,1,.c (.str ⟨#[67,108,97,115,115]⟩)),(1,1,.c (.int .i64 (-1)))],.bld [.str ⟨#[]⟩,.int .i64 0,.bool T,.list 4 []] [(0,1,.c (.str ⟨#[65,116,116,114,105,98,117,116,101]⟩)),(1,1,.c (.int .i64 (-1)))],.bld [.str ⟨#[]⟩,.int .i64 0,.bool T,.list 4 []] [(0,1,.c (.str ⟨#[84,97,98,108,101]⟩)),(1,1,.c (.int .i64 (-1)))],.bld [.str ⟨#[]⟩,.int .i64 0,.bool T,.list 4 []] [(0,1,.c (.str ⟨#[67,111,108,117,109,110]⟩)),(1,1,.c (.int .i64 (-1)))],.bld [.str ⟨#[]⟩,.int .i64 0,.bool T,.list 4 []] [(0,1,.c (.str ⟨#[77,97,112]⟩)),(1,1,.c (.int .i64 (-1)))],.call 39 [.c (.str ⟨#[104,97,115]⟩),.c (.int .i64 0),.c (.int .i64 1)],.call 39 [.c (.str ⟨#[119,105,116,104]⟩),.c (.int .i64 2),.c (.int .i64 3)],.call 39 [.c (.str ⟨#[111,102,67,108,97,115,115]⟩),.c (.int .i64 4),.c (.int .i64 0)],.call 39 [.c (.str ⟨#[111,102,65,116,116,114,105,98,117,116,101]⟩),.c (.int .i64 4),.c (.int .i64 1)],.call 39 [.c (.str ⟨#[116,111,84,97,98,108,101]⟩),.c (.int .i64 4),.c (.int .i64 2)],.call 39 [.c (.str ⟨#[116,111,67,111,108,117,109,110]⟩),.c (.int .i64 4),.c (.int .i64 3)]] [.cell 0 (Y 2),.cell 1 (Y 2)] λr h a b=>by
  unfold I7 at h;exact nz
instance(a b c):CT (EE a b c) 78 [eI a,eI b,eI c] rB:=Fe f78 0xda9630963002dd [] (EE.eq_1 ..)
abbrev Q_136(n:Nat):Prop:=∀(t:AC)(a:Int),CT (EU n t a) 136 [AN t,eI a] (rO lA)
theorem yo(n:Nat)(_ih_136:Q_136 n)(t:AC)(a:Int):CT (EU (n+1) t a) 136 [AN t,eI a] (rO lA):=Fj f136 0x8204489f41d45d04480e91d45d550447ff04c085f040e1 [] λh=>by
  unfold EU at h;exact nz
theorem yn:∀n:Nat,Q_136 n:=by
  intro n
  induction n with
  |zero=>exact(λt a=>⟨λ_ h=>d_⟩)
  |succ n b=>exact yo n b
instance(t a):CT (NM t a) 136 [AN t,eI a] (rO lA):=⟨λr h=>by
  obtain ⟨N,b⟩:=De h;exact((yn N) t a).snd r (b N (R0 _))⟩
instance(a):CT (Qy a) 284 [Yd a] (rS eS):=Fe f284 0x815f583f3f5f855d3fbc [.mv (.c (.str ⟨#[]⟩)),.bin (.s) .add (.c (.str ⟨#[34]⟩)) (.s 7),.bin (.s) .add (.s 8) (.c (.str ⟨#[34]⟩))] (Qy.eq_1 ..)
instance(a):CT (MA a) 329 [M8 a] rB:=Fe f329 0xdab6b230b6b29d01 [] (MA.eq_1 ..)
instance(a):CT (Jl a) 330 [M8 a] rB:=Fe f330 0x81b6b29d01 [] (Jl.eq_1 ..)
instance(a b c):CT (MC a b c) 331 [eS a,eI b,eB c] rI:=CJ f331 0xcb077c0702bd6501077c8a0a0ab6120530300e1205303008300e120530b20c5b300702bdcb02dd [] (MC.eq_1 ..) (⟨⟩:HW 0 λ(d:Int)=>[(7,.tv (eI d))])
instance(a b):CT (Ih a b) 332 [eS a,eI b] rI:=CJ f332 0xaa05dd7ea605309658966c12969d6a0c5bb2dd81ca [] (Ih.eq_1 ..) (⟨⟩:HW 0 λ(c:Int)=>[(5,.tv (eI c))])
instance ABk:CT (Px ) 333 [] (rO lB):=Fe f333 0x823f014000 [.lst 1 [.c (.str ⟨#[45,62]⟩),.c (.str ⟨#[60,61]⟩),.c (.str ⟨#[62,61]⟩),.c (.str ⟨#[61,61]⟩),.c (.str ⟨#[33,61]⟩),.c (.str ⟨#[123]⟩),.c (.str ⟨#[125]⟩),.c (.str ⟨#[40]⟩),.c (.str ⟨#[41]⟩),.c (.str ⟨#[91]⟩),.c (.str ⟨#[93]⟩),.c (.str ⟨#[44]⟩),.c (.str ⟨#[59]⟩),.c (.str ⟨#[58]⟩),.c (.str ⟨#[61]⟩),.c (.str ⟨#[43]⟩),.c (.str ⟨#[45]⟩),.c (.str ⟨#[42]⟩),.c (.str ⟨#[60]⟩),.c (.str ⟨#[62]⟩),.c (.str ⟨#[33]⟩),.c (.str ⟨#[38]⟩),.c (.str ⟨#[124]⟩),.c (.str ⟨#[46]⟩),.c (.str ⟨#[63]⟩)]] (Px.eq_1 ..)
instance(a b):CT (MB a b) 285 [eS a,eI b] (λr=>.tp [Yd r.1,eI r.2.1,eI r.2.2]):=Fk f285 0xa1971d4604010d0c046b057eff04013ba1970c619d46fc8a06fc0d050cfc30b20c5b0c92300401ec0d0c046b0581820efb976b460d0505b230fb971d468596fb971d467f308501fb976b460d963030fb971d468530ac08046b06ac08046b063c308e60a10e0e01308a0e300e601230301bc96b02 [] [.cell 4 (Y 3),.tmp 5,.tmp 6] λr h d e=>by
  unfold MB at h;have:HJ 29 λ(c:Int×Int)=>[(9,.tv (eI c.1)),(10,.tv (eI c.2))]:=⟨⟩;have:=BG 0 13 12 0 λs0:G6=>[(4,.bx [⟨T,eI s0.fu⟩,⟨T,eS s0.AbL⟩,⟨T,eI s0.Line⟩])];exact nz
instance(a):CT (LH a) 207 [Yd a] rB:=Fe f207 0x81b65da7b60c01b26081971bc9117d0158bf600e7301bc [.bin (.s) .eql (.s 9) (.c (.str ⟨#[]⟩))] (LH.eq_1 ..)
instance(a):CT (ET a) 140 [eS a] rB:=Fe f140 0x810e00469d01 [] (ET.eq_1 ..)
instance(a):CT (Jm a) 283 [lB a] rI:=IU f283 0xaad3027ed30204d3f35886fcfcd3026a3004d30381e5619decd30281c60b9d01 [] (Jm.eq_1 ..) (BC 0 3 0 0) (BC 2 4 3 0)
instance(a):CT (GM a) 205 [JL a] rI:=Fe f205 0x81a60577d7ba5b5fb4d758a6a95ffea95f850b9f89bc [] (GM.eq_1 ..)
instance(a b):CT (Kk a b) 138 [AN a,eI b] rI:=gj f138 0xaa80027eb4ebe23080020980f3588676e23076e23080026a3009800381e576e29dec80028177d70b01a6773077d7820e0155e5965f05ad03a5ad047e58865d76d45d05ad036a30a5ad0481e55df700c9ebd4a7e1 [] (Kk.eq_1 ..) (BC 0 6 1 0) (BC 2 8 7 0) (BC 4 9 8 0)
instance(a b):CT (LJ a b) 206 [eI a,eI b] rB:=Fe f206 0xda0a0e01b2300e01ca [] (LJ.eq_1 ..)
instance(a b):CT (Kj a b) 139 [AN a,eI b] rI:=CJ f139 0x81a6a903ee0305890aa9c1429f890aa901fea9015f81775d050202a5ad047e58865d7607e60502026a30a5ad0481e55d074b01c907440790c5e1 [] (Kj.eq_1 ..) (BC 0 6 1 0)
instance(a):CT (Ec a) 82 [AN a] (rT eS eI):=IU f82 0x81bf0006d07e58cb7607e67f0155009ac506d0813004d07e58cb76d45d7f0155309aa704d08158bf8ae95bd658bf850ba73fbc [.mv (.c (.str ⟨#[]⟩)),.mv (.c (.str ⟨#[]⟩)),.mv (.c (.str ⟨#[]⟩)),.mv (.c (.str ⟨#[]⟩))] (Ec.eq_1 ..) (BC 0 4 1 0) (BC 2 6 1 1)
instance(a b c):CT (IG a b c) 77 [AN a,eI b,eI c] rI:=Fe f77 0x81a6a9775d30a977a7846c017dd893ad02 [] (IG.eq_1 ..)
abbrev Q_79(n:Nat):Prop:=∀(t:AC)(a:Int)(b:Int),CT (D3 n t a b) 79 [AN t,eI a,eI b] rB
theorem ABM(n:Nat)(_ih_79:Q_79 n)(t:AC)(a:Int)(b:Int):CT (D3 (n+1) t a b) 79 [AN t,eI a,eI b] rB:=Fj f79 0xda0a0e0191d45d555b30963093ad02 [] λh=>by
  unfold D3 at h;exact nz
theorem ABL:∀n:Nat,Q_79 n:=by
  intro n
  induction n with
  |zero=>exact(λt a b=>⟨λ_ h=>d_⟩)
  |succ n c=>exact ABM n c
instance(t a b):CT (HQ t a b) 79 [AN t,eI a,eI b] rB:=⟨λr h=>by
  obtain ⟨N,c⟩:=De h;exact((ABL N) t a b).snd r (c N (R0 _))⟩
instance(a b c d):CT (Em a b c d) 42 [AN a,eI b,eI c,eI d] rB:=Fe f42 0xda0e5e410790c55575910790c555a6a9e9b20e30d8935e0103 [] (Em.eq_1 ..)
instance(a):CT (KK a) 75 [AN a] (rO lI):=CJ f75 0xfd310431f30431c131033cadd1d0885e41d45d319aa7043103cbe440bc [] (KK.eq_1 ..) (BG 0 4 1 0 (hO 3 lI))
instance(a b):CT (D7 a b) 76 [AN a,eI b] (rT lA eI):=CJ f76 0x81fd07010980f30204480447ebad4a0389489f8947f703c9ebe2300701ec09800381820e015504c05804e47f30d80440e1 [] (D7.eq_1 ..) (BG 0 9 8 0 (hO 7 lA))
instance(a b):CT (Km a b) 40 [AN a,RR b] (rS B4):=Fk f40 0x97736d020e0d6d5e067e0e0d6d5e060e0d6d5e063cea0141320348034773040141328e61bacf615fcf5d5597e80746963f033f03e6963f033f03e6e93f033f03e66d02ff8a77c5b630b630e9750d6d5e06a10bcf6d5e0407bb5e067eeafa4a5c3201d1f0fad1f05c320b80bb5e08cc0980bb5e0a7eadd10505050591e2305e41e2b2963f033f02905d91e230020b80bb5e08eccc0980bb5e0a8182b501f60155816177013f033f02905d5bde04ff8a7730b63077a707bb5e0681820e55f9f9b3 [.aad (.s 38) (.c (.int .i64 0)) 1 2,.cvt .i64 (.s 40),.aad (.s 69) (.c (.int .i64 1)) 1 2,.cvt .i64 (.s 71),.aad (.s 134) (.c (.int .i64 0)) 1 3,.cvt .i64 (.s 136),.aad (.s 145) (.c (.int .i64 1)) 1 3,.cvt .i64 (.s 147),.aad (.s 154) (.c (.int .i64 2)) 1 3,.cvt .i64 (.s 156)] [.cell 4 (Y 3)] λr h f g=>by
  unfold Km at h;have:HW 0 λ(d:AH×Int)=>[(5,.bx [⟨X,lI d.1.bk.az⟩,⟨X,lE d.1.bk.bi⟩,⟨X,(eL 1 lI) d.1.d6⟩]),(7,.tv (eI d.2))]:=⟨⟩;have:=BG 2 12 9 0 (hO 11 lI);have:HW 4 λ(e:AH×Int)=>[(5,.bx [⟨X,lI e.1.bk.az⟩,⟨X,lE e.1.bk.bi⟩,⟨X,(eL 1 lI) e.1.d6⟩]),(14,.tv (eI e.2))]:=⟨⟩;exact nz
instance(a):CT (GN a) 41 [Au a] (λr=>.oag [⟨X,lI r.az⟩,⟨X,lE r.bi⟩]):=Fk f41 0xad3b02503f03485f03470148a74708c9bc [.x8 [.w 6,.w 10]] [.cell 2 (Y 2)] λr h b c=>by
  unfold GN at h;exact nz
instance(a b):CT (I4 a b) 137 [eI a,eI b] (rO lI):=CJ f137 0xfd96a5bd7eadd1053002966a30a5bdcbe4406b02 [] (I4.eq_1 ..) (BG 0 6 1 0 (hO 5 lI))
instance(a):CT (NY a) 80 [Au a] (λr=>.oag [⟨X,lI r.az⟩,⟨X,lI r.bi⟩]):=Fk f80 0xad3b02503f0eef0ed602c9bc [.x8 [.w 6,.w 10]] [.cell 2 (Y 2)] λr h b c=>by
  unfold NY at h;exact nz
instance(a b c d):CT (My a b c d) 43 [Bp a,Au b,Au c,A4 d] (rS Bp):=Fk f43 0x8013b194b20461f46550e551e46551e46555d0cc969b3 [] [.cell 8 (Y 25)] λr h e f=>by
  unfold My at h;exact nz
instance(a):CT (KH a) 81 [eI a] (rO lI):=CJ f81 0xfd3104d3f3add1d0316a3004d303cbe4400001 [] (KH.eq_1 ..) (BG 0 4 0 0 (hO 3 lI))
instance(a):CT (Rc a) 44 [Au a] (λr=>.oag [⟨X,lI r.az⟩,⟨X,lI r.bi⟩]):=Fk f44 0xad3b02503f0eef0ed602c9bc [.x8 [.w 6,.w 10]] [.cell 2 (Y 2)] λr h b c=>by
  unfold Rc at h;exact nz
instance(a):CT (HE a) 20 [Ib a] (rS Bp):=Fk f20 0xad3b194b0e0e558d3fa502030908a55e01077e0908a55e01070908a55e01073ceacd034803477304cd8e61ba5d615f5d5d5597e80746963f033f0390d7963f033f0390d7e93f033f0390d7a50203ff8a0530b630779f890908a55e0107a1d6a55e5b07a55e01067eea3201d1775d3f92ba0432a55e5bff8a053077fe07a55e010681025008c91b55a208c93f0e214603452d0b9132913202452d0bcfcf55a2a202491ac97d0cc9bc [.Abv (.s 35) 0 2 X,.cvt .i64 (.s 56),.aad (.s 86) (.c (.int .i64 0)) 1 3,.cvt .i64 (.s 88),.aad (.s 97) (.c (.int .i64 1)) 1 3,.cvt .i64 (.s 99),.aad (.s 106) (.c (.int .i64 2)) 1 3,.cvt .i64 (.s 108),.bld [.str ⟨#[]⟩,.list 1 [],.list 3 [],.list 4 [],.int .i64 0,.list 5 [],.list 1 [],.list 3 [],.list 4 [],.int .i64 0,.list 5 [],.list 1 [],.list 1 [],.list 1 [],.list 1 [],.bool T,.int .i64 0,.list 9 [],.list 1 [],.list 1 [],.list 1 [],.list 3 [],.list 4 [],.int .i64 0,.list 5 []] [(0,1,.c (.str ⟨#[114]⟩))]] [.cell 2 (Y 25)] λr h e f=>by
  unfold HE at h;have:HW 0 λ(b:bk×Int)=>[(6,.bx [⟨X,lI b.1.az⟩,⟨X,lE b.1.bi⟩]),(7,.tv (eI b.2))]:=⟨⟩;have:HW 2 λ(d:bk×Int)=>[(6,.bx [⟨X,lI d.1.az⟩,⟨X,lE d.1.bi⟩]),(9,.tv (eI d.2))]:=⟨⟩;exact nz
instance c18:CT (GO ) 18 [] (rO (eL 25 Bp)):=Fe f18 0x8219470eeb0eebf71cc9254603472246224622462246b521460347224622460247244624462446f71cc92346034722462246b5194000 [] (GO.eq_1 ..)
instance(a):CT (Mx a) 83 [eI a] rB:=Fe f83 0x81b6b29d01 [] (Mx.eq_1 ..)
instance(a b):CT (LN a b) 45 [AN a,ER b] rI:=IU f45 0xaa095ef3a6b6b292c50ab6925fb2925f5b925f6081615e4107e65d619107e65de5925f009ac5095e03815e02075ef3a605eded5b6091d45de5ed5e029aa7075e0381a6e9ef5bd6d6846c017dd8b3 [] (LN.eq_1 ..) (BC 0 7 2 0) (BC 2 9 2 1)
instance(a):CT (Mr a) 286 [eI a] rB:=Fe f286 0x81b6b29d01 [] (Mr.eq_1 ..)
instance(a b):CT (Py a b) 287 [CC a,eI b] rB:=Fe f287 0xda96feb6fe0a96c5b65f75a7e1 [] (Py.eq_1 ..)
instance(a):CT (Ed a) 208 [Au a] rI:=IU f208 0xaa04d07ee5d6dce6009ac504d0813031027ee5ed309aa7310281a6e95b0ba7bc [] (Ed.eq_1 ..) (BC 0 3 1 0) (BC 2 4 1 1)
instance(a b):CT (IJ a b) 209 [AN a,Au b] rB:=IU f209 0xaa065ef3a6e97603e65b7603e6009ac5065e03815e02055ef3a6775ded5bed5e029a5d5b5e03cbb3 [] (IJ.eq_1 ..) (BC 0 5 3 0) (BC 2 6 3 1)
instance(a b c d):CT (Ow a b c d) 210 [AN a,B9 b,eI c,eI d] (rT JL eB):=Fk f210 0x81f7ebe23058f703468a770130b6b260f692cf5558f703468a77cfb23003c9695e02 [] [.cell 8 (Y 4),.tmp 9] λr h e f=>by
  unfold Ow at h;exact nz
instance(a):CT (Np a) 211 [eI a] rB:=Fe f211 0x81b6b29d01 [] (Np.eq_1 ..)
instance(a b):CT (KI a b) 334 [eI a,Ry b] rI:=Fe f334 0x81a605c5b6c50a965d5ba7bc01 [] (KI.eq_1 ..)
instance(a b):CT (QP a b) 288 [eI a,H4 b] rI:=Fe f288 0x810e550389b4d889a6055d5ba7bc01 [] (QP.eq_1 ..)
instance(a b):CT (NJ a b) 212 [eI a,lT b] rI:=CJ f212 0xaa05dd7eb4b105909d9ab2dd81c60b01a6053096ca [] (NJ.eq_1 ..) (BC 0 5 1 0)
instance(a b):CT (MG a b) 213 [B9 a,eI b] rB:=CJ f213 0xaa05adf3c601760241d4ba009aba5bad03cbe1 [] (MG.eq_1 ..) (BC 0 5 2 2)
instance(a b):CT (IK a b) 141 [AN a,B9 b] rI:=IU f141 0xaa0d5e7ee55b44006a9f890d5e81b4c142d731085ef3a6a991fab6d776fab676fa0860f703497d5f5db155f705c9ebd4ba319afe085e0381a677c1425b0bbaa605d75bd7e5e355b4e3846c017dd8b3 [] (IK.eq_1 ..) (BC 0 8 3 2) (BC 2 13 3 3)
instance(a b c):CT (Oy a b c) 214 [AN a,B9 b,eI c] rI:=CJ f214 0xaa0a070402047ea6055f91d4ba5b5d76d4ba006a300a0704020481a60591fab691fab6d776fab676fa0a77015f5bc5f6615dcf55a677cf5d5b5df705c9ebd4fe69ad [] (Oy.eq_1 ..) (BC 0 10 2 0)
instance(a b):CT (NV a b) 142 [AN a,Bp b] rI:=CJ f142 0xaa065ef3b45b4406a8009a5e410689065e0381c60b5e41eea677c141ee5b9f41cd9f41eee5555c06a8b4555c0689b3 [] (NV.eq_1 ..) (BC 0 6 3 8)
instance(a b):CT (Hi a b) 335 [lI a,eI b] rI:=CJ f335 0xaa05dd7ea605610530923096a69692b2619d9ab2dd81ca [] (Hi.eq_1 ..) (BC 0 5 0 0)
instance(a b):CT (QU a b) 336 [lI a,eI b] rB:=CJ f336 0xaa05dd7ec601619d9ab2dd81ca [] (QU.eq_1 ..) (BC 0 5 0 0)
instance(a b):CT (Pz a b) 289 [Au a,G7 b] rI:=CJ f289 0xaa075ef3a6a9baa7a95f5d97f843925f5f009ac5075e0381b4ef5fb4d6a7b3 [] (Pz.eq_1 ..) (BC 0 7 3 1)
instance(a b):CT (Jn a b) 215 [Au a,G7 b] rI:=Fe f215 0x810e8db4d8b3 [] (Jn.eq_1 ..)
instance(a b):CT (Jo a b) 290 [lI a,eI b] rI:=CJ f290 0xaa05dd7e848501619d9ab2dd81ca [] (Jo.eq_1 ..) (BC 0 5 0 0)
instance(a b):CT (I5 a b) 216 [Au a,G7 b] (λr=>.tp [Au r.1,A4 r.2.1,eI r.2.2]):=Fk f216 0x6d023b81a2a2024601485fb50148a74755086dc10a086d5e067eeacd0348034707460eba5d0e5f5d5d04cd97f843925f5f086dc19ac50a086d5e0681086d5e0509086d5e067eea3201d161ed5d0432086d5e059aa709086d5e068108c958a2a2304604467f8dd0c908c9b3 [] [.cell 4 (Y 2),.cell 5 (Y 2),.tmp 6] λr h c d=>by
  unfold I5 at h;have:=BG 0 9 3 0 λs0:bk=>[(8,.bx [⟨X,lI s0.az⟩,⟨X,lE s0.bi⟩])];have:=BG 2 10 3 1 λs2:bk=>[(8,.bx [⟨X,lI s2.az⟩,⟨X,lE s2.bi⟩])];exact nz
instance(a b c):CT (IH a b c) 217 [Au a,Au b,A4 c] rI:=IU f217 0xaa0a6dc17ea605ba61ba5d5b5f615f5dc65d5d9797e8f843925f5fdce6a6e9925f5b925f009ac50a6dc1816d9f096dc17ec6ed61ed5da6775ded5bed6d9f9aa7096dc181a6e9ef5bd6d6b455b4d8f2 [] (IH.eq_1 ..) (BC 0 9 3 0) (BC 2 10 3 1)
instance(a):CT (Oz a) 143 [Bp a] rI:=Fe f143 0x810e550da85c06a801a2a2024908c9117d550ba85ccdb4550ba85c0189bc [] (Oz.eq_1 ..)
instance(a):CT (Fr a) 144 [lI a] rB:=IU f144 0xaad3027ed30204d3f3c6fcfcd3026a3004d303aaecd302816b01 [] (Fr.eq_1 ..) (BC 0 3 0 0) (BC 2 4 3 0)
instance(a b):CT (SK a b) 291 [lI a,eI b] rB:=CJ f291 0xaa05dd7ec601619d9ab2dd81ca [] (SK.eq_1 ..) (BC 0 5 0 0)
instance(a b):CT (Mu a b) 218 [eI a,lI b] (rO lI):=CJ f218 0xfd96a5bd7ea5bda5bd3cadd1d0c430966a30a5bdcbe4406b02 [] (Mu.eq_1 ..) (BG 0 6 0 0 (hO 5 lI))
instance(a):CT (K8 a) 145 [Bp a] (rT lI lI):=Fe f145 0x82820e910d420b318cee0e760d420b765c0689400140bc [] (K8.eq_1 ..)
instance(a b c d):CT (MI a b c d) 146 [AN a,Au b,lI c,lI d] rB:=IU f146 0xaa0a6dc17ee561ba5d615f5d5d5597f843fc5f00ec0a6dc1816d9f096d5e057e58830241e261fc5d5d6d9fec096d5e05cb695e02 [] (MI.eq_1 ..) (BC 0 9 2 0) (BC 2 10 3 0)
instance(a):CT (Ik a) 368 [AQ a] rB:=Fe f368 0x81b69f410489b677c14104420b5e41044230db77318c044277765c04427791d90b76fabc [] (Ik.eq_1 ..)
instance(a):CT (NU a) 337 [AQ a] rB:=CJ f337 0x81ff58e9dbda0ec85bef190401036519040103dbda0ec85befdbda0ec85befdb833201bc [] (NU.eq_1 ..) (⟨⟩:HJ 25 λ(b:Bool)=>[(25,.tv (eB b))])
abbrev Q_292(n:Nat):Prop:=∀(c:ca),CT (FD n c) 292 [AQ c] rB
theorem y8(n:Nat)(_ih_292:Q_292 n)(c:ca):CT (FD (n+1) c) 292 [AQ c] rB:=Fj f292 0xaa31027ee5c809e6009ac5310281e5c801bc [] λh=>by
  unfold FD at h;have:=BC 0 3 1 1;exact nz
theorem y7:∀n:Nat,Q_292 n:=by
  intro n
  induction n with
  |zero=>exact(λc=>⟨λ_ h=>d_⟩)
  |succ n a=>exact y8 n a
instance(c):CT (Pe c) 292 [AQ c] rB:=⟨λr h=>by
  obtain ⟨N,a⟩:=De h;exact((y7 N) c).snd r (a N (R0 _))⟩
abbrev Q_293(n:Nat):Prop:=∀(c:ca),CT (Ft n c) 293 [AQ c] (rT eI eI)
theorem zA(n:Nat)(_ih_293:Q_293 n)(c:ca):CT (Ft (n+1) c) 293 [AQ c] (rT eI eI):=Fj f293 0xa1306d026d026501855d6d0103bbf07e302cb230a17dc809e66d01039ac5bbf081a130bc [] λh=>by
  unfold Ft at h;have:=BG 0 6 1 1 λs0:Int×Int=>[(4,.tv (eI s0.1)),(5,.tv (eI s0.2))];have:HJ 33 λ(a:Int)=>[(5,.tv (eI a))]:=⟨⟩;exact nz
theorem y9:∀n:Nat,Q_293 n:=by
  intro n
  induction n with
  |zero=>exact(λc=>⟨λ_ h=>d_⟩)
  |succ n a=>exact zA n a
instance(c):CT (Qk c) 293 [AQ c] (rT eI eI):=⟨λr h=>by
  obtain ⟨N,a⟩:=De h;exact((y9 N) c).snd r (a N (R0 _))⟩
instance(a):CT (NQ a) 219 [AQ a] rI:=Fe f219 0x81a605b260817dc8e5c801bc [] (NQ.eq_1 ..)
instance(a b):CT (Ox a b) 338 [B9 a,eI b] rB:=CJ f338 0xaa05adf3c601760241d4ba009aba5bad03cbe1 [] (Ox.eq_1 ..) (BC 0 5 2 2)
instance(a b c):CT (NS a b c) 294 [AN a,eI b,B9 c] rI:=CJ f294 0xaa8005f384c45b44006a9f89800503cbb4b155c6019f896930 [] (NS.eq_1 ..) (BC 0 8 5 3)
instance(a b c):CT (JU a b c) 295 [Au a,Au b,A4 c] rB:=Fe f295 0xda0ec50a0e5d5b0e558d01f2 [] (JU.eq_1 ..)
abbrev Q_220(n:Nat):Prop:=∀(t:AC)(p:c7)(c:ca),CT (F8 n t p c) 220 [AN t,B9 p,AQ c] rI
theorem yu(n:Nat)(_ih_220:Q_220 n)(t:AC)(p:c7)(c:ca):CT (F8 (n+1) t p c) 220 [AN t,B9 p,AQ c] rI:=Fj f220 0xaa0a0705c17eb4c809e6b155009ac50a0705c18107059f07059f3cc3b10442e55502a85c04a832b45502a85c04a832b4b104429fa8855dc309c9b101f2 [] λh=>by
  unfold F8 at h;have:=BC 0 10 5 1;exact nz
theorem yt:∀n:Nat,Q_220 n:=by
  intro n
  induction n with
  |zero=>exact(λt p c=>⟨λ_ h=>d_⟩)
  |succ n a=>exact yu n a
instance(t p c):CT (ZK t p c) 220 [AN t,B9 p,AQ c] rI:=⟨λr h=>by
  obtain ⟨N,a⟩:=De h;exact((yt N) t p c).snd r (a N (R0 _))⟩
instance(a b c):CT (NR a b c) 147 [AN a,B9 b,AQ c] rI:=Fe f147 0x810ec8b155b4c8b4b1d8f2 [] (NR.eq_1 ..)
instance(a b):CT (LM a b) 84 [AN a,Bp b] rI:=Fe f84 0x810ec81042b101a8e530555c06a882f6e0a6a9910d89a9760d42b4e0b4e055b4b101a8e55d846c017dd8b3 [] (LM.eq_1 ..)
instance(a):CT (KP a) 85 [Bp a] rB:=Fe f85 0xda7791320b910b890a77cf0b760b89b67610890a030f89b6d75b77c142775e41ee0bbac309c9b10189bc [] (KP.eq_1 ..)
instance(a b):CT (KQ a b) 86 [AN a,Au b] rB:=IU f86 0xaa055ef3055e03a55e047ec6ed91d45d055e039aa7a55e04aa9a5d5b5e03cbb3 [] (KQ.eq_1 ..) (BC 0 5 3 0) (BC 2 6 2 0)
instance(a b):CT (O0 a b) 87 [AN a,Au b] rB:=CJ f87 0xaa055ef3e561ba5d615f5d5d5597f8e6009a5f5b5e03cbb3 [] (O0.eq_1 ..) (BC 0 5 3 1)
instance(a b c):CT (NX a b c) 46 [AN a,ER b,Bp c] rI:=Fe f46 0x81a6a9555c01a8f4a9555c06a801a9555c01a8e5e0b4e055b48d01f2 [] (NX.eq_1 ..)
instance(a b c):CT (Hn a b c) 21 [AN a,ER b,(eL 25 Bp) c] rI:=IU f21 0xaa09de047eb4e01943308d00ec09de0481de0308de047ec60b9f41d45dde039aa708de0481b48dc60b3069ad [] (Hn.eq_1 ..) (BC 0 8 3 0) (BC 2 9 2 0)
instance(a):CT (QR a) 97 [AN a] rB:=Fj f97 0xaa08d07ec60c7607e6009ac508d081300431f30431036d31047e6d310407bb31067ec60c92d76d31049a9f8907bb310681a677d75b0c5df703c9ebd49f41d45d0431039a9f41d45d5b04310481a6050c76d45d5b30779f41d4a7309aa7043103a1a6e95b0ba7bc [] λh=>by
  unfold QR at h;have:=BG 0 4 1 0 (hT 3 eI);have:HW 2 λ(c:Int)=>[(5,.tv (eI c))]:=⟨⟩;have:HW 4 λ(b:Int)=>[(7,.tv (eI b))]:=⟨⟩;have:=BC 6 8 1 1;exact nz
instance(a):CT (SL a) 98 [ER a] rB:=Fe f98 0xdbe90ba7bc [] (SL.eq_1 ..)
instance(a):CT (QS a) 51 [Au a] rB:=Fe f51 0xdae95b0ba7bc [] (QS.eq_1 ..)
instance(a):CT (OJ a) 161 [B9 a] rB:=Fe f161 0xda77c1890a77ba75e301bc [] (OJ.eq_1 ..)
instance(a b):CT (SJ a b) 162 [G7 a,eI b] rB:=Fe f162 0xdb5bef0ba7e1 [] (SJ.eq_1 ..)
instance(a b):CT (QT a b) 163 [A4 a,eI b] rB:=Fe f163 0xdb5bef0ba7e1 [] (QT.eq_1 ..)
abbrev Q_234(n:Nat):Prop:=∀(c:ca)(a:Int),CT (FO n c a) 234 [AQ c,eI a] rI
theorem yy(n:Nat)(_ih_234:Q_234 n)(c:ca)(a:Int):CT (FO (n+1) c a) 234 [AQ c,eI a] rI:=Fj f234 0xcbb2adf37501c809e630ff8a0530e95bad0381a6a955faa9b104425b30e1 [] λh=>by
  unfold FO at h;have:HW 0 λ(b:Int×Int)=>[(1,.tv (eI b.1)),(5,.tv (eI b.2))]:=⟨⟩;exact nz
theorem yx:∀n:Nat,Q_234 n:=by
  intro n
  induction n with
  |zero=>exact(λc mo=>⟨λ_ h=>d_⟩)
  |succ n a=>exact yy n a
instance(c mo):CT (T4 c mo) 234 [AQ c,eI mo] rI:=⟨λr h=>by
  obtain ⟨N,a⟩:=De h;exact((yx N) c mo).snd r (a N (R0 _))⟩
instance(a):CT (QX a) 164 [AQ a] rB:=Fe f164 0xdb0ec801bc [] (QX.eq_1 ..)
instance(a):CT (QY a) 99 [Bp a] rB:=Fe f99 0xda0ec810890a0e550d890a0e550b890a0eb106890a0eb1cd5b0ca7bc [] (QY.eq_1 ..)
instance(a b c):CT (MK a b c) 50 [AN a,ER b,Bp c] rB:=Fe f50 0xda0ee0f40e5575d8f2 [] (MK.eq_1 ..)
end Go.Sf.Sc
