/- Contracts of the functions. -/
import Derived.Test.YthcncnllajfkfaaGreatCon2
set_option linter.all false
set_option maxRecDepth 100000
set_option maxHeartbeats 4000000
open Option renaming some->Y,none->W
open Bool renaming true->X,false->T
namespace Go.Sf.Sc
open Go Go.Sf Go.Proofs.Tryz
instance(a b c d):CT (ID a b c d) 167 [AL a,CB b,Bg c,Bo d] (rT DW eI):=Fk f167 0x81264bdd0f3e55264b0e468a7036771f42590b735a1f4255264b6cf60152380152c1024a244204460ee97f2242ea7f0d427f0b420b3677bc0ebd732242be730d42730b420b735abc024a224204460e5c0bea0e5b0bbe3f12c90f460e6b0e6bd155264b0e46880155264b6c4685328178030f426b6ba910429eb83855264b6c46853284ef78d3380b42d33855264b6cf684fa78d3d3385ab83855264b6cf60e6b6bd1380111c9619d [.stq 38 [W,W,W,W,W,W,W,W,W,W,W,W,W,W,W,W,W,W,W,W,W,W,W,W,W,W,W,W,W,W,W,Y ⟨X,.list 1 []⟩,Y ⟨X,.list 3 []⟩,Y ⟨X,.xn []⟩,W,W,W,W] (.s 15) (.s 82)] [.cell 8 (Y 38),.tmp 9] λr h e f=>by
  unfold ID at h;exact nz
instance(a b c d):CT (FR a b c d) 104 [AL a,CB b,Bg c,Bo d] (rT DW eI):=Fk f104 0x81264b720e6b6bd13855264b6cf60e6bd1380111c9619d [] [.cell 8 (Y 38),.tmp 9] λr h e f=>by
  unfold FR at h;exact nz
instance(a b c d):CT (FU a b c d) 122 [AL a,(eL 25 CB) b,Bg c,NM d] (rT DW eI):=Fk f122 0x8013b81264b720e6bb86bd119435bb555264b0e468a70015b595b0111c9936132 [] [.cell 8 (Y 38),.tmp 9] λr h e f=>by
  unfold FU at h;exact nz
instance(a b c):CT (EA a b c) 63 [AL a,(eL 25 CB) b,Qb c] (λr=>.tp [(eL 38 DW) r.1,eI r.2.1,eI r.2.2]):=Bv f63 0x9a820bc40a0121201fc3360796e53bb1026b1f4226482647dd02cc26c03271264b11c978d56bb5044b8113c9d5044376f821201fc33607e20342b110c96b3726c0cc26c0850bb6cc26c07e0e6b37b53226406132 [] (EA.eq_1 ..) (BG 0 33 32 0 λs0:List AU×AG=>[(10,.ow ((eL 38 DW) s0.1)),(11,.bx [⟨T,lI s0.2.d5.d3⟩,⟨T,lE s0.2.d5.d4⟩,⟨T,(eL 1 lI) s0.2.ej⟩])])
instance(a b):CT (FO a b) 182 [A6 a,A6 b] rB:=Fe f182 0xa20e5c5c6cdcf1 [] (FO.eq_1 ..)
instance(a b):CT (Rk a b) 322 [A2 a,A2 b] rB:=Fe f322 0xa20e5c5c6cdcf1 [] (Rk.eq_1 ..)
instance(a b):CT (Gz a b) 245 [BQ a,BQ b] rB:=Fe f245 0xa20e03b703b7760e90907605b6b66cd3d3f1 [] (Gz.eq_1 ..)
abbrev Q_246(n:Nat):Prop:=∀(a:d7)(b:d7),CT (C1 n a b) 246 [AI a,AI b] rB
theorem AAB(n:Nat)(_ih_246:Q_246 n)(a:d7)(b:d7):CT (C1 (n+1) a b) 246 [AI a,AI b] rB:=Fj f246 0xa23f5c5c760e03b703b76c9090a1b3eaea76b3bebe7605b6b6760892ac38ac59dcbaba09c909c99eb79eb7f1 [.call 325 [.s 65,.s 67,.c (.clo 246 [])]] λh=>by
  unfold C1 at h;exact nz
theorem AAA:∀n:Nat,Q_246 n:=by
  intro n
  induction n with
  |zero=>exact(λa b=>⟨λ_ h=>d_⟩)
  |succ n c=>exact AAB n c
instance(a b):CT (NG a b) 246 [AI a,AI b] rB:=⟨λr h=>by
  obtain ⟨N,c⟩:=Cy h;exact((AAA N) a b).snd r (c N (az _))⟩
instance(a b):CT (My a b) 180 [CB a,CB b] rB:=Fe f180 0xa20ea91042a9104276920d42380d42760e7f0b427f0b42760e730b42730b42760e9ebc9ebc760e9eb89eb87607030f42030f420106dcf1 [] (My.eq_1 ..)
instance(a b):CT (Kj a b) 181 [Bo a,Bo b] rB:=Fe f181 0xa20e90906cd3d3f1 [] (Kj.eq_1 ..)
instance(a b):CT (M4 a b) 123 [DW a,DW b] rB:=Fe f123 0xa292244238244276922242382242760e6b1f426b1f42760e6b1c426b1c42760e6b19426b19426cd137d137f1 [] (M4.eq_1 ..)
instance(a b):CT (Jq a b) 64 [AL a,DW b] rB:=Fe f64 0xa20edddd5960264b11c9786b19426b1c42d13738f1 [] (Jq.eq_1 ..)
instance(a b c d):CT (Jc a b c d) 31 [AL a,(eL 25 CB) b,DW c,DW d] rI:=Fe f31 0x81fd6b1c426b1c42a1b3dd3801b3dd38a6c411781046b59f6132 [] (Jc.eq_1 ..)
instance(a b):CT (EK a b) 36 [lI a,lI b] (rO lI):=Bv f36 0xec05760908055996add0c4da7ca506da7ca5063c01eb715fa562da0805599781e0fb6502 [] (EK.eq_1 ..) (BG 0 10 9 0 (hO 5 lI))
instance(a):CT (N1 a) 75 [Bg a] (rS Bg):=Fk f75 0xb16b5d02e4115d0596d9ac01d00ee8ac825f5d0262e4115d05e2ac035010c93f3f0eea0ebe10c9fc [.Aao [.w 9,.w 13],.Aao [.g 14 0 2,.g 14 1 2,.z ⟨X,.list 1 []⟩]] [.cell 2 (Y 3)] λr h b c=>by
  unfold N1 at h;have:=BG 0 19 18 0 λs0:AG=>[(3,.bx [⟨X,lI s0.d5.d3⟩,⟨X,lE s0.d5.d4⟩,⟨X,(eL 1 lI) s0.ej⟩])];exact nz
instance(a b):CT (Ja a b) 35 [DW a,Hc b] (rS CY):=Fk f35 0x4013b094b124604460e7f22425c0e7322425b6b1f4211460e6b1f4214c99d [] [.cell 4 (Y 9)] λr h c d=>by
  unfold Ja at h;exact nz
instance(a b c d):CT (LV a b c d) 218 [AL a,A2 b,A2 c,eB d] (rT (eL 2 A6) eI):=Fe f218 0x8182720e01134638c15502c07e92c1c440936136 [] (LV.eq_1 ..)
instance(a b c d):CT (Eu a b c d) 166 [AL a,BQ b,Bg c,eB d] (rT (eL 3 Bo) eI):=Bv f166 0x81ec0d012827260d9b06962827260d9b062827260d9b063c02034803470946b50271e3386b9e84ef3802430df82827260d9b06978103c05503c07ee3b537d3385503c07e0e6b9e38f740936136 [] (Eu.eq_1 ..) (BG 0 40 39 0 (hO 13 (eL 3 Bo)))
instance(a b c):CT (E8 a b c) 103 [AL a,CB b,Bg c] (rT (eL 3 Bo) eI):=Bv f103 0x81ece52625240bcb07962625240bcb072625240bcb073c02034803476b0271264b1149786b6bd138b10fc9cf43e5622625240bcb07978103c05503c07ee3030f426b9eb8385503c07e0e6bd138f740939d [] (E8.eq_1 ..) (BG 0 38 37 0 (hO 11 (eL 3 Bo)))
instance(a b c):CT (E9 a b c) 105 [CY a,eI b,DW c] (rS CY):=Fk f105 0x6013b094b124604460e7f22427f07420e7322427307426b1f421546016b5a37820448044714466b19426c80413714c96132 [] [.cell 6 (Y 9)] λr h d e=>by
  unfold E9 at h;exact nz
instance(a b c):CT (NR a b c) 109 [eI a,lI b,lI c] (rT lI eB):=Bv f109 0x8182180801100f0e0802055e100f0e080205100f0e0802053cf48d321455e08a05eb17cd01145917cd0114ff100f0e080205850155e087055f8c60818d08f8100f0e0802059781991a3247324002d4 [] (NR.eq_1 ..) (BG 0 16 15 0 (hX 8 1 eI))
noncomputable def cp:PC:=PC.of OL f171.body (xq bT 0xaa013c3b3a05c8065e3c3b3a05c8063c3b3a05c8063c1f014108770151011e014108b2375500d2371f01410877014fa7011e014108b237ff3c3b3a05c8068a20011d014108b2763f6b6b76a58d0307b2598d0307b2b181eecf4365f83c3b3a05c806e2017703b2b1ee074617cd901d5a08b217cd5c1d5a08b25bb1eecf7d36775a5a37bb0b36775a5a3760151d014108b26501) [.bin (.a [0,0,0]) .neq (.s 85) (.s 86)]
theorem AAZ:CK f171 cp [.tmp 2]:=c!
theorem AA2:PC.x9 cp=X/\PC.zt 0 cp=X:=c!
abbrev Q_171(n:Nat):Prop:=∀(a:Bc),CT (CW n a) 171 [.undef] (λr=>.bo (Cr a) (Cr r.2) 0 [eB r.1])
theorem zv(n:Nat)(_ih_171:Q_171 n)(a:Bc):CT (CW (n+1) a) 171 [.undef] (λr=>.bo (Cr a) (Cr r.2) 0 [eB r.1]):=iS AAZ AA2 λr h c b d=>by
  unfold cp;unfold f171;unfold CW at h;have:=BG 0 60 59 0 λs0:Bc=>[(0,.bx (Cr s0))];exact nz
theorem zu:∀n:Nat,Q_171 n:=by
  intro n
  induction n with
  |zero=>exact(λa=>⟨λ_ h=>d_⟩)
  |succ n b=>exact zv n b
instance(x_0):CT (KG x_0) 171 [.undef] (λr=>.bo (Cr x_0) (Cr r.2) 0 [eB r.1]):=⟨λr h=>by
  obtain ⟨N,a⟩:=Cy h;exact((zu N) x_0).snd r (a N (az _))⟩
instance(a b c):CT (Jb a b c) 231 [A2 a,eI b,eI c] rI:=Bv f231 0x81010701c60b07ad0696c60b07ad06c60b07ad065e018aa59059015cb1eecf4307f8c60b07ad06e2b8819fad02 [] (Jb.eq_1 ..) (BG 0 13 12 0 (hT 7 eI))
instance(a):CT (Gf a) 172 [.pt (kU a).cells] rB:=Bv f172 0xaae411c80596a1050e018d730877b55a03776c32385a5a5a8c0e8d73087732385a03776c32385a5a5a60815f6562e411c805e25a087760707308779101 [] (Gf.eq_1 ..) (BM 0 19 18 0)
noncomputable def cm:PC:=PC.of OL f110.body (xq bT 0xaa011e1d1cc8055e1e1d1cc8051e1d1cc8053c1f5a08770151011e5a08b237a10052370120371f5a0877014fa7011e5a08b237ff1e1d1cc8058ab38d5d4103b28d5d775a377620011d5a08b276058d735a5a5a37320aa58d0306b2598d0306b29a5f65f81e1d1cc805e25a5a03b255005237850b735a5a5a3760151d5a08b26501) []
theorem AAY:CK f110 cm [.tmp 2]:=c!
theorem AA1:PC.x9 cm=X/\PC.zt 0 cm=X:=c!
abbrev Q_110(n:Nat):Prop:=∀(a:Bc),CT (CX n a) 110 [.undef] (λr=>.bo (Cr a) (Cr r.2) 0 [eB r.1])
theorem zh(n:Nat)(_ih_110:Q_110 n)(a:Bc):CT (CX (n+1) a) 110 [.undef] (λr=>.bo (Cr a) (Cr r.2) 0 [eB r.1]):=iS AAY AA1 λr h c b d=>by
  unfold cm;unfold f110;unfold CX at h;have:=BG 0 30 29 0 λs0:Bc=>[(0,.bx (Cr s0))];exact nz
theorem zg:∀n:Nat,Q_110 n:=by
  intro n
  induction n with
  |zero=>exact(λa=>⟨λ_ h=>d_⟩)
  |succ n b=>exact zh n b
instance(x_0):CT (Hs x_0) 110 [.undef] (λr=>.bo (Cr x_0) (Cr r.2) 0 [eB r.1]):=⟨λr h=>by
  obtain ⟨N,a⟩:=Cy h;exact((zg N) x_0).snd r (a N (az _))⟩
instance(a b c d):CT (Dz a b c d) 53 [Bg a,Bg b,A6 c,A6 d] (rT A6 eB):=Fk f53 0x8184b508775a483e65525a00c2bf1646326b6b558400468a08320860e35c5c0bea81e3dc0bbe558400468a70ea0bea590bbe0bbe65c9619d [.Abh [W,W,W,W,W,W,W,W,Y ⟨X,.xl 1 []⟩,Y ⟨X,.xl 1 []⟩] (.s 71)] [.cell 8 (Y 2),.tmp 9] λr h e f=>by
  unfold Dz at h;exact nz
instance(a b):CT (NQ a b) 108 [CY a,CY b] rB:=Fe f108 0x8160840049783807423807426bb76bb7f1 [] (NQ.eq_1 ..)
instance(a b):CT (G7 a b) 107 [CY a,.pt (CY b).cells] rB:=Fe f107 0x810ea9a99f32 [] (G7.eq_1 ..)
instance(a b c d):CT (II a b c d) 51 [AL a,(eL 25 CB) b,CY c,eI d] (rT (eL 9 CY) eI):=iR f51 0x81ec0a01c3f3055e01c3f3700af305282726c3f30896282726c3f3083d3c3b282726c6c3f30d5e3d3c3b282726c6c3f30d3d3c3b282726c6c3f30d3c0209480947a9025509c0850b743d3c3b282726c6c3f30d8e1001143d094b14c90edd01a909c55509c0850b735a1f425509c07e264b11c9786b6b044109c5d138b10fc9cf43282726c3f308623d3c3b282726c6c3f30d97815509c07ee36b044109c5d138194b810cc9d1197dc3f30562282726c3f3089781ffc3f30585010b807709c50a01e7c3f30581820947a9010940613602 [] (II.eq_1 ..) (⟨⟩:HW 0 λ(e:List A8×Int)=>[(10,.ow ((eL 9 CY) e.1)),(11,.tv (eI e.2))]) (BG 2 40 39 0 (hO 10 (eL 9 CY))) (BG 4 61 60 0 (hO 10 (eL 9 CY)))
instance(a):CT (DX a) 52 [CY a] rB:=Fe f52 0xa20e7f07426c730742f9 [] (DX.eq_1 ..)
instance(a b c d e f):CT (Kq a b c d e f) 27 [AL a,(eL 25 CB) b,DW c,DW d,eI e,eB f] (rT WK eI):=Fk f27 0xa24b17460c01646312110c050696646312110c05066968676463e4110c050a966968676463e4110c050a6f6e6d696867646315e4110c050e5e6f6e6d696867646315e4110c050e6f6e6d696867646315e4110c050ea24b184638d537d5379a84ef78c16bb76bb76f6e6d696867646319181715e4110c05111918023b6f6e6d696867646319181715e4110c05113c8484380742380742818484efef00460046ff6f6e6d696867646315e4110c050e8a0a0a0ea96ca9018c590b8041370b804137094b14c9a909436968676463e4110c050a626f6e6d696867646315e4110c050e9781094b14c9a90943646312110c0506626968676463e4110c050a979a010cf8646312110c05068185a5550a4b0117468532e36c38ddb5550a4b0117468532e36c38ddb5550a4b0117f684ef78dddd550a4b17468a70735a1f42590b735a1f42550a4b17468a058c01550a4b0117f60eddddb50115c993616af7 [] [.cell 12 (Y 10),.tmp 13] λr h g i=>by
  unfold Kq at h;have:=BG 0 100 99 0 λs0:Aaa=>[(12,.bx [⟨X,lI s0.gp.l4.d5.d3⟩,⟨X,lE s0.gp.l4.d5.d4⟩,⟨X,(eL 1 lI) s0.gp.l4.ej⟩,⟨X,(eL 4 NM) s0.gp.mo⟩,⟨X,lI s0.ei.l4.d5.d3⟩,⟨X,lE s0.ei.l4.d5.d4⟩,⟨X,(eL 1 lI) s0.ei.l4.ej⟩,⟨X,(eL 4 NM) s0.ei.mo⟩,⟨X,lI s0.Iso.d3⟩,⟨X,lI s0.Iso.d4⟩])];have:=BG 2 105 104 0 λs2:Aaa=>[(12,.bx [⟨X,lI s2.gp.l4.d5.d3⟩,⟨X,lE s2.gp.l4.d5.d4⟩,⟨X,(eL 1 lI) s2.gp.l4.ej⟩,⟨X,(eL 4 NM) s2.gp.mo⟩,⟨X,lI s2.ei.l4.d5.d3⟩,⟨X,lE s2.ei.l4.d5.d4⟩,⟨X,(eL 1 lI) s2.ei.l4.ej⟩,⟨X,(eL 4 NM) s2.ei.mo⟩,⟨X,lI s2.Iso.d3⟩,⟨X,lI s2.Iso.d4⟩])];have:=BG 4 111 110 0 λs4:Aaa=>[(12,.bx [⟨X,lI s4.gp.l4.d5.d3⟩,⟨X,lE s4.gp.l4.d5.d4⟩,⟨X,(eL 1 lI) s4.gp.l4.ej⟩,⟨X,(eL 4 NM) s4.gp.mo⟩,⟨X,lI s4.ei.l4.d5.d3⟩,⟨X,lE s4.ei.l4.d5.d4⟩,⟨X,(eL 1 lI) s4.ei.l4.ej⟩,⟨X,(eL 4 NM) s4.ei.mo⟩,⟨X,lI s4.Iso.d3⟩,⟨X,lI s4.Iso.d4⟩])];exact nz
instance(a b c d e):CT (N0 a b c d e) 10 [AL a,(eL 25 CB) b,DW c,DW d,eI e] (rT WK eI):=Fk f10 0xa24b720e01ddddb50115c9936104c4 [] [.cell 10 (Y 10),.tmp 11] λr h f g=>by
  unfold N0 at h;exact nz
instance(a):CT (LI a) 184 [eI a] (rO lI):=Bv f184 0x82183609088096f4321481013662090880819514993f32400001 [.mkx 1 [.int .i64 0] (.s 5)] (LI.eq_1 ..) (BG 0 9 8 0 (hX 3 1 eI))
instance(a):CT (Hz a) 124 [A2 a] (rT A6 eI):=Fk f124 0xad3b818404460ee90ebd558465f69265c9fc [] [.cell 2 (Y 2),.tmp 3] λr h b c=>by
  unfold Hz at h;exact nz
instance(a):CT (Gh a) 67 [A2 a] (rS A6):=Fk f67 0x84380184ef7838effc [] [.cell 2 (Y 2)] λr h b c=>by
  unfold Gh at h;exact nz
instance(a b):CT (LA a b) 68 [lI a,lI b] (rO lI):=Bv f68 0x8218a50cc30559960cc305590cc305593cf48d3214718117cd59f80cc30559819594991a32406502 [] (LA.eq_1 ..) (BG 0 12 11 0 (hX 5 1 eI))
instance(a):CT (Nt a) 69 [Bg a] (rS Bg):=Fk f69 0xb16b5d02e4115d0596d9ac01d00ee8ac825f5d0262e4115d05e2ac035010c93f3f0eea0ebe10c9fc [.Aao [.w 9,.w 13],.Aao [.g 14 0 2,.g 14 1 2,.z ⟨X,.list 1 []⟩]] [.cell 2 (Y 3)] λr h b c=>by
  unfold Nt at h;have:=BG 0 19 18 0 λs0:AG=>[(3,.bx [⟨X,lI s0.d5.d3⟩,⟨X,lE s0.d5.d4⟩,⟨X,(eL 1 lI) s0.ej⟩])];exact nz
instance(a b c):CT (Gr a b c) 33 [AL a,(eL 25 CB) b,Qb c] (λr=>.tp [Bg r.1,A6 r.2.1,eI r.2.2]):=Fk f33 0x706023b8184b1380e6bc6070604252423c6070607960c013b84b104460e7f22425c0e7322425b6b1f42264b11c9dd2643c607060462252423c6070607978184b1ef10c9925a376b375584b1654619f601821178d5b565c910c96132 [] [.cell 6 (Y 3),.cell 7 (Y 2),.tmp 8] λr h d e=>by
  unfold Gr at h;have:=BG 0 37 36 0 λs0:AG×d6=>[(12,.bx [⟨T,lI s0.1.d5.d3⟩,⟨T,lE s0.1.d5.d4⟩,⟨T,(eL 1 lI) s0.1.ej⟩]),(13,.bx [⟨T,lI s0.2.d3⟩,⟨T,lI s0.2.d4⟩])];exact nz
instance(a b):CT (Me a b) 72 [eI a,.pt (Bg b).cells] rB:=Fe f72 0x8170be01b9 [] (Me.eq_1 ..)
instance(a b):CT (Mf a b) 73 [eI a,.pt (Bg b).cells] rB:=Fe f73 0x8170ea01b9 [] (Mf.eq_1 ..)
instance(a):CT (PS a) 74 [eI a] (rO lI):=Bv f74 0xec369b8096add0c4810136629b809ae0fb0001 [] (PS.eq_1 ..) (BG 0 6 5 0 (hO 3 lI))
instance(a b c):CT (Ik a b c) 34 [Bg a,Bg b,A6 c] rB:=Fe f34 0xa20e5c5c760edc328184ef783804460ee90ebd6b6ba10e105c6c105ba1050e01d00ea75c5b7670eae9590bbebd9f9d [] (Ik.eq_1 ..)
instance(a b c d e):CT (PQ a b c d e) 13 [AL a,(eL 25 CB) b,DW c,DW d,WK e] (rT eB eB):=Fe f13 0x9a0a0e5c0e7f08425c6c5b0e7308425bcc8e0ea75c5b5c5b8404460e5c5c0edc8404460e5c5c0edc8484efef3f92dd3f92dd0184ef78ddddcc8a089208426b6b76058c6084b1ef10c91178d5b7b58184b1ef10c91178d537b5cc8ab36b1f426b5ab776b36b1f426b5a37590eddddb532616132 [.AbA (.s 86) 7 2 X,.AbA (.s 90) 7 2 X] (PQ.eq_1 ..)
instance(a b c d e):CT (Q7 a b c d e) 14 [AL a,(eL 25 CB) b,DW c,DW d,eI e] (rT WK eI):=Fk f14 0xa24b720e01ddddb50115c9936104c4 [] [.cell 10 (Y 10),.tmp 11] λr h f g=>by
  unfold Q7 at h;exact nz
end Go.Sf.Sc
