/- Contracts of the functions. -/
import Derived.Test.YthcncnllajfkfaaGreatCon2
set_option linter.all false
set_option maxRecDepth 100000
set_option maxHeartbeats 4000000
open Option renaming some->Y,none->W
open Bool renaming true->X,false->T
namespace Go.Sf.Sc
open Go Go.Sf Go.Proofs.Tryz
instance(a b c d):CT (Hy a b c d) 167 [AL a,Bz b,BT c,Ba d] (rT DJ eI):=Fk f167 0x81264bde0f3e59264b0e468a7037781f425a0b735b1f4259264b71f70152550152c3024a244204460eea802242eb800d42800b420b3778be0ebd732242c1730d42730b420b735bbe024a224204460e5d0beb0e5c0bc13f12c90f46fdfdd359264b0e46880159264b71468536817c030f426c6cac10429fb95559264b7146853684f07cd4550b42d45559264b71f784fc7cd4d4555bb95559264b71f7fd6cd3550111c9629e [.stq 38 [W,W,W,W,W,W,W,W,W,W,W,W,W,W,W,W,W,W,W,W,W,W,W,W,W,W,W,W,W,W,W,Y ⟨X,.list 1 []⟩,Y ⟨X,.list 3 []⟩,Y ⟨X,.xn []⟩,W,W,W,W] (.s 15) (.s 82)] [.cell 8 (Y 38),.tmp 9] λr h e f=>by
  unfold Hy at h;exact nz
instance(a b c d):CT (FE a b c d) 104 [AL a,Bz b,BT c,Ba d] (rT DJ eI):=Fk f104 0x81264b74fd6cd35559264b71f7fdd3550111c9629e [] [.cell 8 (Y 38),.tmp 9] λr h e f=>by
  unfold FE at h;exact nz
instance(a b c d):CT (FH a b c d) 122 [AL a,(eL 25 Bz) b,BT c,M7 d] (rT DJ eI):=Fk f122 0x8013b81264b74fdb96cd319435cb659264b0e468a70015c5a5c0111c9936236 [] [.cell 8 (Y 38),.tmp 9] λr h e f=>by
  unfold FH at h;exact nz
instance(a b c):CT (Dy a b c) 63 [AL a,(eL 25 Bz) b,QO c] (λr=>.tp [(eL 38 DJ) r.1,eI r.2.1,eI r.2.2]):=Bi f63 0x9b820bc50a0121201fc4370797e63bb1026c1f4226482647de02cd26c03672264b11c97cd76cb6044b8113c9d7044376f921201fc43707e30342b110c96c3826c0cd26c0850bb7cd26c07ffd38b63626406236 [] (Dy.eq_1 ..) (A4 0 33 32 0 λs0:List AU×AG=>[(10,.ow ((eL 38 DJ) s0.1)),(11,.bx [⟨T,lI s0.2.d5.d3⟩,⟨T,lE s0.2.d5.d4⟩,⟨T,(eL 1 lI) s0.2.ej⟩])])
instance(a b):CT (FB a b) 182 [Au a,Au b] rB:=Fe f182 0xa50e5d5d71ddf2 [] (FB.eq_1 ..)
instance(a b):CT (RX a b) 322 [Aq a,Aq b] rB:=Fe f322 0xa50e5d5d71ddf2 [] (RX.eq_1 ..)
instance(a b):CT (Gm a b) 245 [BD a,BD b] rB:=Fe f245 0xa50e03b803b8760e91917605b7b771d4d4f2 [] (Gm.eq_1 ..)
abbrev Q_246(n:Nat):Prop:=∀(a:d7)(b:d7),CT (Cn n a b) 246 [AI a,AI b] rB
theorem zp(n:Nat)(_ih_246:Q_246 n)(a:d7)(b:d7):CT (Cn (n+1) a b) 246 [AI a,AI b] rB:=Fj f246 0xa53f5d5d760e03b803b8719191a2b4ebeb76b4c1c17605b7b7760896a855a85addbbbb09c909c99fb89fb8f2 [.call 325 [.s 65,.s 67,.c (.clo 246 [])]] λh=>by
  unfold Cn at h;exact nz
theorem zm:∀n:Nat,Q_246 n:=by
  intro n
  induction n with
  |zero=>exact(λa b=>⟨λ_ h=>d_⟩)
  |succ n c=>exact zp n c
instance(a b):CT (M4 a b) 246 [AI a,AI b] rB:=⟨λr h=>by
  obtain ⟨N,c⟩:=Ck h;exact((zm N) a b).snd r (c N (az _))⟩
instance(a b):CT (Mk a b) 180 [Bz a,Bz b] rB:=Fe f180 0xa50eac1042ac104276960d42550d42760e800b42800b42760e730b42730b42760e9fbe9fbe760e9fb99fb97607030f42030f420106ddf2 [] (Mk.eq_1 ..)
instance(a b):CT (KX a b) 181 [Ba a,Ba b] rB:=Fe f181 0xa50e919171d4d4f2 [] (KX.eq_1 ..)
instance(a b):CT (Ms a b) 123 [DJ a,DJ b] rB:=Fe f123 0xa59624425524427696224255224276fd1f426c1f4276fd1c426c1c4276fd19426c194271d338d338f2 [] (Ms.eq_1 ..)
instance(a b):CT (Je a b) 64 [AL a,DJ b] rB:=Fe f64 0xa50edede5a61264b11c97c6c19426c1c42d33855f2 [] (Je.eq_1 ..)
instance(a b c d):CT (JQ a b c d) 31 [AL a,(eL 25 Bz) b,DJ c,DJ d] rI:=Fe f31 0x8159d86c1c426c1c42a2b4de5501b4de55a7c5117c1046b6a16236 [] (JQ.eq_1 ..)
instance(a b):CT (D8 a b) 36 [lI a,lI b] (rO lI):=Bi f36 0xed05760908055a97b2d1c5db7da606db7da6063c01ec7260a665db08055a9a81e1fe6a02 [] (D8.eq_1 ..) (A4 0 10 9 0 (hO 5 lI))
instance(a):CT (Np a) 75 [BT a] (rS BT):=Fk f75 0xb16c5e02e5115e0597daa801d10ee9a882605e0265e5115e05e3a8035010c93f3f0eeb0ec110c9fb [.Aap [.w 9,.w 13],.Aap [.g 14 0 2,.g 14 1 2,.z ⟨X,.list 1 []⟩]] [.cell 2 (Y 3)] λr h b c=>by
  unfold Np at h;have:=A4 0 19 18 0 λs0:AG=>[(3,.bx [⟨X,lI s0.d5.d3⟩,⟨X,lE s0.d5.d4⟩,⟨X,(eL 1 lI) s0.ej⟩])];exact nz
instance(a b):CT (JO a b) 35 [DJ a,HL b] (rS CJ):=Fk f35 0x4013b094b124604460e8022425d0e7322425c6c1f421146fd1f4214c99e [] [.cell 4 (Y 9)] λr h c d=>by
  unfold JO at h;exact nz
instance(a b c d):CT (LH a b c d) 218 [AL a,Aq b,Aq c,eB d] (rT (eL 2 Au) eI):=Fe f218 0x8182740e01134655c35902c07f96c3c540936237 [] (LH.eq_1 ..)
instance(a b c d):CT (Eg a b c d) 166 [AL a,BD b,BT c,eB d] (rT (eL 3 Ba) eI):=Bi f166 0x81ed0d012827260d9d06972827260d9d062827260d9d063c02034803470946b60272e4556c9f84f05502430df92827260d9d069a8103c05903c07fe4b638d4555903c07ffd9f55f840936237 [] (Eg.eq_1 ..) (A4 0 40 39 0 (hO 13 (eL 3 Ba)))
instance(a b c):CT (Eu a b c) 103 [AL a,Bz b,BT c] (rT (eL 3 Ba) eI):=Bi f103 0x81ede62625240bcc07972625240bcc072625240bcc073c02034803476c0272264b11497c6c6cd355b10fc9d043e6652625240bcc079a8103c05903c07fe4030f426c9fb9555903c07ffdd355f840939e [] (Eu.eq_1 ..) (A4 0 38 37 0 (hO 11 (eL 3 Ba)))
instance(a b c):CT (Ew a b c) 105 [CJ a,eI b,DJ c] (rS CJ):=Fk f105 0x6013b094b124604460e8022428007420e7322427307426c1f421546016c5b38820448044714466c19427189413814c96236 [] [.cell 6 (Y 9)] λr h d e=>by
  unfold Ew at h;exact nz
instance(a b c):CT (NC a b c) 109 [eI a,lI b,lI c] (rT lI eB):=Bi f109 0x8182180801100f0e0802055f100f0e080205100f0e0802053cf590361459e18a05ec17cf01145a17cf0114ff100f0e080205850159e18705608d61819008f9100f0e0802059a81991a3647364002d5 [] (NC.eq_1 ..) (A4 0 16 15 0 (hX 8 1 eI))
noncomputable def cW:PC:=PC.of N9 f171.body (xq bT 0xad013c3b3a05ca065f3c3b3a05ca063c3b3a05ca063c1f014108780151011e014108b3385900d2381f01410878014fa9011e014108b338ff3c3b3a05ca068a20011d014108b3763f6c6c76a6900307b35a900307b3b181efd0436af93c3b3a05ca06e3017803b3b1ef074617cf911d5b08b317cf5d1d5b08b35cb1efd07e37785b5b38bc0b37785b5b3861151d014108b36a01) [.bin (.a [0,0,0]) .neq (.s 85) (.s 86)]
theorem AAN:CK f171 cW [.tmp 2]:=c!
theorem AAq:PC.x9 cW=X/\PC.z1 0 cW=X:=c!
abbrev Q_171(n:Nat):Prop:=∀(a:BQ),CT (CH n a) 171 [.undef] (λr=>.bo (Ce a) (Ce r.2) 0 [eB r.1])
theorem zf(n:Nat)(_ih_171:Q_171 n)(a:BQ):CT (CH (n+1) a) 171 [.undef] (λr=>.bo (Ce a) (Ce r.2) 0 [eB r.1]):=iG AAN AAq λr h c b d=>by
  unfold cW;unfold f171;unfold CH at h;have:=A4 0 60 59 0 λs0:BQ=>[(0,.bx (Ce s0))];exact nz
theorem ze:∀n:Nat,Q_171 n:=by
  intro n
  induction n with
  |zero=>exact(λa=>⟨λ_ h=>d_⟩)
  |succ n b=>exact zf n b
instance(x_0):CT (J4 x_0) 171 [.undef] (λr=>.bo (Ce x_0) (Ce r.2) 0 [eB r.1]):=⟨λr h=>by
  obtain ⟨N,a⟩:=Ck h;exact((ze N) x_0).snd r (a N (az _))⟩
instance(a b c):CT (JP a b c) 231 [Aq a,eI b,eI c] rI:=Bi f231 0x81010701c80b07b20697c80b07b206c80b07b2065f018aa6915a015db1efd04307f9c80b07b206e3b981a1b202 [] (JP.eq_1 ..) (A4 0 13 12 0 (hT 7 eI))
instance(a):CT (GT a) 172 [.pt (kI a).cells] rB:=Bi f172 0xade511ca0597a2050e0190730878b65b03787136555b5b5b8d0e9073087836555b03787136555b5b5b6181606a65e511ca05e35b087861707308789201 [] (GT.eq_1 ..) (A9 0 19 18 0)
noncomputable def cU:PC:=PC.of N9 f110.body (xq bT 0xad011e1d1cca055f1e1d1cca051e1d1cca053c1f5b08780151011e5b08b338a20052380120381f5b0878014fa9011e5b08b338ff1e1d1cca058ab4905e4103b3905e785b387620011d5b08b3760590735b5b5b38360aa6900306b35a900306b39b606af91e1d1cca05e35b5b03b359005238850b735b5b5b3861151d5b08b36a01) []
theorem AAM:CK f110 cU [.tmp 2]:=c!
theorem AAp:PC.x9 cU=X/\PC.z1 0 cU=X:=c!
abbrev Q_110(n:Nat):Prop:=∀(a:BQ),CT (CI n a) 110 [.undef] (λr=>.bo (Ce a) (Ce r.2) 0 [eB r.1])
theorem zU(n:Nat)(_ih_110:Q_110 n)(a:BQ):CT (CI (n+1) a) 110 [.undef] (λr=>.bo (Ce a) (Ce r.2) 0 [eB r.1]):=iG AAM AAp λr h c b d=>by
  unfold cU;unfold f110;unfold CI at h;have:=A4 0 30 29 0 λs0:BQ=>[(0,.bx (Ce s0))];exact nz
theorem zT:∀n:Nat,Q_110 n:=by
  intro n
  induction n with
  |zero=>exact(λa=>⟨λ_ h=>d_⟩)
  |succ n b=>exact zU n b
instance(x_0):CT (Hg x_0) 110 [.undef] (λr=>.bo (Ce x_0) (Ce r.2) 0 [eB r.1]):=⟨λr h=>by
  obtain ⟨N,a⟩:=Ck h;exact((zT N) x_0).snd r (a N (az _))⟩
instance(a b c d):CT (Dm a b c d) 53 [BT a,BT b,Au c,Au d] (rT Au eB):=Fk f53 0x8184b608785b483e6a525b00c2bf1646366c6c598400468a08360861e45d5d0beb81e4dd0bc1598400468a70eb0beb5a0bc10bc16ac9629e [.Abl [W,W,W,W,W,W,W,W,Y ⟨X,.xl 1 []⟩,Y ⟨X,.xl 1 []⟩] (.s 71)] [.cell 8 (Y 2),.tmp 9] λr h e f=>by
  unfold Dm at h;exact nz
instance(a b):CT (NB a b) 108 [CJ a,CJ b] rB:=Fe f108 0x81618400497c5507425507426cb86cb8f2 [] (NB.eq_1 ..)
instance(a b):CT (Gu a b) 107 [CJ a,.pt (CJ b).cells] rB:=Fe f107 0x810eacaca136 [] (Gu.eq_1 ..)
instance(a b c d):CT (H6 a b c d) 51 [AL a,(eL 25 Bz) b,CJ c,eI d] (rT (eL 9 CJ) eI):=iF f51 0x81ed0a01c4f4055f01c4f4700af405282726c4f40897282726c4f4083d3c3b282726c8c4f40d5f3d3c3b282726c8c4f40d3d3c3b282726c8c4f40d3c0209480947ac025909c0850b753d3c3b282726c8c4f40d8e1001143d094b14c90ede01ac09c65909c0850b735b1f425909c07f264b11c97c6c6c044109c6d355b10fc9d043282726c4f408653d3c3b282726c8c4f40d9a815909c07fe46c044109c6d355194b810cc9d3197ec4f40565282726c4f4089a81ffc4f40585010b897809c60a01e8c4f40581820947ac010940623702 [] (H6.eq_1 ..) (⟨⟩:HW 0 λ(e:List Aw×Int)=>[(10,.ow ((eL 9 CJ) e.1)),(11,.tv (eI e.2))]) (A4 2 40 39 0 (hO 10 (eL 9 CJ))) (A4 4 61 60 0 (hO 10 (eL 9 CJ)))
instance(a):CT (DK a) 52 [CJ a] rB:=Fe f52 0xa50e80074271730742fa [] (DK.eq_1 ..)
instance(a b c d e f):CT (Kd a b c d e f) 27 [AL a,(eL 25 Bz) b,DJ c,DJ d,eI e,eB f] (rT V7 eI):=Fk f27 0xa54b17460c01646312110c050697646312110c05066968676463e5110c050a976968676463e5110c050a6f6e6d696867646315e5110c050e5f6f6e6d696867646315e5110c050e6f6e6d696867646315e5110c050ea54b184655d738d7389b84f07cc36cb86cb86f6e6d696867646319181715e5110c05111918023b6f6e6d696867646319181715e5110c05113c8484550742550742818484f0f000460046ff6f6e6d696867646315e5110c050e8a0a0a0eac71ac018d5a0b8941380b894138094b14c9ac09436968676463e5110c050a656f6e6d696867646315e5110c050e9a81094b14c9ac0943646312110c0506656968676463e5110c050a9a9b010cf9646312110c05068185a6590a4b0117468536e47155deb6590a4b0117468536e47155deb6590a4b0117f784f07cdede590a4b17468a70735b1f425a0b735b1f42590a4b17468a058d01590a4b0117f70ededeb60115c993626bf8 [] [.cell 12 (Y 10),.tmp 13] λr h g i=>by
  unfold Kd at h;have:=A4 0 100 99 0 λs0:Aaa=>[(12,.bx [⟨X,lI s0.gp.l4.d5.d3⟩,⟨X,lE s0.gp.l4.d5.d4⟩,⟨X,(eL 1 lI) s0.gp.l4.ej⟩,⟨X,(eL 4 M7) s0.gp.mo⟩,⟨X,lI s0.ei.l4.d5.d3⟩,⟨X,lE s0.ei.l4.d5.d4⟩,⟨X,(eL 1 lI) s0.ei.l4.ej⟩,⟨X,(eL 4 M7) s0.ei.mo⟩,⟨X,lI s0.Iso.d3⟩,⟨X,lI s0.Iso.d4⟩])];have:=A4 2 105 104 0 λs2:Aaa=>[(12,.bx [⟨X,lI s2.gp.l4.d5.d3⟩,⟨X,lE s2.gp.l4.d5.d4⟩,⟨X,(eL 1 lI) s2.gp.l4.ej⟩,⟨X,(eL 4 M7) s2.gp.mo⟩,⟨X,lI s2.ei.l4.d5.d3⟩,⟨X,lE s2.ei.l4.d5.d4⟩,⟨X,(eL 1 lI) s2.ei.l4.ej⟩,⟨X,(eL 4 M7) s2.ei.mo⟩,⟨X,lI s2.Iso.d3⟩,⟨X,lI s2.Iso.d4⟩])];have:=A4 4 111 110 0 λs4:Aaa=>[(12,.bx [⟨X,lI s4.gp.l4.d5.d3⟩,⟨X,lE s4.gp.l4.d5.d4⟩,⟨X,(eL 1 lI) s4.gp.l4.ej⟩,⟨X,(eL 4 M7) s4.gp.mo⟩,⟨X,lI s4.ei.l4.d5.d3⟩,⟨X,lE s4.ei.l4.d5.d4⟩,⟨X,(eL 1 lI) s4.ei.l4.ej⟩,⟨X,(eL 4 M7) s4.ei.mo⟩,⟨X,lI s4.Iso.d3⟩,⟨X,lI s4.Iso.d4⟩])];exact nz
instance(a b c d e):CT (Nn a b c d e) 10 [AL a,(eL 25 Bz) b,DJ c,DJ d,eI e] (rT V7 eI):=Fk f10 0xa54b740e01dedeb60115c9936204c5 [] [.cell 10 (Y 10),.tmp 11] λr h f g=>by
  unfold Nn at h;exact nz
instance(a):CT (K6 a) 184 [eI a] (rO lI):=Bi f184 0x82183709088997f5361481013765090889819514993f36400001 [.mkx 1 [.int .i64 0] (.s 5)] (K6.eq_1 ..) (A4 0 9 8 0 (hX 3 1 eI))
instance(a):CT (Hn a) 124 [Aq a] (rT Au eI):=Fk f124 0xb23b818404460eea0ebd59846af7966ac9fb [] [.cell 2 (Y 2),.tmp 3] λr h b c=>by
  unfold Hn at h;exact nz
instance(a):CT (GV a) 67 [Aq a] (rS Au):=Fk f67 0x84550184f07c55f0fb [] [.cell 2 (Y 2)] λr h b c=>by
  unfold GV at h;exact nz
instance(a b):CT (Kw a b) 68 [lI a,lI b] (rO lI):=Bi f68 0x8218a60cc4055a970cc4055a0cc4055a3cf5903614728117cf5af90cc4055a819594991a36406a02 [] (Kw.eq_1 ..) (A4 0 12 11 0 (hX 5 1 eI))
instance(a):CT (Nf a) 69 [BT a] (rS BT):=Fk f69 0xb16c5e02e5115e0597daa801d10ee9a882605e0265e5115e05e3a8035010c93f3f0eeb0ec110c9fb [.Aap [.w 9,.w 13],.Aap [.g 14 0 2,.g 14 1 2,.z ⟨X,.list 1 []⟩]] [.cell 2 (Y 3)] λr h b c=>by
  unfold Nf at h;have:=A4 0 19 18 0 λs0:AG=>[(3,.bx [⟨X,lI s0.d5.d3⟩,⟨X,lE s0.d5.d4⟩,⟨X,(eL 1 lI) s0.ej⟩])];exact nz
instance(a b c):CT (Gd a b c) 33 [AL a,(eL 25 Bz) b,QO c] (λr=>.tp [BT r.1,Au r.2.1,eI r.2.2]):=Fk f33 0x706023b8184b155fdc8070604252423c8070607970c013b84b104460e8022425d0e7322425c6c1f42264b11c9de2643c807060465252423c80706079a8184b1f010c9965b386c385984b16a4619f70182117cd7b66ac910c96236 [] [.cell 6 (Y 3),.cell 7 (Y 2),.tmp 8] λr h d e=>by
  unfold Gd at h;have:=A4 0 37 36 0 λs0:AG×d6=>[(12,.bx [⟨T,lI s0.1.d5.d3⟩,⟨T,lE s0.1.d5.d4⟩,⟨T,(eL 1 lI) s0.1.ej⟩]),(13,.bx [⟨T,lI s0.2.d3⟩,⟨T,lI s0.2.d4⟩])];exact nz
instance(a b):CT (MR a b) 72 [eI a,.pt (BT b).cells] rB:=Fe f72 0x8170c101ba [] (MR.eq_1 ..)
instance(a b):CT (MS a b) 73 [eI a,.pt (BT b).cells] rB:=Fe f73 0x8170eb01ba [] (MS.eq_1 ..)
instance(a):CT (PE a) 74 [eI a] (rO lI):=Bi f74 0xed379d8997b2d1c5810137659d899be1fe0001 [] (PE.eq_1 ..) (A4 0 6 5 0 (hO 3 lI))
instance(a b c):CT (IX a b c) 34 [BT a,BT b,Au c] rB:=Fe f34 0xa50e5d5d760edd368184f07c5504460eea0ebd6c6ca20e105d71105ca2050e01d10ea95d5c7670ebea5a0bc1bda19e [] (IX.eq_1 ..)
instance(a b c d e):CT (PD a b c d e) 13 [AL a,(eL 25 Bz) b,DJ c,DJ d,V7 e] (rT eB eB):=Fe f13 0x9b0a0e5d0e8008425d715c0e7308425ccd8e0ea95d5c5d5c8404460e5d5d0edd8404460e5d5d0edd8484f0f03f96de3f96de0184f07cdedecd8a089608426c6c76058d6184b1f010c9117cd7b8b68184b1f010c9117cd738b6cd8ab46c1f426c5bb876b46c1f426c5b385a0ededeb636626236 [.Aby (.s 86) 7 2 X,.Aby (.s 90) 7 2 X] (PD.eq_1 ..)
instance(a b c d e):CT (Qv a b c d e) 14 [AL a,(eL 25 Bz) b,DJ c,DJ d,eI e] (rT V7 eI):=Fk f14 0xa54b740e01dedeb60115c9936204c5 [] [.cell 10 (Y 10),.tmp 11] λr h f g=>by
  unfold Qv at h;exact nz
end Go.Sf.Sc
