/- Contracts of the functions. -/
import Derived.Test.YthcncnllajfkfaaGreatCon2
set_option linter.all false
set_option maxRecDepth 100000
set_option maxHeartbeats 4000000
open Option renaming some->Y,none->W
open Bool renaming true->X,false->T
namespace Go.Sf.Sc
open Go Go.Sf Go.Proofs.Tryz
instance(a b c d):CT (IL a b c d) 167 [AK a,Bt b,BY c,Bb d] (rT Bg eI):=Fk f167 0x81264bb40f3e37264b0e468a7431711f42550bf51f4237264b65f40152360152c5024a244204460eee7de4de7d0d427d0b420b3171c60ed96ae4bd6a0d426a0b420bf5c6024ae404460e5a0bde0e590bbd3f12c90f46ededca37264b0e46880137264b654685308175030f426262a1104289ad3637264b65468530e0e9cf360b42cf3637264b65f48407e9cfcf3638ad3637264b65f4ed62ca360111c95c91 [.stq 38 [W,W,W,W,W,W,W,W,W,W,W,W,W,W,W,W,W,W,W,W,W,W,W,W,W,W,W,W,W,W,W,Y ⟨X,.list 1 []⟩,Y ⟨X,.list 3 []⟩,Y ⟨X,.xn []⟩,W,W,W,W] (.s 15) (.s 82)] [.cell 8 (Y 38),.tmp 9] λr h e f=>by
  unfold IL at h;exact nz
instance(a b c d):CT (Fc a b c d) 104 [AK a,Bt b,BY c,Bb d] (rT Bg eI):=Fk f104 0x81264b6bed62ca3637264b65f4edca360111c95c91 [] [.cell 8 (Y 38),.tmp 9] λr h e f=>by
  unfold Fc at h;exact nz
instance(a b c d):CT (Fg a b c d) 122 [AK a,(eL 25 Bt) b,BY c,GN d] (rT Bg eI):=Fk f122 0x8013b81264b6bedad62ca194359b137264b0e468a74015955590111c9935c30 [] [.cell 8 (Y 38),.tmp 9] λr h e f=>by
  unfold Fg at h;exact nz
instance(a b c):CT (D7 a b c) 63 [AK a,(eL 25 Bt) b,QH c] (λr=>.tp [(eL 38 Bg) r.1,eI r.2.1,eI r.2.2]):=By f63 0x9e820bc30a0121201fb8310792f83bb202621f4226482647b402cb26c0306c264b11e9d562b1044b8113c9d5044372ea21201fb83107dd0342b210c9623226c0cb26c0850bb7cb26c07ced32b13026405c30 [] (D7.eq_1 ..) (A8 0 33 32 0 λs0:List AR×AF=>[(10,.ow ((eL 38 Bg) s0.1)),(11,.bx [⟨T,lI s0.2.dr.dl⟩,⟨T,lE s0.2.dr.d3⟩,⟨T,(eL 1 lI) s0.2.eb⟩])])
instance(a b):CT (FW a b) 182 [Ap a,Ap b] rB:=Fe f182 0x800e5a5a65c4dc [] (FW.eq_1 ..)
instance(a b):CT (RN a b) 322 [Ay a,Ay b] rB:=Fe f322 0x800e5a5a65c4dc [] (RN.eq_1 ..)
instance(a b):CT (G9 a b) 245 [BE a,BE b] rB:=Fe f245 0x800e03ac03ac720e7e7eecb7b765cfcfdc [] (G9.eq_1 ..)
abbrev Q_246(n:Nat):Prop:=∀(a:d5)(b:d5),CT (C2 n a b) 246 [AJ a,AJ b] rB
theorem AAS(n:Nat)(_ih_246:Q_246 n)(a:d5)(b:d5):CT (C2 (n+1) a b) 246 [AJ a,AJ b] rB:=Fj f246 0x803f5a5a720e03ac03ac657e7e96a5dede72a5bdbdecb7b772088ca936a955c4d4d409c909c989ac89acdc [.call 325 [.s 65,.s 67,.c (.clo 246 [])]] λh=>by
  unfold C2 at h;exact nz
theorem AAR:∀n:Nat,Q_246 n:=by
  intro n
  induction n with
  |zero=>exact(λa b=>⟨λ_ h=>c_⟩)
  |succ n c=>exact AAS n c
instance(a b):CT (M8 a b) 246 [AJ a,AJ b] rB:=⟨λr h=>by
  obtain ⟨N,c⟩:=Cd h;exact((AAR N) a b).snd r (c N (ae _))⟩
instance(a b):CT (Mt a b) 180 [Bt a,Bt b] rB:=Fe f180 0x800ea11042a11042728c0d42360d42720e7d0b427d0b42720e6a0b426a0b42720e89c689c6720e89ad89ad7207030f42030f420106c4dc [] (Mt.eq_1 ..)
instance(a b):CT (Kn a b) 181 [Bb a,Bb b] rB:=Fe f181 0x800e7e7e65cfcfdc [] (Kn.eq_1 ..)
instance(a b):CT (Mz a b) 123 [Bg a,Bg b] rB:=Fe f123 0x808c2442362442728ce436e472ed1f42621f4272ed1c42621c4272ed194262194265ca32ca32dc [] (Mz.eq_1 ..)
instance(a b):CT (Jr a b) 64 [AK a,Bg b] rB:=Fe f64 0x800eb4b4555e264b11e9621942621c42ca3236dc [] (Jr.eq_1 ..)
instance(a b c d):CT (Jf a b c d) 31 [AK a,(eL 25 Bt) b,Bg c,Bg d] rI:=Fe f31 0x81f3621c42621c4296a5b43601a5b4369fc311751046b19b5c30 [] (Jf.eq_1 ..)
instance(a b):CT (Cp a b) 36 [lI a,lI b] (rO lI):=By f36 0x82020572cd055592b5dbc30a0978bc060a0978bc063c01bb6c5dbc610acd05559a81e501405f02 [] (Cp.eq_1 ..) (A8 0 10 9 0 (hO 5 lI))
instance(a):CT (Nq a) 75 [BY a] (rS BY):=Fk f75 0xb2625b02df115b0592014aa901db0ef1a9825d5b0261df115b05dda9035010c93f3f0ede0ebd10c99300 [.Aag [.w 9,.w 13],.Aag [.g 14 0 2,.g 14 1 2,.z ⟨X,.list 1 []⟩]] [.cell 2 (Y 3)] λr h b c=>by
  unfold Nq at h;have:=A8 0 19 18 0 λs0:AF=>[(3,.bx [⟨X,lI s0.dr.dl⟩,⟨X,lE s0.dr.d3⟩,⟨X,(eL 1 lI) s0.eb⟩])];exact nz
instance(a b):CT (HK a b) 35 [Bg a,FC b] (rS CX):=Fk f35 0x4013b094b124604460e7de45a0e6ae459621f421146ed1f4214c991 [] [.cell 4 (Y 9)] λr h c d=>by
  unfold HK at h;exact nz
instance(a b c d):CT (LT a b c d) 218 [AK a,Ay b,Ay c,eB d] (rT (eL 2 Ap) eI):=Fe f218 0xe86b0e01134636c53702c07c8cc5c340935c31 [] (LT.eq_1 ..)
instance(a b c d):CT (E0 a b c d) 166 [AK a,BE b,BY c,eB d] (rT (eL 3 Bb) eI):=By f166 0xe8020d012827260da206922827260da2062827260da2063c02034803470946b1026cd1366289e0c93602430dea2827260da2069a8103c03703c07cd1b132cf363703c07ced8936010340935c31 [] (E0.eq_1 ..) (A8 0 40 39 0 (hO 13 (eL 3 Bb)))
instance(a b c):CT (FH a b c) 103 [AK a,Bt b,BY c] (rT (eL 3 Bb) eI):=By f103 0xe802f82625240bd007922625240bd0072625240bd0073c020348034762026c264b1149756262ca36b20fc9c8430bea2625240bd0079a8103c03703c07cd1030f426289ad363703c07cedca360103409391 [] (FH.eq_1 ..) (A8 0 38 37 0 (hO 11 (eL 3 Bb)))
instance(a b c):CT (FI a b c) 105 [CX a,eI b,Bg c] (rS CX):=Fk f105 0x6013b094b124604460e7de47d07420e6ae46a0742621f4215460162383282044804471446621942658d413214c95c30 [] [.cell 6 (Y 9)] λr h d e=>by
  unfold FI at h;exact nz
instance(a b c):CT (Jc a b c) 109 [eI a,lI b,lI c] (rT lI eB):=By f109 0xe8180801100f0e08020560100f0e080205100f0e0802053c01f95d771437e58a05bb17d301145517d30114ff100f0e080205850137e587055daa5e819708ea100f0e0802059a81991a3047304002be [] (Jc.eq_1 ..) (A8 0 16 15 0 (hX 8 1 eI))
noncomputable def cm:PC:=PC.of My f171.body (xq bT 0xa7013c3b3a05f206603c3b3a05f2063c3b3a05f2063c1f014108710151011e0141089d323700d2321f01410871014fb3011e0141089d32ff3c3b3a05f2068a20011d0141089d723f626272bc9703079d559703079db281efc8435fea3c3b3a05f206dd0171039db2ef074617d37e1d38089d17d35a1d38089d59b2efc8903171383832b90b31713838325e151d0141089d5f01) [.bin (.a [0,0,0]) .neq (.s 85) (.s 86)]
theorem AAs:CK f171 cm [.tmp 2]:=b!
theorem ABI:PC.sR cm=X/\PC.tl 0 cm=X:=b!
abbrev Q_171(n:Nat):Prop:=∀(a:BV),CT (Bp n a) 171 [.undef] (λr=>.bo (Cq a) (Cq r.2) 0 [eB r.1])
theorem AAG(n:Nat)(_ih_171:Q_171 n)(a:BV):CT (Bp (n+1) a) 171 [.undef] (λr=>.bo (Cq a) (Cq r.2) 0 [eB r.1]):=Z5 AAs ABI λr h c b d=>by
  unfold cm;unfold f171;unfold Bp at h;have:=A8 0 60 59 0 λs0:BV=>[(0,.bx (Cq s0))];exact nz
theorem AAF:∀n:Nat,Q_171 n:=by
  intro n
  induction n with
  |zero=>exact(λa=>⟨λ_ h=>c_⟩)
  |succ n b=>exact AAG n b
instance(x_0):CT (Hz x_0) 171 [.undef] (λr=>.bo (Cq x_0) (Cq r.2) 0 [eB r.1]):=⟨λr h=>by
  obtain ⟨N,a⟩:=Cd h;exact((AAF N) x_0).snd r (a N (ae _))⟩
instance(a b c):CT (Jb a b c) 231 [Ay a,eI b,eI c] rI:=By f231 0x81010701c10b07b50692c10b07b506c10b07b50660018abc7e55015ab2efc84307eac10b07b506ddad819bb502 [] (Jb.eq_1 ..) (A8 0 13 12 0 (hT 7 eI))
instance(a):CT (Gw a) 172 [.pt (lU a).cells] rB:=By f172 0xa7df11f2059296050e01976a0871b1380371653036383838aa0e976a087130363803716530363838385e815dfbdf11f205dd3808715e746a087130d7 [] (Gw.eq_1 ..) (BB 0 19 18 0)
noncomputable def cl:PC:=PC.of My f110.body (xq bT 0xa7011e1d1cf205601e1d1cf2051e1d1cf2053c1f3808710151011e38089d32960052320120321f380871014fb3011e38089d32ff1e1d1cf2058aa5975b41039d975b7138327220011d38089dec97f5383832300abc9703069d559703069d9e5d5fea1e1d1cf205dd3838039d37005232850bf53838325e151d38089d5f01) []
theorem AAr:CK f110 cl [.tmp 2]:=b!
theorem ABH:PC.sR cl=X/\PC.tl 0 cl=X:=b!
abbrev Q_110(n:Nat):Prop:=∀(a:BV),CT (Bq n a) 110 [.undef] (λr=>.bo (Cq a) (Cq r.2) 0 [eB r.1])
theorem z1(n:Nat)(_ih_110:Q_110 n)(a:BV):CT (Bq (n+1) a) 110 [.undef] (λr=>.bo (Cq a) (Cq r.2) 0 [eB r.1]):=Z5 AAr ABH λr h c b d=>by
  unfold cl;unfold f110;unfold Bq at h;have:=A8 0 30 29 0 λs0:BV=>[(0,.bx (Cq s0))];exact nz
theorem zy:∀n:Nat,Q_110 n:=by
  intro n
  induction n with
  |zero=>exact(λa=>⟨λ_ h=>c_⟩)
  |succ n b=>exact z1 n b
instance(x_0):CT (Ga x_0) 110 [.undef] (λr=>.bo (Cq x_0) (Cq r.2) 0 [eB r.1]):=⟨λr h=>by
  obtain ⟨N,a⟩:=Cd h;exact((zy N) x_0).snd r (a N (ae _))⟩
instance(a b c d):CT (Db a b c d) 53 [BY a,BY b,Ap c,Ap d] (rT Ap eB):=Fk f53 0x8184b1087138483e5f523800c2bf164630626237e0468a0830085ed15a5a0bde81d1c40bbd37e0468a74de0bde550bbd0bbd5fc95c91 [.AaY [W,W,W,W,W,W,W,W,Y ⟨X,.xl 1 []⟩,Y ⟨X,.xl 1 []⟩] (.s 71)] [.cell 8 (Y 2),.tmp 9] λr h e f=>by
  unfold Db at h;exact nz
instance(a b):CT (NE a b) 108 [CX a,CX b] rB:=Fe f108 0x815ee0497536074236074262ac62acdc [] (NE.eq_1 ..)
instance(a b):CT (HL a b) 107 [CX a,.pt (CX b).cells] rB:=Fe f107 0x810ea1a1fc [] (HL.eq_1 ..)
instance(a b c d):CT (IQ a b c d) 51 [AK a,(eL 25 Bt) b,CX c,eI d] (rT (eL 9 CX) eI):=nC f51 0xe8020a01b8e3056001b8e3740ae305282726b8e30892282726b8e3083d3c3b282726c1b8e30d603d3c3b282726c1b8e30d3d3c3b282726c1b8e30d3c0209480947a1023709c0850b733d3c3b282726c1b8e30d8e1001143d094b14c90eb401fdb63709c0850bf51f423709c07c264b11e96262044109b6ca36b20fc9c843282726b8e308613d3c3b282726c1b8e30d9a813709c07cd162044109b6ca36194b810cc9ca1990b8e30561282726b8e3089a81ffb8e30585010b8d7109b60a01f6b8e305e80947a10109405c3102 [] (IQ.eq_1 ..) (⟨⟩:HW 0 λ(e:List Ax×Int)=>[(10,.ow ((eL 9 CX) e.1)),(11,.tv (eI e.2))]) (A8 2 40 39 0 (hO 10 (eL 9 CX))) (A8 4 61 60 0 (hO 10 (eL 9 CX)))
instance(a):CT (DX a) 52 [CX a] rB:=Fe f52 0x800e7d0742656a07429b00 [] (DX.eq_1 ..)
instance(a b c d e f):CT (Ku a b c d e f) 27 [AK a,(eL 25 Bt) b,Bg c,Bg d,eI e,eB f] (rT RJ eI):=Fk f27 0x804b17460c01646312f7050692646312f705066968676463dff7050a926968676463dff7050a6f6e6d696867646315dff7050e606f6e6d696867646315dff7050e6f6e6d696867646315dff7050e804b184636d532d5329ee0e9c562ac62ac6f6e6d696867646319181715dff705111918023b6f6e6d696867646319181715dff705113c84843607423607428184e0c900c900460046ff6f6e6d696867646315dff7050e8a0a0a0ea165a17705550b8d41320b8d4132094b14c9fd436968676463dff7050a616f6e6d696867646315dff7050e9a81094b14c9fd43646312f70506616968676463dff7050a9a9e010cea646312f705068185bc370a4b0117468530d16536b4b1370a4b0117468530d16536b4b1370a4b0117f4e0e9b4b4370a4b17468a74f51f42550bf51f42370a4b17468a05aa01370a4b0117f40eb4b4b10115c9935c700103 [] [.cell 12 (Y 10),.tmp 13] λr h g i=>by
  unfold Ku at h;have:=A8 0 100 99 0 λs0:pr=>[(12,.bx [⟨X,lI s0.fu.gp.dr.dl⟩,⟨X,lE s0.fu.gp.dr.d3⟩,⟨X,(eL 1 lI) s0.fu.gp.eb⟩,⟨X,(eL 4 GN) s0.fu.ib⟩,⟨X,lI s0.ec.gp.dr.dl⟩,⟨X,lE s0.ec.gp.dr.d3⟩,⟨X,(eL 1 lI) s0.ec.gp.eb⟩,⟨X,(eL 4 GN) s0.ec.ib⟩,⟨X,lI s0.Iso.dl⟩,⟨X,lI s0.Iso.d3⟩])];have:=A8 2 105 104 0 λs2:pr=>[(12,.bx [⟨X,lI s2.fu.gp.dr.dl⟩,⟨X,lE s2.fu.gp.dr.d3⟩,⟨X,(eL 1 lI) s2.fu.gp.eb⟩,⟨X,(eL 4 GN) s2.fu.ib⟩,⟨X,lI s2.ec.gp.dr.dl⟩,⟨X,lE s2.ec.gp.dr.d3⟩,⟨X,(eL 1 lI) s2.ec.gp.eb⟩,⟨X,(eL 4 GN) s2.ec.ib⟩,⟨X,lI s2.Iso.dl⟩,⟨X,lI s2.Iso.d3⟩])];have:=A8 4 111 110 0 λs4:pr=>[(12,.bx [⟨X,lI s4.fu.gp.dr.dl⟩,⟨X,lE s4.fu.gp.dr.d3⟩,⟨X,(eL 1 lI) s4.fu.gp.eb⟩,⟨X,(eL 4 GN) s4.fu.ib⟩,⟨X,lI s4.ec.gp.dr.dl⟩,⟨X,lE s4.ec.gp.dr.d3⟩,⟨X,(eL 1 lI) s4.ec.gp.eb⟩,⟨X,(eL 4 GN) s4.ec.ib⟩,⟨X,lI s4.Iso.dl⟩,⟨X,lI s4.Iso.d3⟩])];exact nz
instance(a b c d e):CT (J2 a b c d e) 10 [AK a,(eL 25 Bt) b,Bg c,Bg d,eI e] (rT RJ eI):=Fk f10 0x804b6b0e01b4b4b10115c9935c04c3 [] [.cell 10 (Y 10),.tmp 11] λr h f g=>by
  unfold J2 at h;exact nz
instance(a):CT (G5 a) 184 [eI a] (rO lI):=By f184 0x821831cd8d9201f9301481013161cd8d819514993f3040d7 [.mkx 1 [.int .i64 0] (.s 5)] (G5.eq_1 ..) (A8 0 9 8 0 (hX 3 1 eI))
instance(a):CT (Gc a) 124 [Ay a] (rT Ap eI):=Fk f124 0xb53b818404460eee0ed937845ff48c5fc99300 [] [.cell 2 (Y 2),.tmp 3] λr h b c=>by
  unfold Gc at h;exact nz
instance(a):CT (EB a) 67 [Ay a] (rS Ap):=Fk f67 0x843601e0e93600c99300 [] [.cell 2 (Y 2)] λr h b c=>by
  unfold EB at h;exact nz
instance(a b):CT (G2 a b) 68 [lI a,lI b] (rO lI):=By f68 0x8218bc0cb80555920cb805550cb805553c01f95d77146c8117d355ea0cb80555819594991a30405f02 [] (G2.eq_1 ..) (A8 0 12 11 0 (hX 5 1 eI))
instance(a):CT (H6 a) 69 [BY a] (rS BY):=Fk f69 0xb2625b02df115b0592014aa901db0ef1a9825d5b0261df115b05dda9035010c93f3f0ede0ebd10c99300 [.Aag [.w 9,.w 13],.Aag [.g 14 0 2,.g 14 1 2,.z ⟨X,.list 1 []⟩]] [.cell 2 (Y 3)] λr h b c=>by
  unfold H6 at h;have:=A8 0 19 18 0 λs0:AF=>[(3,.bx [⟨X,lI s0.dr.dl⟩,⟨X,lE s0.dr.d3⟩,⟨X,(eL 1 lI) s0.eb⟩])];exact nz
instance(a b c):CT (EX a b c) 33 [AK a,(eL 25 Bt) b,QH c] (λr=>.tp [BY r.1,Ap r.2.1,eI r.2.2]):=Fk f33 0x706023b8184b236edc1070604252423c1070607920c013b84b204460e7de45a0e6ae459621f42264b11c9b42643c107060461252423c10706079a8184b200c910c98c383262323784b25f4619f401821175d5b15fc910c95c30 [] [.cell 6 (Y 3),.cell 7 (Y 2),.tmp 8] λr h d e=>by
  unfold EX at h;have:=A8 0 37 36 0 λs0:AF×d4=>[(12,.bx [⟨T,lI s0.1.dr.dl⟩,⟨T,lE s0.1.dr.d3⟩,⟨T,(eL 1 lI) s0.1.eb⟩]),(13,.bx [⟨T,lI s0.2.dl⟩,⟨T,lI s0.2.d3⟩])];exact nz
instance(a b):CT (Jd a b) 72 [eI a,.pt (BY b).cells] rB:=Fe f72 0x8174bde6 [] (Jd.eq_1 ..)
instance(a b):CT (Je a b) 73 [eI a,.pt (BY b).cells] rB:=Fe f73 0x8174dee6 [] (Je.eq_1 ..)
instance(a):CT (Kc a) 74 [eI a] (rO lI):=By f74 0x820231a28d92b5dbc381013161a28d9ee50140d7 [] (Kc.eq_1 ..) (A8 0 6 5 0 (hO 3 lI))
instance(a b c):CT (Fr a b c) 34 [BY a,BY b,Ap c] rB:=Fe f34 0x800e5a5a720ec43081e0e93604460eee0ed96262960e105a65105996050e01db0eb35a597274deee550bbdd99b91 [] (Fr.eq_1 ..)
instance(a b c d e):CT (HI a b c d e) 13 [AK a,(eL 25 Bt) b,Bg c,Bg d,RJ e] (rT eB eB):=Fe f13 0x81800e5a0e7d08425a65590e6a084259cb8e0eb35a595a598404460e5a5a0ec48404460e5a5a0ec484e0c900c93f8cb43f8cb401e0e9b4b4cb8a088c08426262ecaa5e84b200c910c91175d5acb18184b200c910c91175d532b1cb8aa5621f426238ac72a5621f42623832550eb4b4b1305c5c30 [.Abj (.s 86) 7 2 X,.Abj (.s 90) 7 2 X] (HI.eq_1 ..)
instance(a b c d e):CT (Sb a b c d e) 14 [AK a,(eL 25 Bt) b,Bg c,Bg d,eI e] (rT RJ eI):=Fk f14 0x804b6b0e01b4b4b10115c9935c04c3 [] [.cell 10 (Y 10),.tmp 11] λr h f g=>by
  unfold Sb at h;exact nz
end Go.Sf.Sc
