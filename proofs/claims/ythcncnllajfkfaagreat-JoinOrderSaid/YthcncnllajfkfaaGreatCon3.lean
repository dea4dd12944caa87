/- Contracts of the functions. -/
import Derived.Test.YthcncnllajfkfaaGreatCon2
set_option linter.all false
set_option maxRecDepth 100000
set_option maxHeartbeats 4000000
open Option renaming some->Y,none->W
open Bool renaming true->X,false->T
namespace Go.Sf.Sc
open Go Go.Sf Go.Proofs.Tryz
instance(a b c d):CT (IF a b c d) 167 [AL a,CB b,Bm c,Bv d] (rT DY eI):=Fk f167 0x81264bd60f3e59264b0e468a71377c1f425a0b745b1f4259264b70f70152550152df024a244204460ef2842242f3840d42840b420b377cbc0ec1742242c6740d42740b420b745bbc024a224204460e5d0bf30e5c0bc63f12c90f460e6c0e6cd359264b0e4688f8264b70468536817d030f426c6ca710429bb69f264b7046853689f17dd0550b42d09f264b70f789fd7dd0d0555bb69f264b70f70e6c6cd3550111c962a1 [.stq 38 [W,W,W,W,W,W,W,W,W,W,W,W,W,W,W,W,W,W,W,W,W,W,W,W,W,W,W,W,W,W,W,Y ⟨X,.list 1 []⟩,Y ⟨X,.list 3 []⟩,Y ⟨X,.xn []⟩,W,W,W,W] (.s 15) (.s 82)] [.cell 8 (Y 38),.tmp 9] λr h e f=>by
  unfold IF at h;exact nz
instance(a b c d):CT (FQ a b c d) 104 [AL a,CB b,Bm c,Bv d] (rT DY eI):=Fk f104 0x81264b730e6c6cd39f264b70f70e6cd3550111c962a1 [] [.cell 8 (Y 38),.tmp 9] λr h e f=>by
  unfold FQ at h;exact nz
instance(a b c d):CT (FT a b c d) 122 [AL a,(eL 25 CB) b,Bm c,ND d] (rT DY eI):=Fk f122 0x8013b81264b730e6cb66cd31943e19f264b0e468a71015c5ae111c9936236 [] [.cell 8 (Y 38),.tmp 9] λr h e f=>by
  unfold FT at h;exact nz
instance(a b c):CT (EA a b c) 63 [AL a,(eL 25 CB) b,Wj c] (λr=>.tp [(eL 38 DY) r.1,eI r.2.1,eI r.2.2]):=B1 f63 0x9d820bc50a0121201fc43707970b013bac026c1f4226482647d602598126c03672264b11c97de36cbb044b8113c9e3044377fa21201fc43707e70342ac10c96c3826c0598126c0dab7598126c0be6c38bb3626406236 [] (EA.eq_1 ..) (BH 0 33 32 0 λs0:List AU×AG=>[(10,.ow ((eL 38 DY) s0.1)),(11,.bx [⟨T,lI s0.2.d3.ci⟩,⟨T,lE s0.2.d3.c9⟩,⟨T,(eL 1 lI) s0.2.eh⟩])])
instance(a b):CT (FN a b) 182 [A8 a,A8 b] rB:=Fe f182 0xa60e5d5d705ce1a1 [] (FN.eq_1 ..)
instance(a b):CT (Ra a b) 322 [A5 a,A5 b] rB:=Fe f322 0xa60e5d5d705ce1a1 [] (Ra.eq_1 ..)
instance(a b):CT (G2 a b) 245 [BQ a,BQ b] rB:=Fe f245 0xa60e03b503b5770e91917705b7b770d0d001a1 [] (G2.eq_1 ..)
abbrev Q_246(n:Nat):Prop:=∀(a:d5)(b:d5),CT (C1 n a b) 246 [AI a,AI b] rB
theorem zr(n:Nat)(_ih_246:Q_246 n)(a:d5)(b:d5):CT (C1 (n+1) a b) 246 [AI a,AI b] rB:=Fj f246 0xa63f5d5d770e03b503b5709191aab4f3f377b4c6c67705b7b7770896a855a85aecb9b909c909c99bb59bb501a1 [.call 325 [.s 65,.s 67,.c (.clo 246 [])]] λh=>by
  unfold C1 at h;exact nz
theorem zq:∀n:Nat,Q_246 n:=by
  intro n
  induction n with
  |zero=>exact(λa b=>⟨λ_ h=>d_⟩)
  |succ n c=>exact zr n c
instance(a b):CT (NA a b) 246 [AI a,AI b] rB:=⟨λr h=>by
  obtain ⟨N,c⟩:=Cy h;exact((zq N) a b).snd r (c N (az _))⟩
instance(a b):CT (Mt a b) 180 [CB a,CB b] rB:=Fe f180 0xa60ea71042a7104277960d42550d42770e840b42840b42770e740b42740b42770e9bbc9bbc770e9bb69bb67707030f42030f4201065ce1a1 [] (Mt.eq_1 ..)
instance(a b):CT (Kj a b) 181 [Bv a,Bv b] rB:=Fe f181 0xa60e919170d0d001a1 [] (Kj.eq_1 ..)
instance(a b):CT (Mz a b) 123 [DY a,DY b] rB:=Fe f123 0xa696244255244277962242552242770e6c1f426c1f42770e6c1c426c1c42770e6c19426c194270d338d33801a1 [] (Mz.eq_1 ..)
instance(a b):CT (Jp a b) 64 [AL a,DY b] rB:=Fe f64 0xa60ed6d65a60264b11c97d6c19426c1c42d3385501a1 [] (Jp.eq_1 ..)
instance(a b c d):CT (Jc a b c d) 31 [AL a,(eL 25 CB) b,DY c,DY d] rI:=Fe f31 0xe2d76c1c426c1c42aab4d65501b4d69f80c5117d1046bb9e6236 [] (Jc.eq_1 ..)
instance(a b):CT (EJ a b) 36 [lI a,lI b] (rO lI):=B1 f36 0xee05770908055a97a9d1c5dbb27f06dbb27f063c01f972617f65db08055a9ad5c0fe6a02 [] (EJ.eq_1 ..) (BH 0 10 9 0 (hO 5 lI))
instance(a):CT (Nu a) 75 [Bm a] (rS Bm):=Fk f75 0xac6c5e02e9115e0597d9a801d10ef5a882615e0265e9115e05e7a8035010c93f3f0ef30ec610c99300 [.Aap [.w 9,.w 13],.Aap [.g 14 0 2,.g 14 1 2,.z ⟨X,.list 1 []⟩]] [.cell 2 (Y 3)] λr h b c=>by
  unfold Nu at h;have:=BH 0 19 18 0 λs0:AG=>[(3,.bx [⟨X,lI s0.d3.ci⟩,⟨X,lE s0.d3.c9⟩,⟨X,(eL 1 lI) s0.eh⟩])];exact nz
instance(a b):CT (Ja a b) 35 [DY a,Hg b] (rS CX):=Fk f35 0x4013b094b124604460e8422425d0e7422425c6c1f4211460e6c1f4214c9a1 [] [.cell 4 (Y 9)] λr h c d=>by
  unfold Ja at h;exact nz
instance(a b c d):CT (LT a b c d) 218 [AL a,A5 b,A5 c,eB d] (rT (eL 2 A8) eI):=Fe f218 0x8182730e011346df9f02c0f4dfc540936237 [] (LT.eq_1 ..)
instance(a b c d):CT (Eu a b c d) 166 [AL a,BQ b,Bm c,eB d] (rT (eL 3 Bv) eI):=B1 f166 0x81ee0d0128fb0dd4069728fb0dd40628fb0dd4063c02034803470946bb0272e8556c9b89f15502430dfa28fb0dd4069a8103c05903c080e8bb38d09f03c0be6c9b55fc40936237 [] (Eu.eq_1 ..) (BH 0 40 39 0 (hO 13 (eL 3 Bv)))
instance(a b c):CT (E8 a b c) 103 [AL a,CB b,Bm c] (rT (eL 3 Bv) eI):=B1 f103 0x81ee0b012625240bc307972625240bc3072625240bc3073c02034803476c0272264b11497d6c6cd355ac0fc9d8430bfa2625240bc3079a8103c05903c080e8030f426c9bb69f03c0be6cd355fc4093a1 [] (E8.eq_1 ..) (BH 0 38 37 0 (hO 11 (eL 3 Bv)))
instance(a b c):CT (E9 a b c) 105 [CX a,eI b,DY c] (rS CX):=Fk f105 0x6013b094b124604460e8422428407420e7422427407426c1f421546016c5b38820448044714466c1942708c413814c96236 [] [.cell 6 (Y 9)] λr h d e=>by
  unfold E9 at h;exact nz
instance(a b c):CT (NJ a b c) 109 [eI a,lI b,lI c] (rT lI eB):=B1 f109 0x8182180801100f0e0802055f100f0e080205100f0e0802053cf68d36145901c08a05f917cf01145a17cf0114ff100f0e08020585f801c0870561a560818d08fa100f0e0802059a81991a3647364002e0 [] (NJ.eq_1 ..) (BH 0 16 15 0 (hX 8 1 eI))
noncomputable def cg:PC:=PC.of OD f171.body (xq bT 0xad013c3b3a05cc065f3c3b3a05cc063c3b3a05cc063c1f0141087c0151011e014108b1385900d2381f0141087c014fa2011e014108b138ff3c3b3a05cc068a20011d014108b1773f6c6c777f8d0307b15a8d0307b1ac81f0d8436afa3c3b3a05cc06e7017c03b1acf0074617cf911d5b08b117cf5d1d5b08b15cacf0d87e377c5b5b3859da377c5b5b3860151d014108b16a01) [.bin (.a [0,0,0]) .neq (.s 85) (.s 86)]
theorem AAP:CK f171 cg [.tmp 2]:=c!
theorem AAs:PC.x7 cg=X/\PC.x9 0 cg=X:=c!
abbrev Q_171(n:Nat):Prop:=∀(a:Bc),CT (CU n a) 171 [.undef] (λr=>.bo (Cr a) (Cr r.2) 0 [eB r.1])
theorem zh(n:Nat)(_ih_171:Q_171 n)(a:Bc):CT (CU (n+1) a) 171 [.undef] (λr=>.bo (Cr a) (Cr r.2) 0 [eB r.1]):=iP AAP AAs λr h c b d=>by
  unfold cg;unfold f171;unfold CU at h;have:=BH 0 60 59 0 λs0:Bc=>[(0,.bx (Cr s0))];exact nz
theorem zg:∀n:Nat,Q_171 n:=by
  intro n
  induction n with
  |zero=>exact(λa=>⟨λ_ h=>d_⟩)
  |succ n b=>exact zh n b
instance(x_0):CT (KF x_0) 171 [.undef] (λr=>.bo (Cr x_0) (Cr r.2) 0 [eB r.1]):=⟨λr h=>by
  obtain ⟨N,a⟩:=Cy h;exact((zg N) x_0).snd r (a N (az _))⟩
instance(a b c):CT (Jb a b c) 231 [A5 a,eI b,eI c] rI:=B1 f231 0xd50701c80b07a90697c80b07a906c80b07a9065f018a7f915a015dacf0d84307fac80b07a906e7b6819ea902 [] (Jb.eq_1 ..) (BH 0 13 12 0 (hT 7 eI))
instance(a):CT (Gi a) 172 [.pt (kO a).cells] rB:=B1 f172 0xade911cc0597aa050e018d74087cbb5b037c7036555b5b5ba50e8d74087c36555b037c7036555b5b5b6081616a65e911cc05e75b087c607174087c9201 [] (Gi.eq_1 ..) (BM 0 19 18 0)
noncomputable def cf:PC:=PC.of OD f110.body (xq bT 0xad011e1d1ccc055f1e1d1ccc051e1d1ccc053c1f5b087c0151011e5b08b138aa0052380120381f5b087c014fa2011e5b08b138ff1e1d1ccc058ab48d5e4103b18d5e7c5b387720011d5b08b177058d745b5b5b38360a7f8d0306b15a8d0306b19d616afa1e1d1ccc05e75b5b03b159005238da745b5b5b3860151d5b08b16a01) []
theorem AAO:CK f110 cf [.tmp 2]:=c!
theorem AAr:PC.x7 cf=X/\PC.x9 0 cf=X:=c!
abbrev Q_110(n:Nat):Prop:=∀(a:Bc),CT (CW n a) 110 [.undef] (λr=>.bo (Cr a) (Cr r.2) 0 [eB r.1])
theorem zW(n:Nat)(_ih_110:Q_110 n)(a:Bc):CT (CW (n+1) a) 110 [.undef] (λr=>.bo (Cr a) (Cr r.2) 0 [eB r.1]):=iP AAO AAr λr h c b d=>by
  unfold cf;unfold f110;unfold CW at h;have:=BH 0 30 29 0 λs0:Bc=>[(0,.bx (Cr s0))];exact nz
theorem zV:∀n:Nat,Q_110 n:=by
  intro n
  induction n with
  |zero=>exact(λa=>⟨λ_ h=>d_⟩)
  |succ n b=>exact zW n b
instance(x_0):CT (Hw x_0) 110 [.undef] (λr=>.bo (Cr x_0) (Cr r.2) 0 [eB r.1]):=⟨λr h=>by
  obtain ⟨N,a⟩:=Cy h;exact((zV N) x_0).snd r (a N (az _))⟩
instance(a b c d):CT (Dz a b c d) 53 [Bm a,Bm b,A8 c,A8 d] (rT A8 eB):=Fk f53 0x8189bb087c5b483e6a525b00c2bf1646366c6c598900468a08360860e85d5d0bf381e8ec0bc6598900468a71f30bf35a0bc60bc66ac962a1 [.Abk [W,W,W,W,W,W,W,W,Y ⟨X,.xl 1 []⟩,Y ⟨X,.xl 1 []⟩] (.s 71)] [.cell 8 (Y 2),.tmp 9] λr h e f=>by
  unfold Dz at h;exact nz
instance(a b):CT (NI a b) 108 [CX a,CX b] rB:=Fe f108 0x81608900497d5507425507426cb56cb501a1 [] (NI.eq_1 ..)
instance(a b):CT (G9 a b) 107 [CX a,.pt (CX b).cells] rB:=Fe f107 0x810ea7a79e36 [] (G9.eq_1 ..)
instance(a b c d):CT (IK a b c d) 51 [AL a,(eL 25 CB) b,CX c,eI d] (rT (eL 9 CX) eI):=iO f51 0x81ee0a01c4ed055f01c4ed710aed0528fbc4ed089728fbc4ed083d3c3b28fbc8c4ed0d5f3d3c3b28fbc8c4ed0d3d3c3b28fbc8c4ed0d3c0209480947a7025909c0da753d3c3b28fbc8c4ed0d8e1001143d094b14c90ed601a709bd5909c0da745b1f425909c080264b11c97d6c6c044109bdd355ac0fc9d84328fbc4ed08653d3c3b28fbc8c4ed0d9ae209c080e86c044109bdd355194b810cc9d3197ec4ed056528fbc4ed089a81ffc4ed0585010b8c7c09bd0a01eac4ed0581820947a7010940623702 [] (IK.eq_1 ..) (⟨⟩:HW 0 λ(e:List A7×Int)=>[(10,.ow ((eL 9 CX) e.1)),(11,.tv (eI e.2))]) (BH 2 40 39 0 (hO 10 (eL 9 CX))) (BH 4 61 60 0 (hO 10 (eL 9 CX)))
instance(a):CT (DZ a) 52 [CX a] rB:=Fe f52 0xa60e840742707407429e00 [] (DZ.eq_1 ..)
instance(a b c d e f):CT (Kr a b c d e f) 27 [AL a,(eL 25 CB) b,DY c,DY d,eI e,eB f] (rT cZ eI):=Fk f27 0xa64b17460c01646312110c050697646312110c05066968676463e9110c050a976968676463e9110c050a6f6e6d696867646315e9110c050e5f6f6e6d696867646315e9110c050e6f6e6d696867646315e9110c050ea64b184655e338e3389d89f17ddf6cb56cb56f6e6d696867646319181715e9110c05111918023b6f6e6d696867646319181715e9110c05113c8989550742550742818989f1f100460046ff6f6e6d696867646315e9110c050e8a0a0a0ea770a701a55a0b8c41380b8c4138094b14c9a709436968676463e9110c050a656f6e6d696867646315e9110c050e9a81094b14c9a70943646312110c0506656968676463e9110c050a9a9d010cfa646312110c050681857f590a4b0117468536e87055d6019f0a4b0117468536e87055d6019f0a4b0117f789f17dd6d6590a4b17468a71745b1f425a0b745b1f42590a4b17468ae57f590a4b0117f70ed6d6bb0115c993626bfc [] [.cell 12 (Y 10),.tmp 13] λr h g i=>by
  unfold Kr at h;have:=BH 0 100 99 0 λs0:Aaf=>[(12,.bx [⟨X,lI s0.gl.ng.d3.ci⟩,⟨X,lE s0.gl.ng.d3.c9⟩,⟨X,(eL 1 lI) s0.gl.ng.eh⟩,⟨X,(eL 4 ND) s0.gl.ln⟩,⟨X,lI s0.ec.ng.d3.ci⟩,⟨X,lE s0.ec.ng.d3.c9⟩,⟨X,(eL 1 lI) s0.ec.ng.eh⟩,⟨X,(eL 4 ND) s0.ec.ln⟩,⟨X,lI s0.Iso.ci⟩,⟨X,lI s0.Iso.c9⟩])];have:=BH 2 105 104 0 λs2:Aaf=>[(12,.bx [⟨X,lI s2.gl.ng.d3.ci⟩,⟨X,lE s2.gl.ng.d3.c9⟩,⟨X,(eL 1 lI) s2.gl.ng.eh⟩,⟨X,(eL 4 ND) s2.gl.ln⟩,⟨X,lI s2.ec.ng.d3.ci⟩,⟨X,lE s2.ec.ng.d3.c9⟩,⟨X,(eL 1 lI) s2.ec.ng.eh⟩,⟨X,(eL 4 ND) s2.ec.ln⟩,⟨X,lI s2.Iso.ci⟩,⟨X,lI s2.Iso.c9⟩])];have:=BH 4 111 110 0 λs4:Aaf=>[(12,.bx [⟨X,lI s4.gl.ng.d3.ci⟩,⟨X,lE s4.gl.ng.d3.c9⟩,⟨X,(eL 1 lI) s4.gl.ng.eh⟩,⟨X,(eL 4 ND) s4.gl.ln⟩,⟨X,lI s4.ec.ng.d3.ci⟩,⟨X,lE s4.ec.ng.d3.c9⟩,⟨X,(eL 1 lI) s4.ec.ng.eh⟩,⟨X,(eL 4 ND) s4.ec.ln⟩,⟨X,lI s4.Iso.ci⟩,⟨X,lI s4.Iso.c9⟩])];exact nz
instance(a b c d e):CT (G8 a b c d e) 10 [AL a,(eL 25 CB) b,DY c,DY d,eI e] (rT cZ eI):=Fk f10 0xa64b730e01d6d6bb0115c9936204c5 [] [.cell 10 (Y 10),.tmp 11] λr h f g=>by
  unfold G8 at h;exact nz
instance(a):CT (LG a) 184 [eI a] (rO lI):=B1 f184 0x82183709088c97f63614d5376509088c819514993f36400001 [.mkx 1 [.int .i64 0] (.s 5)] (LG.eq_1 ..) (BH 0 9 8 0 (hX 3 1 eI))
instance(a):CT (H5 a) 124 [A5 a] (rT A8 eI):=Fk f124 0xa93b818904460ef20ec159896af7966ac99300 [] [.cell 2 (Y 2),.tmp 3] λr h b c=>by
  unfold H5 at h;exact nz
instance(a):CT (Gl a) 67 [A5 a] (rS A8):=Fk f67 0x89550189f17d55f19300 [] [.cell 2 (Y 2)] λr h b c=>by
  unfold Gl at h;exact nz
instance(a b):CT (K9 a b) 68 [lI a,lI b] (rO lI):=B1 f68 0x82187f0cc4055a970cc4055a0cc4055a3cf68d3614728117cf5afa0cc4055a819594991a36406a02 [] (K9.eq_1 ..) (BH 0 12 11 0 (hX 5 1 eI))
instance(a):CT (Nl a) 69 [Bm a] (rS Bm):=Fk f69 0xac6c5e02e9115e0597d9a801d10ef5a882615e0265e9115e05e7a8035010c93f3f0ef30ec610c99300 [.Aap [.w 9,.w 13],.Aap [.g 14 0 2,.g 14 1 2,.z ⟨X,.list 1 []⟩]] [.cell 2 (Y 3)] λr h b c=>by
  unfold Nl at h;have:=BH 0 19 18 0 λs0:AG=>[(3,.bx [⟨X,lI s0.d3.ci⟩,⟨X,lE s0.d3.c9⟩,⟨X,(eL 1 lI) s0.eh⟩])];exact nz
instance(a b c):CT (Gu a b c) 33 [AL a,(eL 25 CB) b,Wj c] (λr=>.tp [Bm r.1,A8 r.2.1,eI r.2.2]):=Fk f33 0x78023b8189ac550e6cc87804252423c87807970c013b89ac04460e8422425d0e7422425c6c1f42264b11c9d62643c8780465252423c878079a8189acf110c9965b386c385989ac6a4619f70182117de3bb6ac910c96236 [] [.cell 6 (Y 3),.cell 7 (Y 2),.tmp 8] λr h d e=>by
  unfold Gu at h;have:=BH 0 37 36 0 λs0:AG×d4=>[(12,.bx [⟨T,lI s0.1.d3.ci⟩,⟨T,lE s0.1.d3.c9⟩,⟨T,(eL 1 lI) s0.1.eh⟩]),(13,.bx [⟨T,lI s0.2.ci⟩,⟨T,lI s0.2.c9⟩])];exact nz
instance(a b):CT (MZ a b) 72 [eI a,.pt (Bm b).cells] rB:=Fe f72 0x8171c601ba [] (MZ.eq_1 ..)
instance(a b):CT (Ma a b) 73 [eI a,.pt (Bm b).cells] rB:=Fe f73 0x8171f301ba [] (Ma.eq_1 ..)
instance(a):CT (PK a) 74 [eI a] (rO lI):=B1 f74 0xee37d48c97a9d1c5d53765d48c9d01c0fe0001 [] (PK.eq_1 ..) (BH 0 6 5 0 (hO 3 lI))
instance(a b c):CT (Il a b c) 34 [Bm a,Bm b,A8 c] rB:=Fe f34 0xa60e5d5d770eec368189f17d5504460ef20ec16c6caa0e105d70105caa050e01d10ea25d5c7771f3f25a0bc6c19ea1 [] (Il.eq_1 ..)
instance(a b c d e):CT (PJ a b c d e) 13 [AL a,(eL 25 CB) b,DY c,DY d,cZ e] (rT eB eB):=Fe f13 0x9d0a0e5d0e8408425d705c0e7408425c59818e0ea25d5c5d5c8904460e5d5d0eec8904460e5d5d0eec8989f1f13f96d63f96d60189f17dd6d659818a089608426c6c7705a56089acf110c9117de3b5bb8189acf110c9117de338019f818ab46c1f426c5bb577b46c1f426c5b385a0ed6d6bb36626236 [.AbA (.s 86) 7 2 X,.AbA (.s 90) 7 2 X] (PJ.eq_1 ..)
instance(a b c d e):CT (Sv a b c d e) 14 [AL a,(eL 25 CB) b,DY c,DY d,eI e] (rT cZ eI):=Fk f14 0xa64b730e01d6d6bb0115c9936204c5 [] [.cell 10 (Y 10),.tmp 11] λr h f g=>by
  unfold Sv at h;exact nz
end Go.Sf.Sc
