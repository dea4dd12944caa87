/- Contracts of the functions. -/
import Derived.Test.YtiefejhapgafkaaGreatCon2
set_option linter.all false
set_option maxRecDepth 100000
set_option maxHeartbeats 4000000
open Option renaming some->Y,none->W
open Bool renaming true->X,false->T
namespace Go.Sf.Sc
open Go Go.Sf Go.Proofs.Tryz
instance(a b c d):CT (IU a b c d) 167 [AL a,CH b,Bn c,By d] (rT Df eI):=Fk f167 0x81264bd30f3e59264b1d468a7037771f425a0b745b1f4259264b011df80152a2525555024a24420e460ef9802242f3800d42800b420b3777d40ee0742242c3740d42740b420b745bd4024a22420e460e5d0bf30e5c0bc33f19c922460e6c0e6cd059264b1d46880159264b011d4685368178030f426c6ca810429bc19f264b011d46853689d878c6550b42c69f264b011df889fd78c6c6555bc19f264b011df80e6c6cd0a214c962a1 [.stq 38 [W,W,W,W,W,W,W,W,W,W,W,W,W,W,W,W,W,W,W,W,W,W,W,W,W,W,W,W,W,W,W,Y ⟨X,.list 1 []⟩,Y ⟨X,.list 3 []⟩,Y ⟨X,.xn []⟩,W,W,W,W] (.s 15) (.s 82)] [.cell 8 (Y 38),.tmp 9] λr h e f=>by
  unfold IU at h;exact nz
instance(a b c d):CT (FY a b c d) 116 [AL a,CH b,Bn c,By d] (rT Df eI):=Fk f116 0x81264b730e6c6cd09f264b011df80e6cd0a214c962a1 [] [.cell 8 (Y 38),.tmp 9] λr h e f=>by
  unfold FY at h;exact nz
instance(a b c d):CT (Fc a b c d) 124 [AL a,(eL 25 CH) b,Bn c,NS d] (rT Df eI):=Fk f124 0x8013b81264b730e6cc16cd019439a9f264b1d468a70015c5a9a14c9936236 [] [.cell 8 (Y 38),.tmp 9] λr h e f=>by
  unfold Fc at h;exact nz
instance(a b c):CT (EF a b c) 65 [AL a,(eL 25 CH) b,Ww c] (λr=>.tp [(eL 38 Df) r.1,eI r.2.1,eI r.2.2]):=B3 f65 0x9d820bda0a0121201fe13707920b013bad026c1f4226482647d302fb26c03671264b14c978d96ced044b811ac9d9de0afc21201fe13707e30342ad11c96c3826c0fb26c0d1ccfb26c0bd6c38ed3626406236 [] (EF.eq_1 ..) (BH 0 33 32 0 λs0:List AT×AE=>[(10,.ow ((eL 38 Df) s0.1)),(11,.bx [⟨T,lI s0.2.d3.dl⟩,⟨T,lE s0.2.d3.dr⟩,⟨T,(eL 1 lI) s0.2.ec⟩])])
instance(a b):CT (FU a b) 178 [A9 a,A9 b] rB:=Fe f178 0xb70e5d5d725c9aa1 [] (FU.eq_1 ..)
instance(a b):CT (Rh a b) 297 [A5 a,A5 b] rB:=Fe f297 0xb70e5d5d725c9aa1 [] (Rh.eq_1 ..)
instance(a b):CT (HF a b) 229 [BS a,BS b] rB:=Fe f229 0xb70ecb42cb7deeb45e7da6cccc72c6c601a1 [] (HF.eq_1 ..)
abbrev Q_230(n:Nat):Prop:=∀(a:d5)(b:d5),CT (C6 n a b) 230 [AI a,AI b] rB
theorem AAY(n:Nat)(_ih_230:Q_230 n)(a:d5)(b:d5):CT (C6 (n+1) a b) 230 [AI a,AI b] rB:=Fj f230 0xb73f5dbbeecb42cb4272b4b4aab5f3f3010ab5c3c301a6cc907d0a0896be55be5a5c5cb9b908c908c99bf29b047da1 [.call 300 [.s 65,.s 67,.c (.clo 230 [])]] λh=>by
  unfold C6 at h;exact nz
theorem AAX:∀n:Nat,Q_230 n:=by
  intro n
  induction n with
  |zero=>exact(λa b=>⟨λ_ h=>c!⟩)
  |succ n c=>exact AAY n c
instance(a b):CT (NP a b) 230 [AI a,AI b] rB:=⟨λr h=>by
  obtain ⟨N,c⟩:=C3 h;exact((AAX N) a b).snd r (c N (az _))⟩
instance(a b):CT (M6 a b) 176 [CH a,CH b] rB:=Fe f176 0xb70ea81042a8107d0a960d42550d7dee800b42800b7dee740b42740b7dee9bd49b067dee9bc19b017d0a07030f42030f7d065c9aa1 [] (M6.eq_1 ..)
instance(a b):CT (K5 a b) 177 [By a,By b] rB:=Fe f177 0xb70eb4b472c6c601a1 [] (K5.eq_1 ..)
instance(a b):CT (NC a b) 125 [Df a,Df b] rB:=Fe f125 0xb796244255247d0a96224255227dee6c1f426c1f7dee6c1c426c1c7dee6c19426c194272d038d03801a1 [] (NC.eq_1 ..)
instance(a b):CT (J4 a b) 66 [AL a,Df b] rB:=Fe f66 0xb70ed3d35a60264b14c9786c19426c1c42d038a2a1 [] (J4.eq_1 ..)
instance(a b c d):CT (Jr a b c d) 26 [AL a,(eL 25 CH) b,Df c,Df d] rI:=Fe f26 0xdfd56c1c426c1c42aab5d3a2b5d39f7fda1178234601a2936236 [] (Jr.eq_1 ..)
instance(a):CT (G8 a) 180 [eI a] (rO lI):=B3 f180 0x82183709089092f53614c43765090890819514993f36400001 [.mkx 1 [.int .i64 0] (.s 5)] (G8.eq_1 ..) (BH 0 9 8 0 (hX 3 1 eI))
instance(a):CT (Gb a) 126 [A5 a] (rT A9 eI):=Fk f126 0xa93b81890e460ef90ee05989010df89601d8b8 [] [.cell 2 (Y 2),.tmp 3] λr h b c=>by
  unfold Gb at h;exact nz
instance(a):CT (EI a) 69 [A5 a] (rS A9):=Fk f69 0x89a289d87855d8b8 [] [.cell 2 (Y 2)] λr h b c=>by
  unfold EI at h;exact nz
instance(a b):CT (G5 a b) 70 [lI a,lI b] (rO lI):=B3 f70 0x8218840c0ba65a920c0ba65a0c0ba65a3cf58c3614718117cd5afc0c0ba65a819594991a36406b02 [] (G5.eq_1 ..) (BH 0 12 11 0 (hX 5 1 eI))
instance(a):CT (IF a) 71 [Bn a] (rS Bn):=Fk f71 0xad6c5e02e6115e0592e8027dcf0e0104be82615e0265e6115e05e3be035011c93f3f0ef30ec311c9b8 [.Aaj [.w 9,.w 13],.Aaj [.g 14 0 2,.g 14 1 2,.z ⟨X,.list 1 []⟩]] [.cell 2 (Y 3)] λr h b c=>by
  unfold IF at h;have:=BH 0 19 18 0 λs0:AE=>[(3,.bx [⟨X,lI s0.d3.dl⟩,⟨X,lE s0.d3.dr⟩,⟨X,(eL 1 lI) s0.ec⟩])];exact nz
instance(a b c):CT (Eb a b c) 28 [AL a,(eL 25 CH) b,Ww c] (λr=>.tp [Bn r.1,A9 r.2.1,eI r.2.2]):=Fk f28 0x706023b8189ad550e6cc8070604252423c8070607920c013b89ad0e460e8022425d0e7422425c6c1f42264b14c9d32643c807060465252423c8070607978189add811c9965b386c385989ad010d461cf801821178d901a2d811c96236 [] [.cell 6 (Y 3),.cell 7 (Y 2),.tmp 8] λr h d e=>by
  unfold Eb at h;have:=BH 0 37 36 0 λs0:AE×d4=>[(12,.bx [⟨T,lI s0.1.d3.dl⟩,⟨T,lE s0.1.d3.dr⟩,⟨T,(eL 1 lI) s0.1.ec⟩]),(13,.bx [⟨T,lI s0.2.dl⟩,⟨T,lI s0.2.dr⟩])];exact nz
instance(a b c):CT (Jo a b c) 121 [eI a,lI b,lI c] (rT lI eB):=B3 f121 0x8182180801100f0e0802055f100f0e080205100f0e0802053cf58c36145901c08a05f717cd01145a17cd0114ff100f0e08020585015901c0870561a560818c08fc100f0e0802059781991a3647364002dd [] (Jo.eq_1 ..) (BH 0 16 15 0 (hX 8 1 eI))
noncomputable def dE:PC:=PC.of OP f171.body (xq bT 0xac013c3b3a05c5065f3c3b3a05c5063c3b3a05c5063c1f014108770151011e014108b1385900d2381f01410877014fb2011e014108b138ff3c3b3a05c5068a20011d014108b1010a3f6c6c010a848c0307b15a8c0307b1ad81f1d6436bfc3c3b3a05c506e3017703b1adf1074617cdb41d5b08b117cd5d1d5b08b15cadf1d67e37775b5b3859d137775b5b3860151d014108b16b01) [.bin (.a [0,0,0]) .neq (.s 85) (.s 86)]
theorem AAu:CK f171 dE [.tmp 2]:=c_
theorem ABN:PC.t1 dE=X/\PC.t2 0 dE=X:=c_
abbrev Q_171(n:Nat):Prop:=∀(a:Bc),CT (Bu n a) 171 [.undef] (λr=>.bo (Cx a) (Cx r.2) 0 [eB r.1])
theorem AAQ(n:Nat)(_ih_171:Q_171 n)(a:Bc):CT (Bu (n+1) a) 171 [.undef] (λr=>.bo (Cx a) (Cx r.2) 0 [eB r.1]):=ir AAu ABN λr h c b d=>by
  unfold dE;unfold f171;unfold Bu at h;have:=BH 0 60 59 0 λs0:Bc=>[(0,.bx (Cx s0))];exact nz
theorem AAP:∀n:Nat,Q_171 n:=by
  intro n
  induction n with
  |zero=>exact(λa=>⟨λ_ h=>c!⟩)
  |succ n b=>exact AAQ n b
instance(x_0):CT (IC x_0) 171 [.undef] (λr=>.bo (Cx x_0) (Cx r.2) 0 [eB r.1]):=⟨λr h=>by
  obtain ⟨N,a⟩:=C3 h;exact((AAP N) x_0).snd r (a N (az _))⟩
instance(a b c):CT (Jn a b c) 217 [A5 a,eI b,eI c] rI:=B3 f217 0xc40701c80b07a90692c80b07a906c80b07a9065f018a84b45a015dadf1d64307fcc80b07a906e3c1c493a902 [] (Jn.eq_1 ..) (BH 0 13 12 0 (hT 7 eI))
instance(a):CT (Gw a) 172 [.pt (lC a).cells] rB:=B3 f172 0xace611c50592aa050e018c740877ed5b03777236555b5b5ba50e8c74087736555b03777236555b5b5b6081616b65e611c505e35b087760707408779101 [] (Gw.eq_1 ..) (BN 0 19 18 0)
noncomputable def dB:PC:=PC.of OP f122.body (xq bT 0xac011e1d1cc5055f1e1d1cc5051e1d1cc5053c1f5b08770151011e5b08b138aa0052380120381f5b0877014fb2011e5b08b138ff1e1d1cc5058ab58c5e4103b18c5e775b38010a20011d5b08b101a68c745b5b5b38360a848c0306b15a8c0306b19d616bfc1e1d1cc505e35b5b03b159005238d1745b5b5b3860151d5b08b16b01) []
theorem AAt:CK f122 dB [.tmp 2]:=c_
theorem ABM:PC.t1 dB=X/\PC.t2 0 dB=X:=c_
abbrev Q_122(n:Nat):Prop:=∀(a:Bc),CT (Bv n a) 122 [.undef] (λr=>.bo (Cx a) (Cx r.2) 0 [eB r.1])
theorem AAI(n:Nat)(_ih_122:Q_122 n)(a:Bc):CT (Bv (n+1) a) 122 [.undef] (λr=>.bo (Cx a) (Cx r.2) 0 [eB r.1]):=ir AAt ABM λr h c b d=>by
  unfold dB;unfold f122;unfold Bv at h;have:=BH 0 30 29 0 λs0:Bc=>[(0,.bx (Cx s0))];exact nz
theorem AAH:∀n:Nat,Q_122 n:=by
  intro n
  induction n with
  |zero=>exact(λa=>⟨λ_ h=>c!⟩)
  |succ n b=>exact AAI n b
instance(x_0):CT (Ga x_0) 122 [.undef] (λr=>.bo (Cx x_0) (Cx r.2) 0 [eB r.1]):=⟨λr h=>by
  obtain ⟨N,a⟩:=C3 h;exact((AAH N) x_0).snd r (a N (az _))⟩
instance(a b c d):CT (Dm a b c d) 64 [Bn a,Bn b,A9 c,A9 d] (rT A9 eB):=Fk f64 0x8189ed08775b483e6b525b00c2bf2446366c6c59890d468a08360860e45d5d0bf381e45c5c0bc359890d468a70f30bf35a0bc30bc301d862a1 [.Abi [W,W,W,W,W,W,W,W,Y ⟨X,.xl 1 []⟩,Y ⟨X,.xl 1 []⟩] (.s 71)] [.cell 8 (Y 2),.tmp 9] λr h e f=>by
  unfold Dm at h;exact nz
instance(a b):CT (Jp a b) 74 [eI a,.pt (Bn b).cells] rB:=Fe f74 0x8170c301ba [] (Jp.eq_1 ..)
instance(a b):CT (Jq a b) 75 [eI a,.pt (Bn b).cells] rB:=Fe f75 0x8170f301ba [] (Jq.eq_1 ..)
instance(a):CT (Ks a) 76 [eI a] (rO lI):=B3 f76 0xf0379e9092a9cfdac437659e909d01c001400001 [] (Ks.eq_1 ..) (BH 0 6 5 0 (hO 3 lI))
instance(a b c):CT (Fh a b c) 29 [Bn a,Bn b,A9 c] rB:=Fe f29 0xb70e5dbbee5c5c368189d878550e460ef90ee06c6caa0e105d72105caa050e01cf0eb25d9a0a70f3f95a0bc30b9afa [] (Fh.eq_1 ..)
instance(a b):CT (Cv a b) 31 [lI a,lI b] (rO lI):=B3 f31 0xf084b608055a92a9cfdab67c8406b67c84063c01f771618465b608055a97c4c001406b02 [] (Cv.eq_1 ..) (BH 0 10 9 0 (hO 5 lI))
instance(a):CT (N6 a) 77 [Bn a] (rS Bn):=Fk f77 0xad6c5e02e6115e0592e8027dcf0e0104be82615e0265e6115e05e3be035011c93f3f0ef30ec311c9b8 [.Aaj [.w 9,.w 13],.Aaj [.g 14 0 2,.g 14 1 2,.z ⟨X,.list 1 []⟩]] [.cell 2 (Y 3)] λr h b c=>by
  unfold N6 at h;have:=BH 0 19 18 0 λs0:AE=>[(3,.bx [⟨X,lI s0.d3.dl⟩,⟨X,lE s0.d3.dr⟩,⟨X,(eL 1 lI) s0.ec⟩])];exact nz
instance(a b):CT (HN a b) 30 [Df a,Ht b] (rS Ca):=Fk f30 0x4013b094b26460e460e8022425d0e7422425c6c1f4225460e6c1f421bc9a1 [] [.cell 4 (Y 9)] λr h c d=>by
  unfold HN at h;exact nz
instance(a b c d e):CT (FT a b c d e) 9 [AL a,(eL 25 CH) b,Df c,Df d,cw e] (rT eB eB):=Fe f9 0x9dee5d0e8008425d725c0e7408425cfb8e0eb25d5c5d5c890e460e5d5d0e5c5c890e460e5d5d0e5c5c8989d8d83f96d33f96d30189d878d3d3fb8a089608426c6c01a6a56089add811c91178d9047d558189add811c91178d938019f818ab56c1f426c5b047d0ab56c1f426c5b385a0ed3d3ed36626236 [.Abs (.s 86) 7 2 X,.Abs (.s 90) 7 2 X] (FT.eq_1 ..)
instance(a b c d):CT (Lk a b c d) 204 [AL a,A5 b,A5 c,eB d] (rT (eL 2 A9) eI):=Fe f204 0x8182730e012d4655559f02c0f655a20240936237 [] (Lk.eq_1 ..)
instance(a b c d):CT (E1 a b c d) 166 [AL a,BS b,Bn c,eB d] (rT (eL 3 By) eI):=B3 f166 0x81f00d012827260d9e06922827260d9e062827260d9e063c02034803471846ed0271e4556c9b89d85502430dfc2827260d9e06978103c05903c07fe401c6c69f03c0bd6c9ba20340936237 [] (E1.eq_1 ..) (BH 0 40 39 0 (hO 13 (eL 3 By)))
instance(a b c):CT (FE a b c) 115 [AL a,CH b,Bn c] (rT (eL 3 By) eI):=B3 f115 0x81f00b012625240bea07922625240bea072625240bea073c02034803476c0271264b1449786c6cd055ad18c9d6430bfc2625240bea07978103c05903c07fe4030f426c9bc19f03c0bd6cd0a20340fa [] (FE.eq_1 ..) (BH 0 38 37 0 (hO 11 (eL 3 By)))
instance(a b c):CT (FG a b c) 117 [Ca a,eI b,Df c] (rS Ca):=Fk f117 0x6013b094b26460e460e8022428007420e7422427407426c1f422f46016c5b3882044804472e466c1942729041381bc96236 [] [.cell 6 (Y 9)] λr h d e=>by
  unfold FG at h;exact nz
instance(a b):CT (NX a b) 120 [Ca a,Ca b] rB:=Fe f120 0x8160890c49785507425507426cf26c047da1 [] (NX.eq_1 ..)
instance(a b):CT (HO a b) 119 [Ca a,.pt (Ca b).cells] rB:=Fe f119 0x810ea8a801dc [] (HO.eq_1 ..)
instance(a b c d):CT (IY a b c d) 62 [AL a,(eL 25 CH) b,Ca c,eI d] (rT (eL 9 Ca) eI):=iq f62 0x81f00a01e1f4055f01e1f4700af405282726e1f40892282726e1f4083d3c3b282726c8e1f40d5f3d3c3b282726c8e1f40d3d3c3b282726c8e1f40d3c0209480947a8025909c0d1753d3c3b282726c8e1f40d8e1001143d094b1bc90ed301a809bc5909c0d1745b1f425909c07f264b14c9786c6c044109bcd055ad18c9d643282726e1f408653d3c3b282726c8e1f40d97df09c07fe46c044109bcd055194b8110c9d0197ee1f40565282726e1f4089781ffe1f40585010b907709bc0a01e9e1f40581820947a8010940623702 [] (IY.eq_1 ..) (⟨⟩:HW 0 λ(e:List A7×Int)=>[(10,.ow ((eL 9 Ca) e.1)),(11,.tv (eI e.2))]) (BH 2 40 39 0 (hO 10 (eL 9 Ca))) (BH 4 61 60 0 (hO 10 (eL 9 Ca)))
instance(a):CT (Dg a) 63 [Ca a] rB:=Fe f63 0xb70e8007427274077db8 [] (Dg.eq_1 ..)
instance(a b c d e f):CT (LB a b c d e f) 25 [AL a,(eL 25 CH) b,Df c,Df d,eI e,eB f] (rT cw eI):=Fk f25 0xb74b30460c01646312110c050692646312110c05066968676463e6110c050a926968676463e6110c050a6f6e6d696867646315e6110c050e5f6f6e6d696867646315e6110c050e6f6e6d696867646315e6110c050eb74b314655d938d9389d89d87855556cf26cf26f6e6d696867646319181715e6110c05111918023b6f6e6d696867646319181715e6110c05113c8989550742550742818989d8d80d460d46ff6f6e6d696867646315e6110c050e8a0aeea872a801a55a0b9041380b904138094b1bc9a809436968676463e6110c050a656f6e6d696867646315e6110c050e9781094b1bc9a80943646312110c0506656968676463e6110c050a979d010cfc646312110c0506818584590a4b0130468536e47255d3019f0a4b0130468536e47255d3019f0a4b0130f889d878d3d3590a4b30468a70745b1f425a0b745b1f42590a4b30468a053684590a4b0130f80ed3d301a21cc993626a0103 [] [.cell 12 (Y 10),.tmp 13] λr h g i=>by
  unfold LB at h;have:=BH 0 100 99 0 λs0:x8=>[(12,.bx [⟨X,lI s0.f0.j4.d3.dl⟩,⟨X,lE s0.f0.j4.d3.dr⟩,⟨X,(eL 1 lI) s0.f0.j4.ec⟩,⟨X,(eL 4 NS) s0.f0.kl⟩,⟨X,lI s0.eh.j4.d3.dl⟩,⟨X,lE s0.eh.j4.d3.dr⟩,⟨X,(eL 1 lI) s0.eh.j4.ec⟩,⟨X,(eL 4 NS) s0.eh.kl⟩,⟨X,lI s0.Iso.dl⟩,⟨X,lI s0.Iso.dr⟩])];have:=BH 2 105 104 0 λs2:x8=>[(12,.bx [⟨X,lI s2.f0.j4.d3.dl⟩,⟨X,lE s2.f0.j4.d3.dr⟩,⟨X,(eL 1 lI) s2.f0.j4.ec⟩,⟨X,(eL 4 NS) s2.f0.kl⟩,⟨X,lI s2.eh.j4.d3.dl⟩,⟨X,lE s2.eh.j4.d3.dr⟩,⟨X,(eL 1 lI) s2.eh.j4.ec⟩,⟨X,(eL 4 NS) s2.eh.kl⟩,⟨X,lI s2.Iso.dl⟩,⟨X,lI s2.Iso.dr⟩])];have:=BH 4 111 110 0 λs4:x8=>[(12,.bx [⟨X,lI s4.f0.j4.d3.dl⟩,⟨X,lE s4.f0.j4.d3.dr⟩,⟨X,(eL 1 lI) s4.f0.j4.ec⟩,⟨X,(eL 4 NS) s4.f0.kl⟩,⟨X,lI s4.eh.j4.d3.dl⟩,⟨X,lE s4.eh.j4.d3.dr⟩,⟨X,(eL 1 lI) s4.eh.j4.ec⟩,⟨X,(eL 4 NS) s4.eh.kl⟩,⟨X,lI s4.Iso.dl⟩,⟨X,lI s4.Iso.dr⟩])];exact nz
instance(a b c d e):CT (N5 a b c d e) 18 [AL a,(eL 25 CH) b,Df c,Df d,eI e] (rT cw eI):=Fk f18 0xb74b730e01d3d301a21cc9936204da [] [.cell 10 (Y 10),.tmp 11] λr h f g=>by
  unfold N5 at h;exact nz
instance(a b c d e):CT (S5 a b c d e) 8 [AL a,(eL 25 CH) b,Df c,Df d,eI e] (rT cw eI):=Fk f8 0xb74b730e01d3d301a21cc9936204da [] [.cell 10 (Y 10),.tmp 11] λr h f g=>by
  unfold S5 at h;exact nz
end Go.Sf.Sc
