/- Contracts of the functions. -/
import Derived.Test.YtiefejhapgafkaaGreatCon4
set_option linter.all false
set_option maxRecDepth 100000
set_option maxHeartbeats 4000000
open Option renaming some->Y,none->W
open Bool renaming true->X,false->T
open List renaming map->x!
namespace Go.Sf.Sc
open Go Go.Sf Go.Proofs.Tryz
instance(a b c d):CT (OH a b c d) 97 [AL a,BS b,AI c,Bn d] rB:=Fe f97 0xb7eea89b010a70f3010a70c301eea8726c9b555a0ea89b9f8ab56c010ab59b01b5a80162a1 [] (OH.eq_1 ..)
instance(a b c):CT (HV a b c) 48 [AL a,CH b,Bn c] rB:=Fe f48 0xb70e6ca810429bc1a2eed072a2fa [] (HV.eq_1 ..)
abbrev Q_49(n:Nat):Prop:=∀(p:d6)(c:d5)(a:Int),CT (Dt n p c a) 49 [BS p,AI c,eI a] rB
theorem ACb(n:Nat)(_ih_49:Q_49 n)(p:d6)(c:d5)(a:Int):CT (Dt (n+1) p c a) 49 [BS p,AI c,eI a] rB:=Fj f49 0x8184a90a07040204cad501a809e59b02758a053670bb0a0704020481070402030907040204765a0107040203ff8a053670f3010907040204810bf307db047cdb05765a0107db04ff8a053670c3017cdb05810bc307db0407db043cb99bf2855cb908c99b0162a9 [] λh=>by
  unfold Dt at h;have:HJ 14 λ(b:d6)=>[(7,.bx [⟨T,lI b.d3.dl⟩,⟨T,lE b.d3.dr⟩,⟨T,lS b.ei⟩,⟨T,eI b.em⟩,⟨T,lT b.jj⟩])]:=⟨⟩;have:HW 0 λ(e:Int×Int)=>[(2,.tv (eI e.1)),(8,.tv (eI e.2))]:=⟨⟩;have:HW 2 λ(d:Int×Int)=>[(2,.tv (eI d.1)),(9,.tv (eI d.2))]:=⟨⟩;have:HW 4 λ(f:Int)=>[(10,.tv (eI f))]:=⟨⟩;exact nz
theorem ACa:∀n:Nat,Q_49 n:=by
  intro n
  induction n with
  |zero=>exact(λp c a=>⟨λ_ h=>c!⟩)
  |succ n b=>exact ACb n b
instance(p c ways):CT (Oa p c ways) 49 [BS p,AI c,eI ways] rB:=⟨λr h=>by
  obtain ⟨N,a⟩:=C3 h;exact((ACa N) p c ways).snd r (a N (az _))⟩
instance(a b c):CT (Lh a b c) 195 [AL a,BS b,eI c] rI:=B3 f195 0xac0a0704020476aa055d80deb45a5c74deb40065360a0704020481aa0580027da680027da6cc74027da674027d0a70015d5abbe4615cc39f8a70c35c5a5c044b0bc9d9de5e7d62a9 [] (Lh.eq_1 ..) (BN 0 10 2 0)
instance(a b):CT (KP a b) 148 [AL a,CH b] rI:=B3 f148 0xac065e03cabd5a44d455008d5e41067d065e03dfd15e41d4aa70cb41d45a9041c19041d45988965bd49ff65b067da1 [] (KP.eq_1 ..) (BN 0 6 3 8)
instance(a):CT (Pn a) 149 [CH a] rI:=Fe f149 0x81960d42555bd4a289890c49fd1178550b42555bc159f60b42555b017db8 [] (Pn.eq_1 ..)
instance(a b):CT (TE a b) 245 [lI a,eI b] rB:=B3 f245 0xac05ddca850161918da5dd81ba [] (TE.eq_1 ..) (BN 0 5 0 0)
instance(a b):CT (Nk a b) 197 [eI a,lI b] (rO lI):=B3 f197 0xf0849eb3769eb39eb33ca9cfdad5368465369eb3c4c001406b02 [] (Nk.eq_1 ..) (BH 0 6 0 0 (hO 5 lI))
instance(a):CT (L5 a) 151 [CH a] (rT lI lI):=Fe f151 0x82820e800d420b3777d40e740d420b745b067d400140b8 [] (L5.eq_1 ..)
instance(a b c d):CT (I5 a b c d) 152 [AL a,A5 b,lI c,lI d] rB:=KV f152 0xac0a6acbcad561b45c615d5c5c55adf1d643f75d00e90a6acb816a9009e705ca830241044361f75c5c6a90e909e705c4625e02 [] (I5.eq_1 ..) (BN 0 9 2 0) (BN 2 10 3 0)
instance(a b):CT (Ii a b) 100 [AL a,CH b] rI:=Fe f100 0x810ea810429bc19fd536555bd45582e4d0aab5800d7db5740d4259bdd059bdd09fbd9bc19fd55c597f0178a2a1 [] (Ii.eq_1 ..)
instance(a b):CT (OL a b) 98 [AL a,(eL 25 CH) b] rI:=B3 f98 0xac07a903cabdd019bc5500e907a903dfd101597f0178a2dc [] (OL.eq_1 ..) (BN 0 7 1 0)
instance(a b c):CT (Ld a b c) 145 [AL a,eI b,lI c] rI:=B3 f145 0xac0907020376aa055e4104bc8ca58004bc6191e909070203dfd1010b36e4019f830241de5c59d15c3693a902 [] (Ld.eq_1 ..) (BN 0 9 7 0)
instance(a b):CT (GD a b) 99 [AL a,Bn b] (rT eI eI):=KV f99 0x9d000b5e03cac4d561b4c3615dc35c9fc4d15d5cadf1d67ef3008df3010b5e03815e02095e03ca8136710e8cb48cc3555e028dc301095e03df81d1c30bb4fbf638fb7f01785536a1 [] (GD.eq_1 ..) (BN 0 9 3 0) (BN 2 11 3 1)
instance(a b c):CT (OM a b c) 50 [AL a,(eL 25 CH) b,Bn c] rI:=Fe f50 0x816001786c9fbd01a26236 [] (OM.eq_1 ..)
instance(a b c):CT (Ik a b c) 14 [AL a,(eL 25 CH) b,Bn c] rB:=B3 f14 0xb70a70f3010a70c301a50e6ced070537047c0537057601eea8104119bc9b0141197e360a70745b0641197e360a7037770141197e360a70745b014119bc3659d56cd019bc5507053704e97c0537059daab56c010a0896010a70360a703670366236 [] (Ik.eq_1 ..) (BH 0 8 1 0 (hT 7 eB))
instance(a b c):CT (Ha a b c) 51 [AL a,CH b,Bn c] rI:=Fe f51 0x816001786c9fbdd0a2fa [] (Ha.eq_1 ..)
instance(a):CT (Ky a) 200 [lI a] rB:=KV f200 0xacc50276c50204c503ca85f7f7c502653604c503ace9c502816b01 [] (Ky.eq_1 ..) (BN 0 3 0 0) (BN 2 4 3 0)
instance(a b c d e):CT (KJ a b c d e) 158 [AL a,A5 b,A5 c,A9 d,eB e] rI:=KV f158 0x81aa0ab5bbb55c360804020c7c06040576aa05b461b45c5a5d615d5c59855c5cadadf1f1d6438c5d5dd6e5aaeb8c5d5a8c5d0804028dbb0c7c060405817c0604040b7ca706cad58c5c618c5c5c9f8a705c8c5c5a8c5c7c0604048d9a0b7ca70681aaebf95ae00b9a62620401 [] (KJ.eq_1 ..) (BN 0 11 8 0) (BN 2 12 8 1)
instance(a b c d e):CT (HU a b c d e) 104 [AL a,A5 b,A5 c,A9 d,eB e] rI:=Fe f104 0x810eed55559ff655a262620401 [] (HU.eq_1 ..)
instance(a b c):CT (Ig a b c) 101 [AL a,BS b,Bn c] rI:=Fe f101 0x816001786c9fbd9ba2fa [] (Ig.eq_1 ..)
instance(a b):CT (KL a b) 156 [Sv a,lI b] rI:=Fe f156 0xd75d619a595d859adc [] (KL.eq_1 ..)
instance(a b):CT (MD a b) 199 [Sv a,lI b] (rT eI eB):=Fe f199 0x9d055d619afb8a70015c5a5cfb5d855c36dc [] (MD.eq_1 ..)
instance(a b):CT (N9 a b) 157 [F9 a,lI b] rB:=Fe f157 0xb70a84a59a0a84a55caa083608608178ed03429d7801a27ddc [] (N9.eq_1 ..)
instance(a b c):CT (I3 a b c) 103 [BS a,Bn b,A9 c] (rT lI eI):=KV f103 0x81821808720890ca01c08820149b057ecb4208018dcb4272089081085eb608ea06ca01c08501201455be0c0bb608ea080c0bb608ea083cf50580be3614f501148a0817cd01145a6074be81615d61615c5cb4044b0bc9d9deb4085e8d5e7db608ea0681993fcc993fcc3640fa [.mkx 1 [.int .i64 0] (.s 16),.mkx 1 [.bool T] (.s 19)] (I3.eq_1 ..) (BH 0 10 3 2 λs0:Fp×a6=>[(8,.xo 1 (x! eI s0.1)),(9,.xo 1 (x! eB s0.2))]) (BN 2 14 3 4)
instance(a b c d):CT (KK a b c d) 105 [AL a,BS b,Bn c,A9 d] (rT lI eI):=Fe f105 0x818273966c9b5901c0f6c6c69f01c0bd6c9b55364062a1 [] (KK.eq_1 ..)
instance(a b):CT (Nb a b) 106 [lI a,lI b] rB:=B3 f106 0xac05ddca85f761918da5dddfd1010b01ba [] (Nb.eq_1 ..) (BN 0 5 0 0)
instance(a b c d):CT (HE a b c d) 107 [AL a,A5 b,A5 c,A9 d] (rT A5 eI):=Fk f107 0x8189550b3e0b08020c0b7c9e76f5618c5c9a1d380b080265151d38010c0b7c9e8102500ec9279f89010cf8965555a2fd62a1 [] [.cell 8 (Y 2),.tmp 9] λr h f g=>by
  unfold HE at h;have:HW 0 λ(e:d3×Int)=>[(11,.bx [⟨X,.xl 1 (x! eI e.1.dl)⟩,⟨X,.xl 3 (x! CB e.1.dr)⟩]),(12,.tv (eI e.2))]:=⟨⟩;exact nz
instance(a b c d):CT (Ql a b c d) 159 [A5 a,A5 b,Ht c,A9 d] rI:=Fe f159 0x81969ff655a262a1 [] (Ql.eq_1 ..)
instance(a b):CT (Ef a b) 201 [lI a,eI b] rB:=B3 f201 0xac05ddca850161918da5dd81ba [] (Ef.eq_1 ..) (BN 0 5 0 0)
instance(a b):CT (HD a b) 160 [lI a,lI b] (rO (eL 2 Su)):=KV f160 0xf0849eb3769eb3fe6b0576fe6b05fe6b053c0202480247094636028a0ab50136b501a5f7f79eb3e9fe6b05d75a01e99eb38102c002406b02 [] (HD.eq_1 ..) (BH 0 6 0 0 (hO 5 (eL 2 Su))) (BH 2 7 0 0 (hO 5 (eL 2 Su)))
instance(a b):CT (Lc a b) 163 [lI a,lI b] (rO lI):=B3 f163 0xf0849eb3769eb39eb33ca9cff702d53684e99eb3c4c001406b02 [] (Lc.eq_1 ..) (BH 0 6 0 0 (hO 5 lI))
instance(a b c d):CT (Kx a b c d) 161 [A5 a,A5 b,Ht c,A9 d] (rO lI):=B3 f161 0xf009010bb6070505760bb6070570b60705053ca9cfda8aee5e4103e5360e8003e536b5015d09018dbb0bb607050581820e5c9ac0014093621300 [] (Kx.eq_1 ..) (BH 0 11 5 1 (hO 9 lI))
instance(a b):CT (Nf a b) 162 [eI a,lI b] (rO lI):=B3 f162 0xf0849eb3769eb39eb33ca9cfdad5368465369eb3c4c001406b02 [] (Nf.eq_1 ..) (BH 0 6 0 0 (hO 5 lI))
instance(a b c d):CT (Sb a b c d) 108 [A5 a,A5 b,Ht c,A9 d] (rT Ht eI):=Fk f108 0x8013b81890e460e0e5d5df90e0e5c5ce059890d46d19655559f890d4685700e5d5d0b0e5c5c5989010df8965555a2d862a1 [] [.cell 8 (Y 2),.tmp 9] λr h e f=>by
  unfold Sb at h;exact nz
instance(a b c):CT (K0 a b c) 249 [eI a,lI b,lI c] (rO lI):=KV f249 0x821807010907a90476f5f7f7140701e90907a9048107a9037c026b057619014fb21907a90365367c026b05c4ce014002dd [] (K0.eq_1 ..) (BH 0 8 0 0 (hX 7 1 eI)) (BH 2 9 1 0 (hX 7 1 eI))
instance(a b):CT (GJ a b) 246 [.pt (VA a).cells,lI b] rB:=KV f246 0xac05dd5f5add05dd8188010705b37c9e6b0676010aa6615e7d5e7da661bb5d5a5c5c36adf1d67e800477010705b38d800477367c9e6b069dff05dd8a7001b45a0b015dadf1d67e8002776b8d800277a5dd81ba [] (GJ.eq_1 ..) (BN 0 5 0 3) (BH 2 8 0 5 (hT 7 eB))
instance(a b c):CT (Cm a b c) 248 [.pt (VA a).cells,lI b,eI c] rB:=B3 f248 0xac0702b3ca85016191ff8a0308773670360702b3c402dd [] (Cm.eq_1 ..) (⟨⟩:HW 0 λ(d:Int)=>[(7,.tv (eI d))])
noncomputable def dI:PC:=PC.of OP f247.body (xq bT 0x17c06026b065f017c06026b067c06026b063c005201cf364836470138ff7c06026b068a05615e7d5e7da661bbbba65c9a0a203638010a848c8006b15a8c8006b1adf1d67e8004b100018d8004b1017c06026b0681adf1d67e8002b1ffe80a77024802470e460148364701483647040ab138d18002b1600bfc0309b10b030ab102dd) []
theorem AAy:CK f247 dI []:=c_
theorem ABR:PC.t1 dI=X/\PC.t2 0 dI=X:=c_
abbrev Q_247(n:Nat):Prop:=∀(b:A1)(a:Fp)(l:Fp),CT (B9 n b a l) 247 [.undef,lI a,lI l] (λr=>.bo (CL b) (CL r) 0 [])
theorem AAe(n:Nat)(_ih_247:Q_247 n)(b:A1)(a:Fp)(l:Fp):CT (B9 (n+1) b a l) 247 [.undef,lI a,lI l] (λr=>.bo (CL b) (CL r) 0 []):=ir AAy ABR λr h e d f=>by
  unfold dI;unfold f247;unfold B9 at h;have:HW 0 λ(c:A1×Int)=>[(0,.bx (CL c.1)),(8,.tv (eI c.2))]:=⟨⟩;exact nz
theorem AAd:∀n:Nat,Q_247 n:=by
  intro n
  induction n with
  |zero=>exact(λa ea l=>⟨λ_ h=>c!⟩)
  |succ n b=>exact AAe n b
instance(s_0 ea l):CT (Kg s_0 ea l) 247 [.undef,lI ea,lI l] (λr=>.bo (CL s_0) (CL r) 0 []):=⟨λr h=>by
  obtain ⟨N,a⟩:=C3 h;exact((AAd N) s_0 ea l).snd r (a N (az _))⟩
noncomputable def dF:PC:=PC.of OP f198.body (xq bT 0x5a04b35f5a04b36ab33c005201cf3648364738ff6ab38ab58c7402b18c7404b1555b5b38010a203638010a848c7406b15a8c7406b100018d7404b15a04b381ff3f0138d17402b1600b758a082001385a0309b10b030ab16b02) [.Aas 247 [.s 32,.s 33,.c (.list 1 [])] 0]
theorem AAv:CK f198 dF []:=c_
theorem ABO:PC.t1 dF=X/\PC.t2 0 dF=X:=c_
abbrev Q_198(n:Nat):Prop:=∀(a:A1)(l:Fp),CT (CA n a l) 198 [.undef,lI l] (λr=>.bo (CL a) (CL r) 0 [])
theorem AAW(n:Nat)(_ih_198:Q_198 n)(a:A1)(l:Fp):CT (CA (n+1) a l) 198 [.undef,lI l] (λr=>.bo (CL a) (CL r) 0 []):=ir AAv ABO λr h d c e=>by
  unfold dF;unfold f198;unfold CA at h;have:HW 0 λ(b:A1×Int)=>[(0,.bx (CL b.1)),(5,.tv (eI b.2))]:=⟨⟩;exact nz
theorem AAV:∀n:Nat,Q_198 n:=by
  intro n
  induction n with
  |zero=>exact(λa l=>⟨λ_ h=>c!⟩)
  |succ n b=>exact AAW n b
instance(s_0 l):CT (Hp s_0 l) 198 [.undef,lI l] (λr=>.bo (CL s_0) (CL r) 0 []):=⟨λr h=>by
  obtain ⟨N,a⟩:=C3 h;exact((AAV N) s_0 l).snd r (a N (az _))⟩
instance(a b c d e f):CT (LC a b c d e f) 154 [AL a,A5 b,A5 c,A9 d,eB e,eI f] (rS (eL 2 A9)):=Fe f154 0x82030a775b3f5b00c2bf17463655555555024062626a02 [.Abi [W,W,W,W,W,W,W,W,W,W,Y ⟨X,.list 2 []⟩] (.s 20),.Aas 198 [.s 22,.c (.list 1 [])] 0] (LC.eq_1 ..)
instance(a b c):CT (Kz a b c) 311 [lI a,eI b,eI c] rI:=B3 f311 0xac0702000376aa848ca56191e907020003df85010b3602dd [] (Kz.eq_1 ..) (BN 0 7 0 0)
instance(a b c d e):CT (I2 a b c d e) 250 [AL a,A5 b,A5 c,A9 d,eB e] (rT (eL 2 A9) eI):=Fe f250 0x8182015902c0d101820eed55559f02c0bdf9f95d5902c0bde0e05c5902c08aebf95ae0e05902c0f655a2024062620401 [] (I2.eq_1 ..)
instance(a b):CT (FW a b) 114 [Sv a,lI b] (rT eI eI):=Fe f114 0x9d0e019f818a70015c5a5c36dc [] (FW.eq_1 ..)
instance(a b c d):CT (M2 a b c d) 251 [BS a,Bn b,A9 c,lI d] (rT lI eB):=iq f251 0x8182180a01120a0403ca01c08a0a84a59a0a84a55c60730120145503426073012014a242b907c99b057ecb420a018dcb7d120a0403b704020de1a706ca01c0850136817301201455be0f0e0de1a7080f0e0de1a7083cf5f50580027d74be1474be148a0817cd74be145a74be81615d61615c5cb4044b0bc9d9deb40a04028d5e7d0de1a70681e1a7050ce1a70307760ce1a703070ce1a703073c19014fb219d10136ef70013614e1a70565907d0ce1a7030781993fcc99014f36563640936237 [.mkx 1 [.bool T] (.s 28)] (M2.eq_1 ..) (BH 0 12 4 3 λs0:Fp×a6=>[(10,.xo 1 (x! eI s0.1)),(11,.xo 1 (x! eB s0.2))]) (BH 2 13 4 2 λs2:Fp×a6=>[(10,.xo 1 (x! eI s2.1)),(11,.xo 1 (x! eB s2.2))]) (BN 4 18 4 4)
instance(a b c d e):CT (Fm a b c d e) 202 [AL a,AI b,Bn c,By d,eB e] (rT (eL 3 By) eI):=B3 f202 0x81f0100111100e0c7c067611100e0c7c0611100e0c7c063c02034803471846ed02bc029de4b45502bc6c9b1001e911100e0c7c068103c05903c07fe4edc6c65589d80e460ef380be0bf30ec374be0bc3b908c99b047d034062620401 [] (Fm.eq_1 ..) (BH 0 17 14 0 (hO 16 (eL 3 By)))
abbrev Q_164(n:Nat):Prop:=∀(t:AC)(c:d5)(b:AE)(m:AQ)(a:Bool),CT (DQ n t c b m a) 164 [AL t,AI c,Bn b,By m,eB a] (rT FI eI)
theorem AAO(n:Nat)(_ih_164:Q_164 n)(t:AC)(c:d5)(b:AE)(m:AQ)(a:Bool):CT (DQ (n+1) t c b m a) 164 [AL t,AI c,Bn b,By m,eB a] (rT FI eI):=Fk f164 0x81b91946ff59b919460a0117150a07a70776ff0a013b81b9011b4605479bd6bc71b912c97801d6bc6ca809435d550a01e917150a07a707dfb90119f8e4016c6ca855d781b919460a01120a7ca707cab9011a4605479b7fb912c978016c6ca809e5550a018dbb120a7ca7079d0581b99b0e0a020f0e0a7ca70876e8f2054805479b04f259b90119f8b912c978016c6ca809e5550e0a028dbb0f0e0a7ca708d75012c93fd781b901194659b91946850159b919f8b9124978016c6ca809435d55d783380112c962620401 [.Aaj [.z ⟨T,.int .i64 0⟩,.z ⟨X,.list 1 []⟩,.z ⟨X,.list 1 []⟩,.z ⟨X,.list 1 []⟩,.z ⟨X,.list 5 []⟩]] [.cell 10 (Y 5),.tmp 11] λr h d e=>by
  unfold DQ at h;have:=BH 1 15 6 1 λs1:BO×BO=>[(10,.bx [⟨T,eI s1.1.Aaq⟩,⟨X,lI s1.1.ll.d4.dl⟩,⟨X,lI s1.1.ll.d4.dr⟩,⟨X,lI s1.1.ll.em⟩,⟨X,JM s1.1.fl⟩]),(14,.bx [⟨T,eI s1.2.Aaq⟩,⟨X,lI s1.2.ll.d4.dl⟩,⟨X,lI s1.2.ll.d4.dr⟩,⟨X,lI s1.2.ll.em⟩,⟨X,JM s1.2.fl⟩])];have:=BH 3 18 6 1 λs3:BO=>[(10,.bx [⟨T,eI s3.Aaq⟩,⟨X,lI s3.ll.d4.dl⟩,⟨X,lI s3.ll.d4.dr⟩,⟨X,lI s3.ll.em⟩,⟨X,JM s3.fl⟩])];have:=BH 5 23 21 0 λs5:BO=>[(10,.bx [⟨T,eI s5.Aaq⟩,⟨X,lI s5.ll.d4.dl⟩,⟨X,lI s5.ll.d4.dr⟩,⟨X,lI s5.ll.em⟩,⟨X,JM s5.fl⟩])];exact nz
theorem AAN:∀n:Nat,Q_164 n:=by
  intro n
  induction n with
  |zero=>exact(λt c a m ff=>⟨λ_ h=>c!⟩)
  |succ n b=>exact AAO n b
instance(t c h_2 m ff):CT (Qn t c h_2 m ff) 164 [AL t,AI c,Bn h_2,By m,eB ff] (rT FI eI):=⟨λr h=>by
  obtain ⟨N,a⟩:=C3 h;exact((AAN N) t c h_2 m ff).snd r (a N (az _))⟩
instance(a b c d e):CT (KM a b c d e) 109 [AL a,AI b,Bn c,By d,eB e] (rT eB eI):=Fe f109 0x9d5a01fb71b9124978016c6ca8553662620401 [] (KM.eq_1 ..)
instance(a b c d):CT (Ip a b c d) 53 [AL a,CH b,Bn c,By d] (rT Ht eI):=Fk f53 0x8189ed0d0b08030d0b08033c018a08a5368178030f426c6ca810429f89010d46853689d878c6550b42c69f89010d46853689fd78c6c6555bc19f890d46d55e7d5989010df8e4c66c9bc19f890d46850e030f42c6c6555bc1a2d862a1 [] [.cell 8 (Y 2),.tmp 9] λr h f g=>by
  unfold Ip at h;have:HJ 95 λ(e:Int)=>[(11,.tv (eI e))]:=⟨⟩;exact nz
instance(a b c):CT (H6 a b c) 110 [AL a,Bn b,Ht c] (rT Bn eI):=Fk f110 0x81ad6c0d06020e0d0b06040576e8027dcf0148618c5c5e7d4704be0d06028d5c720d0b06040581035011c93f9fad011cf88989d8fd117855c659ad011cf801786ca211c9fa [.Aaj [.v (.s 37) 0 2,.v (.s 37) 1 2,.z ⟨X,.list 1 []⟩]] [.cell 6 (Y 3),.tmp 7] λr h e f=>by
  unfold H6 at h;have:HW 0 λ(d:AE×Int)=>[(13,.bx [⟨T,lI d.1.d3.dl⟩,⟨T,lE d.1.d3.dr⟩,⟨X,(eL 1 lI) d.1.ec⟩]),(14,.tv (eI d.2))]:=⟨⟩;exact nz
instance(a b):CT (Nd a b) 112 [lI a,eI b] (rO lI):=KV f112 0x8218849eb3769eb3fe6b0576fe6b05fe6b053cf536148501f79eb3e9fe6b058119014fb2198465369eb3c4ce01406b02 [] (Nd.eq_1 ..) (BH 0 6 1 0 (hX 5 1 eI)) (BH 2 7 0 0 (hX 5 1 eI))
instance(a b):CT (M4 a b) 111 [eI a,lI b] (rO lI):=Fe f111 0x820e0136406b02 [] (M4.eq_1 ..)
instance(a b c):CT (JR a b c) 54 [AL a,Bn b,Ht c] (rT Bn A9):=Fk f54 0x706023b89ad0e460e5d0bf30e5c0bc36c01ad11c978556c55d811c9fa [] [.cell 6 (Y 3),.cell 7 (Y 2)] λr h d e=>by
  unfold JR at h;exact nz
instance(a b):CT (Io a b) 55 [lI a,lI b] (rO lI):=B3 f55 0xf0849eb376a9cf618c360284e99eb3c4c001406b02 [] (Io.eq_1 ..) (BH 0 6 0 0 (hO 5 lI))
instance(a b c d e):CT (Gl a b c d e) 56 [lI a,lI b,eI c,lI d,eI e] (rO lI):=B3 f56 0xf00c01c80bdb000776c80bdb00075f01a9cfdac80bdb00073ca9cf6161f7360285f70cfc36c80bdb0007c4c0820e013640db6b05 [] (Gl.eq_1 ..) (BH 0 13 2 0 λs0:Int×Fp=>[(4,.tv (eI s0.1)),(12,.ow (lI s0.2))])
instance(a b):CT (JQ a b) 113 [lI a,eI b] rB:=B3 f113 0xac05ddca850161918da5dd81ba [] (JQ.eq_1 ..) (BN 0 5 0 0)
noncomputable def rZ:PC:=PC.of OP f57.body (xq bT 0x35003530806020f097c9e06760f097c9e060f097c9e063ce801413803480347074661b45c615d5c5c04014138adf1d6e58e01800d420806028dbb0f097c9e0681097c9e05b67ca7075f01b67ca707b67ca7073c1fbe21221923be0db67ca7b50d0bb67ca70a7619014fb28004bc190db67ca708e90e0d0bb67ca70ac4ce01e48c5ca24a5b3801cf8c5c045b38ffb67ca707d501740d42097c9e058d9ab67ca7078189fd555bd413c993aba1) []
theorem ACh:CK f57 rZ [.cell 8 (Y 3)]:=c_
theorem ACn:PC.t1 rZ=X:=c_
instance(a b c d):CT (Jx a b c d) 57 [AL a,CH b,.agg [.undef,.undef,.undef],A9 d] (λr=>.ag [⟨X,lI c.d3.dl⟩,⟨X,lE c.d3.dr⟩,⟨X,.xn (x! lI c.ec)⟩] 2 (.oag [⟨X,lI r.d3.dl⟩,⟨X,lE r.d3.dr⟩,⟨X,.xn (x! lI r.ec)⟩])):=FiA ACh ACn λr h i g j=>by
  unfold rZ;unfold f57;unfold Jx at h;have:HW 0 λ(f:AE×Int)=>[(6,.bx [⟨X,lI f.1.d3.dl⟩,⟨X,lE f.1.d3.dr⟩,⟨X,.xn (x! lI f.1.ec)⟩]),(10,.tv (eI f.2))]:=⟨⟩;have:=BH 2 14 11 0 (hX 13 1 eI);have:HW 4 λ(e:AE×Int)=>[(6,.bx [⟨X,lI e.1.d3.dl⟩,⟨X,lE e.1.d3.dr⟩,⟨X,.xn (x! lI e.1.ec)⟩]),(15,.tv (eI e.2))]:=⟨⟩;exact nz
instance(a):CT (Mz a) 58 [Bn a] (λr=>.oag [⟨X,lI r.d3.dl⟩,⟨X,lE r.d3.dr⟩,⟨X,.xn (x! lI r.ec)⟩]):=Fk f58 0x35003535e02db0104761fbe2122014f8c5e7d5623be5e028d5e7ddb010481035013c93f1bc613c9b8 [.Aaj [.g 7 0 2,.g 7 1 2,.z ⟨X,.xn []⟩]] [.cell 2 (Y 3)] λr h b c=>by
  unfold Mz at h;have:=BH 0 4 1 2 λs0:AE=>[(3,.bx [⟨X,lI s0.d3.dl⟩,⟨X,lE s0.d3.dr⟩,⟨X,.xn (x! lI s0.ec)⟩])];exact nz
noncomputable def ra:PC:=PC.of OP f59.body (xq bT 0x81ad6c073e0a0702130c0a7c6a07762624018004bc25240123be59ad1c468a055e41044380de36a580044380de3636e48cc35581617404bc5c6078ed024104bc0a0702e9130c0a7c6a07810c0a7c6a06c80a7c6a0776c80a7c6a07100ec80a7c6a09caad1c468a8436a68004bc80dea5617404bc5c617404bc5c6078ed024104bcc80a7c6a076536100ec80a7c6a09816078ed024104bc0c0a7c6a06e9c80a7c6a0781825e41067d11c993ab620401) []
theorem ACi:CK f59 ra [.cell 10 (Y 3),.tmp 11]:=c_
theorem ACo:PC.t1 ra=X:=c_
instance(a b c d e):CT (LF a b c d e) 59 [AL a,CH b,.agg [.undef,.undef,.undef],A9 d,lI e] (λr=>.ag [⟨X,lI c.d3.dl⟩,⟨X,lE c.d3.dr⟩,⟨X,.xn (x! lI c.ec)⟩] 2 (.tp [Bn r.1,eI r.2])):=FiA ACi ACo λr h g f i=>by
  unfold ra;unfold f59;unfold LF at h;have:=BH 0 13 12 0 λs0:AE=>[(10,.bx [⟨X,lI s0.d3.dl⟩,⟨X,lE s0.d3.dr⟩,⟨X,(eL 1 lI) s0.ec⟩])];have:=BH 2 16 13 0 λs2:AE=>[(10,.bx [⟨X,lI s2.d3.dl⟩,⟨X,lE s2.d3.dr⟩,⟨X,(eL 1 lI) s2.ec⟩])];have:=BH 4 19 12 0 λs4:AE×AE=>[(7,.bx [⟨X,lI s4.1.d3.dl⟩,⟨X,lE s4.1.d3.dr⟩,⟨X,.xn (x! lI s4.1.ec)⟩]),(10,.bx [⟨X,lI s4.2.d3.dl⟩,⟨X,lE s4.2.d3.dr⟩,⟨X,(eL 1 lI) s4.2.ec⟩])];exact nz
instance(a b c d):CT (Ij a b c d) 22 [AL a,CH b,Bn c,By d] (rT Df eI):=Fk f22 0x81264b1e4655556c6c6cd059264b1d468a70f35a0bc359264b011d468536ad73da57b4550353d0550d013b03500257551b6cd05589d80e460ef95d0b3777d4800d42800b420ee05c0b745bd4740d42740b4289d80e460e5df30e5cc389add813c978556c9f264b011df889d8786c6cd09f264b011df80e6cd0a214c962a1 [] [.cell 8 (Y 38),.tmp 9] λr h e f=>by
  unfold Ij at h;exact nz
instance(a):CT (Lf a) 155 [A5 a] (rS A9):=Fk f155 0x8955033e5e02055e0376f5011dc15e0265151dc15a5e03815e02db0376f5011d385e0265151d3801db0381025015c93f3ff93fe0d8b8 [.mkx 1 [.int .i64 0] (.s 8),.mkx 1 [.int .i64 0] (.s 12),.Aaj [.w 9,.w 13]] [.cell 2 (Y 2)] λr h d e=>by
  unfold Lf at h;have:HW 0 λ(b:d4×Int)=>[(3,.bx [⟨X,.xl 1 (x! eI b.1.dl)⟩,⟨X,.xl 1 (x! eI b.1.dr)⟩]),(4,.tv (eI b.2))]:=⟨⟩;have:HW 2 λ(c:d4×Int)=>[(3,.bx [⟨X,.xl 1 (x! eI c.1.dl)⟩,⟨X,.xl 1 (x! eI c.1.dr)⟩]),(5,.tv (eI c.2))]:=⟨⟩;exact nz
instance(a b c d):CT (M0 a b c d) 102 [AL a,A5 b,A5 c,eB d] (rT (eL 2 A9) eI):=Fe f102 0x8182015902c0d101820e725555559f02c0f655a20240936237 [] (M0.eq_1 ..)
instance(a b c d):CT (H7 a b c d) 52 [AL a,BS b,Bn c,eB d] (rT (eL 3 By) eI):=B3 f52 0x81f00d720d0b9e05760e0d0b9e050e0d0b9e053c02034803471846ed02bc0271e45502bc6c9b0d01e90e0d0b9e058103c05903c07fe401c6c69f03c0bd6c9ba20340936237 [] (H7.eq_1 ..) (BH 0 14 11 0 (hO 13 (eL 3 By)))
instance(a b c):CT (Fo a b c) 21 [AL a,CH b,Bn c] (rT (eL 3 By) eI):=B3 f21 0x81f00b010c0b09ea06760c0b09ea060c0b09ea063c0203480347d6bc0271264b144978d6bc6cd0550b01e90c0b09ea068103c05903c07fe4030f426c9bc19f03c0bd6cd0a20340fa [] (Fo.eq_1 ..) (BH 0 12 9 0 (hO 11 (eL 3 By)))
instance(a b c d):CT (HZ a b c d) 6 [AL a,CH b,Bn c,eI d] (rO (eL 38 Df)):=B3 f6 0xf00b010c0b09a70307760226482647d3a9264b14c978d6bc6cd0550b758a843670360c0b09a703078126c001e46cd0552640936237 [] (HZ.eq_1 ..) (⟨⟩:HW 0 λ(e:List AT×Int)=>[(11,.ow ((eL 38 Df) e.1)),(12,.tv (eI e.2))])
instance c15:CT (RJ ) 15 [] (λr=>.oag [⟨X,lN r.dl⟩,⟨X,lX r.dr⟩]):=Fk f15 0x2503f07473f3f04473f3f04473f3f3f3f04473f00c900 [.bld [.str ⟨#[]⟩,.int .i64 0,.int .i64 0,.list 1 []] [(0,1,.c (.str ⟨#[98,97,108,97,110,99,101]⟩)),(1,1,.c (.int .i64 (-1000))),(2,1,.c (.int .i64 1000))],.bld [.str ⟨#[]⟩,.int .i64 0,.bool T,.list 4 []] [(0,1,.c (.str ⟨#[65,99,99,111,117,110,116]⟩)),(1,1,.c (.int .i64 (-1))),(2,1,.c (.bool X)),(3,1,.s 2)],.bld [.str ⟨#[]⟩,.int .i64 0,.bool T,.list 4 []] [(0,1,.c (.str ⟨#[67,97,115,104]⟩)),(1,1,.c (.int .i64 0))],.lst 1 [.c (.str ⟨#[111,112,101,110]⟩),.c (.str ⟨#[99,108,111,115,101,100]⟩)],.bld [.str ⟨#[]⟩,.int .i64 0,.int .i64 0,.list 1 []] [(0,1,.c (.str ⟨#[115,116,97,116,101]⟩)),(2,1,.c (.int .i64 1)),(3,1,.s 5)],.bld [.str ⟨#[]⟩,.int .i64 0,.bool T,.list 4 []] [(0,1,.c (.str ⟨#[76,111,97,110]⟩)),(1,1,.c (.int .i64 0)),(3,1,.s 7)],.bld [.str ⟨#[]⟩,.int .i64 0,.bool T,.list 4 []] [(0,1,.c (.str ⟨#[80,101,114,115,111,110]⟩)),(1,1,.c (.int .i64 (-1)))],.bld [.str ⟨#[]⟩,.int .i64 0,.int .i64 0,.int .i64 0,.int .i64 0,.int .i64 0,.int .i64 0] [(0,1,.c (.str ⟨#[111,119,110,115]⟩)),(1,1,.c (.int .i64 3)),(2,1,.c (.int .i64 0)),(4,1,.c (.int .i64 (-1))),(5,1,.c (.int .i64 1)),(6,1,.c (.int .i64 1))],.bld [.str ⟨#[]⟩,.int .i64 0,.int .i64 0,.int .i64 0,.int .i64 0,.int .i64 0,.int .i64 0] [(0,1,.c (.str ⟨#[112,97,121,115]⟩)),(1,1,.c (.int .i64 1)),(2,1,.c (.int .i64 1)),(4,1,.c (.int .i64 (-1))),(6,1,.c (.int .i64 (-1)))],.Aaj [.w 10,.w 13]] [.cell 0 (Y 2)] λr h a b=>by
  unfold RJ at h;exact nz
instance(a b):CT (Nl a b) 60 [By a,eI b] rB:=Fe f60 0xb7840bb47201c601dc [] (Nl.eq_1 ..)
instance(a b):CT (FD a b) 23 [AL a,Df b] rB:=Fe f23 0xb796247d0a96227dee6c197dee6c1f42726c1c42d038a2a1 [] (FD.eq_1 ..)
instance(a):CT (Nn a) 24 [CH a] rB:=Fe f24 0x81a6eb0bbba6705c0b9a0aeb5ae08989fdfd555bd4555b017db8 [] (Nn.eq_1 ..)
instance(a b c d e):CT (MH a b c d e) 7 [AL a,(eL 25 CH) b,Df c,Df d,eI e] rB:=B3 f7 0xb70a0aa6360a70a536a6360a70a5a536a6a560810b37771c420b745b1c42070401030b07040104cad5d019bc07040103e90b0704010481aab5d038010ab5d038010ab5d3a20ab5d3a2b56c1c7da2936204da [] (MH.eq_1 ..) (BN 0 11 1 0)
end Go.Sf.Sc
