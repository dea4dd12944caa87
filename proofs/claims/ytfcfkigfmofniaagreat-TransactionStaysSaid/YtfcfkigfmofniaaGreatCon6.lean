/- Contracts of the functions. -/
import Derived.Test.YtfcfkigfmofniaaGreatCon0
import Derived.Test.YtfcfkigfmofniaaGreatCon4
import Derived.Test.YtfcfkigfmofniaaGreatCon5
import Derived.Test.YtfcfkigfmofniaaGreatTryzShelf
import Derived.Test.YtfcfkigfmofniaaGreatTw
set_option linter.all false
set_option maxRecDepth 100000
set_option maxHeartbeats 4000000
namespace Go.Sf.Sc
open Go Go.Sf Go.Proofs.Tryz
noncomputable def ZH:PC:=PC.of OE f255.body (xq bT 0x163f96b63f963f93c005201cb3048304737ff63f98aa8807202c5807204c5f45cb50a2030b50a5880720690b505807206c500017c720490b563f981ff3f0137f77202c5610b01ff8a082001b5050309c50b030ac59602) [.y6 299 [.s 32,.s 33,.c (.list 1 [])] 0]
theorem ux:CK f255 ZH []:=by decide +kernel
theorem vS:PC.yb ZH=true/\PC.yd 0 ZH=true:=by decide +kernel
abbrev Q_255(n:Nat):Prop:=∀(a:Ae)(l:Fp),CT (CB n a l) 255 [.undef,lI l] (fun r=>.bo (Bo a) (Bo r) 0 [])
theorem ub(n:Nat)(_ih_255:Q_255 n)(a:Ae)(l:Fp):CT (CB (n+1) a l) 255 [.undef,lI l] (fun r=>.bo (Bo a) (Bo r) 0 []):=nD ux vS fun r h d c e=>by
  unfold ZH;unfold f255;unfold CB at h;have:HW 0 fun(b:Ae×Int)=>[(0,.bx (Bo b.1)),(5,.tv (eI b.2))]:=⟨⟩;exact nz
theorem ua:∀n:Nat,Q_255 n:=by
  intro n
  induction n with
  |zero=>exact(fun a l=>⟨fun _ h=>by cases h⟩)
  |succ n b=>exact ub n b
instance(s_0 l):CT (I1 s_0 l) 255 [.undef,lI l] (fun r=>.bo (Bo s_0) (Bo r) 0 []):=⟨fun r h=>by
  obtain ⟨N,a⟩:=Cp h;exact((ua N) s_0 l).snd r (a N (b6 _))⟩
instance(a b c d e f):CT (NF a b c d e f) 190 [AJ a,Ah b,Ah c,Aq d,eB e,eI f] (rS (eL 2 Aq)):=Fe f190 0x82030a905c3f5c00c2bf2c4630adad024062626302 [.Aal [none,none,none,none,none,none,none,none,none,none,some ⟨true,.list 2 []⟩] (.s 20),.y6 255 [.s 22,.c (.list 1 [])] 0] (NF.eq_1 ..)
instance(a b c):CT (JI a b c) 362 [lI a,eI b,eI c] rI:=Bj f362 0xa5070200cf9758803005608cbd070200dfbc010b30780003 [] (JI.eq_1 ..) (A5 0 7 0 0)
instance(a b c d e):CT (K9 a b c d e) 342 [AJ a,Ah b,Ah c,Aq d,eB e] (rT (eL 2 Aq) eI):=Fe f342 0x8182015502c0f701820e01adad5502d6760b5e0b5e5e5502d676eeee5b5502c08a655e0b92655bee5502d676ad8d024062620401 [] (K9.eq_1 ..)
instance(a b):CT (ES a b) 203 [Qy a,lI b] (rT eI eI):=Fe f203 0x840ec4dc8afa77055b30d5 [] (ES.eq_1 ..)
instance(a b c d):CT (LB a b c d) 343 [BB a,Bi b,Aq c,lI d] (rT lI eB):=gB f343 0x8182180a01120a04cf7dc08a0a583005770a5830055b616a012014380342616a0120148d427504c9700573a1420a017ca16f120a0403b604020de0d0066e7dc0850130816a01201438bb0f0e0de0d0080f0e0de0d0085fe201e2057e026f72bb1472bb148a0817d172bb14010572bb81605e60605b5bb4d305c9acccb40a04027cdb0de0d00681e0d0050ce0d003076e0ce0d003070ce0d003073c19014faa19f70130e2fa3014e0d005647f6f0ce0d0030781993fbe99014f30563040936236 [.z8 1 [.bool false] (.s 28)] (LB.eq_1 ..) (Az 0 12 4 3 fun s0:Fp×a6=>[(10,.xo 1 (List.map eI s0.1)),(11,.xo 1 (List.map eB s0.2))]) (Az 2 13 4 2 fun s2:Fp×a6=>[(10,.xo 1 (List.map eI s2.1)),(11,.xo 1 (List.map eB s2.2))]) (A5 4 18 4 4)
instance(a b c d e):CT (HL a b c d e) 303 [AJ a,AI b,Bi c,Bb d,eB e] (rT (eL 3 Bb) eI):=Bj f303 0x81ed100111100e0cb36e11100e0cb311100e0cb33c02034803470946c402c60284e9b43802c66d701001bd11100e0cb38103c05503d669e901ad37cd3889f104f07e377ebb0b7e370ed972bb0bd97509c970046f034062620401 [] (HL.eq_1 ..) (Az 0 17 14 0 (hO 16 (eL 3 Bb)))
abbrev Q_263(n:Nat):Prop:=∀(t:eb)(c:d5)(b:ff)(m:AO)(a:Bool),CT (Dn n t c b m a) 263 [AJ t,AI c,Bi b,Bb m,eB a] (rT EI eI)
theorem ud(n:Nat)(_ih_263:Q_263 n)(t:eb)(c:d5)(b:ff)(m:AO)(a:Bool):CT (Dn (n+1) t c b m a) 263 [AJ t,AI c,Bi b,Bb m,eB a] (rT EI eI):=Fk f263 0xd80a46ffdd0a460a0117150a7163076eff0a013bd8010c460547706d03c669750ec974016d03c66db109435e380a01bd17150a71630781dd010a4669e9016d6db138c3d80a460a01120ab363076edd010b460547700169750ec974016d6db109735e380a017c92120ab363078405d8700e0a020f0e0ab363086ee6ef054805477004efdd010a4669750ec974016d6db109735e380e0a027c920f0e0ab36308c3500ec93fc3d8010a46dd0a468501dd0a4669750e4974016d6db109435e38c383376cc962620401 [.yt [.z ⟨false,.int .i64 0⟩,.z ⟨true,.list 1 []⟩,.z ⟨true,.list 1 []⟩,.z ⟨true,.list 1 []⟩,.z ⟨true,.list 5 []⟩]] [.cell 10 (some 5),.tmp 11] fun r h d e=>by
  unfold Dn at h;have:=Az 1 15 6 1 fun s1:A1×A1=>[(10,.bx [⟨false,eI s1.1.yX⟩,⟨true,lI s1.1.n8.d4.ca⟩,⟨true,lI s1.1.n8.d4.ci⟩,⟨true,lI s1.1.n8.fd⟩,⟨true,Hn s1.1.fu⟩]),(14,.bx [⟨false,eI s1.2.yX⟩,⟨true,lI s1.2.n8.d4.ca⟩,⟨true,lI s1.2.n8.d4.ci⟩,⟨true,lI s1.2.n8.fd⟩,⟨true,Hn s1.2.fu⟩])];have:=Az 3 18 6 1 fun s3:A1=>[(10,.bx [⟨false,eI s3.yX⟩,⟨true,lI s3.n8.d4.ca⟩,⟨true,lI s3.n8.d4.ci⟩,⟨true,lI s3.n8.fd⟩,⟨true,Hn s3.fu⟩])];have:=Az 5 23 21 0 fun s5:A1=>[(10,.bx [⟨false,eI s5.yX⟩,⟨true,lI s5.n8.d4.ca⟩,⟨true,lI s5.n8.d4.ci⟩,⟨true,lI s5.n8.fd⟩,⟨true,Hn s5.fu⟩])];exact nz
theorem uc:∀n:Nat,Q_263 n:=by
  intro n
  induction n with
  |zero=>exact(fun t c a m fq=>⟨fun _ h=>by cases h⟩)
  |succ n b=>exact ud n b
instance(t c h_2 m fq):CT (RW t c h_2 m fq) 263 [AJ t,AI c,Bi h_2,Bb m,eB fq] (rT EI eI):=⟨fun r h=>by
  obtain ⟨N,a⟩:=Cp h;exact((uc N) t c h_2 m fq).snd r (a N (b6 _))⟩
instance(a b c d e):CT (MK a b c d e) 198 [AJ a,AI b,Bi c,Bb d,eB e] (rT eB eI):=Fe f198 0x840158dc69750e4974016d6db1383062620401 [] (MK.eq_1 ..)
instance(a b c d):CT (Lp a b c d) 138 [AJ a,BX b,Bi c,Bb d] (rT Hh eI):=Fk f138 0x8189c40d0b08030d0b08035f8a08309e8174030f426d6db11042385589010346853089f174cd380b42cd385589010346853089fc74cdcdf4b93855890346c8db558901034669e9cd6d70b93855890346850e030f42cdcdf4b98df162a7 [] [.cell 8 (some 2),.tmp 9] fun r h f g=>by
  unfold Lp at h;have:HJ 95 fun(e:Int)=>[(11,.tv (eI e))]:=⟨⟩;exact nz
instance(a b c):CT (J4 a b c) 199 [AJ a,Bi b,Hh c] (rT Bi eI):=Fk f199 0x819b6d0d06020e0d0b0604056ee6026fcb014860805bdb4704bb0d06027c5b6c0d0b060405810350fb3f38559b011446698989f1fc1174ad37559b0114466901746d8dfbf5 [.yt [.v (.s 37) 0 2,.v (.s 37) 1 2,.z ⟨true,.list 1 []⟩]] [.cell 6 (some 3),.tmp 7] fun r h e f=>by
  unfold J4 at h;have:HW 0 fun(d:ff×Int)=>[(13,.bx [⟨false,lI d.1.d3.ca⟩,⟨false,lE d.1.d3.ci⟩,⟨true,(eL 1 lI) d.1.ej⟩]),(14,.tv (eI d.2))]:=⟨⟩;exact nz
instance(a b):CT (Lh a b) 201 [lI a,eI b] (rO lI):=Ip f201 0x821858e76ee7719a056e719a05719a055fe230148501dee7bd719a058119014faa19586430e7b8ce01409602 [] (Lh.eq_1 ..) (Az 0 6 1 0 (hX 5 1 eI)) (Az 2 7 0 0 (hX 5 1 eI))
instance(a b):CT (LE a b) 200 [eI a,lI b] (rO lI):=Fe f200 0x820e0130409602 [] (LE.eq_1 ..)
instance(a b c):CT (Mh a b c) 139 [AJ a,Bi b,Hh c] (rT Bi Aq):=Fk f139 0x71023b899b04f05e0b7e370e5b0bd96d019bfb74386d38f1fbf5 [] [.cell 6 (some 3),.cell 7 (some 2)] fun r h d e=>by
  unfold Mh at h;exact nz
instance(a b):CT (G3 a b) 140 [lI a,lI b] (rO lI):=Bj f140 0xed58e76e78cb6080300258bde7b8d6409602 [] (G3.eq_1 ..) (Az 0 6 0 0 (hO 5 lI))
instance(a b c d e):CT (FQ a b c d e) 141 [lI a,lI b,eI c,lI d,eI e] (rO lI):=Bj f141 0xed0c01d20be500076ed20be500076b78cbcad20be500073c78cb6060de300285de0c016430d20be50007b8c0820e013040e59605 [] (FQ.eq_1 ..) (Az 0 13 2 0 fun s0:Int×Fp=>[(4,.tv (eI s0.1)),(12,.ow (lI s0.2))])
instance(a b):CT (Hr a b) 202 [lI a,eI b] rB:=Bj f202 0xa59acfbc01608cbd9adfb7 [] (Hr.eq_1 ..) (A5 0 5 0 0)
noncomputable def fH:PC:=PC.of OE f142.body (xq bT 0x35003530806020f09b305066e0f09b305060f09b305065f4a01413703480347074660b45b605e5b5b040141379bf2f35e8e017e0d420806027c920f09b305068109b30505a6b363076ba6b36307a6b363073c1fbb21221923bb0da6b363a80d0ba6b3630a6e19014faa7e04c6190da6b36308bd0e0d0ba6b3630ab8ce01e9805b8d4a5cb5cb805b045c37ffa6b36307c801720d4209b305057c77a6b363078189fcf4d41ec993aba7) []
theorem ut:CK f142 fH [.cell 8 (some 3)]:=by decide +kernel
theorem vO:PC.yb fH=true:=by decide +kernel
instance(a b c d):CT (Lo a b c d) 142 [AJ a,BX b,.agg [.undef,.undef,.undef],Aq d] (fun r=>.ag [⟨true,lI c.d3.ca⟩,⟨true,lE c.d3.ci⟩,⟨true,.xn (List.map lI c.ej)⟩] 2 (.yr [⟨true,lI r.d3.ca⟩,⟨true,lE r.d3.ci⟩,⟨true,.xn (List.map lI r.ej)⟩])):=wa ut vO fun r h i g j=>by
  unfold fH;unfold f142;unfold Lo at h;have:HW 0 fun(f:ff×Int)=>[(6,.bx [⟨true,lI f.1.d3.ca⟩,⟨true,lE f.1.d3.ci⟩,⟨true,.xn (List.map lI f.1.ej)⟩]),(10,.tv (eI f.2))]:=⟨⟩;have:=Az 2 14 11 0 (hX 13 1 eI);have:HW 4 fun(e:ff×Int)=>[(6,.bx [⟨true,lI e.1.d3.ca⟩,⟨true,lE e.1.d3.ci⟩,⟨true,.xn (List.map lI e.1.ej)⟩]),(15,.tv (eI e.2))]:=⟨⟩;exact nz
noncomputable def fI:PC:=PC.of OE f143.body (xq bT 0x819b6d073e0a0702130c0ab263076e2624017e04c625240123bb559b14468a055d4104437ecc3030057e04437ecc3030e980d93881607204c65b6174c4024104c60a0702bd130c0ab26307810c0ab26306d20ab263076ed20ab26307100ed20ab263096e559b14468a5830f87e04c67ecc3005607204c65b607204c65b6174c4024104c6d20ab263076430100ed20ab26309816174c4024104c60c0ab26306bdd20ab2630781825d41066ffb93ab620401) []
theorem uu:CK f143 fI [.cell 10 (some 3),.tmp 11]:=by decide +kernel
theorem vP:PC.yb fI=true:=by decide +kernel
instance(a b c d e):CT (NG a b c d e) 143 [AJ a,BX b,.agg [.undef,.undef,.undef],Aq d,lI e] (fun r=>.ag [⟨true,lI c.d3.ca⟩,⟨true,lE c.d3.ci⟩,⟨true,.xn (List.map lI c.ej)⟩] 2 (.tp [Bi r.1,eI r.2])):=wa uu vP fun r h g f i=>by
  unfold fI;unfold f143;unfold NG at h;have:=Az 0 13 12 0 fun s0:ff=>[(10,.bx [⟨true,lI s0.d3.ca⟩,⟨true,lE s0.d3.ci⟩,⟨true,(eL 1 lI) s0.ej⟩])];have:=Az 2 16 13 0 fun s2:ff=>[(10,.bx [⟨true,lI s2.d3.ca⟩,⟨true,lE s2.d3.ci⟩,⟨true,(eL 1 lI) s2.ej⟩])];have:=Az 4 19 12 0 fun s4:ff×ff=>[(7,.bx [⟨true,lI s4.1.d3.ca⟩,⟨true,lE s4.1.d3.ci⟩,⟨true,.xn (List.map lI s4.1.ej)⟩]),(10,.bx [⟨true,lI s4.2.d3.ca⟩,⟨true,lE s4.2.d3.ci⟩,⟨true,(eL 1 lI) s4.2.ej⟩])];exact nz
instance(a b c d):CT (KO a b c d) 89 [AJ a,BX b,Bi c,Bb d] (rT NY eI):=Fk f89 0x81fe2d46ad6d6d6dea55fe0e468a657eb565d955fe6c4685309b6aca57b4380353ea380d013b03500257381b6dea3889f104f00b5e5e0b7e5cd47e0d427e0b420eee5b0b725cd4720d42720b4289f104f05e7e370e5bd9899bf11ec974386d3855fe6c466989f1746d6dea3855fe6c46766dea8d11c962a7 [] [.cell 8 (some 38),.tmp 9] fun r h e f=>by
  unfold KO at h;exact nz
instance(a b c d):CT (Lq a b c d) 84 [AJ a,(eL 25 BX) b,Bi c,E3 d] (rT NY eI):=Fk f84 0x8013b81fe6a0e6db96dea1943773855fe0e468afa77057711c9936230 [] [.cell 8 (some 38),.tmp 9] fun r h e f=>by
  unfold Lq at h;exact nz
instance(a b c):CT (JL a b c) 49 [AJ a,(eL 25 BX) b,Ep c] (fun r=>.tp [(eL 38 NY) r.1,eI r.2.1,eI r.2.2]):=Bj f49 0x84820bca0a010ce00536066e9b6d1f420226482647264402dc26c03069fe11c974acccbe6dc40a017c7f6f0ce0053606819bfb6d3726c0dc26c0f7bedc26d6766db5383026406230 [] (JL.eq_1 ..) (Az 0 12 5 3 fun s0:List Ax×ff=>[(10,.ow ((eL 38 NY) s0.1)),(11,.bx [⟨false,lI s0.2.d3.ca⟩,⟨false,lE s0.2.d3.ci⟩,⟨false,(eL 1 lI) s0.2.ej⟩])])
instance(a b):CT (KQ a b) 51 [lI a,lI b] (rO lI):=Bj f51 0xed58e76ee73c78cb60803002e73c78cb0285de58bde7b8d6409602 [] (KQ.eq_1 ..) (Az 0 6 0 0 (hO 5 lI))
instance(a b c):CT (Ii a b c) 23 [AJ a,(eL 25 BX) b,Ep c] (fun r=>.tp [Bi r.1,Aq r.2.1,eI r.2.2]):=Fk f23 0x71023b81899b380e6dd271040ed20971066e8904f07e224126c65e0e72224126c65b9b6d1f4126c6d27104bd0ed209710681899bf1fb0ef4376d3755899b01034614466901821174ac018df1fb6230 [] [.cell 6 (some 3),.cell 7 (some 2),.tmp 8] fun r h d e=>by
  unfold Ii at h;have:=Az 0 14 9 0 fun s0:ff×d4=>[(12,.bx [⟨false,lI s0.1.d3.ca⟩,⟨false,lE s0.1.d3.ci⟩,⟨false,(eL 1 lI) s0.1.ej⟩]),(13,.bx [⟨false,lI s0.2.ca⟩,⟨false,lI s0.2.ci⟩])];exact nz
instance(a):CT (N1 a) 191 [Ah a] (rS Aq):=Fk f191 0x8938033e5d02055dcf01e2011db95d0264151d016f055ddf5d02e5cf01e2011d375d0264151db5e5df02501fc93f3f0b5e3feef1a2 [.z8 1 [.int .i64 0] (.s 8),.z8 1 [.int .i64 0] (.s 12),.yt [.w 9,.w 13]] [.cell 2 (some 2)] fun r h d e=>by
  unfold N1 at h;have:HW 0 fun(c:d4×Int)=>[(3,.bx [⟨true,.xl 1 (List.map eI c.1.ca)⟩,⟨true,.xl 1 (List.map eI c.1.ci)⟩]),(4,.tv (eI c.2))]:=⟨⟩;have:HW 2 fun(b:d4×Int)=>[(3,.bx [⟨true,.xl 1 (List.map eI b.1.ca)⟩,⟨true,.xl 1 (List.map eI b.1.ci)⟩]),(5,.tv (eI b.2))]:=⟨⟩;exact nz
instance(a b c d):CT (Pb a b c d) 136 [AJ a,Ah b,Ah c,eB d] (rT (eL 2 Aq) eI):=Fe f136 0x8182015502c0f701820e6cadad5502d676ad8d0240936236 [] (Pb.eq_1 ..)
instance(a b c d):CT (J6 a b c d) 88 [AJ a,BB b,Bi c,eB d] (rT (eL 3 Bb) eI):=Bj f88 0x81ed0d6c0d0b0605056e0e0d0b0605050e0d0b0605053c02034803470946c402c60269e93802c66d700d01bd0e0d0b0605058103c05503d669e9c437cd385503d6766d708d0340936236 [] (J6.eq_1 ..) (Az 0 14 11 0 (hO 13 (eL 3 Bb)))
instance(a b c):CT (HN a b c) 53 [AJ a,BX b,Bi c] (rT (eL 3 Bb) eI):=Bj f53 0x81ed0b010c0b0963eb6e0c0b0963eb0c0b0963eb3c02034803476d03c60269fe1149746d03c66dea380b01bd0c0b0963eb8103c05503d669e9030f426d70b9385503d6766dea8d0340f5 [] (HN.eq_1 ..) (Az 0 12 9 0 (hO 11 (eL 3 Bb)))
instance(a b c):CT (G4 a b c) 24 [AJ a,(eL 25 BX) b,Bi c] (rT (eL 4 E3) eI):=Ip f24 0x81ed080109080536056e09080536050ca6080536076e02044804471246f330020908053605bd0ca608053607815504d669e96dea19c6380801bd09080536058104d604406230 [] (G4.eq_1 ..) (Az 0 9 1 0 (hO 8 (eL 4 E3))) (Az 2 12 10 0 (hO 8 (eL 4 E3)))
instance(a):CT (Ik a) 92 [Bk a] rI:=Bj f92 0xa536026e97056058a14280a16f58e47f413780a16f0580a142007ca16f360281bc0ba16fa2 [] (Ik.eq_1 ..) (A5 0 3 1 4)
instance(a b c):CT (KT a b c) 90 [AJ a,(eL 25 BX) b,Bk c] rI:=Fe f90 0x810e707d69ca1174acb58d6230 [] (KT.eq_1 ..)
instance(a):CT (Ij a) 145 [Bb a] (rS Bb):=Fk f145 0x783b9b09460148db47044601487e37aa0148d9aa0fc9a2 [] [.cell 2 (some 3)] fun r h b c=>by
  unfold Ij at h;exact nz
instance(a):CT (JK a) 144 [Ep a] (fun r=>.yr [⟨true,lI r.hV.d3.ca⟩,⟨true,lE r.hV.d3.ci⟩,⟨true,.xn (List.map lI r.hV.ej)⟩,⟨true,(eL 4 E3) r.gn⟩]):=Fk f144 0x45004535d02e501046ee603420448044712f00359015accbe72ccbe0403425d027c7f6fe5010481045015c93f1b6d3715c9a2 [.yt [.g 7 0 3,.g 7 1 3,.g 7 2 3,.z ⟨true,.list 4 []⟩]] [.cell 2 (some 4)] fun r h b c=>by
  unfold JK at h;have:=Az 0 4 1 3 fun s0:AS=>[(3,.bx [⟨true,lI s0.hV.d3.ca⟩,⟨true,lE s0.hV.d3.ci⟩,⟨true,.xn (List.map lI s0.hV.ej)⟩,⟨true,(eL 4 E3) s0.gn⟩])];exact nz
instance(a b c d):CT (LF a b c d) 91 [AJ a,(eL 25 BX) b,Ep c,E3 d] (rT Ep eI):=Fk f91 0x81d3ac0f3ee603420448044712f00359015ad75a040342045015c91bac55d301154669fe114974ac6dc455d31546f7be55d301154669899b0849fb1174ac018d15c9936230 [] [.cell 8 (some 4),.tmp 9] fun r h e f=>by
  unfold LF at h;exact nz
instance(a b c d):CT (Qk a b c d) 54 [AJ a,(eL 25 BX) b,Bk c,E3 d] (rT Bk eI):=Fk f54 0x8013bd816460148a16f47acdd01134669d315c974acacb538dd0113467670018de3936230 [] [.cell 8 (some 5),.tmp 9] fun r h e f=>by
  unfold Qk at h;exact nz
instance(a):CT (HO a) 93 [Bk a] (fun r=>.yr [⟨true,lI r.em.hV.d3.ca⟩,⟨true,lE r.em.hV.d3.ci⟩,⟨true,.xn (List.map lI r.em.hV.ej)⟩,⟨true,(eL 4 E3) r.em.gn⟩,⟨true,lI r.gp⟩]):=Fk f93 0x783b05503f0148a16f471bac37e3a2 [.yt [.g 5 0 4,.g 5 1 4,.g 5 2 4,.g 5 3 4,.w 9]] [.cell 2 (some 5)] fun r h b c=>by
  unfold HO at h;exact nz
instance(a):CT (MV a) 55 [Bk a] (rT Bk eI):=Fk f55 0xd870053ee6046fcb0b7f413704ef0550e31b70dd1346f7a142dd011346767001e3a2 [] [.cell 2 (some 5),.tmp 3] fun r h b c=>by
  unfold MV at h;exact nz
instance(a):CT (LG a) 56 [Bk a] (rT Bk eI):=Fk f56 0xd870e6046f4565a142a14275e30e70dd1346f7a142dd011346767001e3a2 [] [.cell 2 (some 5),.tmp 3] fun r h b c=>by
  unfold LG at h;exact nz
instance(a b c):CT (JM a b c) 57 [AJ a,(eL 25 BX) b,Bk c] (rT Bk eI):=Fk f57 0xd870e6046f4558a16f4a03413704456058a1427f413775e30e70dd1346690ba142dd0113467670018de36230 [] [.cell 6 (some 5),.tmp 7] fun r h d e=>by
  unfold JM at h;exact nz
instance(a b c d):CT (IK a b c d) 25 [AJ a,(eL 25 BX) b,Bk c,Rm d] (rT Bk eI):=Fk f25 0xd81346ffdd6a0e70c4c3d86a0e70c3d86a0e70c3d86a0eacb970c4c383b5e3936230 [] [.cell 8 (some 5),.tmp 9] fun r h e f=>by
  unfold IK at h;exact nz
instance(a b c d):CT (J8 a b c d) 8 [AJ a,(eL 25 BX) b,Bk c,(eL 2 Fo) d] (rO (eL 5 Rm)):=Bj f8 0xed0901a606fd066ba606fd06a606fd06a606fd063c7570020548054770026975e3747070c40ba606fd070ba606fd073c044ab9ac0443faec3f027330ffa606fd06f730e96d018d899b0849fb1174acb538855b7516c91c460505ec3f02c60901bda606fd06c3c00540bf933602 [.Aau (.s 2),.zr (.s 27) (.c (.int .i64 0)) 1 2,.y8 .i64 (.s 29),.zr (.s 59) (.c (.int .i64 1)) 1 2,.y8 .i64 (.s 61)] (J8.eq_1 ..) (Az 0 10 3 0 fun s0:AH×List Bp=>[(6,.bx [⟨false,lI s0.1.em.hV.d3.ca⟩,⟨false,lE s0.1.em.hV.d3.ci⟩,⟨false,(eL 1 lI) s0.1.em.hV.ej⟩,⟨false,(eL 4 E3) s0.1.em.gn⟩,⟨false,lI s0.1.gp⟩]),(9,.ow ((eL 5 Rm) s0.2))])
instance(a b):CT (Lf a b) 29 [lI a,lI b] rB:=Bj f29 0xa59acfbcde608cbd9adfbc0b010b01b7 [] (Lf.eq_1 ..) (A5 0 5 0 0)
instance(a b):CT (Nw a b) 34 [Ah a,Ah b] rB:=Bj f34 0xa5055dcf55bff35ef35e007c92055ddfe45e0b92a85b77a7 [.bin (.a [0,0,0]) .neq (.s 32) (.s 37)] (Nw.eq_1 ..) (A5 0 5 2 1)
instance(a b):CT (J5 a b) 35 [lI a,lI b] rI:=Bj f35 0x81fa0bb79acf5505dede85de80b7ff8afa3065309adfb7 [] (J5.eq_1 ..) (⟨⟩:HW 0 fun(c:Int)=>[(5,.tv (eI c))])
instance(a b):CT (Lj a b) 15 [Bi a,Bi b] rB:=Bj f15 0xa5055dcfbc0e80b480b4007cdb055ddfe4b40bdba8cd38b5a7 [] (Lj.eq_1 ..) (A5 0 5 2 2)
end Go.Sf.Sc
