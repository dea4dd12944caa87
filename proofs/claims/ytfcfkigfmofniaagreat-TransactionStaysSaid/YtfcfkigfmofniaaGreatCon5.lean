/- Contracts of the functions. -/
import Derived.Test.YtfcfkigfmofniaaGreatCon0
import Derived.Test.YtfcfkigfmofniaaGreatCon4
import Derived.Test.YtfcfkigfmofniaaGreatTryzShelf
import Derived.Test.YtfcfkigfmofniaaGreatTw
set_option linter.all false
set_option maxRecDepth 100000
set_option maxHeartbeats 4000000
namespace Go.Sf.Sc
open Go Go.Sf Go.Proofs.Tryz
instance(a):CT (N8 a) 19 [HC a] (fun r=>.tp [AJ r.1,(eL 25 BX) r.2.1,Bi r.2.2]):=Fk f19 0x402023b9b82890ead0238891dc92b4603452d0b7e03427e034202452d0b720342720342d07805716378066e02194819470e0f443802024a5c370ef4370f4b1cc90f440f73b4d07805ff8a9e65db716378068119c08917c90e5e5bfb194017c9a2 [] [.cell 2 (some 2),.tmp 3,.cell 4 (some 3)] fun r h c d=>by
  unfold N8 at h;have:HW 0 fun(b:List f0×Int)=>[(6,.ow ((eL 25 BX) b.1)),(7,.tv (eI b.2))]:=⟨⟩;exact nz
instance(a):CT (K7 a) 41 [AJ a] rB:=Fj f41 0xa508ca6ebc0c7207735e007c9208ca8130fdcffd036336046e633604716336066ebc0c80be6336047c7f6f7163360681e47f6f050c5bd302c9accc7f41cc5bfd037c7f41cc776336048197050c72cc779e657f41cc77307c77fd0384e4926577a2 [] fun h=>by
  unfold K7 at h;have:=Az 0 4 1 0 (hT 3 eI);have:HW 2 fun(b:Int)=>[(5,.tv (eI b))]:=⟨⟩;have:HW 4 fun(c:Int)=>[(7,.tv (eI c))]:=⟨⟩;have:=A5 6 8 1 1;exact nz
instance(a):CT (JS a) 78 [Ah a] rB:=Fe f78 0xb665926577a2 [] (JS.eq_1 ..)
instance(a):CT (K8 a) 42 [Bi a] rB:=Bj f42 0xa536026ebc0b80b4007cdb360281e4dba838b5a2 [] (K8.eq_1 ..) (A5 0 3 1 2)
instance(a):CT (JT a) 122 [BB a] rB:=Fe f122 0xb665a16f0a65b46c38b5a2 [] (JT.eq_1 ..)
instance(a b):CT (RB a b) 123 [Hh a,eI b] rB:=Fe f123 0x8158655e0b77d5 [] (RB.eq_1 ..)
instance(a b):CT (PZ a b) 124 [Aq a,eI b] rB:=Fe f124 0x8158655e0b77d5 [] (PZ.eq_1 ..)
abbrev Q_176(n:Nat):Prop:=∀(c:d5)(a:Int),CT (Cc n c a) 176 [AI c,eI a] rI
theorem uQ(n:Nat)(_ih_176:Q_176 n)(c:d5)(a:Int):CT (Cc (n+1) c a) 176 [AI c,eI a] rI:=Fj f176 0xb8300578cf6c01b109735e30ff8a9e65920578df97a838026fa870046f9ed5 [] fun h=>by
  unfold Cc at h;have:HW 0 fun(b:Int×Int)=>[(1,.tv (eI b.1)),(5,.tv (eI b.2))]:=⟨⟩;exact nz
theorem uP:∀n:Nat,Q_176 n:=by
  intro n
  induction n with
  |zero=>exact(fun c sx=>⟨fun _ h=>by cases h⟩)
  |succ n a=>exact uQ n a
instance(c sx):CT (QB c sx) 176 [AI c,eI sx] rI:=⟨fun r h=>by
  obtain ⟨N,a⟩:=Cp h;exact((uP N) c sx).snd r (a N (b6 _))⟩
instance(a):CT (JU a) 125 [AI a] rB:=Fe f125 0xc30eb101a2 [] (JU.eq_1 ..)
instance(a):CT (Pc a) 79 [BX a] rB:=Fe f79 0xb60eb1106f0a0e380d6f0a0e380b6f0a0e70066f0a0e70016f050c77a2 [] (Pc.eq_1 ..)
instance(a b):CT (Gu a b) 240 [AJ a,Ah b] rB:=Ip f240 0xa5065dcfe45e72c1920572c15e007c92065ddf5d02055dcfe45b807705805b5d027c77055d03b8a7 [] (Gu.eq_1 ..) (A5 0 5 3 0) (A5 2 6 3 1)
instance(a b c d):CT (N3 a b c d) 241 [AJ a,BB b,eI c,eI d] (rT IA eB):=Fk f241 0x81d3ac04c655d301468afa30f65881e980d93855d301468a65d9309e02c9625d02 [] [.cell 8 (some 4),.tmp 9] fun r h e f=>by
  unfold N3 at h;exact nz
instance(a):CT (Mg a) 242 [eI a] rB:=Fe f242 0xb69e058c01 [] (Mg.eq_1 ..)
instance(a b):CT (JC a b) 334 [eI a,Qy b] rI:=Fe f334 0x81970592f8920a58770577a201 [] (JC.eq_1 ..)
instance(a b):CT (PY a b) 291 [eI a,GN b] rI:=Fe f291 0x810e38036fa98d6f9705770577a201 [] (PY.eq_1 ..)
instance(a b):CT (MD a b) 243 [eI a,lT b] rI:=Bj f243 0xa59acfa97005738cbd9adfbc0b01979e58b7 [] (MD.eq_1 ..) (A5 0 5 1 0)
instance(a b):CT (LA a b) 244 [BB a,eI b] rB:=Bj f244 0xa50578cfbc01720241ccb4007cdb057803b8d5 [] (LA.eq_1 ..) (A5 0 5 2 2)
instance(a b):CT (Gw a b) 177 [AJ a,BB b] rI:=Ip f177 0xa50d5d6ee8017000647f6f0d5d81a9a142be36085dcf97a87e026ff8be72026ff872026f0861d30249745e5b7038d305c9acccb4367cdb085ddfe4a16f65b497057f6f05bee8cd38a9cd7d6901748da7 [] (Gw.eq_1 ..) (A5 0 8 3 2) (A5 2 13 3 3)
instance(a):CT (HM a) 335 [AI a] rB:=Fe f335 0xb6057f41046ff865a141ef0b5d41ef30c3657e5cef65725cef657ebb0b72026fa2 [] (HM.eq_1 ..)
instance(a):CT (MO a) 292 [AI a] rB:=Bj f292 0x81ff55655ec3b60eb101655e190401039119040103c3b60eb101655ec3b60eb101655ec383b5a2 [] (MO.eq_1 ..) (⟨⟩:HJ 25 fun(b:Bool)=>[(25,.tv (eB b))])
abbrev Q_245(n:Nat):Prop:=∀(c:d5),CT (ED n c) 245 [AI c] rB
theorem uX(n:Nat)(_ih_245:Q_245 n)(c:d5):CT (ED (n+1) c) 245 [AI c] rB:=Fj f245 0xa536026ee8b109735e007c92360281e8b101a2 [] fun h=>by
  unfold ED at h;have:=A5 0 3 1 1;exact nz
theorem uW:∀n:Nat,Q_245 n:=by
  intro n
  induction n with
  |zero=>exact(fun c=>⟨fun _ h=>by cases h⟩)
  |succ n a=>exact uX n a
instance(c):CT (Of c) 245 [AI c] rB:=⟨fun r h=>by
  obtain ⟨N,a⟩:=Cp h;exact((uW N) c).snd r (a N (b6 _))⟩
abbrev Q_246(n:Nat):Prop:=∀(c:d5),CT (Eg n c) 246 [AI c] (rT eI eI)
theorem uZ(n:Nat)(_ih_246:Q_246 n)(c:d5):CT (Eg (n+1) c) 246 [AI c] (rT eI eI):=Fj f246 0x8430630263026b855b630103d001046e302c309e8474b109735e6301037c92d00104818430a2 [] fun h=>by
  unfold Eg at h;have:=Az 0 6 1 1 fun s0:Int×Int=>[(4,.tv (eI s0.1)),(5,.tv (eI s0.2))];have:HJ 33 fun(a:Int)=>[(5,.tv (eI a))]:=⟨⟩;exact nz
theorem uY:∀n:Nat,Q_246 n:=by
  intro n
  induction n with
  |zero=>exact(fun c=>⟨fun _ h=>by cases h⟩)
  |succ n a=>exact uZ n a
instance(c):CT (Pr c) 246 [AI c] (rT eI eI):=⟨fun r h=>by
  obtain ⟨N,a⟩:=Cp h;exact((uY N) c).snd r (a N (b6 _))⟩
instance(a):CT (MM a) 178 [AI a] rI:=Fe f178 0x81979e588474b1e8b101a2 [] (MM.eq_1 ..)
instance(a b):CT (N4 a b) 293 [BB a,eI b] rB:=Bj f293 0xa50578cfbc01720241ccb4007cdb057803b8d5 [] (N4.eq_1 ..) (A5 0 5 2 2)
instance(a b c):CT (MN a b c) 247 [AJ a,eI b,BB c] rI:=Bj f247 0xa5b205cf7dc8017000647f6fb20503b8a97038bc017f6f6230 [] (MN.eq_1 ..) (A5 0 8 5 3)
instance(a b c):CT (Gs a b c) 248 [Ah a,Ah b,Aq c] rI:=Ip f248 0xa50a63a16e9705b460b477055e605e5bbc5b5b9b9bf2f26d0343805e5ef35ee45e809205805e007c920a63a181637f0963a16ebc805b60805b5be45b807705805b637f7c770963a181e45e0b92655beea938a98df5 [] (Gs.eq_1 ..) (A5 0 9 3 0) (A5 2 10 3 1)
instance(a):CT (Ef a) 186 [lI a] rB:=Ip f186 0xa5d7026ed70204d7cfbcdeded702643004d703a5bdd702819601 [] (Ef.eq_1 ..) (A5 0 3 0 0) (A5 2 4 3 0)
instance(a b c):CT (IJ a b c) 249 [Ah a,Ah b,Aq c] rB:=Fe f249 0xb60e920a0e77050ead8df5 [] (IJ.eq_1 ..)
abbrev Q_179(n:Nat):Prop:=∀(t:eb)(p:d7)(c:d5),CT (Et n t p c) 179 [AJ t,BB p,AI c] rI
theorem uT(n:Nat)(_ih_179:Q_179 n)(t:eb)(p:d7)(c:d5):CT (Et (n+1) t p c) 179 [AJ t,BB p,AI c] rI:=Fj f179 0xa50a0705a16ea9b109735e7038007c920a0705a18107057f07057f3c7570efe838bbf4efcda938bbf4efcda970efbe38855b7509c97001f5 [] fun h=>by
  unfold Et at h;have:=A5 0 10 5 1;exact nz
theorem uR:∀n:Nat,Q_179 n:=by
  intro n
  induction n with
  |zero=>exact(fun t p c=>⟨fun _ h=>by cases h⟩)
  |succ n a=>exact uT n a
instance(t p c):CT (Wy t p c) 179 [AJ t,BB p,AI c] rI:=⟨fun r h=>by
  obtain ⟨N,a⟩:=Cp h;exact((uR N) t p c).snd r (a N (b6 _))⟩
instance(a b c):CT (KM a b c) 126 [AJ a,BB b,AI c] rI:=Fe f126 0x810eb17038a9b1a9708df5 [] (KM.eq_1 ..)
instance(a b c):CT (Gv a b c) 189 [AJ a,Ah b,Ah c] rI:=Fe f189 0x8197a8388da8ada938a9387d6901748df5 [] (Gv.eq_1 ..)
instance(a b c):CT (MH a b c) 180 [AJ a,Ah b,Ah c] rB:=Fe f180 0xb60a0a65920a657705655e0b77050ead8d0a0e8d0a0e386c8df5 [] (MH.eq_1 ..)
instance(a b c):CT (O9 a b c) 127 [AJ a,BB b,Bi c] rB:=Fe f127 0xb60ecdcd8d0a0e6d6c7001f5 [] (O9.eq_1 ..)
abbrev Q_128(n:Nat):Prop:=∀(c:d5),CT (FP n c) 128 [AI c] rB
theorem uK(n:Nat)(_ih_128:Q_128 n)(c:d5):CT (FP (n+1) c) 128 [AI c] rB:=Fj f128 0xc3657e5cef0b725cef3036026ee8b109735e307c923602b8a2 [] fun h=>by
  unfold FP at h;have:=A5 0 3 1 1;exact nz
theorem uJ:∀n:Nat,Q_128 n:=by
  intro n
  induction n with
  |zero=>exact(fun c=>⟨fun _ h=>by cases h⟩)
  |succ n a=>exact uK n a
instance(c):CT (Qj c) 128 [AI c] rB:=⟨fun r h=>by
  obtain ⟨N,a⟩:=Cp h;exact((uJ N) c).snd r (a N (b6 _))⟩
abbrev Q_129(n:Nat):Prop:=∀(p:d7)(c:d5)(a:Int)(b:Int),CT (Dt n p c a b) 129 [BB p,AI c,eI a,eI b] rB
theorem uM(n:Nat)(_ih_129:Q_129 n)(p:d7)(c:d5)(a:Int)(b:Int):CT (Dt (n+1) p c a b) 129 [BB p,AI c,eI a,eI b] rB:=Fj f129 0x81580a010da6055d066ee830b109735e700a017c920da6055d0681a6055d050ca6055d066e019ea6055d057c7eb50ca6055d06810b7e37a6ba060ba6ba076e019ea6ba067c72b50ba6ba07810bd98109ba0509ba053c7570ef855b7509c97001625d02 [] fun h=>by
  unfold Dt at h;have:HJ 17 fun(d:d7)=>[(9,.bx [⟨false,lI d.d3.ca⟩,⟨false,lE d.d3.ci⟩,⟨false,lS d.ed⟩,⟨false,eI d.fd⟩,⟨false,lT d.mh⟩])]:=⟨⟩;have:HW 0 fun(e:Int×Int)=>[(10,.tv (eI e.1)),(11,.tv (eI e.2))]:=⟨⟩;have:HW 2 fun(f:Int×Int)=>[(10,.tv (eI f.1)),(12,.tv (eI f.2))]:=⟨⟩;have:=A5 4 13 5 1;exact nz
theorem uL:∀n:Nat,Q_129 n:=by
  intro n
  induction n with
  |zero=>exact(fun p c ea ec=>⟨fun _ h=>by cases h⟩)
  |succ n a=>exact uM n a
instance(p c ea ec):CT (Pq p c ea ec) 129 [BB p,AI c,eI ea,eI ec] rB:=⟨fun r h=>by
  obtain ⟨N,a⟩:=Cp h;exact((uL N) p c ea ec).snd r (a N (b6 _))⟩
instance(a b c d):CT (ML a b c d) 80 [AJ a,BB b,AI c,Bi d] rB:=Fe f80 0xb60a0eb170010a657eb50a6572b50a0eb16c6d708d050eb1703897a86d010aa87001a8b10162a7 [] (ML.eq_1 ..)
instance(a b c):CT (KP a b c) 43 [AJ a,BX b,Bi c] rB:=Fe f43 0xb60e6db1104270b98d0a0eea6c8df5 [] (KP.eq_1 ..)
abbrev Q_44(n:Nat):Prop:=∀(p:d7)(c:d5)(a:Int),CT (C5 n p c a) 44 [BB p,AI c,eI a] rB
theorem xM(n:Nat)(_ih_44:Q_44 n)(p:d7)(c:d5)(a:Int):CT (C5 (n+1) p c a) 44 [BB p,AI c,eI a] rB:=Fj f44 0x8158780a070402046ee801b109735e7078ff8a9e65920a07040204810704020309070402046e015807040203ff8a9e657eb50907040204810b7e3707e504b2e5056e015807e504ff8a9e6572b5b2e505810bd907e50407e5043c7570ef855b7509c970016278 [] fun h=>by
  unfold C5 at h;have:HJ 14 fun(b:d7)=>[(7,.bx [⟨false,lI b.d3.ca⟩,⟨false,lE b.d3.ci⟩,⟨false,lS b.ed⟩,⟨false,eI b.fd⟩,⟨false,lT b.mh⟩])]:=⟨⟩;have:HW 0 fun(d:Int×Int)=>[(2,.tv (eI d.1)),(8,.tv (eI d.2))]:=⟨⟩;have:HW 2 fun(e:Int×Int)=>[(2,.tv (eI e.1)),(9,.tv (eI e.2))]:=⟨⟩;have:HW 4 fun(f:Int)=>[(10,.tv (eI f))]:=⟨⟩;exact nz
theorem xL:∀n:Nat,Q_44 n:=by
  intro n
  induction n with
  |zero=>exact(fun p c a=>⟨fun _ h=>by cases h⟩)
  |succ n b=>exact xM n b
instance(p c ways):CT (Mi p c ways) 44 [BB p,AI c,eI ways] rB:=⟨fun r h=>by
  obtain ⟨N,a⟩:=Cp h;exact((xL N) p c ways).snd r (a N (b6 _))⟩
instance(a b c):CT (N6 a b c) 253 [AJ a,BB b,eI c] rI:=Bj f253 0xa50a070402046e97055e7eccdb055b72ccb40064300a070402048197057e026ff87e026ff8be72026ff872026f0afa920592e9605bd938e4d977055bd305c9acccdb6278 [] (N6.eq_1 ..) (A5 0 10 2 0)
instance(a b):CT (MQ a b) 184 [AJ a,BX b] rI:=Bj f184 0xa5065dcfa90170d438007c5d41066f065ddfbc0b5d41d4e4a141066f057f41b97f41d4e8f4d438a9f4066fa7 [] (MQ.eq_1 ..) (A5 0 6 3 8)
instance(a):CT (N7 a) 185 [BX a] rI:=Fe f185 0x810e380d42f4d48d89890849fc1174380b42f4b9a9380b42f4016fa2 [] (N7.eq_1 ..)
instance(a b):CT (RC a b) 297 [lI a,eI b] rB:=Bj f297 0xa59acfbc01608cbd9adfb7 [] (RC.eq_1 ..) (A5 0 5 0 0)
instance(a b):CT (Ln a b) 254 [eI a,lI b] (rO lI):=Bj f254 0xed58e76ee7e73c78cbcac830586430e7b8d6409602 [] (Ln.eq_1 ..) (Az 0 6 0 0 (hO 5 lI))
instance(a):CT (J7 a) 187 [BX a] (rT lI lI):=Fe f187 0x82820e7e0d420b7e5cd40e720d420b725c066f400140a2 [] (J7.eq_1 ..)
instance(a b c d):CT (LD a b c d) 188 [AJ a,Ah b,lI c,lI d] rB:=Ip f188 0xa50a63a16ee860b45b605e5b5b389bf26d0343de5e00bd0a63a181637f09ba056e55830241044360de5b5b637fbd09ba05b8625d02 [] (LD.eq_1 ..) (A5 0 9 2 0) (A5 2 10 3 0)
instance(a b):CT (KN a b) 131 [AJ a,BX b] rI:=Fe f131 0x810eb1104270b938e830f4d43882e9ea97a87e0d6fa8720d42a9eaa9ea38a970b938e85b7d6901748da7 [] (KN.eq_1 ..)
instance(a b):CT (MU a b) 81 [AJ a,(eL 25 BX) b] rI:=Bj f81 0xa50778cfa9ea19c63800bd0778dfbc0b017d6901748dd5 [] (MU.eq_1 ..) (A5 0 7 1 0)
instance(a b c):CT (Nz a b c) 132 [AJ a,eI b,lI c] rI:=Bj f132 0xa5090702cf97055d4104c68030057e04c6608cbd090702dfbc0b010b30e9c455830241cc5bbcee30937802 [] (Nz.eq_1 ..) (A5 0 9 7 0)
instance(a b):CT (Gt a b) 82 [AJ a,Bi b] (rT eI eI):=Ip f82 0x84000b5dcf55b8c860b4d9605ed95b3855b8f75e5b9bf2f37e37007c7eb50b5ddf5d02095dcfdc307680b480d9385d027c72b5095ddfdcf7d90bb455b876cd55b86901743830a7 [] (Gt.eq_1 ..) (A5 0 9 3 0) (A5 2 11 3 1)
instance(a b c):CT (KS a b c) 45 [AJ a,(eL 25 BX) b,Bi c] rI:=Fe f45 0x816101746d38a9018d6230 [] (KS.eq_1 ..)
instance(a b c):CT (MT a b c) 20 [AJ a,(eL 25 BX) b,Bi c] rB:=Bj f20 0xb60a657eb50a6572b530050e6dc407053604b20536056e010a0eb1104119c67001411973300a65725c06411973300a657e5c01411973300a65725c014119c630e86dea19c63807053604bdb20536058497a86d010aa88d0a65300a653065306230 [] (MT.eq_1 ..) (Az 0 8 1 0 (hT 7 eB))
instance(a):CT (HI a) 52 [Bi a] (fun r=>.yr [⟨true,lI r.d3.ca⟩,⟨true,lE r.d3.ci⟩,⟨true,.xn (List.map lI r.ej)⟩]):=Fk f52 0x35003535d02e501046e1fbb2122014f80db5623bb5d027cdbe501048103501ec93f1bcd1ec9a2 [.yt [.g 7 0 2,.g 7 1 2,.z ⟨true,.xn []⟩]] [.cell 2 (some 3)] fun r h b c=>by
  unfold HI at h;have:=Az 0 4 1 2 fun s0:ff=>[(3,.bx [⟨true,lI s0.d3.ca⟩,⟨true,lE s0.d3.ci⟩,⟨true,.xn (List.map lI s0.ej)⟩])];exact nz
instance(a b c):CT (Ih a b c) 87 [AJ a,BX b,Bi c] rI:=Fe f87 0x816101746d38a9ea8df5 [] (Ih.eq_1 ..)
instance(a b):CT (Ld a b) 146 [lI a,lI b] rB:=Bj f146 0xa59acfbcde608cbd9adfbc0b010b01b7 [] (Ld.eq_1 ..) (A5 0 5 0 0)
instance(a):CT (JH a) 301 [lI a] rB:=Ip f301 0xa5d7026ed70204d7cfbcdeded702643004d703a5bdd702819601 [] (JH.eq_1 ..) (A5 0 3 0 0) (A5 2 4 3 0)
instance(a b c d e):CT (MI a b c d e) 257 [AJ a,Ah b,Ah c,Aq d,eB e] rI:=Ip f257 0x81970aa892a85b300804020cb304056e9705b460b477055e605e5bbc5b5b9b9bf2f26d0343805e5ef35ee45e809205805e0804027c920cb3040581b304040bb363066ee8805b60805b5b38e45b807705805bb304047c770bb3630681e45e0b92655b0b7762620401 [] (MI.eq_1 ..) (A5 0 11 8 0) (A5 2 12 8 1)
instance(a b c d e):CT (If a b c d e) 194 [AJ a,Ah b,Ah c,Aq d,eB e] rI:=Fe f194 0x810e01adada9ad8d62620401 [] (If.eq_1 ..)
instance(a b c):CT (KL a b c) 135 [AJ a,BB b,Bi c] rI:=Fe f135 0x816101746d38a9708df5 [] (KL.eq_1 ..)
instance(a b):CT (Ig a b) 192 [Qy a,lI b] rI:=Fe f192 0xc35e6077555e8577d5 [] (Ig.eq_1 ..)
instance(a b):CT (KF a b) 256 [Qy a,lI b] (rT eI eB):=Fe f256 0x84055e6077dc8afa77055bdc5e855b30d5 [] (KF.eq_1 ..)
instance(a b):CT (MC a b) 193 [GN a,lI b] rB:=Fe f193 0xb60a583005770a5830055b97083008618174c403428474018d6fd5 [] (MC.eq_1 ..)
instance(a b c):CT (HK a b c) 137 [BB a,Bi b,Aq c] (rT lI eI):=Ip f137 0x818218086c087f6e7dc0882014700573a14208017ca1426c087f81085da60863eb6e7dc08501201438bb0c0ba6086303080c0ba6086303085fe2057ebb301401e201148a0817d1011401588172bb81605e60605b5bb4d305c9acccb4085d7cdba60863eb81993fbe993fbe3040f5 [.z8 1 [.int .i64 0] (.s 16),.z8 1 [.bool false] (.s 19)] (HK.eq_1 ..) (Az 0 10 3 2 fun s0:Fp×a6=>[(8,.xo 1 (List.map eI s0.1)),(9,.xo 1 (List.map eB s0.2))]) (A5 2 14 3 4)
instance(a b c d):CT (MJ a b c d) 195 [AJ a,BB b,Bi c,Aq d] (rT lI eI):=Fe f195 0x81826a0e386d707dd676ad37cd387dd6766d7038304062a7 [] (MJ.eq_1 ..)
instance(a b c d):CT (JG a b c d) 196 [AJ a,Ah b,Ah c,Aq d] (rT Ah eI):=Fk f196 0x8189380b3e0b08020c0bb3056e01e260805b771d370b080264151db50c0bb3058102501bc927385589ca467638ad8dfc62a7 [] [.cell 8 (some 2),.tmp 9] fun r h f g=>by
  unfold JG at h;have:HW 0 fun(e:d3×Int)=>[(11,.bx [⟨true,.xl 1 (List.map eI e.1.ca)⟩,⟨true,.xl 3 (List.map Bu e.1.ci)⟩]),(12,.tv (eI e.2))]:=⟨⟩;exact nz
instance(a b c d):CT (O8 a b c d) 258 [Ah a,Ah b,Hh c,Aq d] rI:=Fe f258 0x810eada9ad8d62a7 [] (O8.eq_1 ..)
instance(a b):CT (Dm a b) 302 [lI a,eI b] rB:=Bj f302 0xa59acfbc01608cbd9adfb7 [] (Dm.eq_1 ..) (A5 0 5 0 0)
instance(a b):CT (Fw a b) 259 [lI a,lI b] (rO (eL 2 Qx)):=Ip f259 0xed58e76ee7719a056e719a05719a053c0202480247054630028a0aa80130a8013005dedee7bd719a05815858bde78102c002409602 [] (Fw.eq_1 ..) (Az 0 6 0 0 (hO 5 (eL 2 Qx))) (Az 2 7 0 0 (hO 5 (eL 2 Qx)))
instance(a b):CT (Jk a b) 262 [lI a,lI b] (rO lI):=Bj f262 0xed58e76ee7e73c78cbde02c83058bde7b8d6409602 [] (Jk.eq_1 ..) (Az 0 6 0 0 (hO 5 lI))
instance(a b c d):CT (JF a b c d) 260 [Ah a,Ah b,Hh c,Aq d] (rO lI):=Bj f260 0xed09010ba60705056e0ba6070565a60705053c78cbca8a0a0e5d41c15e300e7ec15e30a8015e09017c920ba607050581820e5b77d64093621300 [] (JF.eq_1 ..) (Az 0 11 5 1 (hO 9 lI))
instance(a b):CT (Li a b) 261 [eI a,lI b] (rO lI):=Bj f261 0xed58e76ee7e73c78cbcac830586430e7b8d6409602 [] (Li.eq_1 ..) (Az 0 6 0 0 (hO 5 lI))
instance(a b c d):CT (Qi a b c d) 197 [Ah a,Ah b,Hh c,Aq d] (rT Hh eI):=Fk f197 0x8013b818904f00e5e5e0b5e0e0e5b5bee55890346f70eadad5589034685650e5e5e0b0e5b5b55890103467638ad8df162a7 [] [.cell 8 (some 2),.tmp 9] fun r h e f=>by
  unfold Qi at h;exact nz
instance(a b c):CT (JJ a b c) 341 [eI a,lI b,lI c] (rO lI):=Ip f341 0x82180701090778046e01e2dede140701bd0907780481077803b27800056e19014faa190778036430b2780005b8ce0140780003 [] (JJ.eq_1 ..) (Az 0 8 0 0 (hX 7 1 eI)) (Az 2 9 1 0 (hX 7 1 eI))
instance(a b):CT (Ez a b) 298 [.pt (TU a).cells,lI b] rB:=Ip f298 0xa59a036b9a039adf880107e1b39a066e010af860dbdbf8609292055b5b309bf2f37e04900107e17c7e049030b39a0684ff9a038afadbfa5e9bf2f37e0290967c7e0290309adfb7 [] (Ez.eq_1 ..) (A5 0 5 0 3) (Az 2 8 0 5 (hT 7 eB))
instance(a b c):CT (Cl a b c) 300 [.pt (TU a).cells,lI b,eI c] rB:=Bj f300 0xa5077800046ebc01608cff8a03089030653007780004b8780003 [] (Cl.eq_1 ..) (⟨⟩:HW 0 fun(d:Int)=>[(7,.tv (eI d))])
noncomputable def ZI:PC:=PC.of OE f299.body (xq bT 0x1b37800066bb3780006b37800063c005201cb304830470137ffb37800068a0560dbdbf8609292f85b770a2030b50a58807e0690b505807e06c59bf2f37e04c500017c7e0490b5b3780006819bf2f37e02c5ffe60a900248024704460148304701483047040ac537f77e02c5610b01640309c50b030ac5780003) []
theorem uz:CK f299 ZI []:=by decide +kernel
theorem vT:PC.yb ZI=true/\PC.yd 0 ZI=true:=by decide +kernel
abbrev Q_299(n:Nat):Prop:=∀(b:Ae)(a:Fp)(l:Fp),CT (CA n b a l) 299 [.undef,lI a,lI l] (fun r=>.bo (Bo b) (Bo r) 0 [])
theorem ui(n:Nat)(_ih_299:Q_299 n)(b:Ae)(a:Fp)(l:Fp):CT (CA (n+1) b a l) 299 [.undef,lI a,lI l] (fun r=>.bo (Bo b) (Bo r) 0 []):=nD uz vT fun r h e d f=>by
  unfold ZI;unfold f299;unfold CA at h;have:HW 0 fun(c:Ae×Int)=>[(0,.bx (Bo c.1)),(8,.tv (eI c.2))]:=⟨⟩;exact nz
theorem uh:∀n:Nat,Q_299 n:=by
  intro n
  induction n with
  |zero=>exact(fun a ea l=>⟨fun _ h=>by cases h⟩)
  |succ n b=>exact ui n b
instance(s_0 ea l):CT (M3 s_0 ea l) 299 [.undef,lI ea,lI l] (fun r=>.bo (Bo s_0) (Bo r) 0 []):=⟨fun r h=>by
  obtain ⟨N,a⟩:=Cp h;exact((uh N) s_0 ea l).snd r (a N (b6 _))⟩
end Go.Sf.Sc
