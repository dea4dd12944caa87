/- Contracts of the functions. -/
import Derived.Test.YtfcfkigfmofniaaGreatCon0
import Derived.Test.YtfcfkigfmofniaaGreatTryzShelf
import Derived.Test.YtfcfkigfmofniaaGreatTw
set_option linter.all false
set_option maxRecDepth 100000
set_option maxHeartbeats 4000000
namespace Go.Sf.Sc
open Go Go.Sf Go.Proofs.Tryz
instance(a):CT (D9 a) 26 [Bk a] rI:=Bj f26 0xa50ce001049d97056058a1423058e47f41373058848000640ce00104daefbc0ba16fa2 [] (D9.eq_1 ..) (A5 0 12 11 0)
instance(a):CT (LP a) 304 [G9 a] rB:=Fe f304 0xb6f69ef6058c01 [] (LP.eq_1 ..)
instance xx(b:ByteArray)(c:Int->K1)(d:FuncId)(a:Fq)[g:∀(e:Int),CT (c e) d (G9 e::a) rB]:CT (G0 b c) 305 [eS b,.zc d a] rI:=Bj f305 0xb858ff9a036b58ff8a0f123030050c309adfb7 [] (G0.eq_1 ..) (⟨⟩:HW 0 fun(f:Int)=>[(5,.tv (eI f))])
instance(a):CT (KX a) 307 [G9 a] rB:=Fe f307 0xb69e058c01 [] (KX.eq_1 ..)
instance(a):CT (OH a) 306 [G9 a] rB:=Fe f306 0xb69e0a0e300e8c01 [] (OH.eq_1 ..)
instance(a):CT (Lw a) 344 [G9 a] rB:=Fe f344 0xb69ef6058c01 [] (Lw.eq_1 ..)
instance(a):CT (HZ a) 308 [eS a] (rT eI eI):=Fe f308 0x8458dc8501dc8a05125830050c0158813f0d018c01 [.call 305 [.s 6,.c (.zc 344 [])]] (HZ.eq_1 ..)
instance(a):CT (OG a) 309 [eS a] rB:=Fe f309 0xb60e0d013f01050c8c01 [.lst 1 [.c (.str ⟨#[45,62]⟩),.c (.str ⟨#[60,61]⟩),.c (.str ⟨#[62,61]⟩),.c (.str ⟨#[61,61]⟩),.c (.str ⟨#[33,61]⟩)]] (OG.eq_1 ..)
instance(a):CT (Js a) 264 [eS a] (fun r=>.tp [eI r.1,eI r.2.1,eI r.2.2]):=Fe f264 0x8184ffdc84053f6181840e618430847461588184015584693f610e6184015584693f610e6112308c01 [.call 305 [.s 15,.c (.zc 306 [])],.call 305 [.s 23,.c (.zc 307 [])],.call 310 [.c (.str ⟨#[123,125,40,41,91,93,44,59,58,61,43,45,42,60,62,33,38,124,46,63]⟩),.s 42]] (Js.eq_1 ..)
instance(a):CT (KY a) 204 [WG a] (rT eS eB):=Bj f204 0x84f80c0130f85b309e818411740155bfbf0104ca04ca5f3f3f01855b81923fa2 [.mv (.c (.str ⟨#[]⟩)),.bin (.s) .add (.c (.str ⟨#[34]⟩)) (.s 13),.bin (.s) .add (.s 14) (.c (.str ⟨#[34]⟩)),.bin (.s) .eql (.s 16) (.c (.str ⟨#[]⟩)),.mv (.c (.str ⟨#[]⟩))] (KY.eq_1 ..) (⟨⟩:HJ 12 fun(b:ByteArray)=>[(4,.tv (eS b))])
instance(a):CT (Do a) 147 [eS a] rB:=Fe f147 0x8161017400468c01 [] (Do.eq_1 ..)
instance(a b):CT (OJ a b) 157 [Gn a,.pt (Gn b).cells] rB:=Fe f157 0x81065b77d5 [] (OJ.eq_1 ..)
abbrev Q_158(n:Nat):Prop:=∀(t:eb)(a:Int),CT (C7 n t a) 158 [AJ t,eI a] (fun r=>.zX 4 (List.map IA r))
theorem uO(n:Nat)(_ih_158:Q_158 n)(t:eb)(a:Int):CT (C7 (n+1) t a) 158 [AJ t,eI a] (fun r=>.zX 4 (List.map IA r)):=Fj f158 0x99044f7f41cc5b190578030578033c191ac4697ecc5b04ce044ed5 [] fun h=>by
  unfold C7 at h;have:HJ 14 fun(b:List kq)=>[(5,.xo 4 (List.map IA b))]:=⟨⟩;exact nz
theorem uN:∀n:Nat,Q_158 n:=by
  intro n
  induction n with
  |zero=>exact(fun t a=>⟨fun _ h=>by cases h⟩)
  |succ n b=>exact uO n b
instance(t a):CT (MZ t a) 158 [AJ t,eI a] (fun r=>.zX 4 (List.map IA r)):=⟨fun r h=>by
  obtain ⟨N,b⟩:=Cp h;exact((uN N) t a).snd r (b N (b6 _))⟩
instance(a b):CT (Iv a b) 233 [IA a,.pt (IA b).cells] rB:=Fe f233 0x81065b77d5 [] (Iv.eq_1 ..)
instance(a):CT (Io a) 234 [lB a] rI:=Bj f234 0xa5a60800049dffdc0e30453084a86181800064a60800049f81bc0b8c01 [] (Io.eq_1 ..) (A5 0 10 9 0)
instance(a b):CT (FH a b) 159 [IA a,lA b] rI:=Bj f159 0x81558801060106015ff865bedb055ef7beb605dbf8b492055ea9beffdc0e106181a877d5 [] (FH.eq_1 ..) (⟨⟩:HJ 40 fun(c:Bool)=>[(6,.tv (eB c))])
instance(a b):CT (Jv a b) 98 [AJ a,eI b] rI:=Bj f98 0xa571026ea9044530ac04438cbd71028165be0b01bc0b01820ec4ffdc65be840a5892055e840e100445015b84a85b053dd300c9accc77d5 [] (Jv.eq_1 ..) (A5 1 7 6 0)
instance(a b):CT (LQ a b) 160 [eI a,.pt (AJ b).cells] rB:=Fe f160 0xb6655b3058b7 [] (LQ.eq_1 ..)
instance(a b):CT (OI a b) 162 [IB a,.pt (IB b).cells] rB:=Fe f162 0x81065b77d5 [] (OI.eq_1 ..)
instance(a b):CT (KA a b) 163 [eI a,eI b] rB:=Fe f163 0xb60af658309ef658b7 [] (KA.eq_1 ..)
instance(a b):CT (Jt a b) 99 [AJ a,eI b] rI:=Bj f99 0x81ff5519015f0aa803d403056fa8a142be19610a080fb430080f5e61810e100745015e84a85b8110053d074b01c90744077392d5 [] (Jt.eq_1 ..) (⟨⟩:HJ 25 fun(c:Bool)=>[(25,.tv (eB c))])
instance(a):CT (DL a) 62 [AJ a] (rT eS eI):=Ip f62 0x81bf002e2d2c01049d55b85b76c4074bb8c90744077300642e2d2c0104dab9301d1c1b01049d55b85b76c4d3a5c9accc30641d1c1b0104da37ff55bfb66592655b81bf8165773fa2 [.mv (.c (.str ⟨#[]⟩)),.mv (.c (.str ⟨#[]⟩)),.mv (.c (.str ⟨#[]⟩)),.mv (.c (.str ⟨#[]⟩))] (DL.eq_1 ..) (A5 1 29 28 0) (A5 3 46 45 0)
instance(a b):CT (HD a b) 102 [eI a,eI b] rB:=Fe f102 0xb6583058b7 [] (HD.eq_1 ..)
instance(a):CT (Mc a) 101 [eI a] rB:=Fe f101 0x81a88c01 [] (Mc.eq_1 ..)
instance(a b):CT (Nd a b) 105 [Bu a,eI b] rB:=Fe f105 0xb60e58db0a0e585e6c77d5 [] (Nd.eq_1 ..)
instance(a b):CT (Md a b) 104 [Bu a,.pt (Ah b).cells] rB:=Fe f104 0x81a8ee6d01d5 [] (Md.eq_1 ..)
instance(a):CT (Co a) 63 [Ah a] rI:=Fe f63 0x81558e105e55bf5be4926577a2 [.call 100 [.s 14,.c (.zc 101 [])]] (Co.eq_1 ..)
instance(a b):CT (Mr a b) 167 [eI a,.pt (AJ b).cells] rB:=Fe f167 0xb6655b3058b7 [] (Mr.eq_1 ..)
instance(a b):CT (F8 a b) 107 [AJ a,lI b] rI:=Fe f107 0x81558e10017d6901748dd5 [] (F8.eq_1 ..)
instance(t a):CT (EM t a) 106 [AJ t,eI a] (rT lA eI):=gB f106 0x8182180701151407039d014d0354044c0e170354044c01140114b8070164151407df9514991ac45504d676aa018d0440d5 [] (EM.eq_1 ..) (Az 0 21 20 0 (hX 7 4 IA)) (⟨⟩:HS 31) (⟨⟩:HX 33 fun(a:kq)(v:List ByteArray)=>kq.mk a.mr a.ze a.yl v)
instance(a b c):CT (Kw a b c) 64 [AJ a,eI b,lI c] rI:=Bj f64 0xa523222102049d9705b48030055eded38102c9accc006423222102049f81bc0b010b30e9c455830241cc5bbcee30937802 [] (Kw.eq_1 ..) (A5 0 35 34 0)
instance(a b):CT (Lx a b) 169 [AJ a,eI b] (rO lI):=Bj f169 0x82182914580578035f7ecc5bff19014faa0119586401057836ce0140d5 [] (Lx.eq_1 ..) (⟨⟩:HW 0 fun(c:Int×Fp)=>[(1,.tv (eI c.1)),(5,.xo 1 (List.map eI c.2))])
instance(a b c):CT (Ju a b c) 108 [AJ a,eI b,eI c] rB:=Fe f108 0x810e6c018d937802 [] (Ju.eq_1 ..)
instance(a b c d):CT (IT a b c d) 65 [AJ a,eI b,eI c,eI d] rB:=Fe f65 0xb60e5d41077392386c7e07739238e45e30f6050eaa308d935d0103 [] (IT.eq_1 ..)
instance(a b):CT (E5 a b) 36 [AJ a,Bi b] (rT eI eI):=Ip f36 0x84003e3d3c5d059d55b8c860b4d9605ed95b3855b8f75e5b9b81f2f300643e3d3c5d05da0141375d022827265d059ddc307680db3884805d02642827265d05da5c37dcf7d90bb455b876cd55b86901743830a7 [] (E5.eq_1 ..) (A5 0 40 39 0) (A5 2 62 61 0)
instance(a b):CT (GY a b) 205 [eI a,.pt (AJ b).cells] rB:=Fe f205 0x816577b7 [] (GY.eq_1 ..)
instance(a b):CT (GZ a b) 206 [Bu a,.pt (AJ b).cells] rB:=Fe f206 0x81655e77d5 [] (GZ.eq_1 ..)
instance(a b c):CT (CU a b c) 207 [eI a,eI b,eI c] rB:=Fe f207 0xb658305830780003 [] (CU.eq_1 ..)
instance(a b c):CT (Fc a b c) 208 [AJ a,BB b,F3 c] (rT IA eB):=Fk f208 0x81d3ac04439255d30146c8fa92e9605bd93855d30146c865d97702c9f5 [] [.cell 6 (some 4),.tmp 7] fun r h d e=>by
  unfold Fc at h;exact nz
instance(a b):CT (H9 a b) 311 [eI a,Qy b] rB:=Fe f311 0xb60592f8920a58770577a201 [] (H9.eq_1 ..)
instance(a b):CT (I5 a b) 265 [eI a,GN b] rI:=Fe f265 0x81ff55b6a838034230a88d4261b605770577a201 [] (I5.eq_1 ..)
instance(a b):CT (G8 a b) 209 [eI a,lT b] rI:=Bj f209 0xa513121100049da970017504c9700543006413121100049f81bc0b01979e58b7 [] (G8.eq_1 ..) (A5 0 19 18 0)
instance(a b):CT (C9 a b) 148 [AJ a,BB b] rI:=Bj f148 0x8155a014a9a142be085d3c3b3a085d069d3c3b3a085d063c3b3a085d065fe272bb148572bb97a87e026f0aa805be72026f0861d3024974ac7038d305c9ac0443085d643c3b3a085d06dabb993fbee4a16f65b4e8be970e107e376c10d9a9cd7d6901748da7 [.z8 1 [.bool false] (.s 55)] (C9.eq_1 ..) (Az 0 60 59 0 (hX 8 1 eB))
instance(a b):CT (OC a b) 267 [eI a,.pt (AJ b).cells] rB:=Fe f267 0x816577b7 [] (OC.eq_1 ..)
instance(a b):CT (OD a b) 268 [Bu a,.pt (AJ b).cells] rB:=Fe f268 0x81655e77d5 [] (OD.eq_1 ..)
instance(a b):CT (Jm a b) 211 [AJ a,Ah b] rB:=Fe f211 0xb6a81092a81077a7 [] (Jm.eq_1 ..)
instance(a b):CT (PF a b) 270 [F3 a,.pt (F3 b).cells] rB:=Fe f270 0xb6055e92055b77d5 [] (PF.eq_1 ..)
instance(a b c):CT (LJ a b c) 212 [AJ a,BX b,eI c] rI:=Fe f212 0x81558e100445015d41d4970592f892f87f41d477f8770afa92055e8906c938026fe9605b725cd438e4725cd477055b073dd305c9accc5d41066f6278 [] (LJ.eq_1 ..)
instance(a b):CT (Jl a b) 149 [AJ a,BX b] rI:=Bj f149 0xa52f2e5d049da901ea388196642f2e5d049f5d41d4ffdc655d41d4840a65a141066f057f41b97f41d484a8f4d438a9f4066fa7 [] (Jl.eq_1 ..) (A5 1 47 46 0)
instance(a b):CT (Hu a b) 346 [lI a,eI b] rI:=Bj f346 0xa509b296059d9705609e3058975830588480006409b296059f81b7 [] (Hu.eq_1 ..) (A5 0 9 8 0)
instance(a b):CT (LN a b) 347 [lI a,eI b] rB:=Fe f347 0x8161017430b7 [] (LN.eq_1 ..)
instance(a b):CT (Mp a b) 313 [Ah a,Hh b] rI:=Bj f313 0xa51e1d1c5d059d97a85d41c15e77a87ec15e5b816000641e1d1c5d05dab9a90b5e5ea9ee77a7 [] (Mp.eq_1 ..) (A5 0 30 29 0)
instance(a b):CT (Eh a b) 271 [Ah a,Hh b] rI:=Fe f271 0x810eada98da7 [] (Eh.eq_1 ..)
instance(a b):CT (EX a b) 213 [Ah a,Hh b] (fun r=>.tp [Ah r.1,Aq r.2.1,eI r.2.2]):=Fk f213 0x63023b81898904f05e0e5b380863a12b2a2908ba089de6b9034803476d04016f4abb74b4774ab9745e5b9bf2f35e81600863a1642b2a2908ba08dab908ba0519181708ba089de6b5cb805b0437816008ba056419181708ba08da37fc558989010346024676388df1fca7 [] [.cell 4 (some 2),.cell 5 (some 2),.tmp 6] fun r h c d=>by
  unfold EX at h;have:=Az 0 25 24 0 fun s0:d3=>[(8,.bx [⟨true,lI s0.ca⟩,⟨true,lE s0.ci⟩])];have:=Az 2 43 42 0 fun s2:d3=>[(8,.bx [⟨true,lI s2.ca⟩,⟨true,lE s2.ci⟩])];exact nz
instance(a b c):CT (DJ a b c) 214 [Ah a,Ah b,Aq c] rI:=Ip f214 0xa549484763eb9d9705b460b477055e605e5bbc5b5b9b9bf2f2f35ef35ee45e30588480006449484763ebdab9637f2c2b2a63eb9dbc805b805be45b30588480637f642c2b2a63ebda37e45e0b92655beea938a98df5 [] (DJ.eq_1 ..) (A5 0 44 43 0) (A5 2 73 72 0)
instance(a):CT (GO a) 273 [lI a] rI:=Fe f273 0x81152a142914991a8c01 [] (GO.eq_1 ..)
instance(a b c):CT (DD a b c) 215 [Ah a,Ah b,Aq c] rB:=Fe f215 0xb6655e0e920a655b0e77050ead8df5 [] (DD.eq_1 ..)
instance(a):CT (LI a) 150 [BX a] rI:=Fe f150 0x81e8380d42f4d438a9380d42f4d4387d6989890849fc1174380b42f4016fa2 [] (LI.eq_1 ..)
instance(a b):CT (KV a b) 216 [lI a,eI b] (rO lI):=Bj f216 0xed58b20500049db2050004b20500043c78cbcac830b85864b20500048401d6409602 [] (KV.eq_1 ..) (Az 0 8 7 0 (hO 5 lI))
instance(a):CT (LH a) 151 [BX a] (rT lI lI):=Fe f151 0x82820e0b7e5cd47e0d420e0b725cd4720d6f400140a2 [] (LH.eq_1 ..)
instance(a b c):CT (Lr a b c) 217 [eI a,.pt (AJ b).cells,.pt (Ah c).cells] rB:=Fe f217 0x815d410443805b77780003 [] (Lr.eq_1 ..)
instance(a b c):CT (G5 a b c) 218 [eI a,.pt (Ah b).cells,.pt (AJ c).cells] rB:=Fe f218 0x81a860b45b605e5b5b389bf2f392780003 [] (G5.eq_1 ..)
instance(a b c d):CT (HP a b c d) 152 [AJ a,Ah b,lI c,lI d] rB:=Fe f152 0xb6a81030a81030625d02 [] (HP.eq_1 ..)
instance(a):CT (Eb a) 318 [AI a] rB:=Fe f318 0xb6057f6f0565a14265b4657e3765d9657ebb0b72bb7509c970046fa2 [] (Eb.eq_1 ..)
abbrev AaQ(n:Nat):Prop:=∀(c:d5),CT (BJ n c) 274 [AI c] rB
abbrev AaN(n:Nat):Prop:=∀(k:d5),CT (BV n k) 320 [AI k] rB
theorem ue(n:Nat)(_ih_274:AaQ n)(_ih_320:AaN n)(c:d5):CT (BJ (n+1) c) 274 [AI c] rB:=Fj f274 0xb6083f5e30ff04ca04ca6b8163ca5f0a0eb101581a09fd05911a09fd058163ca5f0a0eb101588163ca5f0a0eb10158c38337840b92a2 [.call 319 [.s 42,.c (.zc 320 [])]] fun h=>by
  unfold BJ at h;have:HJ 10 fun(a:Bool)=>[(4,.tv (eB a))]:=⟨⟩;exact nz
theorem uj(n:Nat)(_ih_274:AaQ n)(_ih_320:AaN n)(k:d5):CT (BV (n+1) k) 320 [AI k] rB:=Fj f320 0x81a8b101a2 [] fun h=>by
  unfold BV at h;exact nz
theorem nJ:∀n:Nat,AaQ n/\AaN n:=by
  intro n
  induction n with
  |zero=>exact⟨(fun c=>⟨fun _ h=>by cases h⟩),(fun k=>⟨fun _ h=>by cases h⟩)⟩
  |succ n a=>exact⟨ue n a.1 a.2,uj n a.1 a.2⟩
instance(c):CT (Gi c) 274 [AI c] rB:=⟨fun r h=>by
  obtain ⟨N,a⟩:=Cp h;exact((nJ N).1 c).snd r (a N (b6 _))⟩
instance(k):CT (RP k) 320 [AI k] rB:=⟨fun r h=>by
  obtain ⟨N,a⟩:=Cp h;exact((nJ N).2 k).snd r (a N (b6 _))⟩
abbrev Q_275(n:Nat):Prop:=∀(c:d5),CT (CC n c) 275 [AI c] (rT eI eI)
theorem ug(n:Nat)(_ih_275:Q_275 n)(c:d5):CT (CC (n+1) c) 275 [AI c] (rT eI eI):=Fj f275 0x8430630263026b855b630103d20b6301069d302c309e8474b1094b0ac9b1094363010364d20b630106dab98430a2 [] fun h=>by
  unfold CC at h;have:=Az 0 13 12 0 fun s0:Int×Int=>[(4,.tv (eI s0.1)),(5,.tv (eI s0.2))];have:HJ 31 fun(a:Int)=>[(5,.tv (eI a))]:=⟨⟩;exact nz
theorem uf:∀n:Nat,Q_275 n:=by
  intro n
  induction n with
  |zero=>exact(fun c=>⟨fun _ h=>by cases h⟩)
  |succ n a=>exact ug n a
instance(c):CT (Is c) 275 [AI c] (rT eI eI):=⟨fun r h=>by
  obtain ⟨N,a⟩:=Cp h;exact((uf N) c).snd r (a N (b6 _))⟩
instance(a):CT (E2 a) 219 [AI a] rI:=Fe f219 0x81979e588474b1e8b101a2 [] (E2.eq_1 ..)
instance(a b):CT (Hg a b) 321 [F3 a,.pt [eI b]] rB:=Fe f321 0xc30372026fd5 [] (Hg.eq_1 ..)
instance(a b c):CT (D4 a b c) 276 [AJ a,BB b,eI c] rI:=Bj f276 0xa5b204033c083d014b05364b0b4983ff7dc810b40064be03b20403083d014b0bc901a9708d6278 [] (D4.eq_1 ..) (⟨⟩:HW 0 fun(d:Int)=>[(8,.tv (.pt [eI d]))])
abbrev Q_220(n:Nat):Prop:=∀(t:eb)(p:d7)(c:d5),CT (Bz n t p c) 220 [AJ t,BB p,AI c] rI
theorem uV(n:Nat)(_ih_220:Q_220 n)(t:eb)(p:d7)(c:d5):CT (Bz (n+1) t p c) 220 [AJ t,BB p,AI c] rI:=Fj f220 0xa53534330403059da9b17038094b0ac9b109430064353433040305dab9637f637f3c7570e838bbcdcda938bbcdcda9be7038bcbebe7509c970ef857793bfa2 [.Aau (.s 1)] fun h=>by
  unfold Bz at h;have:=A5 0 53 52 0;exact nz
theorem uU:∀n:Nat,Q_220 n:=by
  intro n
  induction n with
  |zero=>exact(fun t p c=>⟨fun _ h=>by cases h⟩)
  |succ n a=>exact uV n a
instance(t p c):CT (Mu t p c) 220 [AJ t,BB p,AI c] rI:=⟨fun r h=>by
  obtain ⟨N,a⟩:=Cp h;exact((uU N) t p c).snd r (a N (b6 _))⟩
instance(a b c):CT (DA a b c) 153 [AJ a,BB b,AI c] rI:=Fe f153 0x810eb17038a9b1a9708df5 [] (DA.eq_1 ..)
instance(a b):CT (IN a b) 95 [AJ a,BX b] rI:=Fe f95 0x810eb1104270b938e830f4d43882e9eaa9eaa9ea38a970b938e85b7d6901748da7 [] (IN.eq_1 ..)
instance(a b c):CT (EU a b c) 59 [AJ a,(eL 25 BX) b,Bi c] rI:=Bj f59 0x816101746d38055d1b1a190503059da9ea38194b0cc9ea1943055d641b1a190503059f81bc0b017d6901748d6230 [] (EU.eq_1 ..) (A5 0 27 26 0)
instance(a b c):CT (Lu a b c) 154 [AJ a,BX b,Bi c] rI:=Fe f154 0x816101746d38a9ea387d6901748df5 [] (Lu.eq_1 ..)
instance(a b):CT (Ki a b) 356 [eI a,.pt (AJ b).cells] rB:=Fe f356 0x816577b7 [] (Ki.eq_1 ..)
instance(a b):CT (Kj a b) 357 [Bu a,.pt (AJ b).cells] rB:=Fe f357 0x81655e77d5 [] (Kj.eq_1 ..)
instance(a b):CT (FR a b) 325 [AJ a,Ah b] rB:=Fe f325 0xb6a81092a81077a7 [] (FR.eq_1 ..)
instance(a b c):CT (FC a b c) 279 [AJ a,Ah b,Ah c] rI:=Bj f279 0x8197a8388da8ad637f18171663eb9da93889fc380243637f6418171663eb9f02c7ad7d6901748df5 [] (FC.eq_1 ..) (A5 0 24 23 0)
instance(a b):CT (Im a b) 358 [AJ a,eI b] (rT lI eI):=Bj f358 0x81ed070113120778059d131207780513120778053c78cbca8e3038b807016413120778059f77c07dd676aac43040d5 [] (Im.eq_1 ..) (Az 0 19 18 0 (hO 7 lI))
instance(a):CT (GE a) 326 [AJ a] (rO (eL 1 (eL 1 eB))):=Ip f326 0xed36d236049d78cb1802d20536051c1b1ad20536089d01e201148160d2053605641c1b1ad20536089fb8e9c4993feeb83664d236049f77d640a2 [.z8 1 [.bool false] (.s 18)] (GE.eq_1 ..) (Az 0 13 12 0 (hO 3 (eL 1 (eL 1 eB)))) (Az 2 28 27 0 (hX 5 1 eB))
instance(a b c d):CT (GF a b c d) 280 [AJ a,Ah b,Ah c,Aq d] rI:=Ip f280 0xa54746457105069d9705b460b477055e605e5bbc5b5b9b9bf2f2f35ef35ee45e305884800064474645710506dab9710503252423097105079d558860805b608077e45b305884807105036425242309710507da37820e38e45e0b92655b0b7762a7 [] (GF.eq_1 ..) (A5 0 37 36 0) (A5 2 71 70 0)
theorem xJ(l:Fp)(r:Bool)(h:HU l=some r):AX prog 322 [lI l] (.sh (eB r)):=by
  unfold HU at h;rw[<-m9]at h;split at h
  · rename_i a
    cases h;exact cI l a
  .cases h
instance yO(l:Fp):Ct Go.Proofs.Tryz.prog (HU l) 322 [lI l] (rS eB):=⟨xJ l⟩
instance(a b c d e):CT (FA a b c d e) 277 [AJ a,Ah b,Ah c,Aq d,eB e] rI:=Fe f277 0x81970a0e5e6c5b30a9adada9ad8d62620401 [] (FA.eq_1 ..)
instance(a b c):CT (E0 a b c) 323 [AJ a,BB b,Bi c] rI:=Fe f323 0x816101746d38a9708df5 [] (E0.eq_1 ..)
instance(a b):CT (EC a b) 354 [Qy a,lI b] rI:=Fe f354 0xc35e6077555e8577d5 [] (EC.eq_1 ..)
instance(a b):CT (GM a b) 377 [eI a,eI b] (rT eI IZ):=Fe f377 0x8401053f01053f013f61816a01283f013f30b7 [.y8 .u64 (.s 9),.y8 .u64 (.s 11),.bin (.w) .shr (.s 16) (.c (.int .u64 63)),.bin (.w) .shr (.s 18) (.c (.int .u64 63)),.y8 .i64 (.s 21)] (GM.eq_1 ..)
instance(a b):CT (Ec a b) 376 [Qy a,.pt [lI b]] (fun r=>.tp [eI r.1,IZ r.2.1,eB r.2.2]):=Fe f376 0x81843084745e605b03ffdc840a650377055b81843084745ec37730d5 [] (Ec.eq_1 ..)
instance(a b):CT (Fm a b) 355 [GN a,lI b] rB:=Fe f355 0xb6f60577f6055b810eaa0e300e30970830086184116a010f3803426184116a010f8d42611001a7 [] (Fm.eq_1 ..)
instance(a b c):CT (H4 a b c) 324 [BB a,Bi b,Aq c] (rT lI eI):=Ip f324 0x81821808d14b4a08049d7dc0882014707504c97005430801644c4b4a0804daef085d19181709086303089d7dc08501201438bb1918170c0b090863030a1918170c0b090863030a5fe201e2057ebb301401148a0817d1011401588172bb81605e60605b5bb4d305c9ac0443085d641918170908630308dabb99993fbe3fbe3040f5 [.z8 1 [.int .i64 0] (.s 17),.z8 1 [.bool false] (.s 20)] (H4.eq_1 ..) (Az 0 25 24 0 fun s0:Fp×a6=>[(8,.xo 1 (List.map eI s0.1)),(9,.xo 1 (List.map eB s0.2))]) (A5 2 76 75 0)
instance(a b c d):CT (EB a b c d) 278 [AJ a,BB b,Bi c,Aq d] (rT lI eI):=Fe f278 0x81826a0e386d707dd676ad37cd387dd6766d7038304062a7 [] (EB.eq_1 ..)
instance(a b c d):CT (JP a b c d) 221 [AJ a,BX b,Bi c,Bb d] rI:=Fe f221 0x81e8db7d69e9cd6d70b938bc0e030f42cdcdf4b98d62a7 [] (JP.eq_1 ..)
instance(a b c d):CT (FB a b c d) 222 [AJ a,Ah b,Ah c,Aq d] (rT Ah eI):=Fk f222 0x8189380c08022726250c0806069de6b5cb805b043781600c0802642726250c080606da370250fc3f0e5e5589ca4676adad5589ca4676ad8dfc62a7 [.yt [.z ⟨true,.list 1 []⟩,.w 34]] [.cell 8 (some 2),.tmp 9] fun r h e f=>by
  unfold FB at h;have:=Az 0 39 38 0 fun s0:d3=>[(12,.bx [⟨true,lI s0.ca⟩,⟨true,lE s0.ci⟩])];exact nz
instance(a):CT (Cq a) 281 [IC a] rI:=Fe f281 0x810e38efcda938d438bb38b5a2 [] (Cq.eq_1 ..)
instance(a b):CT (Fd a b) 327 [lI a,lI b] (rO (eL 2 Qx)):=Ip f327 0xed58a69a059da69a05a6719a076ea6719a07a6719a073c0202480247054630028a0aa80130a8013005dedea69a05bda6719a078158b85864a69a059fcac002409602 [] (Fd.eq_1 ..) (Az 0 10 9 0 (hO 5 (eL 2 Qx))) (Az 2 7 0 0 (hO 5 (eL 2 Qx)))
instance(a):CT (DW a) 282 [IC a] (rT (eL 2 Qx) (eL 2 Qx)):=Fe f282 0x82820e7eef7ed40e72ef72d402400240a2 [] (DW.eq_1 ..)
instance(a):CT (DC a) 328 [IC a] (rO lI):=Bj f328 0xed36a60836059da6083605a60836053c78cbcac80172ef84803664a6083605da5c066fd640a2 [] (DC.eq_1 ..) (Az 0 10 9 0 (hO 3 lI))
instance(a):CT (C1 a) 283 [IC a] (rO lI):=Bj f283 0xed0401d20bfd069dd20bfd06d20bfd063c78cbca8a0a0eb4300e5e30a8017ed49b81f2f3040164d20bfd06da0141026fc0820e08440140a2 [] (C1.eq_1 ..) (Az 0 13 12 0 (hO 4 lI))
instance(a b c):CT (GL a b c) 284 [eI a,lI b,lI c] (rO lI):=Ip f284 0xed0a01201f1e0a049d201f1e0a04201f1e0a043c78cbca886181800a0164201f1e0a049f9801c0070111100f0702059d11100f07020511100f0702055fe20114c830848007016411100f0702059f81993f3040780003 [.z8 1 [.bool false] (.s 13)] (GL.eq_1 ..) (Az 0 17 16 0 (hX 7 1 eB)) (Az 2 32 31 0 (hO 10 lI))
instance(a b c d):CT (GU a b c d) 223 [Ah a,Ah b,Hh c,Aq d] (rT Hh eI):=Fk f223 0x8013b818904f05e5e0b5e0e5b5beeff5589034681650e084481890346c3fa0b0182e908445589010346760844084b0dc9064638ad8df162a7 [] [.cell 8 (some 2),.tmp 9] fun r h e f=>by
  unfold GU at h;exact nz
end Go.Sf.Sc
