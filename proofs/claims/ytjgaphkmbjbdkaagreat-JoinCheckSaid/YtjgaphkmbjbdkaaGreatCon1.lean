/- Contracts of the functions. -/
import Derived.Test.YtjgaphkmbjbdkaaGreatCon0
import Derived.Test.YtjgaphkmbjbdkaaGreatTryzShelf
import Derived.Test.YtjgaphkmbjbdkaaGreatTw
set_option linter.all false
set_option maxRecDepth 100000
set_option maxHeartbeats 4000000
namespace Go.Sf.Sc
open Go Go.Sf Go.Proofs.Tryz
instance c25(a:AF)(b:AF):CT (Fd a b) 25 [BO a,BO b] rB:=Fj f25 0x903f7e7e700ee4e465c1c1de [.call 53 [.s 23,.s 25,.c (.clo 16 [])]] fun h=>by
  unfold Fd at h;exact nz
instance c15(a:AP)(b:AP):CT (EC a b) 15 [Bv a,Bv b] (fun r=>.tp [Ej r.1,eI r.2]):=Fk f15 0x818036080402585708e10691585708e106585708e1063c014ab301d9f6b38a059e7d2242559e7d2242810108040261585708e1069d7ce1053d3c7ce107913d3c7ce1073d3c7ce1073c014a3201d9f6328a059e6c2242559e6c224281017ce105613d3c7ce1079de0378000468ab10b7d22e6b10b7d22e6b10b6c22e6b10b6c224201a6621c42621c429d0b31741c420b6c381c4260c98d [] [.cell 4 (some 2),.tmp 5] fun r h g i=>by
  unfold EC at h;have:HA 0 61 60 0 fun(e:Int)(c:At)=>[(8,.bx [⟨true,lI c.d3⟩,⟨true,lI c.d4⟩]),(61,.tv (eI e))]:=⟨⟩;have:HA 2 88 87 0 fun(f:Int)(d:At)=>[(8,.bx [⟨true,lI d.d3⟩,⟨true,lI d.d4⟩]),(88,.tv (eI f))]:=⟨⟩;exact nz
instance AB7(c:Int):CT (Lx c) 352 [Vj c] rB:=Fj f352 0x900ab6b60ab6b6d8 [] fun h=>by
  unfold Lx at h;exact nz
instance AB8(b:ByteArray)(c:Int->K1)(d:FuncId)(a:Fq)[g:∀(e:Int),CT (c e) d (Vj e::a) rB]:CT (Hi b c) 353 [eS b,.clo d a] rI:=Fj f353 0x81557396035f55738a0f123030050c3096ccf7 [] fun h=>by
  unfold Hi at h;have:HW 0 fun(f:Int)=>[(5,.tv (eI f))]:=⟨⟩;exact nz
instance ACA(c:Int):CT (Kx c) 355 [Vj c] rB:=Fj f355 0x90b6b6d8 [] fun h=>by
  unfold Kx at h;exact nz
instance AB9(c:Int):CT (OO c) 354 [Vj c] rB:=Fj f354 0x90b60a0e300e30d8 [] fun h=>by
  unfold OO at h;exact nz
instance ACS(c:Int):CT (MN c) 380 [Vj c] rB:=Fj f380 0x90b60ab6b6d8 [] fun h=>by
  unfold MN at h;exact nz
instance ACB(a:ByteArray):CT (H5 a) 356 [eS a] (fun r=>.tp [eI r.1,eI r.2]):=Fj f356 0x9db1b98501b98a05120578050c555d3f0d78d8 [.call 353 [.s 6,.c (.clo 380 [])]] fun h=>by
  unfold H5 at h;exact nz
instance ACC(a:ByteArray):CT (ON a) 357 [eS a] rB:=Fj f357 0xfb0d013f550c30d8 [.lst 1 [.c (.str ⟨#[45,62]⟩),.c (.str ⟨#[60,61]⟩),.c (.str ⟨#[62,61]⟩),.c (.str ⟨#[61,61]⟩),.c (.str ⟨#[33,61]⟩)]] fun h=>by
  unfold ON at h;exact nz
instance ABc(a:ByteArray):CT (KP a) 318 [eS a] (fun r=>.tp [eI r.1,eI r.2.1,eI r.2.2]):=Fj f318 0x819dffb99d053f5d819d0e5d9d309d755d055d9d01379d6a3f5d0e5d9d01379d6a3f5d0e5d123030d8 [.call 353 [.s 15,.c (.clo 354 [])],.call 353 [.s 23,.c (.clo 355 [])],.call 358 [.c (.str ⟨#[123,125,40,41,91,93,44,59,58,61,43,45,42,60,62,33,38,124,46,63]⟩),.s 42]] fun h=>by
  unfold KP at h;exact nz
instance AAg(t:FB):CT (Ky t) 256 [Vi t] (fun r=>.tp [eS r.1,eB r.2]):=Fj f256 0x8190050c780a055930b6819d11750137bfbff6cb04cb3c013f3f018559815a013f9300 [.mv (.c (.str ⟨#[]⟩)),.bin (.s) .add (.c (.str ⟨#[34]⟩)) (.s 13),.bin (.s) .add (.s 14) (.c (.str ⟨#[34]⟩)),.bin (.s) .eql (.s 16) (.c (.str ⟨#[]⟩)),.mv (.c (.str ⟨#[]⟩))] fun h=>by
  unfold Ky at h;have:HJ 12 fun(a:ByteArray)=>[(4,.tv (eS a))]:=⟨⟩;exact nz
instance zg(a:ByteArray):CT (EB a) 203 [eS a] rB:=Fj f203 0x815d0175014630d8 [] fun h=>by
  unfold EB at h;exact nz
instance AAZ(m:CN)(a:CN):CT (OQ m a) 249 [Fc m,.pt (Fc a).cells] rB:=Fj f249 0x8106baf5 [] fun h=>by
  unfold OQ at h;exact nz
abbrev Q_250(n:Nat):Prop:=∀(t:AC)(a:Int),CT (DR n t a) 250 [AM t,eI a] (fun r=>.AaV 4 (List.map HL r))
theorem uB(n:Nat)(_ih_250:Q_250 n)(t:AC)(a:Int):CT (DR (n+1) t a) 250 [AM t,eI a] (fun r=>.AaV 4 (List.map HL r)):=Fj f250 0x99044f8c41ec591905b20305b2033c191aac6a7dec5904ce044e9330 [] fun h=>by
  unfold DR at h;have:HJ 14 fun(b:List kg)=>[(5,.xo 4 (List.map HL b))]:=⟨⟩;exact nz
theorem uA:∀n:Nat,Q_250 n:=by
  intro n
  induction n with
  |zero=>exact(fun t a=>⟨fun _ h=>by cases h⟩)
  |succ n b=>exact uB n b
instance AAa(t:AC)(a:Int):CT (Mu t a) 250 [AM t,eI a] (fun r=>.AaV 4 (List.map HL r)):=⟨fun r h=>by
  obtain ⟨N,b⟩:=Cl h;exact((uA N) t a).snd r (b N (az _))⟩
instance ABZ(y:kg)(a:kg):CT (JN y a) 315 [HL y,.pt (HL a).cells] rB:=Fj f315 0x8106baf5 [] fun h=>by
  unfold JN at h;exact nz
instance ABa(l:List ByteArray):CT (JE l) 316 [lB l] rI:=Fj f316 0xa2e908000491ffb90e3045309da65d815ef8e90800049781b50b30d8 [] fun h=>by
  unfold JE at h;have:HA 0 10 9 0 fun(a:Int)(_:Unit)=>[(10,.tv (eI a))]:=⟨⟩;exact nz
instance AAb(b:kg)(a:List kg):CT (FY b a) 251 [HL b,lA a] rI:=Fj f251 0x81378801060106013cfc72b47e555a850bb490057efc7e5a555ad5b4ffb90e105d81a659f5 [] fun h=>by
  unfold FY at h;have:HJ 40 fun(c:Bool)=>[(6,.tv (eB c))]:=⟨⟩;exact nz
instance ze(t:AC)(a:Int):CT (KT t a) 201 [AM t,eI a] rI:=Fj f201 0xa2eb0276d5044530d404c300d0eb028172b4eeb5ee820eacffb972b48190b15a555a9d0e10044501599da659053d044b01c9d4ec59f5 [] fun h=>by
  unfold KT at h;have:HA 1 7 6 0 fun(b:Int)(_:Unit)=>[(7,.tv (eI b))]:=⟨⟩;exact nz
instance AAc(n:Int)(a:AC):CT (Ly n a) 252 [eI n,.pt (AM a).cells] rB:=Fj f252 0x9072593005e5 [] fun h=>by
  unfold Ly at h;exact nz
instance AAe(y:Cb)(a:Cb):CT (OP y a) 254 [GR y,.pt (GR a).cells] rB:=Fj f254 0x8106baf5 [] fun h=>by
  unfold OP at h;exact nz
instance AAf(b:Int)(a:Int):CT (Kg b a) 255 [eI b,eI a] rB:=Fj f255 0x900a0ab60578b60ab605e5 [] fun h=>by
  unfold Kg at h;exact nz
instance zf(t:AC)(a:Int):CT (KQ t a) 202 [AM t,eI a] rI:=Fj f202 0x81ff3719013c70a603c603054201a603adb4195d0a080f7e30080f5a5d810e100745015a9da6598110053d074b02c9074407daf5 [] fun h=>by
  unfold KQ at h;have:HJ 25 fun(b:Bool)=>[(25,.tv (eB b))]:=⟨⟩;exact nz
instance yj(t:AC):CT (Dl t) 154 [AM t] (fun r=>.tp [eS r.1,eI r.2]):=Fj f154 0x81bf002e2d2cf691b901596a0eac074b8102c907440743f82e2d2cf6dbb3301d1c1bf691b901596a0eac044b8101c9d4044378611d1c1bf6db32ff37bf90ed55dc81bf817259013f9300 [.mv (.c (.str ⟨#[]⟩)),.mv (.c (.str ⟨#[]⟩)),.mv (.c (.str ⟨#[]⟩)),.mv (.c (.str ⟨#[]⟩))] fun h=>by
  unfold Dl at h;have:HA 1 29 28 0 fun(a:Int)(_:Unit)=>[(29,.tv (eI a))]:=⟨⟩;have:HA 3 46 45 0 fun(b:Int)(_:Unit)=>[(46,.tv (eI b))]:=⟨⟩;exact nz
instance AAC(n:Int)(a:Int):CT (Hv n a) 225 [eI n,eI a] rB:=Fj f225 0x90057805e5 [] fun h=>by
  unfold Hv at h;exact nz
instance AAB(t:Int):CT (Mz t) 224 [eI t] rB:=Fj f224 0x81a630d8 [] fun h=>by
  unfold Mz at h;exact nz
instance AAF(e:Bk)(a:Int):CT (Nx e a) 228 [BP e,eI a] rB:=Fj f228 0xfbb17e700eb15a6559f5 [] fun h=>by
  unfold Nx at h;exact nz
instance AAE(e:Bk)(a:d5):CT (M0 e a) 227 [BP e,.pt (Ar a).cells] rB:=Fj f227 0x81a6dc62f5 [] fun h=>by
  unfold M0 at h;exact nz
instance yt(g:d5):CT (DC g) 162 [Ar g] rI:=Fj f162 0x81378e105a37bf599bed55dc9a00 [.call 58 [.s 14,.c (.clo 224 [])]] fun h=>by
  unfold DC at h;exact nz
instance AAh(n:Int)(a:AC):CT (G0 n a) 257 [eI n,.pt (AM a).cells] rB:=Fj f257 0x817259e5 [] fun h=>by
  unfold G0 at h;exact nz
instance AAi(a:Bk)(b:AC):CT (G2 a b) 258 [BP a,.pt (AM b).cells] rB:=Fj f258 0x81ed59f5 [] fun h=>by
  unfold G2 at h;exact nz
instance AAj(n:Int)(b:Int)(a:Int):CT (Cs n b a) 259 [eI n,eI b,eI a] rB:=Fj f259 0x9005780578026003 [] fun h=>by
  unfold Cs at h;exact nz
instance ABp(a:Int)(b:AC):CT (M8 a b) 331 [eI a,.pt (AM b).cells] rB:=Fj f331 0x9072593005e5 [] fun h=>by
  unfold M8 at h;exact nz
instance AAy(t:AC)(l:Fp):CT (GP t l) 274 [AM t,lI l] rI:=Fj f274 0x81378e10019f017536f5 [] fun h=>by
  unfold GP at h;exact nz
instance AAx(t:AC)(a:Int):CT (Eg t a) 273 [AM t,eI a] (fun r=>.tp [lA r.1,eI r.2]):=Fj f273 0x81821807011514070391014d0354044c0e170354044c01140114810107f9151407cc9514991aac3704c0770eaaacf6fe30 [] fun h=>by
  unfold Eg at h;have:HA 0 21 20 0 fun(b:Int)(c:List kg)=>[(7,.xo 4 (List.map HL c)),(21,.tv (eI b))]:=⟨⟩;have:HS 31:=⟨⟩;have:HX 33 fun(a:kg)(v:List ByteArray)=>kg.mk a.ls a.Low a.z5 v:=⟨⟩;exact nz
instance AAk(t:AC)(p:ea)(a:CP):CT (Fy t p a) 260 [AM t,A9 p,Da a] (fun r=>.tp [HL r.1,eB r.2]):=Fk f260 0x81044bd404435a0137044b0246c872015a01e35e59c13637044b0246c872c1590103c9938d [] [.cell 6 (some 4),.tmp 7] fun r h b c=>by
  unfold Fy at h;exact nz
instance ACD(n:Int)(t:gn):CT (IW n t) 359 [eI n,Py t] rB:=Fj f359 0x90055afc5a70b15955599ad8 [] fun h=>by
  unfold IW at h;exact nz
instance ABd(n:Int)(a:Test):CT (JR n a) 319 [eI n,Dv a] rI:=Fj f319 0x81ff3790087f034230087fb35d90055955599ad8 [] fun h=>by
  unfold JR at h;exact nz
instance AAl(n:Int)(l:List Test):CT (Ht n l) 261 [eI n,lT l] rI:=Fj f261 0xa2dd11000491d589554b04c98905430061dd1100049781b5ee9bb605e5 [] fun h=>by
  unfold Ht at h;have:HA 0 19 18 0 fun(a:Int)(_:Unit)=>[(19,.tv (eI a))]:=⟨⟩;exact nz
instance zh(t:AC)(p:ea):CT (DV t p) 204 [AM t,A9 p] rI:=Fj f204 0x8137a014d503adb4085b3c3b3a085b06913c3b3a085b063c3b3a085b063c01fd6ca914856ca99ba67da970a605b46ca901085d044b034975d48936044b05c9d40443085b613c3b3a085b06dba9993fb49b7203ad550b7ef1b49b0e10e46510c19f7f329f017536de [.mkx 1 [.bool false] (.s 55)] fun h=>by
  unfold DV at h;have:HA 0 60 59 0 fun(b:Int)(a:a5)=>[(8,.xo 1 (List.map eB a)),(60,.tv (eI b))]:=⟨⟩;exact nz
instance ABf(n:Int)(a:AC):CT (OH n a) 321 [eI n,.pt (AM a).cells] rB:=Fj f321 0x817259e5 [] fun h=>by
  unfold OH at h;exact nz
instance ABg(a:Bk)(b:AC):CT (OI a b) 322 [BP a,.pt (AM b).cells] rB:=Fj f322 0x81ed59f5 [] fun h=>by
  unfold OI at h;exact nz
instance AAn(t:AC)(g:d5):CT (KI t g) 263 [AM t,Ar g] rB:=Fj f263 0x90a6105a01a61059de [] fun h=>by
  unfold KI at h;exact nz
instance ABi(y:CP)(a:CP):CT (PD y a) 324 [Da y,.pt (Da a).cells] rB:=Fj f324 0x90055a5a55baf5 [] fun h=>by
  unfold PD at h;exact nz
instance AAo(t:AC)(a:eg)(b:Int):CT (Ls t a b) 264 [AM t,Bz a,eI b] rI:=Fj f264 0x81378e100445015b41c69b055afc5afc8c41c659fc597072015a555a8006c936a901e35e596c38c6369b726c38c6595559073d044b05c9d4ec5b41c6015cb2 [] fun h=>by
  unfold Ls at h;exact nz
instance zi(t:AC)(a:eg):CT (KH t a) 205 [AM t,Bz a] rI:=Fj f205 0xa22f2e5b0491d501d33681f82f2e5b04975b41c6ffb9725b41c6819072030441c6558c41b38c41c69d087f38c6369f7f38c6de [] fun h=>by
  unfold KH at h;have:HA 1 47 46 0 fun(b:Int)(_:Unit)=>[(47,.tv (eI b))]:=⟨⟩;exact nz
instance ACT(l:Fp)(n:Int):CT (IM l n) 382 [lI l,eI n] rI:=Fj f382 0xa2097c6005919b055eb630b19b0578055d815ef8097c60059781f7 [] fun h=>by
  unfold IM at h;have:HA 0 9 8 0 fun(a:Int)(_:Unit)=>[(9,.tv (eI a))]:=⟨⟩;exact nz
instance ACU(l:Fp)(n:Int):CT (Lw l n) 383 [lI l,eI n] rB:=Fj f383 0x815d017530f7 [] fun h=>by
  unfold Lw at h;exact nz
instance ACF(g:d5)(p:At):CT (M7 g p) 361 [Ar g,Ej p] rI:=Fj f361 0xa21e1d1c5b05919ba65b4103da5901a67d03da59815e00611e1d1c5b05dbb3d5e85ad50bbade [] fun h=>by
  unfold M7 at h;have:HA 0 30 29 0 fun(a:Int)(_:Unit)=>[(30,.tv (eI a))]:=⟨⟩;exact nz
instance ABj(g:d5)(p:At):CT (E8 g p) 325 [Ar g,Ej p] rI:=Fj f325 0x817f369f7fde [] fun h=>by
  unfold E8 at h;exact nz
instance AAp(g:d5)(p:At):CT (Ey g p) 265 [Ar g,Ej p] (fun r=>.tp [Ar r.1,Ao r.2.1,eI r.2.2]):=Fk f265 0x71023b81808004460e5a0e593608ca042b2a2908715b0891014ab3034803476204b3014aa9757e59014ab3755a59a5f0cdda815e08ca04612b2a2908715b08dbb308715b0519181708715b0891014a3201d99e590432815e08715b056119181708715b08db3207c9378080604603f37f3660c907c98d [] [.cell 4 (some 2),.cell 5 (some 2),.tmp 6] fun r h e f=>by
  unfold Ey at h;have:HA 0 25 24 0 fun(c:Int)(a:d5)=>[(8,.bx [⟨true,lI a.d3⟩,⟨true,lE a.d4⟩]),(25,.tv (eI c))]:=⟨⟩;have:HA 2 43 42 0 fun(d:Int)(b:d5)=>[(8,.bx [⟨true,lI b.d3⟩,⟨true,lE b.d4⟩]),(43,.tv (eI d))]:=⟨⟩;exact nz
instance AAq(a:d5)(b:d5)(m:d6):CT (Dj a b m) 266 [Ar a,Ar b,Ao m] rI:=Fj f266 0xa2494847ca06919b057e5e7e59555a5e5a59b5baa5a5f0f0cddacdda9bed30055d815ef8494847ca06dbb3718c2c2b2aca0691b59e599e599b725930055d815e55048c612c2b2aca06db329bede855dcdc9f7f9f7f9a8d [] fun h=>by
  unfold Dj at h;have:HA 0 44 43 0 fun(c:Int)(_:Unit)=>[(44,.tv (eI c))]:=⟨⟩;have:HA 2 73 72 0 fun(d:Int)(_:Unit)=>[(73,.tv (eI d))]:=⟨⟩;exact nz
instance ABk(l:Fp):CT (Gk l) 326 [lI l] rI:=Fj f326 0x81152a142914991a30d8 [] fun h=>by
  unfold Gk at h;exact nz
instance AAr(a:d5)(b:d5)(m:d6):CT (DZ a b m) 267 [Ar a,Ar b,Ao m] rB:=Fj f267 0x90ed0e5a7072590e59557fbe9a8d [] fun h=>by
  unfold DZ at h;exact nz
instance zj(a:eg):CT (Lr a) 206 [Bz a] rI:=Fj f206 0x8137887f0d423638c6369f7f0d423638c6369f8080004907c91175360b423638b39a00 [] fun h=>by
  unfold Lr at h;exact nz
instance AAs(l:Fp)(n:Int):CT (Kw l n) 268 [lI l,eI n] (fun r=>.own (lI r)):=Fj f268 0xf2b17c050004917c0500047c0500043cb2d9cbc8308155f97c0500049de201406002 [] fun h=>by
  unfold Kw at h;have:HA 0 8 7 0 fun(b:Int)(a:Fp)=>[(5,.ow (lI a)),(8,.tv (eI b))]:=⟨⟩;exact nz
instance zk(a:eg):CT (Lq a) 207 [Bz a] (fun r=>.tp [lI r.1,lI r.2]):=Fj f207 0x82820e0b3174c67d0d420e0b6c38c66c0d42014001fe00 [] fun h=>by
  unfold Lq at h;exact nz
instance AAt(a:Int)(b:AC)(c:d5):CT (ML a b c) 269 [eI a,.pt (AM b).cells,.pt (Ar c).cells] rB:=Fj f269 0x815b4104439ebacb6003 [] fun h=>by
  unfold ML at h;exact nz
instance ABq(t:AC)(a:Int):CT (MO t a) 332 [AM t,eI a] (fun r=>.own (lI r)):=Fj f332 0x821829140555b2033c017dec59ff19014faa0119b16155b231ce01fe30 [] fun h=>by
  unfold MO at h;have:HW 0 fun(b:Int×Fp)=>[(1,.tv (eI b.1)),(5,.xo 1 (List.map eI b.2))]:=⟨⟩;exact nz
instance AAz(t:AC)(a:Int)(b:Int):CT (KS t a b) 275 [AM t,eI a,eI b] rB:=Fj f275 0x810e65ac9ab202 [] fun h=>by
  unfold KS at h;exact nz
instance zq(t:AC)(b:Int)(a:Int)(c:Int):CT (It t b a c) 211 [AM t,eI b,eI a,eI c] rB:=Fj f211 0xfb5b4107daac657d07daac9bed300ab6050eaa30369a5b0103 [] fun h=>by
  unfold It at h;exact nz
instance AAu(a:Int)(b:d5)(c:AC):CT (Hp a b c) 270 [eI a,.pt (Ar b).cells,.pt (AM c).cells] rB:=Fj f270 0x81a65e7e595e5aba36a5f0cddacb6003 [] fun h=>by
  unfold Hp at h;exact nz
instance zl(t:AC)(g:d5)(b:Fp)(a:Fp):CT (H1 t g b a) 208 [AM t,Ar g,lI b,lI a] rB:=Fj f208 0x90a61030a610305c5b02 [] fun h=>by
  unfold H1 at h;exact nz
instance ACG(c:d7):CT (E2 c) 364 [AH c] rB:=Fj f364 0x9005b4557203ad727e72e472c1727da90b6ca9b809c989ad9a00 [] fun h=>by
  unfold E2 at h;exact nz
abbrev AbD(n:Nat):Prop:=∀(c:d7),CT (BY n c) 327 [AH c] rB
abbrev AbG(n:Nat):Prop:=∀(k:d7),CT (Bj n k) 366 [AH k] rB
theorem uG(n:Nat)(_ih_327:AbD n)(_ih_366:AbG n)(c:d7):CT (BY (n+1) c) 327 [AH c] rB:=Fj f327 0x90083f5a30ff04cb04cb5f5d71cb3c700ea155011a090431055f1a090431058171cb3c700ea1555d71cb3c700ea1555d0583329de89a00 [.call 365 [.s 42,.c (.clo 366 [])]] fun h=>by
  unfold BY at h;have:HJ 10 fun(a:Bool)=>[(4,.tv (eB a))]:=⟨⟩;exact nz
theorem uK(n:Nat)(_ih_327:AbD n)(_ih_366:AbG n)(k:d7):CT (Bj (n+1) k) 366 [AH k] rB:=Fj f366 0x81a6a19a00 [] fun h=>by
  unfold Bj at h;exact nz
theorem m7:∀n:Nat,AbD n/\AbG n:=by
  intro n
  induction n with
  |zero=>exact⟨(fun c=>⟨fun _ h=>by cases h⟩),(fun k=>⟨fun _ h=>by cases h⟩)⟩
  |succ n a=>exact⟨uG n a.1 a.2,uK n a.1 a.2⟩
instance ABl(c:d7):CT (HK c) 327 [AH c] rB:=⟨fun r h=>by
  obtain ⟨N,a⟩:=Cl h;exact((m7 N).1 c).snd r (a N (az _))⟩
instance ACI(k:d7):CT (RY k) 366 [AH k] rB:=⟨fun r h=>by
  obtain ⟨N,a⟩:=Cl h;exact((m7 N).2 k).snd r (a N (az _))⟩
abbrev Q_328(n:Nat):Prop:=∀(c:d7),CT (Cc n c) 328 [AH c] (fun r=>.tp [eI r.1,eI r.2])
theorem uI(n:Nat)(_ih_328:Q_328 n)(c:d7):CT (Cc (n+1) c) 328 [AH c] (fun r=>.tp [eI r.1,eI r.2]):=Fj f328 0x9d30710271025f018559710103b70b71010691302c30b69d75fa4b0ac9fa4371010361b70b710106dbb39d309300 [] fun h=>by
  unfold Cc at h;have:HA 0 13 12 0 fun(b:Int)(a:Int×Int)=>[(4,.tv (eI a.1)),(5,.tv (eI a.2)),(13,.tv (eI b))]:=⟨⟩;have:HJ 31 fun(d:Int)=>[(5,.tv (eI d))]:=⟨⟩;exact nz
theorem uH:∀n:Nat,Q_328 n:=by
  intro n
  induction n with
  |zero=>exact(fun c=>⟨fun _ h=>by cases h⟩)
  |succ n a=>exact uI n a
instance ABm(c:d7):CT (JJ c) 328 [AH c] (fun r=>.tp [eI r.1,eI r.2]):=⟨fun r h=>by
  obtain ⟨N,a⟩:=Cl h;exact((uH N) c).snd r (a N (az _))⟩
instance AAv(c:d7):CT (FQ c) 271 [AH c] rI:=Fj f271 0x819bb6055d8175a1f1a19a00 [] fun h=>by
  unfold FQ at h;exact nz
instance ACJ(a:CP)(b:Int):CT (IA a b) 367 [Da a,.pt [eI b]] rB:=Fj f367 0xd6036ca9f5 [] fun h=>by
  unfold IA at h;exact nz
instance ABn(t:AC)(q:ea)(a:Int):CT (ER t q a) 329 [AM t,A9 q,eI a] rI:=Fj f329 0xa27c04033c083d014b05314b0b4983ff3701c8107e0061b4037c0403083d014b0bc901d58936015cb2 [] fun h=>by
  unfold ER at h;have:HW 0 fun(b:Int)=>[(8,.tv (.pt [eI b]))]:=⟨⟩;exact nz
abbrev Q_272(n:Nat):Prop:=∀(t:AC)(p:ea)(c:d7),CT (CH n t p c) 272 [AM t,A9 p,AH c] rI
theorem uD(n:Nat)(_ih_272:Q_272 n)(t:AC)(p:ea)(c:d7):CT (CH (n+1) t p c) 272 [AM t,A9 p,AH c] rI:=Fj f272 0xa235343304030591d5a18936094b0ac9fa430061353433040305dbb3718c718c3cb88937887fa9c4c49f7fa9c4c4d5b48936b5b4b4b809c989ad85599abf9300 [.Abo (.s 1)] fun h=>by
  unfold CH at h;have:HA 0 53 52 0 fun(a:Int)(_:Unit)=>[(53,.tv (eI a))]:=⟨⟩;exact nz
theorem uC:∀n:Nat,Q_272 n:=by
  intro n
  induction n with
  |zero=>exact(fun t p c=>⟨fun _ h=>by cases h⟩)
  |succ n a=>exact uD n a
instance AAw(t:AC)(p:ea)(c:d7):CT (NC t p c) 272 [AM t,A9 p,AH c] rI:=⟨fun r h=>by
  obtain ⟨N,a⟩:=Cl h;exact((uC N) t p c).snd r (a N (az _))⟩
instance zm(t:AC)(p:ea)(c:d7):CT (DW t p c) 209 [AM t,A9 p,AH c] rI:=Fj f209 0x810ea18936d5a1d589369a8d [] fun h=>by
  unfold DW at h;exact nz
instance yk(t:AC)(a:eg):CT (Io t a) 155 [AM t,Bz a] rI:=Fj f155 0x810ea1104289b336f1303638c63682e3d3d5d3d5d336d589b336f1599f017536de [] fun h=>by
  unfold Io at h;exact nz
instance zp(t:AC)(a:Int)(b:Fp):CT (LV t a b) 210 [AM t,eI a,lI b] rI:=Fj f210 0xa22322210204919b057e5e78055abb044b8103c9d40443f823222102049781b5ee0b30e3ac37830241ec59b5dc3093b202 [] fun h=>by
  unfold LV at h;have:HA 0 35 34 0 fun(c:Int)(_:Unit)=>[(35,.tv (eI c))]:=⟨⟩;exact nz
instance yl(t:AC)(a:AF):CT (GG t a) 156 [AM t,BO a] (fun r=>.tp [eI r.1,eI r.2]):=Fj f156 0x9d003e3d3c5b0591b901c85e7ec15e5ac15936b90185e859a581f0cd43f83e3d3c5b05db0141325b022827265b0591b9306a0e9e7eac9d9e5b02612827265b05db3832b9850bc10b7eb9777f32b977017536308d [] fun h=>by
  unfold GG at h;have:HA 0 40 39 0 fun(b:Int)(_:Unit)=>[(40,.tv (eI b))]:=⟨⟩;have:HA 2 62 61 0 fun(c:Int)(_:Unit)=>[(62,.tv (eI c))]:=⟨⟩;exact nz
instance c98(t:AC)(a:List eg)(b:AF):CT (Es t a b) 98 [AM t,(eL 25 Bz) a,BO b] rI:=Fj f98 0x815d01756236055b1b1a1905030591d5d336194b0cc9d31943055b611b1a190503059781b5ee9f017536015c30 [] fun h=>by
  unfold Es at h;have:HA 0 27 26 0 fun(c:Int)(_:Unit)=>[(27,.tv (eI c))]:=⟨⟩;exact nz
instance ym(t:AC)(a:eg)(b:AF):CT (KM t a b) 157 [AM t,Bz a,BO b] rI:=Fj f157 0x815d01756236d5d3369f0175369a8d [] fun h=>by
  unfold KM at h;exact nz
instance ACK(n:Int)(a:AC):CT (LG n a) 371 [eI n,.pt (AM a).cells] rB:=Fj f371 0x817259e5 [] fun h=>by
  unfold LG at h;exact nz
end Go.Sf.Sc
