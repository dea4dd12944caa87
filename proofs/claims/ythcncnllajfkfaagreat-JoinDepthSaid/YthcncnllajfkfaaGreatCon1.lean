/- Contracts of the functions. -/
import Derived.Test.YthcncnllajfkfaaGreatCon0
set_option linter.all false
set_option maxRecDepth 100000
set_option maxHeartbeats 4000000
open Option renaming some->Y,none->W
open Bool renaming true->X
open List renaming map->w_
namespace Go.Sf.Sc
open Go Go.Sf Go.Proofs.Tryz
instance(a b):CT (GF a b) 32 [BT a,BT b] rB:=Fe f32 0xa53f9191760eebeb71c1c1f2 [.call 66 [.s 23,.s 25,.c (.clo 23 [])]] (GF.eq_1 ..)
instance(a b):CT (Gt a b) 22 [DJ a,DJ b] (rT HL eI):=Fk f22 0x818455080402585708df0697585708df06585708df063cdab901d1e9b98a05908022425a90802242810108040265585708df069b7ddf053d3c7ddf07973d3c7ddf073d3c7ddf073cda3801d1e9388a05907322425a9073224281017ddf05653d3c7ddf079bf0598400468aa60b80224276a60b80224276a60b73224276a60b73224201b46c1c426c1c429b0b37781c420b735b1c426ac99e [] [.cell 4 (Y 2),.tmp 5] λr h c d=>by
  unfold Gt at h;have:=A4 0 61 60 0 λs0:BE=>[(8,.bx [⟨X,lI s0.d3⟩,⟨X,lI s0.d4⟩])];have:=A4 2 88 87 0 λs2:BE=>[(8,.bx [⟨X,lI s2.d3⟩,⟨X,lI s2.d4⟩])];exact nz
instance(a):CT (Mw a) 398 [Eb a] rB:=Fe f398 0xa50a058d360a058d9201 [] (Mw.eq_1 ..)
instance ACf(b:ByteArray)(c:Int->K1)(d:FuncId)(a:Fq)[g:∀(e:Int),CT (c e) d (Eb e::a) rB]:CT (IJ b c) 399 [eS b,.clo d a] rI:=Bi f399 0x815a7505d55f5a758a0f12368d0c8dd581ba [] (IJ.eq_1 ..) (⟨⟩:HW 0 λ(f:Int)=>[(5,.tv (eI f))])
instance(a):CT (Lw a) 401 [Eb a] rB:=Fe f401 0xa5058d9201 [] (Lw.eq_1 ..)
instance(a):CT (Pk a) 400 [Eb a] rB:=Fe f400 0xa5f10a0e360e9201 [] (Pk.eq_1 ..)
instance(a):CT (NW a) 422 [Eb a] rB:=Fe f422 0xa5f10a058d9201 [] (NW.eq_1 ..)
instance(a):CT (Ij a) 402 [eS a] (rT eI eI):=Fe f402 0x9ba6cd8501cd8a0512a68d0c5a613f0d019201 [.call 399 [.s 6,.c (.clo 422 [])]] (Ij.eq_1 ..)
instance(a):CT (Pj a) 403 [eS a] rB:=Fe f403 0xa50e0d013f5a0c9201 [.lst 1 [.c (.str ⟨#[45,62]⟩),.c (.str ⟨#[60,61]⟩),.c (.str ⟨#[62,61]⟩),.c (.str ⟨#[61,61]⟩),.c (.str ⟨#[33,61]⟩)]] (Pj.eq_1 ..)
instance(a):CT (LP a) 363 [eS a] (λr=>.tp [eI r.1,eI r.2.1,eI r.2.2]):=Fe f363 0x819bffcd9b053f61819b0e619b369b7c6105619b01599b723f610e619b01599b723f610e6112369201 [.call 399 [.s 15,.c (.clo 400 [])],.call 399 [.s 23,.c (.clo 401 [])],.call 404 [.c (.str ⟨#[123,125,40,41,91,93,44,59,58,61,43,45,42,60,62,33,38,124,46,63]⟩),.s 42]] (LP.eq_1 ..)
instance(a):CT (Lx a) 303 [X3 a] (rT eS eB):=Bi f303 0x9b0a050c01360a055c8d36819b117c0159bfbfe9c504c53c013f3f01855c815d013ffb [.mv (.c (.str ⟨#[]⟩)),.bin (.s) .add (.c (.str ⟨#[34]⟩)) (.s 13),.bin (.s) .add (.s 14) (.c (.str ⟨#[34]⟩)),.bin (.s) .eql (.s 16) (.c (.str ⟨#[]⟩)),.mv (.c (.str ⟨#[]⟩))] (Lx.eq_1 ..) (⟨⟩:HJ 12 λ(b:ByteArray)=>[(4,.tv (eS b))])
instance(a):CT (EP a) 236 [eS a] rB:=Fe f236 0x8161017c01469201 [] (EP.eq_1 ..)
instance(a b):CT (Pm a b) 296 [H5 a,.pt (H5 b).cells] rB:=Fe f296 0x8106dda136 [] (Pm.eq_1 ..)
abbrev Q_297(n:Nat):Prop:=∀(t:AC)(a:Int),CT (Da n t a) 297 [AL t,eI a] (λr=>.Aa9 4 (w_ JI r))
theorem z6(n:Nat)(_ih_297:Q_297 n)(t:AC)(a:Int):CT (Da (n+1) t a) 297 [AL t,eI a] (λr=>.Aa9 4 (w_ JI r)):=Fj f297 0x99044f8941d95c1905b20305b2033c191ab67280d95c04ce044e9336 [] λh=>by
  unfold Da at h;have:HJ 14 λ(b:List kp)=>[(5,.xo 4 (w_ JI b))]:=⟨⟩;exact nz
theorem zy:∀n:Nat,Q_297 n:=by
  intro n
  induction n with
  |zero=>exact(λt a=>⟨λ_ h=>d_⟩)
  |succ n b=>exact z6 n b
instance(t a):CT (OA t a) 297 [AL t,eI a] (λr=>.Aa9 4 (w_ JI r)):=⟨λr h=>by
  obtain ⟨N,b⟩:=Ck h;exact((zy N) t a).snd r (b N (az _))⟩
instance(a b):CT (KB a b) 360 [JI a,.pt (JI b).cells] rB:=Fe f360 0x8106dda136 [] (KB.eq_1 ..)
instance(a):CT (J1 a) 361 [lB a] rI:=Bi f361 0xaddb08000497ffcd0e3645369bb46181606a65db0800049a81bc0b9201 [] (J1.eq_1 ..) (A9 0 10 9 0)
instance(a b):CT (GB a b) 298 [JI a,lA b] rI:=Bi f298 0x81598801060106013c760570b7915a5d850bb7a505917605915d5a5de0b7ffcd0e106181b45ca136 [] (GB.eq_1 ..) (⟨⟩:HJ 40 λ(c:Bool)=>[(6,.tv (eB c))])
instance(a b):CT (LS a b) 234 [AL a,eI b] rI:=Bi f234 0xad07060277e0044536d7044392e80706028170b7e6bce6820eb6ffcd70b79b0aa65d5a5d9b0e100445015c9bb45c053d044b01c9d7d95ca136 [] (LS.eq_1 ..) (A9 1 7 6 0)
instance(a b):CT (Mx a b) 299 [eI a,.pt (AL b).cells] rB:=Fe f299 0xa5705c8d01ba [] (Mx.eq_1 ..)
instance(a b):CT (Pl a b) 301 [JJ a,.pt (JJ b).cells] rB:=Fe f301 0x8106dda136 [] (Pl.eq_1 ..)
instance(a b):CT (Lg a b) 302 [eI a,eI b] rB:=Fe f302 0xa50a0a058d018d360a058d01ba [] (Lg.eq_1 ..)
instance(a b):CT (LQ a b) 235 [AL a,eI b] rI:=Bi f235 0x81ff5919013c76b403be03054201b403b8b719610a080f9136080f5d61810e100745015d9bb45c8110053d074b02c9074407cba136 [] (LQ.eq_1 ..) (⟨⟩:HJ 25 λ(c:Bool)=>[(25,.tv (eB c))])
instance(a):CT (Dx a) 177 [AL a] (rT eS eI):=J2 f177 0x81bf002e2d2ce997cd015c720eb6074b8102c9074407436a652e2d2ce9e3b9361d1c1be997cd015c720eb6044b8101c9d7d936651d1c1be9e338ff59bfa5d65abd81bf81705c013ffb [.mv (.c (.str ⟨#[]⟩)),.mv (.c (.str ⟨#[]⟩)),.mv (.c (.str ⟨#[]⟩)),.mv (.c (.str ⟨#[]⟩))] (Dx.eq_1 ..) (A9 1 29 28 0) (A9 3 46 45 0)
instance(a b):CT (IV a b) 248 [eI a,eI b] rB:=Fe f248 0xa5a68d01ba [] (IV.eq_1 ..)
instance(a):CT (OD a) 247 [eI a] rB:=Fe f247 0x81b49201 [] (OD.eq_1 ..)
instance(a b):CT (O9 a b) 251 [Bt a,eI b] rB:=Fe f251 0xa50ea691760ea65d715ca136 [] (O9.eq_1 ..)
instance(a b):CT (OE a b) 250 [Bt a,.pt (Aq b).cells] rB:=Fe f250 0x81b4bd6ca136 [] (OE.eq_1 ..)
instance(a):CT (DC a) 183 [Aq a] rI:=Fe f183 0x81598e105d59bf5ca2d65abdfa [.call 71 [.s 14,.c (.clo 247 [])]] (DC.eq_1 ..)
instance(a b):CT (Hh a b) 304 [eI a,.pt (AL b).cells] rB:=Fe f304 0x81705c01ba [] (Hh.eq_1 ..)
instance(a b):CT (Hi a b) 305 [Bt a,.pt (AL b).cells] rB:=Fe f305 0x81d65ca136 [] (Hi.eq_1 ..)
instance(a b c):CT (Cr a b c) 306 [eI a,eI b,eI c] rB:=Fe f306 0xa5a68d013602d5 [] (Cr.eq_1 ..)
instance(a b):CT (OR a b) 374 [eI a,.pt (AL b).cells] rB:=Fe f374 0xa5705c8d01ba [] (OR.eq_1 ..)
instance(a b):CT (G4 a b) 320 [AL a,lI b] rI:=Fe f320 0x81598e1001a7017c55a136 [] (G4.eq_1 ..)
instance(t a):CT (E5 t a) 289 [AL t,eI a] (rT lA eI):=iF f289 0x81821807011514070397014d0354044c0e170354044c01140114810107f915140703819514991ab65904c07f0ea9b6e9409336 [] (E5.eq_1 ..) (A4 0 21 20 0 (hX 7 4 JI)) (⟨⟩:HS 31) (⟨⟩:HX 33 λ(a:kp)(v:List ByteArray)=>kp.mk a.ln a.Low a.Aaf v)
instance(a b c):CT (Ga a b c) 307 [AL a,BD b,E8 c] (rT JI eB):=Fk f307 0x81044bd704435d0159044b0246d870015d01e4605cc15559044b0246d870c15cf8c9939e [] [.cell 6 (Y 4),.tmp 7] λr h d e=>by
  unfold Ga at h;exact nz
instance(a b):CT (JH a b) 405 [eI a,Se b] rB:=Fe f405 0xa5055d76055d76a65c5a5cfa01 [] (JH.eq_1 ..)
instance(a b):CT (KH a b) 364 [eI a,Ff b] rI:=Fe f364 0x81ff59a508960342360896b961a5055c5a5cfa01 [] (KH.eq_1 ..)
instance(a b):CT (IT a b) 308 [eI a,lT b] rI:=Bi f308 0xade511000497e09f5a4b04c99f05430065e51100049a81bce6a2058d01ba [] (IT.eq_1 ..) (A9 0 19 18 0)
instance(a b):CT (Dc a b) 237 [AL a,BD b] rI:=Bi f237 0x8159a014e003b8b7085e3c3b3a085e06973c3b3a085e063c3b3a085e063cf573a8148573a8a2b480a876b405b773a8010861044b03497cd79f55044b05c9d70443085e653c3b3a085e06e3a8993fb7a27003b85a0b9159d8b7a20e10eb7110c1a79638a7017c55f2 [.mkx 1 [.bool false] (.s 55)] (Dc.eq_1 ..) (A4 0 60 59 0 (hX 8 1 eB))
instance(a b):CT (Pe a b) 366 [eI a,.pt (AL b).cells] rB:=Fe f366 0x81705c01ba [] (Pe.eq_1 ..)
instance(a b):CT (Pf a b) 367 [Bt a,.pt (AL b).cells] rB:=Fe f367 0x81d65ca136 [] (Pf.eq_1 ..)
instance(a b):CT (LG a b) 310 [AL a,Aq b] rB:=Fe f310 0xa5b4105d01b4105cf2 [] (LG.eq_1 ..)
instance(a b):CT (Ql a b) 369 [E8 a,.pt (E8 b).cells] rB:=Fe f369 0xa5055d5d5adda136 [] (Ql.eq_1 ..)
instance(a b c):CT (Mp a b c) 311 [AL a,Bz b,eI c] rI:=Fe f311 0x81598e100445015e41bea2055d76055d76058941be5c76055c7670015d5a5d8406c955a801e4605c735bbe55a270735bbe5c5a5c073d044b05c9d7d95e41be0162b2 [] (Mp.eq_1 ..)
instance(a b):CT (LF a b) 238 [AL a,Bz b] rI:=Bi f238 0xad2f2e5e0497e001d355816a652f2e5e049a5e41beffcd705e41be9b0a70030441be5a8941b98941be9b08965bbe55a7965bbef2 [] (LF.eq_1 ..) (A9 1 47 46 0)
instance(a b):CT (I4 a b) 418 [lI a,eI b] rI:=Bi f418 0xad097d6a0597a20560f18d01a2a68d6181606a65097d6a059a81ba [] (I4.eq_1 ..) (A9 0 9 8 0)
instance(a b):CT (Mu a b) 419 [lI a,eI b] rB:=Fe f419 0x8161017c36ba [] (Mu.eq_1 ..)
instance(a b):CT (OP a b) 394 [Aq a,HL b] rI:=Bi f394 0xad1e1d1c5e0597a2b45e4103cb5c01b48003cb5c816000651e1d1c5e05e3b9e0ea5de0bd5cf2 [] (OP.eq_1 ..) (A9 0 30 29 0)
instance(a b):CT (FY a b) 349 [Aq a,HL b] rI:=Fe f349 0x819655a796f2 [] (FY.eq_1 ..)
instance(a b):CT (FN a b) 312 [Aq a,HL b] (λr=>.tp [Aq r.1,Au r.2.1,eI r.2.2]):=Fk f312 0x6b023b81848404460e5d0e5c5508cc042b2a2908e70897dab9034803476c04b9daa87c915cdab97c5d5cb1efd0cb816008cc04652b2a2908e708e3b908e70519181708e70897da3801d1905c0438816008e7056519181708e708e338fc5984846a4603f796556ac9fc9e [] [.cell 4 (Y 2),.cell 5 (Y 2),.tmp 6] λr h c d=>by
  unfold FN at h;have:=A4 0 25 24 0 λs0:d5=>[(8,.bx [⟨X,lI s0.d3⟩,⟨X,lE s0.d4⟩])];have:=A4 2 43 42 0 λs2:d5=>[(8,.bx [⟨X,lI s2.d3⟩,⟨X,lE s2.d4⟩])];exact nz
instance(a b c):CT (Du a b c) 313 [Aq a,Aq b,Au c] rI:=J2 f313 0xad494847cc0697a2059160915c5a5d605d5cbcddb1b1efefd0cbd0cba2d68d6181606a65494847cc06e3b96b892c2b2acc0697bc905c905ca2705c8d6181605a0489652c2b2acc06e338a2d6ea5abdbda796a796a19e [] (Du.eq_1 ..) (A9 0 44 43 0) (A9 2 73 72 0)
instance(a):CT (HO a) 370 [lI a] rI:=Fe f370 0x81152a142914991a9201 [] (HO.eq_1 ..)
instance(a b c):CT (Dj a b c) 314 [Aq a,Aq b,Au c] rB:=Fe f314 0xa5d60e5d76705c0e5c5a96c3a19e [] (Dj.eq_1 ..)
instance(a):CT (Mn a) 239 [Bz a] rI:=Fe f239 0x815988960d42555bbe55a7960d42555bbe55a784840049fc117c550b42555bb9fa [] (Mn.eq_1 ..)
instance(a b):CT (Lu a b) 315 [lI a,eI b] (rO lI):=Bi f315 0xeda67d050004977d0500047d0500043cb2d1c5d836815af97d0500049be1fe6a02 [] (Lu.eq_1 ..) (A4 0 8 7 0 (hO 5 lI))
instance(a):CT (Mm a) 240 [Bz a] (rT lI lI):=Fe f240 0x82820e0b3778be800d420e0b735bbe730d42fefefb [] (Mm.eq_1 ..)
instance(a b c):CT (NU a b c) 316 [eI a,.pt (AL b).cells,.pt (Aq c).cells] rB:=Fe f316 0x815e41044390ddc5d5 [] (NU.eq_1 ..)
instance(a b):CT (NX a b) 375 [AL a,eI b] (rO lI):=Bi f375 0x82182914055ab2033c0180d95cff19014fa90119a6655ab237cefe9336 [] (NX.eq_1 ..) (⟨⟩:HW 0 λ(c:Int×Fp)=>[(1,.tv (eI c.1)),(5,.xo 1 (w_ eI c.2))])
instance(a b c):CT (LR a b c) 321 [AL a,eI b,eI c] rB:=Fe f321 0x810e71b6a1b202 [] (LR.eq_1 ..)
instance(a b c d):CT (Jh a b c d) 244 [AL a,eI b,eI c,eI d] rB:=Fe f244 0xa50e5e4107cbb6718007cbb6a2d6360a058d0ea93655a15ef8 [] (Jh.eq_1 ..)
instance(a b c):CT (IP a b c) 317 [eI a,.pt (Aq b).cells,.pt (AL c).cells] rB:=Fe f317 0x81b460915c605ddd55b1efd0cbc5d5 [] (IP.eq_1 ..)
instance(a b c d):CT (If a b c d) 241 [AL a,Aq b,lI c,lI d] rB:=Fe f241 0xa5b41036b41036625e02 [] (If.eq_1 ..)
instance(a):CT (FR a) 408 [AI a] rB:=Fe f408 0xa505b75a7003b8709170eb70c17080a80b73a8bb09c99fb8fa [] (FR.eq_1 ..)
abbrev AbV(n:Nat):Prop:=∀(c:d7),CT (BZ n c) 371 [AI c] rB
abbrev AbW(n:Nat):Prop:=∀(k:d7),CT (Bn n k) 410 [AI k] rB
theorem AAD(n:Nat)(_ih_371:AbV n)(_ih_410:AbW n)(c:d7):CT (BZ (n+1) c) 371 [AI c] rB:=Fj f371 0xa5083f5d36ff04c504c55f616bc53c760eac5a011a09f4055f1a09f405816bc53c760eac5a616bc53c760eac5a610583389beafa [.call 409 [.s 42,.c (.clo 410 [])]] λh=>by
  unfold BZ at h;have:HJ 10 λ(a:Bool)=>[(4,.tv (eB a))]:=⟨⟩;exact nz
theorem AAJ(n:Nat)(_ih_371:AbV n)(_ih_410:AbW n)(k:d7):CT (Bn (n+1) k) 410 [AI k] rB:=Fj f410 0x81b4acfa [] λh=>by
  unfold Bn at h;exact nz
theorem sY:∀n:Nat,AbV n/\AbW n:=by
  intro n
  induction n with
  |zero=>exact⟨(λc=>⟨λ_ h=>d_⟩),(λk=>⟨λ_ h=>d_⟩)⟩
  |succ n a=>exact⟨AAD n a.1 a.2,AAJ n a.1 a.2⟩
instance(c):CT (Hu c) 371 [AI c] rB:=⟨λr h=>by
  obtain ⟨N,a⟩:=Ck h;exact((sY N).1 c).snd r (a N (az _))⟩
instance(k):CT (TD k) 410 [AI k] rB:=⟨λr h=>by
  obtain ⟨N,a⟩:=Ck h;exact((sY N).2 k).snd r (a N (az _))⟩
abbrev Q_372(n:Nat):Prop:=∀(c:d7),CT (CX n c) 372 [AI c] (rT eI eI)
theorem AAF(n:Nat)(_ih_372:Q_372 n)(c:d7):CT (CX (n+1) c) 372 [AI c] (rT eI eI):=Fj f372 0x9b366b026b025f01855c6bf8c80b6b010697362c8d369b7cac094b0ac9ac09436bf865c80b6b0106e3b99b36fb [] λh=>by
  unfold CX at h;have:=A4 0 13 12 0 λs0:Int×Int=>[(4,.tv (eI s0.1)),(5,.tv (eI s0.2))];have:HJ 31 λ(a:Int)=>[(5,.tv (eI a))]:=⟨⟩;exact nz
theorem AAE:∀n:Nat,Q_372 n:=by
  intro n
  induction n with
  |zero=>exact(λc=>⟨λ_ h=>d_⟩)
  |succ n a=>exact AAF n a
instance(c):CT (J5 c) 372 [AI c] (rT eI eI):=⟨λr h=>by
  obtain ⟨N,a⟩:=Ck h;exact((AAE N) c).snd r (a N (az _))⟩
instance(a):CT (F1 a) 318 [AI a] rI:=Fe f318 0x81a2058d61817cac59d8acfa [] (F1.eq_1 ..)
instance(a b):CT (Iq a b) 411 [E8 a,.pt [eI b]] rB:=Fe f411 0xdc0373a8a136 [] (Iq.eq_1 ..)
instance(a b c):CT (Ej a b c) 373 [AL a,BD b,eI c] rI:=Bi f373 0xad7d04033c083d014b05374b0b4983ff5901d810910065b7037d0403083d014b0bc901e09f550162b2 [] (Ej.eq_1 ..) (⟨⟩:HW 0 λ(d:Int)=>[(8,.tv (.pt [eI d]))])
abbrev Q_319(n:Nat):Prop:=∀(t:AC)(p:ea)(c:d7),CT (CF n t p c) 319 [AL t,BD p,AI c] rI
theorem z8(n:Nat)(_ih_319:Q_319 n)(t:AC)(p:ea)(c:d7):CT (CF (n+1) t p c) 319 [AL t,BD p,AI c] rI:=Fj f319 0xad35343304030597e0ac9f55094b0ac9ac09430065353433040305e3b96b896b893cbb9f598896a8d4d4a796a8d4d4e0b79f55bcb7b7bb09c99fb8855ca1bffb [.AbD (.s 1)] λh=>by
  unfold CF at h;have:=A9 0 53 52 0;exact nz
theorem z7:∀n:Nat,Q_319 n:=by
  intro n
  induction n with
  |zero=>exact(λt p c=>⟨λ_ h=>d_⟩)
  |succ n a=>exact z8 n a
instance(t p c):CT (OU t p c) 319 [AL t,BD p,AI c] rI:=⟨λr h=>by
  obtain ⟨N,a⟩:=Ck h;exact((z7 N) t p c).snd r (a N (az _))⟩
instance(a b c):CT (Dd a b c) 242 [AL a,BD b,AI c] rI:=Fe f242 0x810eac9f55e0ace09f55a19e [] (Dd.eq_1 ..)
instance(a b):CT (Ja a b) 178 [AL a,Bz b] rI:=Fe f178 0x810eac10429fb95559d836555bbe5582e4d3e0d3e0d355e09fb95559d85ca7017c55f2 [] (Ja.eq_1 ..)
instance(a b c):CT (MQ a b c) 243 [AL a,eI b,lI c] rI:=Bi f243 0xad232221020497a20591908d5dec044b8103c9d704436a6523222102049a81bce60b36e4b659830241d95cbcbd3693b202 [] (MQ.eq_1 ..) (A9 0 35 34 0)
instance(a b):CT (Gs a b) 179 [AL a,BT b] (rT eI eI):=J2 f179 0x9b003e3d3c5e0597cd01d86091c1605dc15c55cd0185ea5cb181efd0436a653e3d3c5e05e30141385e022827265e0597cd36720e9091b69b905e02652827265e05e35b38cd850bc10b91cd7f9638cd7f017c55369e [] (Gs.eq_1 ..) (A9 0 40 39 0) (A9 2 62 61 0)
instance(a b c):CT (FI a b c) 121 [AL a,(eL 25 Bz) b,BT c] rI:=Bi f121 0x8161017c6c55055e1b1a1905030597e0d355194b0cc9d31943055e651b1a190503059a81bce6a7017c55016236 [] (FI.eq_1 ..) (A9 0 27 26 0)
instance(a b c):CT (Hz a b c) 165 [AL a,Bz b,BT c] rI:=Fe f165 0x8161017c6c55e0d355a7017c55a19e [] (Hz.eq_1 ..)
instance(a b):CT (MC a b) 384 [eI a,.pt (AL b).cells] rB:=Fe f384 0x81705c01ba [] (MC.eq_1 ..)
instance(a b):CT (MD a b) 385 [Bt a,.pt (AL b).cells] rB:=Fe f385 0x81d65ca136 [] (MD.eq_1 ..)
instance(a b):CT (GK a b) 340 [AL a,Aq b] rB:=Fe f340 0xa5b4105d01b4105cf2 [] (GK.eq_1 ..)
instance(a b c):CT (E4 a b c) 274 [AL a,Aq b,Aq c] rI:=Bi f274 0x81a2089655010896556b89181716cc0697a79684fc5502436b8965181716cc069a02c7c3a7017c55a19e [] (E4.eq_1 ..) (A9 0 24 23 0)
instance(a b):CT (J0 a b) 393 [AL a,eI b] (rT lI eI):=Bi f393 0x81ed0701e507025a97e507025ae507025a3cb2d1c58e3655810107f9e507025a9a5ce159e17f0ea9b636409336 [] (J0.eq_1 ..) (A4 0 19 18 0 (hO 7 lI))
instance(a):CT (G9 a) 348 [AL a] (rO (eL 1 (eL 1 eB))):=J2 f348 0xed37c8370497b2d11802c80537051c1b1ac805370897f501148160c8053705651c1b1ac80537089a8101e4b6993fbd81013765c837049a5ce1fefb [.mkx 1 [.bool false] (.s 18)] (G9.eq_1 ..) (A4 0 13 12 0 (hO 3 (eL 1 (eL 1 eB)))) (A4 2 28 27 0 (hX 5 1 eB))
instance(a b c d):CT (HC a b c d) 280 [AL a,Aq b,Aq c,Au d] rI:=J2 f280 0xad474645f60697a2059160915c5a5d605d5cbcddb1b1efefd0cbd0cba2d68d6181606a65474645f606e3b9f60325242309f60797598860905c60905c01a2705c8d618190f6036525242309f607e3388296a2d6ea5abdbd01629e [] (HC.eq_1 ..) (A9 0 37 36 0) (A9 2 71 70 0)
theorem ABx(l:Fp)(r:Bool)(h:Ih l=Y r):AV prog 347 [lI l] (.sh (eB r)):=by
  unfold Ih at h;rw[<-sM]at h;split at h
  · rename_i a
    cases h;exact iC l a
  .cases h
instance ACs(l:Fp):Ct Go.Proofs.Tryz.prog (Ih l) 347 [lI l] (rS eB):=⟨ABx l⟩
instance(a b c d e):CT (F6 a b c d e) 278 [AL a,Aq b,Aq c,Au d,eB e] rI:=Fe f278 0x81a20a0e5d715c36a79655c3a796c30162620401 [] (F6.eq_1 ..)
instance(a b c):CT (Ep a b c) 217 [AL a,BD b,BT c] rI:=Fe f217 0x8161017c6c55e09f55a19e [] (Ep.eq_1 ..)
instance(a b):CT (Er a b) 276 [Se a,lI b] rI:=Fe f276 0xdc5d605c01595d855ca136 [] (Er.eq_1 ..)
instance(a b):CT (HK a b) 343 [eI a,eI b] (rT eI IU):=Fe f343 0x9b5a3f5a3f013f61817401283f013f36ba [.cvt .u64 (.s 9),.cvt .u64 (.s 11),.bin (.w) .shr (.s 16) (.c (.int .u64 63)),.bin (.w) .shr (.s 18) (.c (.int .u64 63)),.cvt .i64 (.s 21)] (HK.eq_1 ..)
instance(a b):CT (FT a b) 342 [Se a,.pt [lI b]] (λr=>.tp [eI r.1,IU r.2.1,eB r.2.2]):=Fe f342 0x819b369b7c5d605c03ffcd9b0a70035c5a5c819b369b7c5ddc5c01369336 [] (FT.eq_1 ..)
instance(a b):CT (Ge a b) 277 [Ff a,lI b] rB:=Fe f277 0xa50a058d5c76058d5c810ea90e360e36a2083608619b1174010f550342619b1174010f55b96110f2 [] (Ge.eq_1 ..)
instance(a b c):CT (Fx a b c) 219 [BD a,BT b,Au c] (rT lI eI):=J2 f219 0x81821808cf4b4a08049759e18820149fbb04c99f054308f94c4b4a0804e3b8085e1918170908cc089759e18501201455a81918170c0b0908cc0a1918170c0b0908cc0a3cf5f50580a8361401148a0817cf01145a6173a881605d6060dd91044b05c9d70443085e651918170908cc08e3a899993fb73fb73640939e [.mkx 1 [.int .i64 0] (.s 17),.mkx 1 [.bool false] (.s 20)] (Fx.eq_1 ..) (A4 0 25 24 0 λs0:Fp×a6=>[(8,.xo 1 (w_ eI s0.1)),(9,.xo 1 (w_ eB s0.2))]) (A9 2 76 75 0)
instance(a b c d):CT (Eo a b c d) 279 [AL a,BD b,BT c,Au d] (rT lI eI):=Fe f279 0x818274966c9f59e17f96d4d45559e17ffd9f553640629e [] (Eo.eq_1 ..)
instance(a b c d):CT (KW a b c d) 220 [AL a,Bz b,BT c,Ba d] rI:=Fe f220 0x8159d89101a7e4d46c9fb955bc0e030f42d4d4555bb95501629e [] (KW.eq_1 ..)
instance(a b c d):CT (F7 a b c d) 221 [AL a,Aq b,Aq c,Au d] (rT Aq eI):=Fk f221 0x8184550c08022726250c08060697da3801d1905c043881600c0802652726250c080606e3380250fc3f0e5d5984f8f79655c35984f8f796c301fc629e [.Aap [.z ⟨X,.list 1 []⟩,.w 34]] [.cell 8 (Y 2),.tmp 9] λr h e f=>by
  unfold F7 at h;have:=A4 0 39 38 0 λs0:d5=>[(12,.bx [⟨X,lI s0.d3⟩,⟨X,lE s0.d4⟩])];exact nz
instance(a):CT (DE a) 281 [JK a] rI:=Fe f281 0x8196b8d4a796be55a8d4fa [] (DE.eq_1 ..)
instance(a b):CT (Gb a b) 350 [lI a,lI b] (rO (eL 2 Sd)):=J2 f350 0xed057609056a0597db056a05dbf66a0777dbf66a07dbf66a073c0202480247054636028a0ab40136b4018dececdb056a05e8dbf66a07dc615af9db056a059ac5c002406a02 [] (Gb.eq_1 ..) (A4 0 10 9 0 (hO 5 (eL 2 Sd))) (A4 2 7 0 0 (hO 5 (eL 2 Sd)))
instance(a):CT (D2 a) 282 [JK a] (rT (eL 2 Sd) (eL 2 Sd)):=Fe f282 0x82820e80b880be0e73b873be02400240fb [] (D2.eq_1 ..)
instance(a):CT (Dh a) 351 [JK a] (rO lI):=Bi f351 0xed37db08370597db083705db0837053cb2d1c5d80173b89b903765db083705e35bbee1fefb [] (Dh.eq_1 ..) (A4 0 10 9 0 (hO 3 lI))
instance(a):CT (DU a) 283 [JK a] (rO lI):=Bi f283 0xed0401c80bf40697c80bf406c80bf4063cb2d1c58a0a0e91360e5d36b40180beb181efd07e04f9c80bf406e30141a8e1820e0844fefb [] (DU.eq_1 ..) (A4 0 13 12 0 (hO 4 lI))
instance(a b c):CT (HI a b c) 284 [eI a,lI b,lI c] (rO lI):=J2 f284 0xed0a01201f1e0a0497201f1e0a04201f1e0a043cb2d1c58861816076f9201f1e0a049a98e1070111100f0702059711100f07020511100f0702053cf50114d8369b9007f911100f0702059a81993f364002d5 [.mkx 1 [.bool false] (.s 13)] (HI.eq_1 ..) (A4 0 17 16 0 (hX 7 1 eB)) (A4 2 32 31 0 (hO 10 lI))
instance(a b c d):CT (HV a b c d) 222 [Aq a,Aq b,HL c,Au d] (rT HL eI):=Fk f222 0x8013b818404460e5d5dea0eddbdff5984004681700e084481840046dc7001e682e4084459846af70e0844084b0dc90646c3c36ac9629e [] [.cell 8 (Y 2),.tmp 9] λr h e f=>by
  unfold HV at h;exact nz
instance(a b c d e f):CT (Fy a b c d e f) 352 [AL a,BD b,AI c,BT d,Ba e,eB f] rI:=Fe f352 0x8159d89101a7e4d46c9f55e0b638d4d455a7017c6c55e0ac9f55a16262a6 [] (Fy.eq_1 ..)
instance(a b c):CT (Gc a b c) 428 [eI a,lI b,lI c] (rO lI):=Bi f428 0x821807010f0e0d07020597f59036149b9007f90f0e0d0702059a81991a3647fe02d5 [] (Gc.eq_1 ..) (A4 0 15 14 0 (hX 7 1 eI))
theorem AAV:CK f413 (.seq (.region [⟨Y 4,.mv (.c (.int .i64 0)),W⟩] [0,1])
 (.seq (.seq (.region [⟨Y 5,.mv (.s 0),W⟩,
    ⟨Y 6,.isn (.s 5),W⟩] [0,1,6])
  (.cond (.s 6) (.seq (.region [⟨Y 4,.mv (.c (.int .i64 (-1))),W⟩] [4])
   (.ret))
  (.skip [0,1])))
 (.seq (.region [⟨Y 7,.mv (.s 0),W⟩,
    ⟨Y 8,.mv (.s 1),W⟩,
    ⟨Y 9,.iad (.s 7) (.s 8) 1,W⟩,
    ⟨Y 10,.ld (.s 9),W⟩,
    ⟨Y 4,.mv (.s 10),W⟩] [4])
 (.ret)))) [.tmp 4]:=c!
instance ACi(l:Option Fp)(i:Int):Ct Go.Proofs.Tryz.prog (Mq l i) 413 [(eO 1 eI) l,eI i] (rS eI):=Fi AAV λr h a b=>by
  cases l with
  |none=>replace h:Y (-1)=Y r:=h;exact au|some l=>replace h:((XM l).bind λ_=>(idx l i).bind λx=>Y x)=Y r:=h;exact au
instance(a b c):CT (EB a b c) 415 [.pt (TX a).cells,eI b,eI c] rB:=Fe f415 0x813f0746609103097801605d030978015cd07e80027801a2a68d610e0180057801b1efd07e37785b3602d5 [.bin (.a [0,0,0]) .eql (.s 38) (.s 57)] (EB.eq_1 ..)
instance(a):CT (CO a) 414 [.pt (TX a).cells] rB:=J2 f414 0xad14e5ca055f14e5ca0514e5ca0581880114e506ca06262514e50604ca0997ff14e506ca06018e0136810114e506ca0665262514e50604ca099a80027861ff14e5ca0585012c915db181efd0436a6514e5ca05e301785b61700309789201 [] (CO.eq_1 ..) (A9 0 20 19 0) (A4 2 38 37 0 (hT 6 eB))
noncomputable def cd:PC:=PC.of N9 f386.body (xq bT 0xff00013cda0b78024802470446201d0ab3201d09b3040bb3380001a4a30600045fa4a3060004a4a30600043c1f0a780151011e0ab3380052381f0a78014fa9011e0ab338ffa4a30600048a0a20011d0ab3f807b30108203638816af9a4a30600049a8002b381151d0ab3817037785b38151d0ab300013f3e3d0200055f3f3e3d0200053f3e3d0200053c1f09780151011e09b3383f3e3d0200053f3e3d0200053c005238a0381f0978014fa9011e09b338ff3f3e3d0200058a0a20011d09b3f807b37608906090735b5b380304b376a68d610e017305b39b606af93f3e3d020005e35b02b381151d09b38170735b5b38151d09b30061050308b30b030bb30001) []
theorem AAU:CK f386 cd []:=c!
theorem AAv:PC.x9 cd=X/\PC.z1 0 cd=X:=c!
abbrev Q_386(n:Nat):Prop:=∀(f:AM),CT (A8 n f) 386 [.undef] (λr=>.bo (C4 f) (C4 r) 0 [])
theorem AAH(n:Nat)(_ih_386:Q_386 n)(f:AM):CT (A8 (n+1) f) 386 [.undef] (λr=>.bo (C4 f) (C4 r) 0 []):=iG AAU AAv λr h c b d=>by
  unfold cd;unfold f386;unfold A8 at h;have:=A4 1 63 62 0 λs1:AM=>[(0,.bx (C4 s1))];have:=A4 3 164 163 0 λs3:AM=>[(0,.bx (C4 s3))];have:HJ 28 λ(a:AM)=>[(0,.bx (C4 a))]:=⟨⟩;exact nz
theorem AAG:∀n:Nat,Q_386 n:=by
  intro n
  induction n with
  |zero=>exact(λf=>⟨λ_ h=>d_⟩)
  |succ n a=>exact AAH n a
instance(f):CT (HH f) 386 [.undef] (λr=>.bo (C4 f) (C4 r) 0 []):=⟨λr h=>by
  obtain ⟨N,a⟩:=Ck h;exact((AAG N) f).snd r (a N (az _))⟩
end Go.Sf.Sc
