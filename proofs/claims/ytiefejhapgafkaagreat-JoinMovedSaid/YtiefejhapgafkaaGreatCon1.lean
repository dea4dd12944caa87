/- Contracts of the functions. -/
import Derived.Test.YtiefejhapgafkaaGreatCon0
set_option linter.all false
set_option maxRecDepth 100000
set_option maxHeartbeats 4000000
open Option renaming some->Y,none->W
open Bool renaming true->X
open List renaming map->x!
namespace Go.Sf.Sc
open Go Go.Sf Go.Proofs.Tryz
instance(a b):CT (Gf a b) 27 [Bn a,Bn b] rB:=Fe f27 0xb73fb45e7deef3f372c3c301a1 [.call 68 [.s 23,.s 25,.c (.clo 20 [])]] (Gf.eq_1 ..)
instance(a b):CT (HM a b) 19 [Df a,Df b] (rT Ht eI):=Fk f19 0x818955080402585708db0692585708db06585708db063ce8017dcf0104c18a058c8022425a8c802242c408040265585708db069d7cdb053d3c7cdb07923d3c7cdb073d3c7cdb073ce83801cf0104388a058c7422425a8c742242c47cdb05653d3c7cdb079dd859890d468a840b80227d0a840b80227d0a840b74227d0a840b74227db56c1c426c1c429d0b37771c420b745b1c7dd8a1 [] [.cell 4 (Y 2),.tmp 5] λr h c d=>by
  unfold HM at h;have:=BH 0 61 60 0 λs0:BM=>[(8,.bx [⟨X,lI s0.dl⟩,⟨X,lI s0.dr⟩])];have:=BH 2 88 87 0 λs2:BM=>[(8,.bx [⟨X,lI s2.dl⟩,⟨X,lI s2.dr⟩])];exact nz
instance(a):CT (NF a) 363 [Eu a] rB:=Fe f363 0xb7a6a536a6a59101 [] (NF.eq_1 ..)
instance ADE(b:ByteArray)(c:Int->K1)(d:FuncId)(a:Fq)[g:∀(e:Int),CT (c e) d (Eu e::a) rB]:CT (Im b c) 364 [eS b,.clo d a] rI:=B3 f364 0x815a7505dd5f5a758a0f1236a50ca5dd81ba [] (Im.eq_1 ..) (⟨⟩:HW 0 λ(f:Int)=>[(5,.tv (eI f))])
instance(a):CT (ML a) 366 [Eu a] rB:=Fe f366 0x81a6a59101 [] (ML.eq_1 ..)
instance(a):CT (Pv a) 365 [Eu a] rB:=Fe f365 0x81a636ee360e9101 [] (Pv.eq_1 ..)
instance(a):CT (Nr a) 387 [Eu a] rB:=Fe f387 0x81a636a6a59101 [] (Nr.eq_1 ..)
instance(a):CT (I9 a) 367 [eS a] (rT eI eI):=Fe f367 0x9d84fb8501fb8a051284a50c5a603f0d019101 [.call 364 [.s 6,.c (.clo 387 [])]] (I9.eq_1 ..)
instance(a):CT (Pu a) 368 [eS a] rB:=Fe f368 0xb70e0d013f5a0c9101 [.lst 1 [.c (.str ⟨#[45,62]⟩),.c (.str ⟨#[60,61]⟩),.c (.str ⟨#[62,61]⟩),.c (.str ⟨#[61,61]⟩),.c (.str ⟨#[33,61]⟩)]] (Pu.eq_1 ..)
instance(a):CT (Lr a) 335 [eS a] (λr=>.tp [eI r.1,eI r.2.1,eI r.2.2]):=Fe f335 0x819dfffb9d053f60819d0e609d369d786005609d01599d713f600e609d01599d713f600e6012369101 [.call 364 [.s 15,.c (.clo 365 [])],.call 364 [.s 23,.c (.clo 366 [])],.call 369 [.c (.str ⟨#[123,125,40,41,91,93,44,59,58,61,43,45,42,60,62,33,38,124,46,63]⟩),.s 42]] (Lr.eq_1 ..)
instance(a):CT (MM a) 278 [YN a] (rT eS eB):=B3 f278 0x9da60c0136a65ca536819d11780159bfbf0104da04da3c013f3f01855c81bb3fb8 [.mv (.c (.str ⟨#[]⟩)),.bin (.s) .add (.c (.str ⟨#[34]⟩)) (.s 13),.bin (.s) .add (.s 14) (.c (.str ⟨#[34]⟩)),.bin (.s) .eql (.s 16) (.c (.str ⟨#[]⟩)),.mv (.c (.str ⟨#[]⟩))] (MM.eq_1 ..) (⟨⟩:HJ 12 λ(b:ByteArray)=>[(4,.tv (eS b))])
instance(a):CT (Eh a) 220 [eS a] rB:=Fe f220 0x8160017806469101 [] (Eh.eq_1 ..)
instance(a b):CT (Px a b) 271 [IX a,.pt (IX b).cells] rB:=Fe f271 0x81065c9adc [] (Px.eq_1 ..)
abbrev Q_272(n:Nat):Prop:=∀(t:AC)(a:Int),CT (Dv n t a) 272 [AL t,eI a] (λr=>.Aa5 4 (x! Jh r))
theorem AAg(n:Nat)(_ih_272:Q_272 n)(t:AC)(a:Int):CT (Dv (n+1) t a) 272 [AL t,eI a] (λr=>.Aa5 4 (x! Jh r)):=Fj f272 0x99044f9041de5c1905a90305a9033c191aed7180de5c04ce044edc [] λh=>by
  unfold Dv at h;have:HJ 14 λ(b:List ke)=>[(5,.xo 4 (x! Jh b))]:=⟨⟩;exact nz
theorem AAf:∀n:Nat,Q_272 n:=by
  intro n
  induction n with
  |zero=>exact(λt a=>⟨λ_ h=>c!⟩)
  |succ n b=>exact AAg n b
instance(t a):CT (OQ t a) 272 [AL t,eI a] (λr=>.Aa5 4 (x! Jh r)):=⟨λr h=>by
  obtain ⟨N,b⟩:=C3 h;exact((AAf N) t a).snd r (b N (az _))⟩
instance(a b):CT (Kd a b) 332 [Jh a,.pt (Jh b).cells] rB:=Fe f332 0x81065c9adc [] (Kd.eq_1 ..)
instance(a):CT (KU a) 333 [lB a] rI:=B3 f333 0xacb608000492fffb0e3645369db56081616b65b608000497dfd19101 [] (KU.eq_1 ..) (BN 0 10 9 0)
instance(a b):CT (GZ a b) 273 [Jh a,lA b] rI:=B3 f273 0xdf8801060106013c01a670ccb45a5dd1cc81a65e7da6b45d5a5d59bdccfffb0e106081b59adc [] (GZ.eq_1 ..) (⟨⟩:HJ 40 λ(c:Bool)=>[(6,.tv (eB c))])
instance(a b):CT (Lu a b) 218 [AL a,eI b] rI:=B3 f218 0xac070602cabd044536d9044391e90706028170cc0b0159d101820eedfffb70cc9d0a845d5a5d9d0e100445015c9db55c053d044b02c9d9de9adc [] (Lu.eq_1 ..) (BN 1 7 6 0)
instance(a b):CT (NG a b) 274 [eI a,.pt (AL b).cells] rB:=Fe f274 0xb7705c3684ba [] (NG.eq_1 ..)
instance(a b):CT (Pw a b) 276 [Ji a,.pt (Ji b).cells] rB:=Fe f276 0x81065c9adc [] (Pw.eq_1 ..)
instance(a b):CT (L7 a b) 277 [eI a,eI b] rB:=Fe f277 0xb70aa63684a536a63684ba [] (L7.eq_1 ..)
instance(a b):CT (Ls a b) 219 [AL a,eI b] rI:=B3 f219 0x81ff5919013c010ab503d403057db5cb42cc19600a080fb436080f5d60810e100745015d9db55c8110053d074b04c90744077ebbdc [] (Ls.eq_1 ..) (⟨⟩:HJ 25 λ(c:Bool)=>[(25,.tv (eB c))])
instance(a):CT (EE a) 173 [AL a] (rT eS eI):=KV f173 0x81bf002e2d2c0104ecc45c710eed074b8104c9074407436b652e2d2c0104e3c1361d1c1b0104ecc45c710eed044b8102c9d9de36651d1c1b0104e338ff59bfb7eb5ae081bf81709a3fb8 [.mv (.c (.str ⟨#[]⟩)),.mv (.c (.str ⟨#[]⟩)),.mv (.c (.str ⟨#[]⟩)),.mv (.c (.str ⟨#[]⟩))] (EE.eq_1 ..) (BN 1 29 28 0) (BN 3 46 45 0)
instance(a b):CT (Ix a b) 232 [eI a,eI b] rB:=Fe f232 0xb7843684ba [] (Ix.eq_1 ..)
instance(a):CT (OT a) 231 [eI a] rB:=Fe f231 0x81b59101 [] (OT.eq_1 ..)
instance(a b):CT (PU a b) 235 [CB a,eI b] rB:=Fe f235 0xb70e845e7dee845d729adc [] (PU.eq_1 ..)
instance(a b):CT (OU a b) 234 [CB a,.pt (A5 b).cells] rB:=Fe f234 0x81b5e06c01dc [] (OU.eq_1 ..)
instance(a):CT (DV a) 179 [A5 a] rI:=Fe f179 0xdf8e105d59bf5caaeb5a0b9ab8 [.call 73 [.s 14,.c (.clo 231 [])]] (DV.eq_1 ..)
instance(a b):CT (ID a b) 279 [eI a,.pt (AL b).cells] rB:=Fe f279 0x81709aba [] (ID.eq_1 ..)
instance(a b):CT (IE a b) 280 [CB a,.pt (AL b).cells] rB:=Fe f280 0x81eb9adc [] (IE.eq_1 ..)
instance(a b c):CT (C8 a b c) 281 [eI a,eI b,eI c] rB:=Fe f281 0xb78436843602dd [] (C8.eq_1 ..)
instance(a b):CT (Oh a b) 346 [eI a,.pt (AL b).cells] rB:=Fe f346 0xb7705c3684ba [] (Oh.eq_1 ..)
instance(a b):CT (Hc a b) 295 [AL a,lI b] rI:=Fe f295 0xdf8e1001597f0178a2dc [] (Hc.eq_1 ..)
instance(t a):CT (FO t a) 267 [AL t,eI a] (rT lA eI):=iq f267 0x81821807011514070392014d0354044c0e170354044c01140114c407fc15140703819514991a019f04c0bdb201a20440dc [] (FO.eq_1 ..) (BH 0 21 20 0 (hX 7 4 Jh)) (⟨⟩:HS 31) (⟨⟩:HX 33 λ(a:ke)(v:List ByteArray)=>ke.mk a.kh a.Low a.Aab v)
instance(a b c):CT (G2 a b c) 282 [AL a,BS b,FQ c] (rT Jh eB):=Fk f282 0x81044bd90443bb59044b1646d57001bbe4615cc39f044b1646d570c35c5ac9fa [] [.cell 6 (Y 4),.tmp 7] λr h d e=>by
  unfold G2 at h;exact nz
instance(a b):CT (Jg a b) 370 [eI a,Sv b] rB:=Fe f370 0x81a6bba6bb0a845c5a9ab801 [] (Jg.eq_1 ..)
instance(a b):CT (Kl a b) 336 [eI a,F9 b] rI:=Fe f336 0x81ff59b708960342360896c16081a65c5a9ab801 [] (Kl.eq_1 ..)
instance(a b):CT (Iv a b) 283 [eI a,lT b] rI:=B3 f283 0xace6110004ecbd9b5a4b07c99b05430065e611000497dfd101aa053684ba [] (Iv.eq_1 ..) (BN 0 19 18 0)
instance(a b):CT (Dx a b) 221 [AL a,BS b] rI:=B3 f221 0xdfa01459bdcb42cc085e3c3b3a085e06923c3b3a085e063c3b3a085e063cf574be148574beaab580027d0ab505cc74027d0860044b054978d99b55044b0bc9d90443085e653c3b3a085e06e3be993fccaa70cb425a0bb459d5ccaa0e10f37210c359f638597f0178a2a1 [.mkx 1 [.bool false] (.s 55)] (Dx.eq_1 ..) (BH 0 60 59 0 (hX 8 1 eB))
instance(a b):CT (Pq a b) 338 [eI a,.pt (AL b).cells] rB:=Fe f338 0x81709aba [] (Pq.eq_1 ..)
instance(a b):CT (Pr a b) 339 [CB a,.pt (AL b).cells] rB:=Fe f339 0x81eb9adc [] (Pr.eq_1 ..)
instance(a b):CT (Lj a b) 285 [AL a,A5 b] rB:=Fe f285 0xb7b510bbb5109aa1 [] (Lj.eq_1 ..)
instance(a b):CT (Qs a b) 341 [FQ a,.pt (FQ b).cells] rB:=Fe f341 0x81a65d5d5a5c9adc [] (Qs.eq_1 ..)
instance(a b c):CT (M9 a b c) 286 [AL a,CH b,eI c] rI:=Fe f286 0xdf8e100445015e41d4aa05bba6bba69041d49aa69a0a70015d5a5d890ac955027de4615c745bd49f8a70745bd45c5a5c073d044b0bc9d9de5e41067d62a9 [] (M9.eq_1 ..)
instance(a b):CT (Li a b) 222 [AL a,CH b] rI:=B3 f222 0xac2f2e5e04ecbd01d055816b652f2e5e04975e41d4fffb705e41d49d0a70cb41d45a9041c19041d49d08965bd49ff65b067da1 [] (Li.eq_1 ..) (BN 1 47 46 0)
instance(a b):CT (JU a b) 383 [lI a,eI b] rI:=B3 f383 0xac097c6b0592aa056105363684aa84a56081616b65097c6b059781ba [] (JU.eq_1 ..) (BN 0 9 8 0)
instance(a b):CT (NE a b) 384 [lI a,eI b] rB:=Fe f384 0x8160017836ba [] (NE.eq_1 ..)
instance(a b):CT (Of a b) 359 [A5 a,Ht b] rI:=B3 f359 0xac1e1d1c5e0592aab55e4103e59ab58003e55c816100651e1d1c5e05e3c159bdf95d59bde09aa1 [] (Of.eq_1 ..) (BN 0 30 29 0)
instance(a b):CT (F4 a b) 321 [A5 a,Ht b] rI:=Fe f321 0x81969ff601a1 [] (F4.eq_1 ..)
instance(a b):CT (Fr a b) 287 [A5 a,Ht b] (λr=>.tp [A5 r.1,A9 r.2.1,eI r.2.2]):=Fk f287 0x6a023b8189890e460e5d0e5c55086acb2b2a2908e70892e8c1034803476c04017d4abe78b49a4ac1785d5cadf1d6e58161086acb652b2a2908e708e3c108e70519181708e70892e83801cf8c5c0438816108e7056519181708e708e338fd598989010d460cf896a2d8fda1 [] [.cell 4 (Y 2),.cell 5 (Y 2),.tmp 6] λr h c d=>by
  unfold Fr at h;have:=BH 0 25 24 0 λs0:d3=>[(8,.bx [⟨X,lI s0.dl⟩,⟨X,lE s0.dr⟩])];have:=BH 2 43 42 0 λs2:d3=>[(8,.bx [⟨X,lI s2.dl⟩,⟨X,lE s2.dr⟩])];exact nz
instance(a b c):CT (EB a b c) 288 [A5 a,A5 b,A9 c] rI:=KV f288 0xac494847ea0692aa05b461b45c5a5d615d5c59855c5cadadf1f1d6e5d6e5aaeba56081616b65494847ea06e3c16a902c2b2aea06ec858c5c8c5caa705ca56081615a0490652c2b2aea06e338aaebf95ae0e059f659f601fa [] (EB.eq_1 ..) (BN 0 44 43 0) (BN 2 73 72 0)
instance(a):CT (Hv a) 342 [lI a] rI:=Fe f342 0x81152a142914991a9101 [] (Hv.eq_1 ..)
instance(a b c):CT (D4 a b c) 289 [A5 a,A5 b,A9 c] rB:=Fe f289 0xb7eb0ebb0a705c0e5c5a9655a2fa [] (D4.eq_1 ..)
instance(a):CT (M8 a) 223 [CH a] rI:=Fe f223 0xdf88960d42555bd49ff60d42555bd49f7f89890c49fd1178550b42555b017db8 [] (M8.eq_1 ..)
instance(a b):CT (MJ a b) 290 [lI a,eI b] (rO lI):=B3 f290 0xf0847c050004927c0500047c0500043ca9cfdad536815afc7c0500049d01c001406b02 [] (MJ.eq_1 ..) (BH 0 8 7 0 (hO 5 lI))
instance(a):CT (M7 a) 224 [CH a] (rT lI lI):=Fe f224 0x82820e0b3777d4800d420e0b745bd4740d7d400140b8 [] (M7.eq_1 ..)
instance(a b c):CT (Np a b c) 291 [eI a,.pt (AL b).cells,.pt (A5 c).cells] rB:=Fe f291 0x815e4104438c5c9a02dd [] (Np.eq_1 ..)
instance(a b):CT (Ns a b) 347 [AL a,eI b] (rO lI):=B3 f347 0x82182914055aa9033c0180de5cff19014fb2011984655aa937ce0140dc [] (Ns.eq_1 ..) (⟨⟩:HW 0 λ(c:Int×Fp)=>[(1,.tv (eI c.1)),(5,.xo 1 (x! eI c.2))])
instance(a b c):CT (Lt a b c) 296 [AL a,eI b,eI c] rB:=Fe f296 0x810e7201a293a902 [] (Lt.eq_1 ..)
instance(a b c d):CT (J7 a b c d) 228 [AL a,eI b,eI c,eI d] rB:=Fe f228 0xb70e5e41077ebb557280077ebb9f8aeb36a6a50eb236a2935e0103 [] (J7.eq_1 ..)
instance(a b c):CT (Iq a b c) 292 [eI a,.pt (A5 b).cells,.pt (AL c).cells] rB:=Fe f292 0x81b561b45c615d5c5c55adf1d67ebb02dd [] (Iq.eq_1 ..)
instance(a b c d):CT (I6 a b c d) 225 [AL a,A5 b,lI c,lI d] rB:=Fe f225 0xb7b51036b51036625e02 [] (I6.eq_1 ..)
instance(a):CT (Fx a) 373 [AI a] rB:=Fe f373 0x81a6cc5a70cb4270b470f370c37080be0b74beb908c99b047db8 [] (Fx.eq_1 ..)
abbrev AbN(n:Nat):Prop:=∀(c:d5),CT (Bm n c) 343 [AI c] rB
abbrev AbQ(n:Nat):Prop:=∀(k:d5),CT (B1 n k) 375 [AI k] rB
theorem AAk(n:Nat)(_ih_343:AbN n)(_ih_375:AbQ n)(c:d5):CT (Bm (n+1) c) 343 [AI c] rB:=Fj f343 0xb7083f5d36ff04da04da5f606ada3c01eea85a011a09f4055f1a09f405816ada3c01eea85a606ada3c01eea85a600583389d0bbbb8 [.call 374 [.s 42,.c (.clo 375 [])]] λh=>by
  unfold Bm at h;have:HJ 10 λ(a:Bool)=>[(4,.tv (eB a))]:=⟨⟩;exact nz
theorem AAq(n:Nat)(_ih_343:AbN n)(_ih_375:AbQ n)(k:d5):CT (B1 (n+1) k) 375 [AI k] rB:=Fj f375 0x81b5a801b8 [] λh=>by
  unfold B1 at h;exact nz
theorem tY:∀n:Nat,AbN n/\AbQ n:=by
  intro n
  induction n with
  |zero=>exact⟨(λc=>⟨λ_ h=>c!⟩),(λk=>⟨λ_ h=>c!⟩)⟩
  |succ n a=>exact⟨AAk n a.1 a.2,AAq n a.1 a.2⟩
instance(c):CT (IQ c) 343 [AI c] rB:=⟨λr h=>by
  obtain ⟨N,a⟩:=C3 h;exact((tY N).1 c).snd r (a N (az _))⟩
instance(k):CT (TQ k) 375 [AI k] rB:=⟨λr h=>by
  obtain ⟨N,a⟩:=C3 h;exact((tY N).2 k).snd r (a N (az _))⟩
abbrev Q_344(n:Nat):Prop:=∀(c:d5),CT (Cn n c) 344 [AI c] (rT eI eI)
theorem AAm(n:Nat)(_ih_344:Q_344 n)(c:d5):CT (Cn (n+1) c) 344 [AI c] (rT eI eI):=Fj f344 0x9d366a026a025f01855c6a0103c80b6a010692362ca5369d78a8094b0fc9a809436a010365c80b6a0106e3c19d36b8 [] λh=>by
  unfold Cn at h;have:=BH 0 13 12 0 λs0:Int×Int=>[(4,.tv (eI s0.1)),(5,.tv (eI s0.2))];have:HJ 31 λ(a:Int)=>[(5,.tv (eI a))]:=⟨⟩;exact nz
theorem AAl:∀n:Nat,Q_344 n:=by
  intro n
  induction n with
  |zero=>exact(λc=>⟨λ_ h=>c!⟩)
  |succ n a=>exact AAm n a
instance(c):CT (KY c) 344 [AI c] (rT eI eI):=⟨λr h=>by
  obtain ⟨N,a⟩:=C3 h;exact((AAl N) c).snd r (a N (az _))⟩
instance(a):CT (GN a) 293 [AI a] rI:=Fe f293 0x81aa05a5608178a859d5a801b8 [] (GN.eq_1 ..)
instance(a b):CT (JG a b) 376 [FQ a,.pt [eI b]] rB:=Fe f376 0xd70374027ddc [] (JG.eq_1 ..)
instance(a b c):CT (E4 a b c) 345 [AL a,BS b,eI c] rI:=B3 f345 0xac7c04033c083d014b05374b164983ff5901d510b40065cc037c0403083d014b16c90159bd9ba262a9 [] (E4.eq_1 ..) (⟨⟩:HW 0 λ(d:Int)=>[(8,.tv (.pt [eI d]))])
abbrev Q_294(n:Nat):Prop:=∀(t:AC)(p:d6)(c:d5),CT (CZ n t p c) 294 [AL t,BS p,AI c] rI
theorem AAi(n:Nat)(_ih_294:Q_294 n)(t:AC)(p:d6)(c:d5):CT (CZ (n+1) t p c) 294 [AL t,BS p,AI c] rI:=Fj f294 0xac353433040305ecbda89b55094b0fc9a809430065353433040305e3c16a906a903cb99b598896bec6c659f6bec6c659bdcc9b9f85ccccb908c99bf2859a93bfb8 [.Aby (.s 1)] λh=>by
  unfold CZ at h;have:=BN 0 53 52 0;exact nz
theorem AAh:∀n:Nat,Q_294 n:=by
  intro n
  induction n with
  |zero=>exact(λt p c=>⟨λ_ h=>c!⟩)
  |succ n a=>exact AAi n a
instance(t p c):CT (Ok t p c) 294 [AL t,BS p,AI c] rI:=⟨λr h=>by
  obtain ⟨N,a⟩:=C3 h;exact((AAh N) t p c).snd r (a N (az _))⟩
instance(a b c):CT (Dy a b c) 226 [AL a,BS b,AI c] rI:=Fe f226 0x810ea89b9fbda859bd9ba2fa [] (Dy.eq_1 ..)
instance(a b):CT (J0 a b) 174 [AL a,CH b] rI:=Fe f174 0x810ea810429bc19fd536555bd45582e4d059bdd059bdd09fbd9bc19fd55c597f0178a2a1 [] (J0.eq_1 ..)
instance(a b c):CT (Mn a b c) 227 [AL a,eI b,lI c] rI:=B3 f227 0xac232221020492aa05b48ca55df7044bd7c9d904436b65232221020497dfd1010b36e4019f830241de5c59d15c3693a902 [] (Mn.eq_1 ..) (BN 0 35 34 0)
instance(a b):CT (HL a b) 175 [AL a,Bn b] (rT eI eI):=KV f175 0x9d003e3d3c5e05ecc4d561b4c3615dc35c9fc4d15d5cad81f1d6436b653e3d3c5e05e30141385e022827265e05ec8136710e8c5e7d559d8c5e02652827265e05e35b38fbd1c30bb4fbf638fb7f01785536a1 [] (HL.eq_1 ..) (BN 0 40 39 0) (BN 2 62 61 0)
instance(a b c):CT (Fd a b c) 123 [AL a,(eL 25 CH) b,Bn c] rI:=B3 f123 0x816001786c55055e1b1a19050305ecbdd055194b10c9d01943055e651b1a1905030597dfd101597f0178a26236 [] (Fd.eq_1 ..) (BN 0 27 26 0)
instance(a b c):CT (IV a b c) 165 [AL a,CH b,Bn c] rI:=Fe f165 0x816001786c9fbdd09f7f0178a2fa [] (IV.eq_1 ..)
instance(a b):CT (MY a b) 349 [eI a,.pt (AL b).cells] rB:=Fe f349 0x81709aba [] (MY.eq_1 ..)
instance(a b):CT (MZ a b) 350 [CB a,.pt (AL b).cells] rB:=Fe f350 0x81eb9adc [] (MZ.eq_1 ..)
instance(a b):CT (Gm a b) 312 [AL a,A5 b] rB:=Fe f312 0xb7b510bbb5109aa1 [] (Gm.eq_1 ..)
instance(a b c):CT (FN a b c) 252 [AL a,A5 b,A5 c] rI:=B3 f252 0x81aa0896a20896556a90181716ea06ecf689fd5502436a9065181716ea069702c7559f7f0178a2fa [] (FN.eq_1 ..) (BN 0 24 23 0)
instance(a b):CT (KT a b) 358 [AL a,eI b] (rT lI eI):=B3 f358 0x81f00701e607025a92e607025ae607025a3ca9cfda8e3655c407fce607025a979ac05901c0bdb2ed3640dc [] (KT.eq_1 ..) (BH 0 19 18 0 (hO 7 lI))
instance(a):CT (Hj a) 320 [AL a] (rO (eL 1 (eL 1 eB))):=KV f320 0xf037c8370492a9cf1802c80537051c1b1ac805370892f501148161c8053705651c1b1ac805370897c4e4ed993fe0c43765c83704979ac00140b8 [.mkx 1 [.bool false] (.s 18)] (Hj.eq_1 ..) (BH 0 13 12 0 (hO 3 (eL 1 (eL 1 eB)))) (BH 2 28 27 0 (hX 5 1 eB))
instance(a b c d):CT (Hk a b c d) 258 [AL a,A5 b,A5 c,A9 d] rI:=KV f258 0xac474645fe0692aa05b461b45c5a5d615d5c59855c5cadadf1f1d6e5d6e5aaeba56081616b65474645fe06e3c1fe0325242309fe07ec88618c5c618c9aaa705ca560818cfe036525242309fe07e3388296aaebf95ae00b9a62a1 [] (Hk.eq_1 ..) (BN 0 37 36 0) (BN 2 71 70 0)
theorem ACU(l:Fp)(r:Bool)(h:I8 l=Y r):AV prog 319 [lI l] (.sh (eB r)):=by
  unfold I8 at h;rw[<-tM]at h;split at h
  · rename_i a
    cases h;exact il l a
  .cases h
instance ADR(l:Fp):Ct Go.Proofs.Tryz.prog (I8 l) 319 [lI l] (rS eB):=⟨ACU l⟩
instance(a b c d e):CT (GT a b c d e) 256 [AL a,A5 b,A5 c,A9 d,eB e] rI:=Fe f256 0x81aaee5d725c3659f655559ff655a262620401 [] (GT.eq_1 ..)
instance(a b c):CT (FA a b c) 203 [AL a,BS b,Bn c] rI:=Fe f203 0x816001786c9fbd9ba2fa [] (FA.eq_1 ..)
instance(a b):CT (FB a b) 254 [Sv a,lI b] rI:=Fe f254 0xd75d619a595d859adc [] (FB.eq_1 ..)
instance(a b):CT (Hs a b) 315 [eI a,eI b] (rT eI Iw):=Fe f315 0x9d5a3f5a3f013f60817301283f013f36ba [.cvt .u64 (.s 9),.cvt .u64 (.s 11),.bin (.w) .shr (.s 16) (.c (.int .u64 63)),.bin (.w) .shr (.s 18) (.c (.int .u64 63)),.cvt .i64 (.s 21)] (Hs.eq_1 ..)
instance(a b):CT (Fy a b) 314 [Sv a,.pt [lI b]] (λr=>.tp [eI r.1,Iw r.2.1,eB r.2.2]):=Fe f314 0x819d369d785d615c03fffb9d0a70035c5a5c819d369d785dd79a36dc [] (Fy.eq_1 ..)
instance(a b):CT (G6 a b) 255 [F9 a,lI b] rB:=Fe f255 0xb7a6a59aa6a55c810eb20e360e36aa083608609d1173010f550342609d1173010fa242601001a1 [] (G6.eq_1 ..)
instance(a b c):CT (GL a b c) 205 [BS a,Bn b,A9 c] (rT lI eI):=KV f205 0x81821808cd4b4a0804ec01c08820149bb907c99b054308fc4c4b4a0804e3f2085e1918170908ea08ec01c08501201455be1918170c0b0908ea0a1918170c0b0908ea0a3cf5f50580be361401148a0817cd01145a6074be81615d61615c5cb4044b0bc9d90443085e651918170908ea08e3be99993fcc3fcc3640fa [.mkx 1 [.int .i64 0] (.s 17),.mkx 1 [.bool false] (.s 20)] (GL.eq_1 ..) (BH 0 25 24 0 λs0:Fp×a6=>[(8,.xo 1 (x! eI s0.1)),(9,.xo 1 (x! eB s0.2))]) (BN 2 76 75 0)
instance(a b c d):CT (E9 a b c d) 257 [AL a,BS b,Bn c,A9 d] (rT lI eI):=Fe f257 0x818273966c9b5901c0f6c6c69f01c0bd6c9b55364062a1 [] (E9.eq_1 ..)
instance(a b c d):CT (K4 a b c d) 206 [AL a,CH b,Bn c,By d] rI:=Fe f206 0xdfd55e7d597fe4c66c9bc19f850e030f42c6c6555bc1a262a1 [] (K4.eq_1 ..)
instance(a b c d):CT (GU a b c d) 207 [AL a,A5 b,A5 c,A9 d] (rT A5 eI):=Fk f207 0x8189550c08022726250c08060692e83801cf8c5c043881610c0802652726250c080606e3380250fd3f0e5d5989010cf89655559f89010cf89655a2fd62a1 [.Aaj [.z ⟨X,.list 1 []⟩,.w 34]] [.cell 8 (Y 2),.tmp 9] λr h e f=>by
  unfold GU at h;have:=BH 0 39 38 0 λs0:d3=>[(12,.bx [⟨X,lI s0.dl⟩,⟨X,lE s0.dr⟩])];exact nz
instance(a):CT (DX a) 259 [Jj a] rI:=Fe f259 0x8196f2c659f6d455bec601b8 [] (DX.eq_1 ..)
instance(a b):CT (G3 a b) 322 [lI a,lI b] (rO (eL 2 Su)):=KV f322 0xf084b6056b0592b6056b05b6fe6b0776b6fe6b07b6fe6b073c0202480247094636028a0ab50136b501a5f7f7b6056b05e9b6fe6b07d7605afcb6056b0597dac002406b02 [] (G3.eq_1 ..) (BH 0 10 9 0 (hO 5 (eL 2 Su))) (BH 2 7 0 0 (hO 5 (eL 2 Su)))
instance(a):CT (EK a) 260 [Jj a] (rT (eL 2 Su) (eL 2 Su)):=Fe f260 0x82820e80f280d40e74f274d402400240b8 [] (EK.eq_1 ..)
instance(a):CT (D2 a) 323 [Jj a] (rO lI):=B3 f323 0xf037b608370592b6083705b60837053ca9cfdad50174f29d8c3765b6083705e35b067dc00140b8 [] (D2.eq_1 ..) (BH 0 10 9 0 (hO 3 lI))
instance(a):CT (Do a) 261 [Jj a] (rO lI):=B3 f261 0xf00401c80bf40692c80bf406c80bf4063ca9cfda8aeeb4360e5d36b50180d4ad81f1d67e04fcc80bf406e30141027dc0820e08440140b8 [] (Do.eq_1 ..) (BH 0 13 12 0 (hO 4 lI))
instance(a b c):CT (Hr a b c) 262 [eI a,lI b,lI c] (rO lI):=KV f262 0xf00a01201f1e0a0492201f1e0a04201f1e0a043ca9cfda8860818c0afc201f1e0a04979801c0070111100f0702059211100f07020511100f0702053cf50114d5369d8c07fc11100f0702059781993f364002dd [.mkx 1 [.bool false] (.s 13)] (Hr.eq_1 ..) (BH 0 17 16 0 (hX 7 1 eB)) (BH 2 32 31 0 (hO 10 lI))
instance(a b c d):CT (H0 a b c d) 208 [A5 a,A5 b,Ht c,A9 d] (rT Ht eI):=Fk f208 0x8013b81890e460e5d5df90e5c5ce0ff59890d4681700e084481890d46d770010b0182e408445989010df80e0844084b17c91f46555555a2d862a1 [] [.cell 8 (Y 2),.tmp 9] λr h e f=>by
  unfold H0 at h;exact nz
instance(a b c d e f):CT (GM a b c d e f) 324 [AL a,BS b,AI c,Bn d,By e,eB f] rI:=Fe f324 0xdfd55e7d597fe4c66c9b9fbd01c6c6c69f7f01786c9fbda89ba293626284 [] (GM.eq_1 ..)
instance(a b c):CT (G4 a b c) 393 [eI a,lI b,lI c] (rO lI):=B3 f393 0x821807010f0e0d07020592f58c36149d8c07fc0f0e0d0702059781991a3647014002dd [] (G4.eq_1 ..) (BH 0 15 14 0 (hX 7 1 eI))
theorem AA2:CK f378 (.seq (.region [⟨Y 4,.mv (.c (.int .i64 0)),W⟩] [0,1])
 (.seq (.seq (.region [⟨Y 5,.mv (.s 0),W⟩,
    ⟨Y 6,.isn (.s 5),W⟩] [0,1,6])
  (.cond (.s 6) (.seq (.region [⟨Y 4,.mv (.c (.int .i64 (-1))),W⟩] [4])
   (.ret))
  (.skip [0,1])))
 (.seq (.region [⟨Y 7,.mv (.s 0),W⟩,
    ⟨Y 8,.mv (.s 1),W⟩,
    ⟨Y 9,.iad (.s 7) (.s 8) 1,W⟩,
    ⟨Y 10,.ld (.s 9),W⟩,
    ⟨Y 4,.mv (.s 10),W⟩] [4])
 (.ret)))) [.tmp 4]:=c_
instance ADH(l:Option Fp)(i:Int):Ct Go.Proofs.Tryz.prog (NA l i) 378 [(eO 1 eI) l,eI i] (rS eI):=Fi AA2 λr h a b=>by
  cases l with
  |none=>replace h:Y (-1)=Y r:=h;exact au|some l=>replace h:((Xf l).bind λ_=>(idx l i).bind λx=>Y x)=Y r:=h;exact au
instance(a b c):CT (ES a b c) 380 [.pt (Th a).cells,eI b,eI c] rB:=Fe f380 0x813f074661b403097701615d030977015cd67e80027701aa84a5600e0180057701adf1d67e37775b3602dd [.bin (.a [0,0,0]) .eql (.s 38) (.s 57)] (ES.eq_1 ..)
instance(a):CT (Cg a) 379 [.pt (Th a).cells] rB:=KV f379 0xac14e6c5055f14e6c50514e6c50581880114e606c506262514e60604c50992ff14e606c506018e0136c414e606c50665262514e60604c5099780027760ff14e6c50585012cb45dad81f1d6436b6514e6c505e301775b60700309779101 [] (Cg.eq_1 ..) (BN 0 20 19 0) (BH 2 38 37 0 (hT 6 eB))
noncomputable def dJ:PC:=PC.of OP f351.body (xq bT 0xff00013ce80b77024802470e46201d0ab1201d09b1040bb1380001a4a30600045fa4a3060004a4a30600043c1f0a770151011e0ab1380052381f0a77014fb2011e0ab138ffa4a30600048a0a20011d0ab1010307b10108203638816bfca4a3060004978002b181151d0ab1817037775b38151d0ab100013f3e3d0200055f3f3e3d0200053f3e3d0200053c1f09770151011e09b1383f3e3d0200053f3e3d0200053c005238a0381f0977014fb2011e09b138ff3f3e3d0200058a0a20011d09b1010307b1010a088c618c745b5b38cbb1010a84a5600e017405b19d616bfc3f3e3d020005e35b02b181151d09b18170745b5b38151d09b10060050308b10b030bb10001) []
theorem AA1:CK f351 dJ []:=c_
theorem ABS:PC.t1 dJ=X/\PC.t2 0 dJ=X:=c_
abbrev Q_351(n:Nat):Prop:=∀(f:AM),CT (BL n f) 351 [.undef] (λr=>.bo (DN f) (DN r) 0 [])
theorem AAo(n:Nat)(_ih_351:Q_351 n)(f:AM):CT (BL (n+1) f) 351 [.undef] (λr=>.bo (DN f) (DN r) 0 []):=ir AA1 ABS λr h c b d=>by
  unfold dJ;unfold f351;unfold BL at h;have:=BH 1 63 62 0 λs1:AM=>[(0,.bx (DN s1))];have:=BH 3 164 163 0 λs3:AM=>[(0,.bx (DN s3))];have:HJ 28 λ(a:AM)=>[(0,.bx (DN a))]:=⟨⟩;exact nz
theorem AAn:∀n:Nat,Q_351 n:=by
  intro n
  induction n with
  |zero=>exact(λf=>⟨λ_ h=>c!⟩)
  |succ n a=>exact AAo n a
instance(f):CT (Hq f) 351 [.undef] (λr=>.bo (DN f) (DN r) 0 []):=⟨λr h=>by
  obtain ⟨N,a⟩:=C3 h;exact((AAn N) f).snd r (a N (az _))⟩
end Go.Sf.Sc
