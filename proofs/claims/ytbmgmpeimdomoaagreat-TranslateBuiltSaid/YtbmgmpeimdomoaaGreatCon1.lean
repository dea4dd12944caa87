/- Contracts of the functions. -/
import Derived.Test.YtbmgmpeimdomoaaGreatCon0
set_option linter.all false
set_option maxRecDepth 100000
set_option maxHeartbeats 4000000
open List renaming map->w!
namespace Go.Sf.Sc
open Go Go.Sf Go.Proofs.Tryz
instance(a):CT (MA a) 344 [Nn a] rB:=Fe f344 0xe3a59730a5979601 [] (MA.eq_1 ..)
instance AA2(b:ByteArray)(c:Int->I1)(d:FuncId)(a:Fq)[g:∀(e:Int),CT (c e) d (Nn e::a) rB]:CT (H0 b c) 345 [eS b,.clo d a] rI:=CA f345 0x815b7c05cf655b7c8a0f1230970c97cf81c3 [] (H0.eq_1 ..) (⟨⟩:HW 0 λ(f:Int)=>[(5,.tv (eI f))])
instance(a):CT (K9 a) 347 [Nn a] rB:=Fe f347 0x81a5979601 [] (K9.eq_1 ..)
instance(a):CT (Ow a) 346 [Nn a] rB:=Fe f346 0x81a5300a0e300e9601 [] (Ow.eq_1 ..)
instance(a):CT (Mi a) 373 [Nn a] rB:=Fe f373 0x81a530a5979601 [] (Mi.eq_1 ..)
instance(a):CT (IT a) 348 [eS a] (rT eI eI):=Fe f348 0xa2cad68501d68a0512ca970c5b613f0d019601 [.call 345 [.s 6,.c (.clo 373 [])]] (IT.eq_1 ..)
instance(a):CT (Ov a) 349 [eS a] rB:=Fe f349 0xe30e0d013f5b0c9601 [.lst 1 [.c (.str ⟨#[45,62]⟩),.c (.str ⟨#[60,61]⟩),.c (.str ⟨#[62,61]⟩),.c (.str ⟨#[61,61]⟩),.c (.str ⟨#[33,61]⟩)]] (Ov.eq_1 ..)
instance(a):CT (Ka a) 302 [eS a] (λr=>.tp [eI r.1,eI r.2.1,eI r.2.2]):=Fe f302 0x81a2ffd6a2053f6181a20e61a230a289610561a20158a26c3f610e61a20158a26c3f610e6112309601 [.call 345 [.s 15,.c (.clo 346 [])],.call 345 [.s 23,.c (.clo 347 [])],.call 350 [.c (.str ⟨#[123,125,40,41,91,93,44,59,58,61,43,45,42,60,62,33,38,124,46,63]⟩),.s 42]] (Ka.eq_1 ..)
instance(a):CT (LA a) 235 [Xc a] (rT eS eB):=CA f235 0xa2a50c0130a55d973081a211890158bfbff3cc04cc3c013f3f01855d81c53fbc [.mv (.c (.str ⟨#[]⟩)),.bin (.s) .add (.c (.str ⟨#[34]⟩)) (.s 13),.bin (.s) .add (.s 14) (.c (.str ⟨#[34]⟩)),.bin (.s) .eql (.s 16) (.c (.str ⟨#[]⟩)),.mv (.c (.str ⟨#[]⟩))] (LA.eq_1 ..) (⟨⟩:HJ 12 λ(b:ByteArray)=>[(4,.tv (eS b))])
instance(a):CT (EL a) 165 [eS a] rB:=Fe f165 0x8161018900469601 [] (EL.eq_1 ..)
instance(a b):CT (Oy a b) 190 [Dy a,.pt (Dy b).cells] rB:=Fe f190 0x81065da6df [] (Oy.eq_1 ..)
abbrev Q_191(n:Nat):Prop:=∀(t:AC)(a:Int),CT (DZ n t a) 191 [AN t,eI a] (λr=>.Aa5 4 (w! Iy r))
theorem xQ(n:Nat)(_ih_191:Q_191 n)(t:AC)(a:Int):CT (DZ (n+1) t a) 191 [AN t,eI a] (λr=>.Aa5 4 (w! Iy r)):=Fj f191 0x99044f9f41d35d1905ac0305ac033c191a01556c90d35d04ce044edf [] λh=>by
  unfold DZ at h;have:HJ 14 λ(b:List ff)=>[(5,.xo 4 (w! Iy b))]:=⟨⟩;exact nz
theorem xP:∀n:Nat,Q_191 n:=by
  intro n
  induction n with
  |zero=>exact(λt a=>⟨λ_ h=>c?⟩)
  |succ n b=>exact xQ n b
instance(t a):CT (NG t a) 191 [AN t,eI a] (λr=>.Aa5 4 (w! Iy r)):=⟨λr h=>by
  obtain ⟨N,b⟩:=DX h;exact((xP N) t a).snd r (b N (R0 _))⟩
instance(a b):CT (Jo a b) 266 [Iy a,.pt (Iy b).cells] rB:=Fe f266 0x81065da6df [] (Jo.eq_1 ..)
instance(a):CT (Jd a) 267 [lB a] rI:=CA f267 0xa8a90800049bffd60e304530a2aa6181606b6aa9080004a181c10b9601 [] (Jd.eq_1 ..) (BA 0 10 9 0)
instance(a b):CT (GK a b) 192 [Iy a,lA b] rI:=CA f192 0x81588801060106013c01a576d8b45b5f850bd881a5f9a5b45f5b5fb2d8ffd60e106181aaa6df [] (GK.eq_1 ..) (⟨⟩:HJ 40 λ(c:Bool)=>[(6,.tv (eB c))])
instance(a b):CT (Kd a b) 121 [AN a,eI b] rI:=CA f121 0xa80706027db2044530e9e196ea0706028176d8fcc1fc82f455ffd676d8a2a5015f5b5fa20e100445015da2aa5d053df700c9e9d3a6df [] (Kd.eq_1 ..) (BA 1 7 6 0)
instance(a b):CT (MB a b) 193 [eI a,.pt (AN b).cells] rB:=Fe f193 0xe3765d9701c3 [] (MB.eq_1 ..)
instance(a b):CT (Ox a b) 195 [Et a,.pt (Et b).cells] rB:=Fe f195 0x81065da6df [] (Ox.eq_1 ..)
instance(a b):CT (Ks a b) 196 [eI a,eI b] rB:=Fe f196 0xe30aa597019730a59701c3 [] (Ks.eq_1 ..)
instance(a b):CT (Kb a b) 122 [AN a,eI b] rI:=CA f122 0x81ff5819013c010aaa03ec030580aac842d819610a080fb430080f5f61810e100745015fa2aa5d8110053d074b01c90744078cc5df [] (Kb.eq_1 ..) (⟨⟩:HJ 25 λ(c:Bool)=>[(25,.tv (eB c))])
instance(a):CT (Dx a) 66 [AN a] (rT eS eI):=H9 f66 0x81bf002e2d2cf39bd6015d6cf455074bebc9074407436b6a2e2d2cf3dcd0301d1c1bf39bd6015d6cf455f7a8c9e9d3306a1d1c1bf3dc32ff58bfe3e55bd481bf8176a63fbc [.mv (.c (.str ⟨#[]⟩)),.mv (.c (.str ⟨#[]⟩)),.mv (.c (.str ⟨#[]⟩)),.mv (.c (.str ⟨#[]⟩))] (Dx.eq_1 ..) (BA 1 29 28 0) (BA 3 46 45 0)
instance(a):CT (N6 a) 132 [eI a] rB:=Fe f132 0x81a5979601 [] (N6.eq_1 ..)
instance(a b c):CT (NF a b c) 133 [AN a,F5 b,eI c] rI:=Fe f133 0x819d07055b019730a2605e4107e05d609007e05de46191c569ac [] (NF.eq_1 ..)
instance(a b):CT (IU a b) 72 [AN a,F5 b] rI:=H9 f72 0xa844435e049bb2018d816b6a44435e04a15f5e022726255e059b9dcaf05b6190d35de46181915e026a2726255e05dc329de5ef5bd4d4587f0189dbb1 [] (IU.eq_1 ..) (BA 0 39 38 0) (BA 2 68 67 0)
instance(a):CT (H8 a) 100 [lI a] (rO lI):=CA f100 0x821831a908c89b01f1053014a217dd01316aa908c8819594991a30400001 [] (H8.eq_1 ..) (BI 0 10 9 0 (hX 3 1 eI))
instance(a b):CT (Gv a b) 52 [AN a,F5 b] (rT F5 eI):=Fk f52 0x4013b81ad02460e5f0e5d58ad30ee0e8dccc9b1 [] [.cell 4 (some 2),.tmp 5] λr h c d=>by
  unfold Gv at h;exact nz
instance(a):CT (Ep a) 54 [Dy a] rB:=Fe f54 0x81769f80bc [] (Ep.eq_1 ..)
instance(a b):CT (NV a b) 198 [eI a,.pt (AN b).cells] rB:=Fe f198 0xe3765d9701c3 [] (NV.eq_1 ..)
instance(a b):CT (Gw a b) 128 [AN a,lI b] rI:=Fe f128 0x81588e1001587f0189dbdf [] (Gw.eq_1 ..)
instance(a b):CT (Mj a b) 199 [AN a,eI b] (rO lI):=CA f199 0x82182914055bac033c0190d35dff19014fb50119ca6a5bac31ce0140df [] (Mj.eq_1 ..) (⟨⟩:HW 0 λ(c:Int×Fp)=>[(1,.tv (eI c.1)),(5,.xo 1 (w! eI c.2))])
instance(a b c):CT (Kc a b c) 129 [AN a,eI b,eI c] rB:=Fe f129 0x810e7501db93ac02 [] (Kc.eq_1 ..)
instance(a b c d):CT (Hp a b c d) 69 [AN a,eI b,eI c,eI d] rB:=Fe f69 0xe30e5e41078cc5557590078cc5559de530a5970eb530db935e0103 [] (Hp.eq_1 ..)
instance(a b):CT (FO a b) 102 [AN a,F5 b] rI:=Fe f102 0x8161ad0249898d01b1 [] (FO.eq_1 ..)
instance(a b):CT (II a b) 124 [eI a,eI b] rB:=Fe f124 0x81a5019701c3 [] (II.eq_1 ..)
instance(a):CT (NO a) 123 [eI a] rB:=Fe f123 0x81aa9601 [] (NO.eq_1 ..)
instance(a b):CT (ON a b) 126 [B6 a,eI b] rB:=Fe f126 0xe30ecaf90a0eca5f75a6df [] (ON.eq_1 ..)
instance(a b):CT (NP a b) 125 [B6 a,.pt (Au b).cells] rB:=Fe f125 0x81aad47301df [] (NP.eq_1 ..)
instance(a):CT (Dd a) 67 [Au a] rI:=Fe f67 0x81588e105f58bf5d9de55b0ba6bc [.call 58 [.s 14,.c (.clo 123 [])]] (Dd.eq_1 ..)
instance(a b):CT (HT a b) 236 [eI a,.pt (AN b).cells] rB:=Fe f236 0x8176a6c3 [] (HT.eq_1 ..)
instance(a b):CT (HU a b) 237 [B6 a,.pt (AN b).cells] rB:=Fe f237 0x81e5a6df [] (HU.eq_1 ..)
instance(a b c):CT (Cz a b c) 238 [eI a,eI b,eI c] rB:=Fe f238 0x81a50197013002cf [] (Cz.eq_1 ..)
instance(t a):CT (FE t a) 127 [AN t,eI a] (rT lA eI):=ez f127 0x8182180701151407039b014d0354044c0e170354044c01140114eb07016a15140703819514991a01555804c09ab501db0440df [] (FE.eq_1 ..) (BI 0 21 20 0 (hX 7 4 Iy)) (⟨⟩:HS 31) (⟨⟩:HX 33 λ(a:ff)(v:List ByteArray)=>ff.mk a.f0 a.Low a.z5 v)
instance(a b c):CT (Ge a b c) 239 [AN a,B4 b,Gp c] (rT Iy eB):=Fk f239 0x81f7e9e1c558f70346c47601c5f5605dcd5558f70346c476cda603c9f8 [] [.cell 6 (some 4),.tmp 7] λr h d e=>by
  unfold Ge at h;exact nz
instance(a b):CT (Ix a b) 351 [eI a,Ri b] rB:=Fe f351 0x81a5c5a5c5a5015d5ba6bc01 [] (Ix.eq_1 ..)
instance(a b):CT (Jt a b) 303 [eI a,Hh b] rI:=Fe f303 0x81ffd60aaa55034230aa55d06181a55d5ba6bc01 [] (Jt.eq_1 ..)
instance(a b):CT (IF a b) 240 [eI a,lT b] rI:=CA f240 0xa813121100049bb2b35b4b04c9b30543006a1312110004a181c1fc9d059701c3 [] (IF.eq_1 ..) (BA 0 19 18 0)
instance(a b):CT (Db a b) 166 [AN a,B4 b] rI:=CA f166 0x8158a014b2c842d8085e3c3b3a085e069b3c3b3a085e063c3b3a085e063c01f174da148574da9daa9002800aaa05d87402800861f7034989e9b355f705c9e9e1085e6a3c3b3a085e06dcda993fd89d76c8425b0bb4e4d89d0e1090327510cdb2e2587f0189dbb1 [.mkx 1 [.bool false] (.s 55)] (Db.eq_1 ..) (BI 0 60 59 0 (hX 8 1 eB))
instance(a b):CT (Om a b) 304 [eI a,.pt (AN b).cells] rB:=Fe f304 0x8176a6c3 [] (Om.eq_1 ..)
instance(a b):CT (On a b) 305 [B6 a,.pt (AN b).cells] rB:=Fe f305 0x81e5a6df [] (On.eq_1 ..)
instance(a b):CT (KU a b) 241 [AN a,Au b] rB:=Fe f241 0xe3aa10c5aa10a6b1 [] (KU.eq_1 ..)
instance(a b):CT (Ps a b) 307 [Gp a,.pt (Gp b).cells] rB:=Fe f307 0x81a55f5f5b5da6df [] (Ps.eq_1 ..)
instance(a b c):CT (L4 a b c) 242 [AN a,Bm b,eI c] rI:=Fe f242 0x81588e100445015e41ec9d05c5a5c5a59f41eca6a5a60a76015f5b5fad06c9550280f5605d745c06ba9d76745cec5d5b5d073df705c9e9d35e41068069ac [] (L4.eq_1 ..)
instance(a b):CT (KT a b) 167 [AN a,Bm b] rI:=CA f167 0xa82f2e5e049bb201de55816b6a2f2e5e04a15e41ecffd6765e41eca20a76c841ec5b9f41d09f41eca2aa555c06bab2555c0680b1 [] (KT.eq_1 ..) (BA 1 47 46 0)
instance(a b c):CT (DY a b c) 70 [Au a,Au b,A2 c] rI:=H9 f70 0xa84948476d03069b9d05b460b45d5b5f605f5dc15d5da7a7e8fde0d5e09de5976181606b6a4948476d0306dcd06d9f2c2b2a6d03069bc1f0f09d765d976181605b049f6a2c2b2a6d0306dc329de5ef5bd4d4b255b2dbf8 [] (DY.eq_1 ..) (BA 0 44 43 0) (BA 2 73 72 0)
instance(a):CT (Ew a) 71 [lI a] rI:=Fe f71 0x81152a142914991a9601 [] (Ew.eq_1 ..)
instance(a b c):CT (Cj a b c) 34 [Au a,Au b,A2 c] rB:=Fe f34 0xe3e50ec50a765d0e5d5b0e558d01f8 [] (Cj.eq_1 ..)
instance(a b):CT (Im a b) 280 [lI a,eI b] rI:=CA f280 0xa8097e6b059b9d0560053097019dca976181606b6a097e6b05a181c3 [] (Im.eq_1 ..) (BA 0 9 8 0)
instance(a b):CT (L9 a b) 281 [lI a,eI b] rB:=Fe f281 0x8161018930c3 [] (L9.eq_1 ..)
instance(a b):CT (NU a b) 202 [Au a,IY b] rI:=CA f202 0xa81e1d1c5e059b9daa5e4103e0a6aa9003e05d8160006a1e1d1c5e05dcd0b2ef5fb2d4a6b1 [] (NU.eq_1 ..) (BA 0 30 29 0)
instance(a b):CT (FZ a b) 134 [Au a,IY b] rI:=Fe f134 0x810e8db2dbb1 [] (FZ.eq_1 ..)
instance(a b):CT (FM a b) 74 [Au a,IY b] (λr=>.tp [Au r.1,A2 r.2.1,eI r.2.2]):=Fk f74 0x6d023b81adad02460e5f0e5d55086dc82b2a29086d5e089bf2d003480347730401804ada89b4a64ad0895f5da7fde08160086dc86a2b2a29086d5e08dcd0086d5e05191817086d5e089bf23201d9f004328160086d5e056a191817086d5e08dc3208c958adad304604ee0e8dccc908c9b1 [] [.cell 4 (some 2),.cell 5 (some 2),.tmp 6] λr h c d=>by
  unfold FM at h;have:=BI 0 25 24 0 λs0:bi=>[(8,.bx [⟨true,lI s0.az⟩,⟨true,lE s0.be⟩])];have:=BI 2 43 42 0 λs2:bi=>[(8,.bx [⟨true,lI s2.az⟩,⟨true,lE s2.be⟩])];exact nz
instance(a):CT (L3 a) 168 [Bm a] rI:=Fe f168 0x81e4550dba5c06bab2550dba5c06ba587fadad024908c91189550bba5c0180bc [] (L3.eq_1 ..)
instance(a b):CT (K7 a b) 243 [lI a,eI b] (rO lI):=CA f243 0xfaca7e0500049b7e0500047e0500043cacd9ccc430815b016a7e050004a201c001406b02 [] (K7.eq_1 ..) (BI 0 8 7 0 (hO 5 lI))
instance(a):CT (L0 a) 169 [Bm a] (rT lI lI):=Fe f169 0x82820e0b3184ec900d420e0b745cec740d80400140bc [] (L0.eq_1 ..)
instance(a b c):CT (Me a b c) 244 [eI a,.pt (AN b).cells,.pt (Au c).cells] rB:=Fe f244 0x815e41e1f0a602cf [] (Me.eq_1 ..)
instance(a b c):CT (H5 a b c) 245 [eI a,.pt (Au b).cells,.pt (AN c).cells] rB:=Fe f245 0x81aa60b45d605f5d5d55a7fd8cc502cf [] (H5.eq_1 ..)
instance(a b c d):CT (IQ a b c d) 170 [AN a,Au b,lI c,lI d] rB:=Fe f170 0xe3aa1030aa1030695e02 [] (IQ.eq_1 ..)
instance(a):CT (FQ a) 353 [AQ a] rB:=Fe f353 0x81a5d85b76c84276b476903276cd7690da0b74dad709c9b30480bc [] (FQ.eq_1 ..)
abbrev AbV(n:Nat):Prop:=∀(c:bq),CT (BY n c) 308 [AQ c] rB
abbrev AbU(n:Nat):Prop:=∀(k:bq),CT (Bk n k) 355 [AQ k] rB
theorem xe(n:Nat)(_ih_308:AbV n)(_ih_355:AbU n)(c:bq):CT (BY (n+1) c) 308 [AQ c] rB:=Fj f308 0xe3083f5f30ff04cc04cc65616dcc3c010a0ec65b011a09043105651a09043105816dcc3c010a0ec65b616dcc3c010a0ec65b61058332a20bc5bc [.call 354 [.s 42,.c (.clo 355 [])]] λh=>by
  unfold BY at h;have:HJ 10 λ(a:Bool)=>[(4,.tv (eB a))]:=⟨⟩;exact nz
theorem xk(n:Nat)(_ih_308:AbV n)(_ih_355:AbU n)(k:bq):CT (Bk (n+1) k) 355 [AQ k] rB:=Fj f355 0x81aac601bc [] λh=>by
  unfold Bk at h;exact nz
theorem qR:∀n:Nat,AbV n/\AbU n:=by
  intro n
  induction n with
  |zero=>exact⟨(λc=>⟨λ_ h=>c?⟩),(λk=>⟨λ_ h=>c?⟩)⟩
  |succ n a=>exact⟨xe n a.1 a.2,xk n a.1 a.2⟩
instance(c):CT (Hg c) 308 [AQ c] rB:=⟨λr h=>by
  obtain ⟨N,a⟩:=DX h;exact((qR N).1 c).snd r (a N (R0 _))⟩
instance(k):CT (SF k) 355 [AQ k] rB:=⟨λr h=>by
  obtain ⟨N,a⟩:=DX h;exact((qR N).2 k).snd r (a N (R0 _))⟩
abbrev Q_309(n:Nat):Prop:=∀(c:bq),CT (Ch n c) 309 [AQ c] (rT eI eI)
theorem xg(n:Nat)(_ih_309:Q_309 n)(c:bq):CT (Ch (n+1) c) 309 [AQ c] (rT eI eI):=Fj f309 0xa2306d026d026501855d6d01030dcb6d01069b302c9730a289c6094b0ac9c609436d01036a0dcb6d0106dcd0a230bc [] λh=>by
  unfold Ch at h;have:=BI 0 13 12 0 λs0:Int×Int=>[(4,.tv (eI s0.1)),(5,.tv (eI s0.2))];have:HJ 31 λ(a:Int)=>[(5,.tv (eI a))]:=⟨⟩;exact nz
theorem xf:∀n:Nat,Q_309 n:=by
  intro n
  induction n with
  |zero=>exact(λc=>⟨λ_ h=>c?⟩)
  |succ n a=>exact xg n a
instance(c):CT (Jg c) 309 [AQ c] (rT eI eI):=⟨λr h=>by
  obtain ⟨N,a⟩:=DX h;exact((xf N) c).snd r (a N (R0 _))⟩
instance(a):CT (F4 a) 246 [AQ a] rI:=Fe f246 0x819d0597618189c6e4c601bc [] (F4.eq_1 ..)
instance(a b):CT (IX a b) 356 [Gp a,.pt [eI b]] rB:=Fe f356 0xbe03740280df [] (IX.eq_1 ..)
instance(a b c):CT (Ek a b c) 310 [AN a,B4 b,eI c] rI:=CA f310 0xa87e04033c083d014b05314b0b4983fffbc410b4006ad8037e0403083d014b0bc901b2b3db69ac [] (Ek.eq_1 ..) (⟨⟩:HW 0 λ(d:Int)=>[(8,.tv (.pt [eI d]))])
abbrev Q_247(n:Nat):Prop:=∀(t:AC)(p:cE)(c:bq),CT (CI n t p c) 247 [AN t,B4 p,AQ c] rI
theorem xY(n:Nat)(_ih_247:Q_247 n)(t:AC)(p:cE)(c:bq):CT (CI (n+1) t p c) 247 [AN t,B4 p,AQ c] rI:=Fj f247 0xa83534330403059bb2c6b355094b0ac9c60943006a353433040305dcd06d9f6d9f3cd7b3e45502ba32e2b25502ba32e2b2d8b355c1d8d8d709c9b3044285a693bfbc [.Abv (.s 1)] λh=>by
  unfold CI at h;have:=BA 0 53 52 0;exact nz
theorem xX:∀n:Nat,Q_247 n:=by
  intro n
  induction n with
  |zero=>exact(λt p c=>⟨λ_ h=>c?⟩)
  |succ n a=>exact xY n a
instance(t p c):CT (Na t p c) 247 [AN t,B4 p,AQ c] rI:=⟨λr h=>by
  obtain ⟨N,a⟩:=DX h;exact((xX N) t p c).snd r (a N (R0 _))⟩
instance(a b c):CT (Dc a b c) 171 [AN a,B4 b,AQ c] rI:=Fe f171 0x810ec6b355b2c6b2b3dbf8 [] (Dc.eq_1 ..)
instance(a b):CT (JF a b) 103 [AN a,Bm b] rI:=Fe f103 0x810ec61042b301bae430555c06ba82f5deb2deb2de55b2b301bae45d587f0189dbb1 [] (JF.eq_1 ..)
instance(a b):CT (JJ a b) 105 [Dy a,.pt [eI b]] rB:=Fe f105 0xbe03c5df [] (JJ.eq_1 ..)
instance(a b c):CT (FN a b c) 55 [AN a,F5 b,Bm c] rI:=H9 f55 0xa87271700503059be460b4745cd0605f745cd05d55a7fd43006a727170050305dc0184d0055e6463620503059b588e105d0b3d014b0bc960055e6a646362050305a18eb5745cec745cd09d763184d00b900b800a76745cd00b740b80a57410800a08030f800861a59f41d05b76c841ec765e41ec76c841d00b5e41d0b2de55b28d01f8 [] (FN.eq_1 ..) (BA 0 100 99 0) (BA 2 114 113 0)
instance(a):CT (CS a) 27 [G0 a] rI:=CA f27 0xa81e1d1cf39bb2de5502ba32194b0cc9de1943006a1e1d1cf3dc044258bfcd587fad0249895502ba32c10bc880bc [.call 53 [.s 25,.c (.clo 54 [])]] (CS.eq_1 ..) (BA 0 30 29 0)
instance(a b c):CT (Lb a b c) 68 [AN a,eI b,lI c] rI:=CA f68 0xa823222102049b9d05b491975fedf78103c9e9e16b6a2322210204a181c1fc0b30f5015558830241d35dc1d43093ac02 [] (Lb.eq_1 ..) (BA 0 35 34 0)
instance(a b):CT (F8 a b) 33 [AN a,CF b] (rT eI eI):=H9 f33 0xa2003e3d3c5e059bd601c460b4cd605fcd5d55d60185ef5da781fd436b6a3e3d3c5e05dc0141325e022827265e059bd6306c0e91f955a2915e026a2827265e05dc5c32d6850bcd0bb4d69ae2d67f01895530b1 [] (F8.eq_1 ..) (BA 0 40 39 0) (BA 2 62 61 0)
instance(a b c):CT (Mg a b c) 56 [AN a,Bm b,CF c] rI:=Fe f56 0x816101897355b2de55587f0189dbf8 [] (Mg.eq_1 ..)
instance(a b):CT (LP a b) 315 [eI a,.pt (AN b).cells] rB:=Fe f315 0x8176a6c3 [] (LP.eq_1 ..)
instance(a b):CT (LQ a b) 316 [B6 a,.pt (AN b).cells] rB:=Fe f316 0x81e5a6df [] (LQ.eq_1 ..)
instance(a b):CT (GO a b) 251 [AN a,Au b] rB:=Fe f251 0xe3aa10c5aa10a6b1 [] (GO.eq_1 ..)
instance(a b c):CT (FD a b c) 175 [AN a,Au b,Au c] rI:=CA f175 0x819daa8d01aa8d6d9f1817166d03069bb255ad08c95502436d9f6a1817166d0306a102c78d587f0189dbf8 [] (FD.eq_1 ..) (BA 0 24 23 0)
instance(a b):CT (Jc a b) 317 [AN a,eI b] (rT lI eI):=CA f317 0x81fa0701131207025b9b131207025b131207025b3cacd9cc8e3055eb07016a131207025ba1a6c0fbc09ab501553040df [] (Jc.eq_1 ..) (BI 0 19 18 0 (hO 7 lI))
instance(a):CT (G5 a) 252 [AN a] (rO (eL 1 (eL 1 eB))):=H9 f252 0xfa310d0c31049bacd918020d0c0531051c1b1a0d0c0531089b01f1011481600d0c0531056a1c1b1a0d0c053108a1ebf50155993fd4eb316a0d0c3104a1a6c00140bc [.mkx 1 [.bool false] (.s 18)] (G5.eq_1 ..) (BI 0 13 12 0 (hO 3 (eL 1 (eL 1 eB)))) (BI 2 28 27 0 (hX 5 1 eB))
instance(a b c d):CT (G6 a b c d) 176 [AN a,Au b,Au c,A2 d] rI:=H9 f176 0xa8474645fe069b9d05b460b45d5b5f605f5dc15d5da7a7e8fde0d5e09de5976181606b6a474645fe06dcd0fe0325242309fe079b588860f06091a69d765d97618191fe036a25242309fe07dc32820e559de5ef5bd40ba669b1 [] (G6.eq_1 ..) (BA 0 37 36 0) (BA 2 71 70 0)
theorem AAR(l:Fp)(r:Bool)(h:IS l=some r):AS prog 248 [lI l] (.sh (eB r)):=by
  unfold IS at h;rw[<-qH]at h;split at h
  · rename_i a
    cases h;exact en l a
  .cases h
instance ABI(l:Fp):Ct Go.Proofs.Tryz.prog (IS l) 248 [lI l] (rS eB):=⟨AAR l⟩
instance(a b c d e):CT (GG a b c d e) 173 [AN a,Au b,Au c,A2 d,eB e] rI:=Fe f173 0x819d0a0e5f755d30b28d8db2558d0169690401 [] (GG.eq_1 ..)
instance(a b c):CT (F1 a b c) 249 [AN a,B4 b,CF c] rI:=Fe f249 0x816101897355b2b3dbf8 [] (F1.eq_1 ..)
instance(a b):CT (Es a b) 313 [Ri a,lI b] rI:=Fe f313 0xbe5f60a6585f85a6df [] (Es.eq_1 ..)
instance(a b):CT (HF a b) 360 [eI a,eI b] (rT eI LB):=Fe f360 0xa25b3f5b3f013f61817701283f013f30c3 [.cvt .u64 (.s 9),.cvt .u64 (.s 11),.bin (.w) .shr (.s 16) (.c (.int .u64 63)),.bin (.w) .shr (.s 18) (.c (.int .u64 63)),.cvt .i64 (.s 21)] (HF.eq_1 ..)
instance(a b):CT (FR a b) 359 [Ri a,.pt [lI b]] (λr=>.tp [eI r.1,LB r.2.1,eB r.2.2]):=Fe f359 0x81a230a2895f605d03ffd6a20a76035d5b5d81a230a2895fbea630df [] (FR.eq_1 ..)
instance(a b):CT (Gh a b) 314 [Hh a,lI b] rB:=Fe f314 0xe3a597a6a5975d810eb50e300e309d08300861a21177010f55034261a21177010f55d0611001b1 [] (Gh.eq_1 ..)
instance(a b c):CT (Iu a b c) 250 [B4 a,CF b,A2 c] (rT lI eI):=H9 f250 0x81821808dd4b4a08049bfbc0882014b3d704c9b3054308016a4c4b4a0804dc0442085e19181709086d03089bfbc08501201455da191817cb09086d030a191817cb09086d030a3c01f101f10590da301401148a0817dd01145b6174da81605f60605d5db4f705c9e9e1085e6a19181709086d0308dcda99993fd83fd83040f8 [.mkx 1 [.int .i64 0] (.s 17),.mkx 1 [.bool false] (.s 20)] (Iu.eq_1 ..) (BI 0 25 24 0 λs0:Fp×MV=>[(8,.xo 1 (w! eI s0.1)),(9,.xo 1 (w! eB s0.2))]) (BA 2 76 75 0)
instance(a b c d):CT (Er a b c d) 174 [AN a,B4 b,CF c,A2 d] (rT lI eI):=Fe f174 0x8182770e5573b3fbc09a8d32e255fbc09a73b355304069b1 [] (Er.eq_1 ..)
instance(a b c d):CT (J9 a b c d) 106 [AN a,Bm b,CF c,CB d] rI:=Fe f106 0x81e4f9587ff5e273b301bac10e030fba32e2555c01ba0169b1 [] (J9.eq_1 ..)
instance(a b c d):CT (GH a b c d) 107 [AN a,Au b,Au c,A2 d] (rT Au eI):=Fk f107 0x81ad550c08022726250c0806069bf23201d9f0043281600c08026a2726250c080606dc32025008c93f0e5f58adf3ee0e8d8d58adf3ee0e558d0108c969b1 [.x9 [.z ⟨true,.list 1 []⟩,.w 34]] [.cell 8 (some 2),.tmp 9] λr h e f=>by
  unfold GH at h;have:=BI 0 39 38 0 λs0:bi=>[(12,.bx [⟨true,lI s0.az⟩,⟨true,lE s0.be⟩])];exact nz
instance(a):CT (DH a) 177 [Iz a] rI:=Fe f177 0x810e5504ba32b25506ba02ba3201bc [] (DH.eq_1 ..)
instance(a b):CT (Gf a b) 253 [lI a,lI b] (rO (eL 2 Rh)):=H9 f253 0xfacaa9056b059ba9056b05a9fe6b077da9fe6b07a9fe6b073c0202480247054630028a0aaa0130aa0197ededa9056b05eaa9fe6b07be615b016aa9056b05a1ccc002406b02 [] (Gf.eq_1 ..) (BI 0 10 9 0 (hO 5 (eL 2 Rh))) (BI 2 7 0 0 (hO 5 (eL 2 Rh)))
instance(a):CT (D5 a) 178 [Iz a] (rT (eL 2 Rh) (eL 2 Rh)):=Fe f178 0x82820e90044290ec0e74044274ec02400240bc [] (D5.eq_1 ..)
instance(a):CT (Dk a) 254 [Iz a] (rO lI):=CA f254 0xfa31a90831059ba9083105a90831053cacd9ccc401740442a291316aa9083105dc5c0680c00140bc [] (Dk.eq_1 ..) (BI 0 10 9 0 (hO 3 lI))
instance(a):CT (DT a) 179 [Iz a] (rO lI):=CA f179 0xfa04010dcb0431069b0dcb0431060dcb0431063cacd9cc8a0a0eb4300e5f30aa0190eca781fd8c04016a0dcb043106dc01410280c0820e08440140bc [] (DT.eq_1 ..) (BI 0 13 12 0 (hO 4 lI))
instance(a b c):CT (HE a b c) 180 [eI a,lI b,lI c] (rO lI):=H9 f180 0xfa0a01201f1e0a049b201f1e0a04201f1e0a043cacd9cc886181910a016a201f1e0a04a19801c0070111e60702059b11e607020511e60702053c01f10114c430a29107016a11e6070205a181993f304002cf [.mkx 1 [.bool false] (.s 13)] (HE.eq_1 ..) (BI 0 17 16 0 (hX 7 1 eB)) (BI 2 32 31 0 (hO 10 lI))
instance(a b c d):CT (HL a b c d) 108 [Au a,Au b,IY c,A2 d] (rT IY eI):=Fk f108 0x8013b81ad02460e5f5fef0e5d5dd4ff58ad014681760e084481ad0146be7601fc82f5084458ad30ee0e0844084b0dc906468d8dccc969b1 [] [.cell 8 (some 2),.tmp 9] λr h e f=>by
  unfold HL at h;exact nz
instance(a b c d e f):CT (F3 a b c d e f) 255 [AN a,B4 b,AQ c,CF d,CB e,eB f] rI:=Fe f255 0x81e4f9587ff5e273b355b201e2e2e255587f01897355b2c6b3db936969ca [] (F3.eq_1 ..)
end Go.Sf.Sc
