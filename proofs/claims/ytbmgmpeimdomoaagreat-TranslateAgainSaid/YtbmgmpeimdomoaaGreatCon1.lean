/- Contracts of the functions. -/
import Derived.Test.YtbmgmpeimdomoaaGreatCon0
set_option linter.all false
set_option maxRecDepth 100000
set_option maxHeartbeats 4000000
open Option renaming some->Y,none->W
open List renaming map->w_
namespace Go.Sf.Sc
open Go Go.Sf Go.Proofs.Tryz
instance(a):CT (MW a) 344 [M8 a] rB:=Fe f344 0xdab6b230b6b29d01 [] (MW.eq_1 ..)
instance ABl(b:ByteArray)(c:Int->I1)(e:FuncId)(a:Fq)[g:∀(d:Int),CT (c d) e (M8 d::a) rB]:CT (IN b c) 345 [eS b,.clo e a] rI:=CJ f345 0x815b7c05dd655b7c8a0f1230b20cb2dd81ca [] (IN.eq_1 ..) (⟨⟩:HW 0 λ(f:Int)=>[(5,.tv (eI f))])
instance(a):CT (LS a) 347 [M8 a] rB:=Fe f347 0x81b6b29d01 [] (LS.eq_1 ..)
instance(a):CT (O8 a) 346 [M8 a] rB:=Fe f346 0x81b6300a0e300e9d01 [] (O8.eq_1 ..)
instance(a):CT (M3 a) 373 [M8 a] rB:=Fe f373 0x81b630b6b29d01 [] (M3.eq_1 ..)
instance(a):CT (Ir a) 348 [eS a] (rT eI eI):=Fe f348 0xa196fb8501fb8a051296b20c5b603f0d019d01 [.call 345 [.s 6,.c (.clo 373 [])]] (Ir.eq_1 ..)
instance(a):CT (O7 a) 349 [eS a] rB:=Fe f349 0xda0e0d013f5b0c9d01 [.lst 1 [.c (.str ⟨#[45,62]⟩),.c (.str ⟨#[60,61]⟩),.c (.str ⟨#[62,61]⟩),.c (.str ⟨#[61,61]⟩),.c (.str ⟨#[33,61]⟩)]] (O7.eq_1 ..)
instance(a):CT (Kv a) 302 [eS a] (λr=>.tp [eI r.1,eI r.2.1,eI r.2.2]):=Fe f302 0x81a1fffba1053f6081a10e60a130a17d600560a10158a16c3f600e60a10158a16c3f600e6012309d01 [.call 345 [.s 15,.c (.clo 346 [])],.call 345 [.s 23,.c (.clo 347 [])],.call 350 [.c (.str ⟨#[123,125,40,41,91,93,44,59,58,61,43,45,42,60,62,33,38,124,46,63]⟩),.s 42]] (Kv.eq_1 ..)
instance(a):CT (LT a) 235 [Yd a] (rT eS eB):=CJ f235 0xa1b60c0130b65db23081a1117d0158bfbff0d004d03c013f3f01855d81c53fbc [.mv (.c (.str ⟨#[]⟩)),.bin (.s) .add (.c (.str ⟨#[34]⟩)) (.s 13),.bin (.s) .add (.s 14) (.c (.str ⟨#[34]⟩)),.bin (.s) .eql (.s 16) (.c (.str ⟨#[]⟩)),.mv (.c (.str ⟨#[]⟩))] (LT.eq_1 ..) (⟨⟩:HJ 12 λ(b:ByteArray)=>[(4,.tv (eS b))])
instance(a):CT (EZ a) 165 [eS a] rB:=Fe f165 0x8160017d00469d01 [] (EZ.eq_1 ..)
instance(a b):CT (PB a b) 190 [D9 a,.pt (D9 b).cells] rB:=Fe f190 0x81065da7e1 [] (PB.eq_1 ..)
abbrev Q_191(n:Nat):Prop:=∀(t:AC)(a:Int),CT (Dg n t a) 191 [AN t,eI a] (λr=>.Aa6 4 (w_ JL r))
theorem yq(n:Nat)(_ih_191:Q_191 n)(t:AC)(a:Int):CT (Dg (n+1) t a) 191 [AN t,eI a] (λr=>.Aa6 4 (w_ JL r)):=Fj f191 0x99044f9f41d45d1905ad0305ad033c191a01556c91d45d04ce044ee1 [] λh=>by
  unfold Dg at h;have:HJ 14 λ(b:List ff)=>[(5,.xo 4 (w_ JL b))]:=⟨⟩;exact nz
theorem yp:∀n:Nat,Q_191 n:=by
  intro n
  induction n with
  |zero=>exact(λt a=>⟨λ_ h=>d_⟩)
  |succ n b=>exact yq n b
instance(t a):CT (Nf t a) 191 [AN t,eI a] (λr=>.Aa6 4 (w_ JL r)):=⟨λr h=>by
  obtain ⟨N,b⟩:=De h;exact((yp N) t a).snd r (b N (R0 _))⟩
instance(a b):CT (J8 a b) 266 [JL a,.pt (JL b).cells] rB:=Fe f266 0x81065da7e1 [] (J8.eq_1 ..)
instance(a):CT (Jx a) 267 [lB a] rI:=CJ f267 0xaaac0800049bfffb0e304530a1a96081616b6aac0800049e81c60b9d01 [] (Jx.eq_1 ..) (BC 0 10 9 0)
instance(a b):CT (GX a b) 192 [JL a,lA b] rI:=CJ f192 0x81588801060106013c01b677d7ba5b5f850bd781b6feb6ba5f5b5fb4d7fffb0e106081a9a7e1 [] (GX.eq_1 ..) (⟨⟩:HJ 40 λ(c:Bool)=>[(6,.tv (eB c))])
instance(a b):CT (Ky a b) 121 [AN a,eI b] rI:=CJ f121 0xaa0706027eb4044530ebe29dec0706028177d70b01c60b01820e0155fffb77d7a10a965f5b5fa10e100445015da1a95d053df700c9ebd4a7e1 [] (Ky.eq_1 ..) (BC 1 7 6 0)
instance(a b):CT (MY a b) 193 [eI a,.pt (AN b).cells] rB:=Fe f193 0xda775d3096ca [] (MY.eq_1 ..)
instance(a b):CT (PA a b) 195 [E9 a,.pt (E9 b).cells] rB:=Fe f195 0x81065da7e1 [] (PA.eq_1 ..)
instance(a b):CT (LC a b) 196 [eI a,eI b] rB:=Fe f196 0xda0ab63096b230b63096ca [] (LC.eq_1 ..)
instance(a b):CT (Kw a b) 122 [AN a,eI b] rI:=CJ f122 0x81ff5819013cf4a903ee030589a9c142d719600a080fba30080f5f60810e100745015fa1a95d8110053d074b01c907440790c5e1 [] (Kw.eq_1 ..) (⟨⟩:HJ 25 λ(c:Bool)=>[(25,.tv (eB c))])
instance(a):CT (D8 a) 66 [AN a] (rT eS eI):=IU f66 0x81bf002e2d2cf09b58cb5d7f0155074bcbc9074407436b6a2e2d2cf0d5cd301d1c1bf09b58cb5d7f0155f7aac9ebd4306a1d1c1bf0d532ff58bfdae95bd681bf8177a73fbc [.mv (.c (.str ⟨#[]⟩)),.mv (.c (.str ⟨#[]⟩)),.mv (.c (.str ⟨#[]⟩)),.mv (.c (.str ⟨#[]⟩))] (D8.eq_1 ..) (BC 1 29 28 0) (BC 3 46 45 0)
instance(a):CT (OQ a) 132 [eI a] rB:=Fe f132 0x81b6b29d01 [] (OQ.eq_1 ..)
instance(a b c):CT (Nc a b c) 133 [AN a,ER b,eI c] rI:=Fe f133 0x81a607055b01b230a1615e4107e65d619107e65de56092c569ad [] (Nc.eq_1 ..)
instance(a b):CT (Ha a b) 72 [AN a,ER b] rI:=IU f72 0xaa44435e049bb4018d816b6a44435e049e5f5e022726255e059ba696ed5b6091d45de56081925e026a2726255e05d532a6e9ef5bd6d6846c017dd8b3 [] (Ha.eq_1 ..) (BC 0 39 38 0) (BC 2 68 67 0)
instance(a):CT (IT a) 100 [lI a] (rO lI):=CJ f100 0x821831ac08c19b01f1053014a117df01316aac08c1819594991a30400001 [] (IT.eq_1 ..) (BG 0 10 9 0 (hX 3 1 eI))
instance(a b):CT (HI a b) 52 [AN a,ER b] (rT ER eI):=Fk f52 0x4013b81a202460e5f0e5d58a230467f8dd0c9b3 [] [.cell 4 (Y 2),.tmp 5] λr h c d=>by
  unfold HI at h;exact nz
instance(a):CT (E6 a) 54 [D9 a] rB:=Fe f54 0x81779f89bc [] (E6.eq_1 ..)
instance(a b):CT (Nt a b) 198 [eI a,.pt (AN b).cells] rB:=Fe f198 0xda775d3096ca [] (Nt.eq_1 ..)
instance(a b):CT (HK a b) 128 [AN a,lI b] rI:=Fe f128 0x81588e1001846c017dd8e1 [] (HK.eq_1 ..)
instance(a b):CT (M4 a b) 199 [AN a,eI b] (rO lI):=CJ f199 0x82182914055bad033c0191d45dff19014fb50119966a5bad31ce0140e1 [] (M4.eq_1 ..) (⟨⟩:HW 0 λ(c:Int×Fp)=>[(1,.tv (eI c.1)),(5,.xo 1 (w_ eI c.2))])
instance(a b c):CT (Kx a b c) 129 [AN a,eI b,eI c] rB:=Fe f129 0x810e7501d893ad02 [] (Kx.eq_1 ..)
instance(a b c d):CT (IC a b c d) 69 [AN a,eI b,eI c,eI d] rB:=Fe f69 0xda0e5e410790c55575910790c555a6e930b6b20eb530d8935e0103 [] (IC.eq_1 ..)
instance(a b):CT (Fd a b) 102 [AN a,ER b] rI:=Fe f102 0x8160a202497d8d01b3 [] (Fd.eq_1 ..)
instance(a b):CT (Ic a b) 124 [eI a,eI b] rB:=Fe f124 0xda963096ca [] (Ic.eq_1 ..)
instance(a):CT (Nk a) 123 [eI a] rB:=Fe f123 0x81a99d01 [] (Nk.eq_1 ..)
instance(a b):CT (Oe a b) 126 [CC a,eI b] rB:=Fe f126 0xda0e96fe0a0e965f75a7e1 [] (Oe.eq_1 ..)
instance(a b):CT (Nl a b) 125 [CC a,.pt (Au b).cells] rB:=Fe f125 0x81a9d67301e1 [] (Nl.eq_1 ..)
instance(a):CT (Dk a) 67 [Au a] rI:=Fe f67 0x81588e105f58bf5da6e95b0ba7bc [.call 58 [.s 14,.c (.clo 123 [])]] (Dk.eq_1 ..)
instance(a b):CT (Hr a b) 236 [eI a,.pt (AN b).cells] rB:=Fe f236 0x8177a7ca [] (Hr.eq_1 ..)
instance(a b):CT (Hs a b) 237 [CC a,.pt (AN b).cells] rB:=Fe f237 0x81e9a7e1 [] (Hs.eq_1 ..)
instance(a b c):CT (C5 a b c) 238 [eI a,eI b,eI c] rB:=Fe f238 0xda9630963002dd [] (C5.eq_1 ..)
instance(t a):CT (FU t a) 127 [AN t,eI a] (rT lA eI):=gj f127 0x8182180701151407039b014d0354044c0e170354044c01140114cb07016a15140703819514991a01555804e47fb501d80440e1 [] (FU.eq_1 ..) (BG 0 21 20 0 (hX 7 4 JL)) (⟨⟩:HS 31) (⟨⟩:HX 33 λ(a:ff)(v:List ByteArray)=>ff.mk a.gi a.Low a.Aab v)
instance(a b c):CT (Gu a b c) 239 [AN a,B9 b,G8 c] (rT JL eB):=Fk f239 0x81f7ebe2c558f70346c47701c5f6615dcf5558f70346c477cfa703c9f2 [] [.cell 6 (Y 4),.tmp 7] λr h d e=>by
  unfold Gu at h;exact nz
instance(a b):CT (JK a b) 351 [eI a,Ry b] rB:=Fe f351 0x81b6c5b6c50a965d5ba7bc01 [] (JK.eq_1 ..)
instance(a b):CT (KD a b) 303 [eI a,H4 b] rI:=Fe f303 0x81ff58daa955034230a955cd6081b65d5ba7bc01 [] (KD.eq_1 ..)
instance(a b):CT (Ia a b) 240 [eI a,lT b] rI:=CJ f240 0xaa13121100049bb4b15b4b04c9b10543006a13121100049e81c60b01a6053096ca [] (Ia.eq_1 ..) (BC 0 19 18 0)
instance(a b):CT (Di a b) 166 [AN a,B9 b] rI:=CJ f166 0x8158a014b4c142d7085e3c3b3a085e069b3c3b3a085e063c3b3a085e063c01f176d9148576d9a6a991fa0aa905d776fa0860f703497debb155f705c9ebe2085e6a3c3b3a085e06d5d9993fd7a677c1425b0bbae5d7a60e1091327510cfb4e3846c017dd8b3 [.mkx 1 [.bool false] (.s 55)] (Di.eq_1 ..) (BG 0 60 59 0 (hX 8 1 eB))
instance(a b):CT (O2 a b) 304 [eI a,.pt (AN b).cells] rB:=Fe f304 0x8177a7ca [] (O2.eq_1 ..)
instance(a b):CT (O3 a b) 305 [CC a,.pt (AN b).cells] rB:=Fe f305 0x81e9a7e1 [] (O3.eq_1 ..)
instance(a b):CT (Kq a b) 241 [AN a,Au b] rB:=Fe f241 0xdaa910c5a910a7b3 [] (Kq.eq_1 ..)
instance(a b):CT (P4 a b) 307 [G8 a,.pt (G8 b).cells] rB:=Fe f307 0x81b65f5f5b5da7e1 [] (P4.eq_1 ..)
instance(a b c):CT (MP a b c) 242 [AN a,Bp b,eI c] rI:=Fe f242 0x81588e100445015e41eea605c5b6c5b69f41eea7b6a70a77015f5b5fa206c955faf6615d765c06a8a677765cee5d5b5d073df705c9ebd45e41068969ad [] (MP.eq_1 ..)
instance(a b):CT (Ko a b) 167 [AN a,Bp b] rI:=CJ f167 0xaa2f2e5e049bb401e055816b6a2f2e5e049e5e41eefffb775e41eea10a77c141ee5b9f41cd9f41eea1a9555c06a8b4555c0689b3 [] (Ko.eq_1 ..) (BC 1 47 46 0)
instance(a b c):CT (Df a b c) 70 [Au a,Au b,A4 c] rI:=IU f70 0xaa494847f5069ba605ba61ba5d5b5f615f5dc65d5d9797e8f8e6dce6a6e9b26081616b6a494847f506d5cd6d9f2c2b2af5069bc6ededa6775db26081615b049f6a2c2b2af506d532a6e9ef5bd6d6b455b4d8f2 [] (Df.eq_1 ..) (BC 0 44 43 0) (BC 2 73 72 0)
instance(a):CT (FB a) 71 [lI a] rI:=Fe f71 0x81152a142914991a9d01 [] (FB.eq_1 ..)
instance(a b c):CT (Cn a b c) 34 [Au a,Au b,A4 c] rB:=Fe f34 0xdae90ec50a775d0e5d5b0e558d01f2 [] (Cn.eq_1 ..)
instance(a b):CT (JA a b) 280 [lI a,eI b] rI:=CJ f280 0xaa09806b059ba6056105303096a696b26081616b6a09806b059e81ca [] (JA.eq_1 ..) (BC 0 9 8 0)
instance(a b):CT (MU a b) 281 [lI a,eI b] rB:=Fe f281 0x8160017d30ca [] (MU.eq_1 ..)
instance(a b):CT (Ns a b) 202 [Au a,G7 b] rI:=CJ f202 0xaa1e1d1c5e059ba6a95e4103e6a7a99103e65d8161006a1e1d1c5e05d5cdb4ef5fb4d6a7b3 [] (Ns.eq_1 ..) (BC 0 30 29 0)
instance(a b):CT (Fu a b) 134 [Au a,G7 b] rI:=Fe f134 0x810e8db4d8b3 [] (Fu.eq_1 ..)
instance(a b):CT (EY a b) 74 [Au a,G7 b] (λr=>.tp [Au r.1,A4 r.2.1,eI r.2.2]):=Fk f74 0x6d023b81a2a202460e5f0e5d55086dc12b2a29086d5e089beacd03480347730401894ad97dbaa74acd7d5f5d97f8e68161086dc16a2b2a29086d5e08d5cd086d5e05191817086d5e089bea3201d1ed04328161086d5e056a191817086d5e08d53208c958a2a2304604467f8dd0c908c9b3 [] [.cell 4 (Y 2),.cell 5 (Y 2),.tmp 6] λr h c d=>by
  unfold EY at h;have:=BG 0 25 24 0 λs0:bk=>[(8,.bx [⟨true,lI s0.az⟩,⟨true,lE s0.bi⟩])];have:=BG 2 43 42 0 λs2:bk=>[(8,.bx [⟨true,lI s2.az⟩,⟨true,lE s2.bi⟩])];exact nz
instance(a):CT (MO a) 168 [Bp a] rI:=Fe f168 0x81e5550da85c06a8b4550da85c06a8846ca2a2024908c9117d550ba85c0189bc [] (MO.eq_1 ..)
instance(a b):CT (LQ a b) 243 [lI a,eI b] (rO lI):=CJ f243 0xfd96800500049b80050004800500043cadd1d0c430815b016a80050004a101e4406b02 [] (LQ.eq_1 ..) (BG 0 8 7 0 (hO 5 lI))
instance(a):CT (MN a) 169 [Bp a] (rT lI lI):=Fe f169 0x82820e0b318cee910d420e0b765cee760d89400140bc [] (MN.eq_1 ..)
instance(a b c):CT (Mz a b c) 244 [eI a,.pt (AN b).cells,.pt (Au c).cells] rB:=Fe f244 0x815e41e2eda702dd [] (Mz.eq_1 ..)
instance(a b c):CT (IQ a b c) 245 [eI a,.pt (Au b).cells,.pt (AN c).cells] rB:=Fe f245 0x81a961ba5d615f5d5d5597f890c502dd [] (IQ.eq_1 ..)
instance(a b c d):CT (Io a b c d) 170 [AN a,Au b,lI c,lI d] rB:=Fe f170 0xdaa91030a91030695e02 [] (Io.eq_1 ..)
instance(a):CT (Fg a) 353 [AQ a] rB:=Fe f353 0x81b6d75b77c14277ba77913277cf7791d90b76d9c309c9b10489bc [] (Fg.eq_1 ..)
abbrev AbS(n:Nat):Prop:=∀(c:ca),CT (Bg n c) 308 [AQ c] rB
abbrev AbQ(n:Nat):Prop:=∀(k:ca),CT (Bq n k) 355 [AQ k] rB
theorem zB(n:Nat)(_ih_308:AbS n)(_ih_355:AbQ n)(c:ca):CT (Bg (n+1) c) 308 [AQ c] rB:=Fj f308 0xda083f5f30ff04d004d065606dd03cf40ec85b011a09043105651a09043105816dd03cf40ec85b606dd03cf40ec85b60058332a10bc5bc [.call 354 [.s 42,.c (.clo 355 [])]] λh=>by
  unfold Bg at h;have:HJ 10 λ(a:Bool)=>[(4,.tv (eB a))]:=⟨⟩;exact nz
theorem zJ(n:Nat)(_ih_308:AbS n)(_ih_355:AbQ n)(k:ca):CT (Bq (n+1) k) 355 [AQ k] rB:=Fj f355 0x81a9c801bc [] λh=>by
  unfold Bq at h;exact nz
theorem sC:∀n:Nat,AbS n/\AbQ n:=by
  intro n
  induction n with
  |zero=>exact⟨(λc=>⟨λ_ h=>d_⟩),(λk=>⟨λ_ h=>d_⟩)⟩
  |succ n a=>exact⟨zB n a.1 a.2,zJ n a.1 a.2⟩
instance(c):CT (H0 c) 308 [AQ c] rB:=⟨λr h=>by
  obtain ⟨N,a⟩:=De h;exact((sC N).1 c).snd r (a N (R0 _))⟩
instance(k):CT (SW k) 355 [AQ k] rB:=⟨λr h=>by
  obtain ⟨N,a⟩:=De h;exact((sC N).2 k).snd r (a N (R0 _))⟩
abbrev Q_309(n:Nat):Prop:=∀(c:ca),CT (Cl n c) 309 [AQ c] (rT eI eI)
theorem zD(n:Nat)(_ih_309:Q_309 n)(c:ca):CT (Cl (n+1) c) 309 [AQ c] (rT eI eI):=Fj f309 0xa1306d026d026501855d6d01030dcc6d01069b302cb230a17dc8094b0ac9c809436d01036a0dcc6d0106d5cda130bc [] λh=>by
  unfold Cl at h;have:=BG 0 13 12 0 λs0:Int×Int=>[(4,.tv (eI s0.1)),(5,.tv (eI s0.2))];have:HJ 31 λ(a:Int)=>[(5,.tv (eI a))]:=⟨⟩;exact nz
theorem zC:∀n:Nat,Q_309 n:=by
  intro n
  induction n with
  |zero=>exact(λc=>⟨λ_ h=>d_⟩)
  |succ n a=>exact zD n a
instance(c):CT (J0 c) 309 [AQ c] (rT eI eI):=⟨λr h=>by
  obtain ⟨N,a⟩:=De h;exact((zC N) c).snd r (a N (R0 _))⟩
instance(a):CT (GJ a) 246 [AQ a] rI:=Fe f246 0x81a605b260817dc8e5c801bc [] (GJ.eq_1 ..)
instance(a b):CT (It a b) 356 [G8 a,.pt [eI b]] rB:=Fe f356 0xdb0376fae1 [] (It.eq_1 ..)
instance(a b c):CT (E1 a b c) 310 [AN a,B9 b,eI c] rI:=CJ f310 0xaa8004033c083d014b05314b0b4983ff84c410ba006ad703800403083d014b0bc901b4b1d869ad [] (E1.eq_1 ..) (⟨⟩:HW 0 λ(d:Int)=>[(8,.tv (.pt [eI d]))])
abbrev Q_247(n:Nat):Prop:=∀(t:AC)(p:c7)(c:ca),CT (CN n t p c) 247 [AN t,B9 p,AQ c] rI
theorem y5(n:Nat)(_ih_247:Q_247 n)(t:AC)(p:c7)(c:ca):CT (CN (n+1) t p c) 247 [AN t,B9 p,AQ c] rI:=Fj f247 0xaa3534330403059bb4c8b155094b0ac9c80943006a353433040305d5cd6d9f6d9f3cc3b1e55502a832e3b45502a832e3b4d7b155c6d7d7c309c9b1044285a793bfbc [.Abz (.s 1)] λh=>by
  unfold CN at h;have:=BC 0 53 52 0;exact nz
theorem yz:∀n:Nat,Q_247 n:=by
  intro n
  induction n with
  |zero=>exact(λt p c=>⟨λ_ h=>d_⟩)
  |succ n a=>exact y5 n a
instance(t p c):CT (Ny t p c) 247 [AN t,B9 p,AQ c] rI:=⟨λr h=>by
  obtain ⟨N,a⟩:=De h;exact((yz N) t p c).snd r (a N (R0 _))⟩
instance(a b c):CT (Dj a b c) 171 [AN a,B9 b,AQ c] rI:=Fe f171 0x810ec8b155b4c8b4b1d8f2 [] (Dj.eq_1 ..)
instance(a b):CT (JZ a b) 103 [AN a,Bp b] rI:=Fe f103 0x810ec81042b101a8e530555c06a882f6e0b4e0b4e055b4b101a8e55d846c017dd8b3 [] (JZ.eq_1 ..)
instance(a b):CT (Je a b) 105 [D9 a,.pt [eI b]] rB:=Fe f105 0xdb03c5e1 [] (Je.eq_1 ..)
instance(a b c):CT (Fc a b c) 55 [AN a,ER b,Bp c] rI:=IU f55 0xaa7271700503059be561ba765ccd615f765ccd5d5597f843006a727170050305d5018ccd055e6463620503059b588e105d0b3d014b0bc961055e6a6463620503059e8eb5765cee765ccda677318ccd0b910b890a77765ccd0b760b89b67610890a08030f890860b69f41cd5b77c141ee775e41ee77c141cd0b5e41cdb4e055b48d01f2 [] (Fc.eq_1 ..) (BC 0 100 99 0) (BC 2 114 113 0)
instance(a):CT (CY a) 27 [HO a] rI:=CJ f27 0xaa1e1d1cf09bb4e05502a832194b0cc9e01943006a1e1d1cf0d5044258bfcf846ca202497d5502a832c60bc189bc [.call 53 [.s 25,.c (.clo 54 [])]] (CY.eq_1 ..) (BC 0 30 29 0)
instance(a b c):CT (Lz a b c) 68 [AN a,eI b,lI c] rI:=CJ f68 0xaa23222102049ba605ba92b25ffcf78103c9ebe26b6a23222102049e81c60b010b30f6015558830241d45dc6d63093ad02 [] (Lz.eq_1 ..) (BC 0 35 34 0)
instance(a b):CT (Ek a b) 33 [AN a,B4 b] (rT eI eI):=IU f33 0xa1003e3d3c5e059b58cbc461bacf615fcf5d5558cb85ef5d9781f8436b6a3e3d3c5e05d50141325e022827265e059bfb307f92fe55a1925e026a2827265e05d55c32fb850bcf0bba58cb7fe358cb6c017d5530b3 [] (Ek.eq_1 ..) (BC 0 40 39 0) (BC 2 62 61 0)
instance(a b c):CT (M1 a b c) 56 [AN a,Bp b,B4 c] rI:=Fe f56 0x8160017d7355b4e055846c017dd8f2 [] (M1.eq_1 ..)
instance(a b):CT (Lk a b) 315 [eI a,.pt (AN b).cells] rB:=Fe f315 0x8177a7ca [] (Lk.eq_1 ..)
instance(a b):CT (Ll a b) 316 [CC a,.pt (AN b).cells] rB:=Fe f316 0x81e9a7e1 [] (Ll.eq_1 ..)
instance(a b):CT (Gb a b) 251 [AN a,Au b] rB:=Fe f251 0xdaa910c5a910a7b3 [] (Gb.eq_1 ..)
instance(a b c):CT (FR a b c) 175 [AN a,Au b,Au c] rI:=CJ f175 0x81a6a98d01a98d6d9f181716f5069bb455a208c95502436d9f6a181716f5069e02c78d846c017dd8f2 [] (FR.eq_1 ..) (BC 0 24 23 0)
instance(a b):CT (Jw a b) 317 [AN a,eI b] (rT lI eI):=CJ f317 0x81fd0701131207025b9b131207025b131207025b3cadd1d08e3055cb07016a131207025b9ea7c084e47fb501553040e1 [] (Jw.eq_1 ..) (BG 0 19 18 0 (hO 7 lI))
instance(a):CT (HU a) 252 [AN a] (rO (eL 1 (eL 1 eB))):=IU f252 0xfd310d0c31049badd118020d0c0531051c1b1a0d0c0531089b01f1011481610d0c0531056a1c1b1a0d0c0531089ecbf60155993fd6cb316a0d0c31049ea7e440bc [.mkx 1 [.bool false] (.s 18)] (HU.eq_1 ..) (BG 0 13 12 0 (hO 3 (eL 1 (eL 1 eB)))) (BG 2 28 27 0 (hX 5 1 eB))
instance(a b c d):CT (HV a b c d) 176 [AN a,Au b,Au c,A4 d] rI:=IU f176 0xaa47464507a5069ba605ba61ba5d5b5f615f5dc65d5d9797e8f8e6dce6a6e9b26081616b6a47464507a506d5cd07a5032524230907a5079b588861ed6192a7a6775db260819207a5036a2524230907a507d532820e55a6e9ef5bd60ba769b3 [] (HV.eq_1 ..) (BC 0 37 36 0) (BC 2 71 70 0)
theorem ABG(l:Fp)(r:Bool)(h:Iq l=Y r):AT prog 248 [lI l] (.sh (eB r)):=by
  unfold Iq at h;rw[<-rt]at h;split at h
  · rename_i a
    cases h;exact gY l a
  .cases h
instance AB1(l:Fp):Ct Go.Proofs.Tryz.prog (Iq l) 248 [lI l] (rS eB):=⟨ABG l⟩
instance(a b c d e):CT (GR a b c d e) 173 [AN a,Au b,Au c,A4 d,eB e] rI:=Fe f173 0x81a60a0e5f755d30b48d8db4558d0169690401 [] (GR.eq_1 ..)
instance(a b c):CT (GG a b c) 249 [AN a,B9 b,B4 c] rI:=Fe f249 0x8160017d7355b4b1d8f2 [] (GG.eq_1 ..)
instance(a b):CT (E8 a b) 313 [Ry a,lI b] rI:=Fe f313 0xdb5f61a7585f85a7e1 [] (E8.eq_1 ..)
instance(a b):CT (Hg a b) 360 [eI a,eI b] (rT eI LV):=Fe f360 0xa15b3f5b3f013f60817401283f013f30ca [.cvt .u64 (.s 9),.cvt .u64 (.s 11),.bin (.w) .shr (.s 16) (.c (.int .u64 63)),.bin (.w) .shr (.s 18) (.c (.int .u64 63)),.cvt .i64 (.s 21)] (Hg.eq_1 ..)
instance(a b):CT (Fh a b) 359 [Ry a,.pt [lI b]] (λr=>.tp [eI r.1,LV r.2.1,eB r.2.2]):=Fe f359 0x81a130a17d5f615d03fffba10a77035d5b5d81a130a17d5fdba730e1 [] (Fh.eq_1 ..)
instance(a b):CT (Gx a b) 314 [H4 a,lI b] rB:=Fe f314 0xdab6b2a7b6b25d810eb50e300e30a608300860a11174010f55034260a11174010f55cd601001b3 [] (Gx.eq_1 ..)
instance(a b c):CT (JH a b c) 250 [B9 a,B4 b,A4 c] (rT lI eI):=IU f250 0x81821808df4b4a08049b84c0882014b1c304c9b1054308016a4c4b4a0804d50442085e1918170908f5089b84c08501201455d9191817cc0908f50a191817cc0908f50a3c01f101f10591d9301401148a0817df01145b6076d981615f61615d5dbaf705c9ebe2085e6a1918170908f508d5d999993fd73fd73040f2 [.mkx 1 [.int .i64 0] (.s 17),.mkx 1 [.bool false] (.s 20)] (JH.eq_1 ..) (BG 0 25 24 0 λs0:Fp×MV=>[(8,.xo 1 (w_ eI s0.1)),(9,.xo 1 (w_ eB s0.2))]) (BC 2 76 75 0)
instance(a b c d):CT (E7 a b c d) 174 [AN a,B9 b,B4 c,A4 d] (rT lI eI):=Fe f174 0x8182740e5573b184e47f8d32e35584e47f73b155304069b3 [] (E7.eq_1 ..)
instance(a b c d):CT (KV a b c d) 106 [AN a,Bp b,B4 c,CH d] rI:=Fe f106 0x81e5fe846cf6e373b101a8c60e030fa832e3555c01a80169b3 [] (KV.eq_1 ..)
instance(a b c d):CT (GT a b c d) 107 [AN a,Au b,Au c,A4 d] (rT Au eI):=Fk f107 0x81a2550c08022726250c0806069bea3201d1ed043281610c08026a2726250c080606d532025008c93f0e5f58a2f0467f8d8d58a2f0467f558d0108c969b3 [.x8 [.z ⟨true,.list 1 []⟩,.w 34]] [.cell 8 (Y 2),.tmp 9] λr h e f=>by
  unfold GT at h;have:=BG 0 39 38 0 λs0:bk=>[(12,.bx [⟨true,lI s0.az⟩,⟨true,lE s0.bi⟩])];exact nz
instance(a):CT (DP a) 177 [JM a] rI:=Fe f177 0x810e5504a832b45506a802a83201bc [] (DP.eq_1 ..)
instance(a b):CT (Gv a b) 253 [lI a,lI b] (rO (eL 2 Rx)):=IU f253 0xfd96ac056b059bac056b05ac07a56b077eac07a56b07ac07a56b073c0202480247054630028a0aa90130a901b2fcfcac056b05ecac07a56b07db605b016aac056b059ed0c002406b02 [] (Gv.eq_1 ..) (BG 0 10 9 0 (hO 5 (eL 2 Rx))) (BG 2 7 0 0 (hO 5 (eL 2 Rx)))
instance(a):CT (EF a) 178 [JM a] (rT (eL 2 Rx) (eL 2 Rx)):=Fe f178 0x82820e91044291ee0e76044276ee02400240bc [] (EF.eq_1 ..)
instance(a):CT (Dq a) 254 [JM a] (rO lI):=CJ f254 0xfd31ac0831059bac083105ac0831053cadd1d0c401760442a192316aac083105d55c0689e440bc [] (Dq.eq_1 ..) (BG 0 10 9 0 (hO 3 lI))
instance(a):CT (Dc a) 179 [JM a] (rO lI):=CJ f179 0xfd04010dcc0431069b0dcc0431060dcc0431063cadd1d08a0a0eba300e5f30a90191ee9781f89004016a0dcc043106d50141fac0820e08440140bc [] (Dc.eq_1 ..) (BG 0 13 12 0 (hO 4 lI))
instance(a b c):CT (Hf a b c) 180 [eI a,lI b,lI c] (rO lI):=IU f180 0xfd0a01201f1e0a049b201f1e0a04201f1e0a043cadd1d0886081920a016a201f1e0a049e9801c0070111e70702059b11e707020511e70702053c01f10114c430a19207016a11e70702059e81993f304002dd [.mkx 1 [.bool false] (.s 13)] (Hf.eq_1 ..) (BG 0 17 16 0 (hX 7 1 eB)) (BG 2 32 31 0 (hO 10 lI))
instance(a b c d):CT (Hk a b c d) 108 [Au a,Au b,G7 c,A4 d] (rT G7 eI):=Fk f108 0x8013b81a202460e5f5fef0e5d5dd6ff58a2014681770e084481a20146db77010b0182f6084458a230467f0844084b0dc906468d8dd0c969b3 [] [.cell 8 (Y 2),.tmp 9] λr h e f=>by
  unfold Hk at h;exact nz
instance(a b c d e f):CT (GI a b c d e f) 255 [AN a,B9 b,AQ c,B4 d,CH e,eB f] rI:=Fe f255 0x81e5fe846cf6e373b155b401e3e3e355846c017d7355b4c8b1d893696996 [] (GI.eq_1 ..)
instance(a b c):CT (Gw a b c) 379 [eI a,lI b,lI c] (rO lI):=CJ f379 0x821807010f0e0d0702059b01f1923014a19207016a0f0e0d0702059e81991a3047014002dd [] (Gw.eq_1 ..) (BG 0 15 14 0 (hX 7 1 eI))
theorem zc:CK f382 (.seq (.region [⟨Y 4,.mv (.c (.int .i64 0)),W⟩] [0,1])
 (.seq (.seq (.region [⟨Y 5,.mv (.s 0),W⟩,
    ⟨Y 6,.isn (.s 5),W⟩] [0,1,6])
  (.cond (.s 6) (.seq (.region [⟨Y 4,.mv (.c (.int .i64 (-1))),W⟩] [4])
   (.ret))
  (.skip [0,1])))
 (.seq (.region [⟨Y 7,.mv (.s 0),W⟩,
    ⟨Y 8,.mv (.s 1),W⟩,
    ⟨Y 9,.iad (.s 7) (.s 8) 1,W⟩,
    ⟨Y 10,.ld (.s 9),W⟩,
    ⟨Y 4,.mv (.s 10),W⟩] [4])
 (.ret)))) [.tmp 4]:=b!
instance ABp(l:Option Fp)(i:Int):Ct Go.Proofs.Tryz.prog (MR l i) 382 [(eO 1 eI) l,eI i] (rS eI):=Fi zc λr h a b=>by
  cases l with
  |none=>replace h:Y (-1)=Y r:=h;exact au|some l=>replace h:((Xx l).bind λ_=>(idx l i).bind λx=>Y x)=Y r:=h;exact au
end Go.Sf.Sc
