/- Contracts of the functions. -/
import Derived.Test.YthcncnllajfkfaaGreatCon0
set_option linter.all false
set_option maxRecDepth 100000
set_option maxHeartbeats 4000000
open Option renaming some->Y,none->W
open Bool renaming true->X
open List renaming map->w_
namespace Go.Sf.Sc
open Go Go.Sf Go.Proofs.Tryz
instance(a b):CT (GR a b) 32 [Bg a,Bg b] rB:=Fe f32 0xa23f9090760eeaea6cbebef1 [.call 66 [.s 23,.s 25,.c (.clo 23 [])]] (GR.eq_1 ..)
instance(a b):CT (G6 a b) 22 [DW a,DW b] (rT Hc eI):=Fk f22 0x818438080402585708de0696585708de06585708de063cd9b801d0e8b88a058d7f2242598d7f2242810108040262585708de069a7cde053d3c7cde07963d3c7cde073d3c7cde073cd93701d0e8378a058d732242598d73224281017cde05623d3c7cde079aef558400468aa50b7f224276a50b7f224276a50b73224276a50b73224201b36b1c426b1c429a0b36771c420b735a1c4265c99d [] [.cell 4 (Y 2),.tmp 5] λr h c d=>by
  unfold G6 at h;have:=BG 0 61 60 0 λs0:BR=>[(8,.bx [⟨X,lI s0.d3⟩,⟨X,lI s0.d4⟩])];have:=BG 2 88 87 0 λs2:BR=>[(8,.bx [⟨X,lI s2.d3⟩,⟨X,lI s2.d4⟩])];exact nz
instance(a):CT (M8 a) 398 [Eo a] rB:=Fe f398 0xa20a058c320a058c9101 [] (M8.eq_1 ..)
instance ACs(b:ByteArray)(c:Int->K1)(d:FuncId)(a:Fq)[g:∀(e:Int),CT (c e) d (Eo e::a) rB]:CT (IW b c) 399 [eS b,.clo d a] rI:=Bv f399 0x81597405d45e59748a0f12328c0c8cd481b9 [] (IW.eq_1 ..) (⟨⟩:HW 0 λ(f:Int)=>[(5,.tv (eI f))])
instance(a):CT (MA a) 401 [Eo a] rB:=Fe f401 0xa2058c9101 [] (MA.eq_1 ..)
instance(a):CT (Pw a) 400 [Eo a] rB:=Fe f400 0xa2f00a0e320e9101 [] (Pw.eq_1 ..)
instance(a):CT (Nj a) 422 [Eo a] rB:=Fe f422 0xa2f00a058c9101 [] (Nj.eq_1 ..)
instance(a):CT (Iw a) 402 [eS a] (rT eI eI):=Fe f402 0x9aa5cc8501cc8a0512a58c0c59603f0d019101 [.call 399 [.s 6,.c (.clo 422 [])]] (Iw.eq_1 ..)
instance(a):CT (Pv a) 403 [eS a] rB:=Fe f403 0xa20e0d013f590c9101 [.lst 1 [.c (.str ⟨#[45,62]⟩),.c (.str ⟨#[60,61]⟩),.c (.str ⟨#[62,61]⟩),.c (.str ⟨#[61,61]⟩),.c (.str ⟨#[33,61]⟩)]] (Pv.eq_1 ..)
instance(a):CT (Lc a) 363 [eS a] (λr=>.tp [eI r.1,eI r.2.1,eI r.2.2]):=Fe f363 0x819affcc9a053f60819a0e609a329a786005609a01559a713f600e609a01559a713f600e6012329101 [.call 399 [.s 15,.c (.clo 400 [])],.call 399 [.s 23,.c (.clo 401 [])],.call 404 [.c (.str ⟨#[123,125,40,41,91,93,44,59,58,61,43,45,42,60,62,33,38,124,46,63]⟩),.s 42]] (Lc.eq_1 ..)
instance(a):CT (MB a) 303 [YF a] (rT eS eB):=Bv f303 0x9a0a050c01320a055b8c32819a11780155bfbfe8c404c43c013f3f01855b815c013ffc [.mv (.c (.str ⟨#[]⟩)),.bin (.s) .add (.c (.str ⟨#[34]⟩)) (.s 13),.bin (.s) .add (.s 14) (.c (.str ⟨#[34]⟩)),.bin (.s) .eql (.s 16) (.c (.str ⟨#[]⟩)),.mv (.c (.str ⟨#[]⟩))] (MB.eq_1 ..) (⟨⟩:HJ 12 λ(b:ByteArray)=>[(4,.tv (eS b))])
instance(a):CT (Ec a) 236 [eS a] rB:=Fe f236 0x8160017801469101 [] (Ec.eq_1 ..)
instance(a b):CT (Py a b) 296 [IH a,.pt (IH b).cells] rB:=Fe f296 0x8106dc9f32 [] (Py.eq_1 ..)
abbrev Q_297(n:Nat):Prop:=∀(t:AC)(a:Int),CT (Dm n t a) 297 [AL t,eI a] (λr=>.Aa9 4 (w_ JU r))
theorem AAJ(n:Nat)(_ih_297:Q_297 n)(t:AC)(a:Int):CT (Dm (n+1) t a) 297 [AL t,eI a] (λr=>.Aa9 4 (w_ JU r)):=Fj f297 0x99044f8041d75b1905ad0305ad033c191ab5717fd75b04ce044e9332 [] λh=>by
  unfold Dm at h;have:HJ 14 λ(b:List kp)=>[(5,.xo 4 (w_ JU b))]:=⟨⟩;exact nz
theorem AAI:∀n:Nat,Q_297 n:=by
  intro n
  induction n with
  |zero=>exact(λt a=>⟨λ_ h=>d_⟩)
  |succ n b=>exact AAJ n b
instance(t a):CT (OM t a) 297 [AL t,eI a] (λr=>.Aa9 4 (w_ JU r)):=⟨λr h=>by
  obtain ⟨N,b⟩:=Cy h;exact((AAI N) t a).snd r (b N (az _))⟩
instance(a b):CT (KN a b) 360 [JU a,.pt (JU b).cells] rB:=Fe f360 0x8106dc9f32 [] (KN.eq_1 ..)
instance(a):CT (KD a) 361 [lB a] rI:=Bv f361 0xaada08000496ffcc0e3245329ab360815f6562da0800049781bb0b9101 [] (KD.eq_1 ..) (BM 0 10 9 0)
instance(a b):CT (GO a b) 298 [JU a,lA b] rI:=Bv f298 0x81558801060106013c760570b690595c850bb6a205907605905c595cdfb6ffcc0e106081b35b9f32 [] (GO.eq_1 ..) (⟨⟩:HJ 40 λ(c:Bool)=>[(6,.tv (eB c))])
instance(a b):CT (Lg a b) 234 [AL a,eI b] rI:=Bv f234 0xaa07060275df044532d5044391e70706028170b6e5bbe5820eb5ffcc70b69a0aa55c595c9a0e100445015b9ab35b053d044b01c9d5d75b9f32 [] (Lg.eq_1 ..) (BM 1 7 6 0)
instance(a b):CT (M9 a b) 299 [eI a,.pt (AL b).cells] rB:=Fe f299 0xa2705b8c01b9 [] (M9.eq_1 ..)
instance(a b):CT (Px a b) 301 [JV a,.pt (JV b).cells] rB:=Fe f301 0x8106dc9f32 [] (Px.eq_1 ..)
instance(a b):CT (Lu a b) 302 [eI a,eI b] rB:=Fe f302 0xa20a0a058c018c320a058c01b9 [] (Lu.eq_1 ..)
instance(a b):CT (Ld a b) 235 [AL a,eI b] rI:=Bv f235 0x81ff5519013c76b303bc03054201b303b7b619600a080f9032080f5c60810e100745015c9ab35b8110053d074b02c9074407ca9f32 [] (Ld.eq_1 ..) (⟨⟩:HJ 25 λ(c:Bool)=>[(25,.tv (eB c))])
instance(a):CT (D9 a) 177 [AL a] (rT eS eI):=KE f177 0x81bf002e2d2ce896cc015b710eb5074b8102c90744074365622e2d2ce8e2b8321d1c1be896cc015b710eb5044b8101c9d5d732621d1c1be8e237ff55bfa2d859bd81bf81705b013ffc [.mv (.c (.str ⟨#[]⟩)),.mv (.c (.str ⟨#[]⟩)),.mv (.c (.str ⟨#[]⟩)),.mv (.c (.str ⟨#[]⟩))] (D9.eq_1 ..) (BM 1 29 28 0) (BM 3 46 45 0)
instance(a b):CT (Ii a b) 248 [eI a,eI b] rB:=Fe f248 0xa2a58c01b9 [] (Ii.eq_1 ..)
instance(a):CT (OP a) 247 [eI a] rB:=Fe f247 0x81b39101 [] (OP.eq_1 ..)
instance(a b):CT (PN a b) 251 [B5 a,eI b] rB:=Fe f251 0xa20ea590760ea55c6c5b9f32 [] (PN.eq_1 ..)
instance(a b):CT (OQ a b) 250 [B5 a,.pt (A2 b).cells] rB:=Fe f250 0x81b3bd6b9f32 [] (OQ.eq_1 ..)
instance(a):CT (DO a) 183 [A2 a] rI:=Fe f183 0x81558e105c55bf5ba1d859bdf9 [.call 71 [.s 14,.c (.clo 247 [])]] (DO.eq_1 ..)
instance(a b):CT (Ht a b) 304 [eI a,.pt (AL b).cells] rB:=Fe f304 0x81705b01b9 [] (Ht.eq_1 ..)
instance(a b):CT (Hu a b) 305 [B5 a,.pt (AL b).cells] rB:=Fe f305 0x81d85b9f32 [] (Hu.eq_1 ..)
instance(a b c):CT (C4 a b c) 306 [eI a,eI b,eI c] rB:=Fe f306 0xa2a58c013202d4 [] (C4.eq_1 ..)
instance(a b):CT (Od a b) 374 [eI a,.pt (AL b).cells] rB:=Fe f374 0xa2705b8c01b9 [] (Od.eq_1 ..)
instance(a b):CT (HK a b) 320 [AL a,lI b] rI:=Fe f320 0x81558e1001a60178389f32 [] (HK.eq_1 ..)
instance(t a):CT (FI t a) 289 [AL t,eI a] (rT lA eI):=iR f289 0x81821807011514070396014d0354044c0e170354044c01140114810107f8151407fe9514991ab55504c07e0ea7b5e8409332 [] (FI.eq_1 ..) (BG 0 21 20 0 (hX 7 4 JU)) (⟨⟩:HS 31) (⟨⟩:HX 33 λ(a:kp)(v:List ByteArray)=>kp.mk a.ln a.Low a.Aaf v)
instance(a b c):CT (Gn a b c) 307 [AL a,BQ b,FL c] (rT JU eB):=Fk f307 0x81044bd504435c0155044b0246d670015c01e35f5bbe3855044b0246d670be5bf7c9939d [] [.cell 6 (Y 4),.tmp 7] λr h d e=>by
  unfold Gn at h;exact nz
instance(a b):CT (JT a b) 405 [eI a,Su b] rB:=Fe f405 0xa2055c76055c76a55b595bf901 [] (JT.eq_1 ..)
instance(a b):CT (KU a b) 364 [eI a,F1 b] rI:=Fe f364 0x81ff55a208920342320892b860a2055b595bf901 [] (KU.eq_1 ..)
instance(a b):CT (Ig a b) 308 [eI a,lT b] rI:=Bv f308 0xaae411000496df9e594b04c99e05430062e41100049781bbe5a1058c01b9 [] (Ig.eq_1 ..) (BM 0 19 18 0)
instance(a b):CT (Do a b) 237 [AL a,BQ b] rI:=Bv f237 0x8155a014df03b7b6085d3c3b3a085d06963c3b3a085d063c3b3a085d063cf473ac148573aca1b37fac76b305b673ac010860044b034978d59e38044b05c9d50443085d623c3b3a085d06e2ac993fb6a17003b7590b90fdb6a10e10ea6c10bea69237a6017838f1 [.mkx 1 [.bool false] (.s 55)] (Do.eq_1 ..) (BG 0 60 59 0 (hX 8 1 eB))
instance(a b):CT (Pr a b) 366 [eI a,.pt (AL b).cells] rB:=Fe f366 0x81705b01b9 [] (Pr.eq_1 ..)
instance(a b):CT (Ps a b) 367 [B5 a,.pt (AL b).cells] rB:=Fe f367 0x81d85b9f32 [] (Ps.eq_1 ..)
instance(a b):CT (LU a b) 310 [AL a,A2 b] rB:=Fe f310 0xa2b3105c01b3105bf1 [] (LU.eq_1 ..)
instance(a b):CT (Qx a b) 369 [FL a,.pt (FL b).cells] rB:=Fe f369 0xa2055c5c59dc9f32 [] (Qx.eq_1 ..)
instance(a b c):CT (M1 a b c) 311 [AL a,CB b,eI c] rI:=Fe f311 0x81558e100445015d41bca1055c76055c76058041bc5b76055b7670015c595c8406c938ac01e35f5b735abc38a170735abc5b595b073d044b05c9d5d75d41bc0161ad [] (M1.eq_1 ..)
instance(a b):CT (LT a b) 238 [AL a,CB b] rI:=Bv f238 0xaa2f2e5d0496df01d1388165622f2e5d04975d41bcffcc705d41bc9a0a70030441bc598041b88041bc9a08925abc38a6925abcf1 [] (LT.eq_1 ..) (BM 1 47 46 0)
instance(a b):CT (JH a b) 418 [lI a,eI b] rI:=Bv f418 0xaa097c650596a1055ff08c01a1a58c60815f6562097c65059781b9 [] (JH.eq_1 ..) (BM 0 9 8 0)
instance(a b):CT (M6 a b) 419 [lI a,eI b] rB:=Fe f419 0x8160017832b9 [] (M6.eq_1 ..)
instance(a b):CT (Ob a b) 394 [A2 a,Hc b] rI:=Bv f394 0xaa1e1d1c5d0596a1b35d4103ca5b01b37f03ca5b815f00621e1d1c5d05e2b8dfe95cdfbd5bf1 [] (Ob.eq_1 ..) (BM 0 30 29 0)
instance(a b):CT (Fu a b) 349 [A2 a,Hc b] rI:=Fe f349 0x819238a692f1 [] (Fu.eq_1 ..)
instance(a b):CT (Fa a b) 312 [A2 a,Hc b] (λr=>.tp [A2 r.1,A6 r.2.1,eI r.2.2]):=Fk f312 0x6a023b81848404460e5c0e5b3808cb042b2a2908e60896d9b8034803476b04b8d9ac78905bd9b8785c5bb1eecfca815f08cb04622b2a2908e608e2b808e60519181708e60896d93701d08d5b0437815f08e6056219181708e608e237fa558484654603f6923865c9fa9d [] [.cell 4 (Y 2),.cell 5 (Y 2),.tmp 6] λr h c d=>by
  unfold Fa at h;have:=BG 0 25 24 0 λs0:d5=>[(8,.bx [⟨X,lI s0.d3⟩,⟨X,lE s0.d4⟩])];have:=BG 2 43 42 0 λs2:d5=>[(8,.bx [⟨X,lI s2.d3⟩,⟨X,lE s2.d4⟩])];exact nz
instance(a b c):CT (D6 a b c) 313 [A2 a,A2 b,A6 c] rI:=KE f313 0xaa494847cb0696a105905f905b595c5f5c5bbbdcb1b1eeeecfcacfcaa1d88c60815f6562494847cb06e2b86a802c2b2acb0696bb8d5b8d5ba1705b8c60815f590480622c2b2acb06e237a1d8e959bdbda692a6929f9d [] (D6.eq_1 ..) (BM 0 44 43 0) (BM 2 73 72 0)
instance(a):CT (Hf a) 370 [lI a] rI:=Fe f370 0x81152a142914991a9101 [] (Hf.eq_1 ..)
instance(a b c):CT (Dw a b c) 314 [A2 a,A2 b,A6 c] rB:=Fe f314 0xa2d80e5c76705b0e5b5992c19f9d [] (Dw.eq_1 ..)
instance(a):CT (M0 a) 239 [CB a] rI:=Fe f239 0x815588920d42385abc38a6920d42385abc38a684840049fa1178380b42385ab8f9 [] (M0.eq_1 ..)
instance(a b):CT (L8 a b) 315 [lI a,eI b] (rO lI):=Bv f315 0xeca57c050004967c0500047c0500043cadd0c4d6328159f87c0500049ae0fb6502 [] (L8.eq_1 ..) (BG 0 8 7 0 (hO 5 lI))
instance(a):CT (Mz a) 240 [CB a] (rT lI lI):=Fe f240 0x82820e0b3677bc7f0d420e0b735abc730d42fbfbfc [] (Mz.eq_1 ..)
instance(a b c):CT (Nh a b c) 316 [eI a,.pt (AL b).cells,.pt (A2 c).cells] rB:=Fe f316 0x815d4104438ddcc4d4 [] (Nh.eq_1 ..)
instance(a b):CT (Nk a b) 375 [AL a,eI b] (rO lI):=Bv f375 0x821829140559ad033c017fd75bff19014fa70119a56259ad36cefb9332 [] (Nk.eq_1 ..) (⟨⟩:HW 0 λ(c:Int×Fp)=>[(1,.tv (eI c.1)),(5,.xo 1 (w_ eI c.2))])
instance(a b c):CT (Lf a b c) 321 [AL a,eI b,eI c] rB:=Fe f321 0x810e6cb59fad02 [] (Lf.eq_1 ..)
instance(a b c d):CT (Jt a b c d) 244 [AL a,eI b,eI c,eI d] rB:=Fe f244 0xa20e5d4107cab56c7f07cab5a1d8320a058c0ea732389f5df7 [] (Jt.eq_1 ..)
instance(a b c):CT (Ib a b c) 317 [eI a,.pt (A2 b).cells,.pt (AL c).cells] rB:=Fe f317 0x81b35f905b5f5cdc38b1eecfcac4d4 [] (Ib.eq_1 ..)
instance(a b c d):CT (Is a b c d) 241 [AL a,A2 b,lI c,lI d] rB:=Fe f241 0xa2b31032b31032615d02 [] (Is.eq_1 ..)
instance(a):CT (Fg a) 408 [AI a] rB:=Fe f408 0xa205b6597003b7709070ea70be707fac0b73acba09c99eb7f9 [] (Fg.eq_1 ..)
abbrev AbU(n:Nat):Prop:=∀(c:d7),CT (Bn n c) 371 [AI c] rB
abbrev AbZ(n:Nat):Prop:=∀(k:d7),CT (Bz n k) 410 [AI k] rB
theorem AAP(n:Nat)(_ih_371:AbU n)(_ih_410:AbZ n)(c:d7):CT (Bn (n+1) c) 371 [AI c] rB:=Fj f371 0xa2083f5c32ff04c404c45e606ac43c760ea959011a09f3055e1a09f305816ac43c760ea959606ac43c760ea959600583379ae9f9 [.call 409 [.s 42,.c (.clo 410 [])]] λh=>by
  unfold Bn at h;have:HJ 10 λ(a:Bool)=>[(4,.tv (eB a))]:=⟨⟩;exact nz
theorem AAV(n:Nat)(_ih_371:AbU n)(_ih_410:AbZ n)(k:d7):CT (Bz (n+1) k) 410 [AI k] rB:=Fj f410 0x81b3a9f9 [] λh=>by
  unfold Bz at h;exact nz
theorem sz:∀n:Nat,AbU n/\AbZ n:=by
  intro n
  induction n with
  |zero=>exact⟨(λc=>⟨λ_ h=>d_⟩),(λk=>⟨λ_ h=>d_⟩)⟩
  |succ n a=>exact⟨AAP n a.1 a.2,AAV n a.1 a.2⟩
instance(c):CT (H9 c) 371 [AI c] rB:=⟨λr h=>by
  obtain ⟨N,a⟩:=Cy h;exact((sz N).1 c).snd r (a N (az _))⟩
instance(k):CT (TP k) 410 [AI k] rB:=⟨λr h=>by
  obtain ⟨N,a⟩:=Cy h;exact((sz N).2 k).snd r (a N (az _))⟩
abbrev Q_372(n:Nat):Prop:=∀(c:d7),CT (Cj n c) 372 [AI c] (rT eI eI)
theorem AAR(n:Nat)(_ih_372:Q_372 n)(c:d7):CT (Cj (n+1) c) 372 [AI c] (rT eI eI):=Fj f372 0x9a326a026a025e01855b6af7c60b6a010696322c8c329a78a9094b0ac9a909436af762c60b6a0106e2b89a32fc [] λh=>by
  unfold Cj at h;have:=BG 0 13 12 0 λs0:Int×Int=>[(4,.tv (eI s0.1)),(5,.tv (eI s0.2))];have:HJ 31 λ(a:Int)=>[(5,.tv (eI a))]:=⟨⟩;exact nz
theorem AAQ:∀n:Nat,Q_372 n:=by
  intro n
  induction n with
  |zero=>exact(λc=>⟨λ_ h=>d_⟩)
  |succ n a=>exact AAR n a
instance(c):CT (KH c) 372 [AI c] (rT eI eI):=⟨λr h=>by
  obtain ⟨N,a⟩:=Cy h;exact((AAQ N) c).snd r (a N (az _))⟩
instance(a):CT (GE a) 318 [AI a] rI:=Fe f318 0x81a1058c608178a9fda9f9 [] (GE.eq_1 ..)
instance(a b):CT (I2 a b) 411 [FL a,.pt [eI b]] rB:=Fe f411 0xdb0373ac9f32 [] (I2.eq_1 ..)
instance(a b c):CT (Ez a b c) 373 [AL a,BQ b,eI c] rI:=Bv f373 0xaa7c04033c083d014b05364b0b4983ff5501d610900062b6037c0403083d014b0bc901df9e380161ad [] (Ez.eq_1 ..) (⟨⟩:HW 0 λ(d:Int)=>[(8,.tv (.pt [eI d]))])
abbrev Q_319(n:Nat):Prop:=∀(t:AC)(p:ea)(c:d7),CT (CS n t p c) 319 [AL t,BQ p,AI c] rI
theorem AAL(n:Nat)(_ih_319:Q_319 n)(t:AC)(p:ea)(c:d7):CT (CS (n+1) t p c) 319 [AL t,BQ p,AI c] rI:=Fj f319 0xaa35343304030596dfa99e38094b0ac9a909430062353433040305e2b86a806a803cba9e558892acd3d3a692acd3d3dfb69e38bbb6b6ba09c99eb7855b9fbffc [.AbB (.s 1)] λh=>by
  unfold CS at h;have:=BM 0 53 52 0;exact nz
theorem AAK:∀n:Nat,Q_319 n:=by
  intro n
  induction n with
  |zero=>exact(λt p c=>⟨λ_ h=>d_⟩)
  |succ n a=>exact AAL n a
instance(t p c):CT (Og t p c) 319 [AL t,BQ p,AI c] rI:=⟨λr h=>by
  obtain ⟨N,a⟩:=Cy h;exact((AAK N) t p c).snd r (a N (az _))⟩
instance(a b c):CT (Dp a b c) 242 [AL a,BQ b,AI c] rI:=Fe f242 0x810ea99e38dfa9df9e389f9d [] (Dp.eq_1 ..)
instance(a b):CT (Jm a b) 178 [AL a,CB b] rI:=Fe f178 0x810ea910429eb838fd32385abc3882e3d1dfd1dfd138df9eb838fd5ba6017838f1 [] (Jm.eq_1 ..)
instance(a b c):CT (Md a b c) 243 [AL a,eI b,lI c] rI:=Bv f243 0xaa232221020496a105908d8c5ceb044b8103c9d50443656223222102049781bbe50b32e3b555830241d75bbbbd3293ad02 [] (Md.eq_1 ..) (BM 0 35 34 0)
instance(a b):CT (G5 a b) 179 [AL a,Bg b] (rT eI eI):=KE f179 0x9a003e3d3c5d0596cc01d65f90be5f5cbe5b38cc0185e95bb181eecf4365623e3d3c5d05e20141375d022827265d0596cc32710e8d90b59a8d5d02622827265d05e25a37cc850bbe0b90cc7e9237cc7e017838329d [] (G5.eq_1 ..) (BM 0 40 39 0) (BM 2 62 61 0)
instance(a b c):CT (FV a b c) 121 [AL a,(eL 25 CB) b,Bg c] rI:=Bv f121 0x816001786b38055d1b1a1905030596dfd138194b0cc9d11943055d621b1a190503059781bbe5a6017838016132 [] (FV.eq_1 ..) (BM 0 27 26 0)
instance(a b c):CT (IE a b c) 165 [AL a,CB b,Bg c] rI:=Fe f165 0x816001786b38dfd138a60178389f9d [] (IE.eq_1 ..)
instance(a b):CT (MP a b) 384 [eI a,.pt (AL b).cells] rB:=Fe f384 0x81705b01b9 [] (MP.eq_1 ..)
instance(a b):CT (MQ a b) 385 [B5 a,.pt (AL b).cells] rB:=Fe f385 0x81d85b9f32 [] (MQ.eq_1 ..)
instance(a b):CT (GX a b) 340 [AL a,A2 b] rB:=Fe f340 0xa2b3105c01b3105bf1 [] (GX.eq_1 ..)
instance(a b c):CT (FH a b c) 274 [AL a,A2 b,A2 c] rI:=Bv f274 0x81a1089238010892386a80181716cb0696a69284fa3802436a8062181716cb069702c7c1a60178389f9d [] (FH.eq_1 ..) (BM 0 24 23 0)
instance(a b):CT (KC a b) 393 [AL a,eI b] (rT lI eI):=Bv f393 0x81ec0701e407025996e4070259e40702593cadd0c48e3238810107f8e4070259975be055e07e0ea7b532409332 [] (KC.eq_1 ..) (BG 0 19 18 0 (hO 7 lI))
instance(a):CT (HP a) 348 [AL a] (rO (eL 1 (eL 1 eB))):=KE f348 0xec36c6360496add01802c60536051c1b1ac605360896f40114815fc6053605621c1b1ac6053608978101e3b5993fbd81013662c63604975be0fbfc [.mkx 1 [.bool false] (.s 18)] (HP.eq_1 ..) (BG 0 13 12 0 (hO 3 (eL 1 (eL 1 eB)))) (BG 2 28 27 0 (hX 5 1 eB))
instance(a b c d):CT (HQ a b c d) 280 [AL a,A2 b,A2 c,A6 d] rI:=KE f280 0xaa474645f50696a105905f905b595c5f5c5bbbdcb1b1eeeecfcacfcaa1d88c60815f6562474645f506e2b8f50325242309f5079655885f8d5b5f8d5b01a1705b8c60818df5036225242309f507e2378292a1d8e959bdbd01619d [] (HQ.eq_1 ..) (BM 0 37 36 0) (BM 2 71 70 0)
theorem AB9(l:Fp)(r:Bool)(h:Iu l=Y r):AV prog 347 [lI l] (.sh (eB r)):=by
  unfold Iu at h;rw[<-sY]at h;split at h
  · rename_i a
    cases h;exact iO l a
  .cases h
instance AC5(l:Fp):Ct Go.Proofs.Tryz.prog (Iu l) 347 [lI l] (rS eB):=⟨AB9 l⟩
instance(a b c d e):CT (GJ a b c d e) 278 [AL a,A2 b,A2 c,A6 d,eB e] rI:=Fe f278 0x81a10a0e5c6c5b32a69238c1a692c10161610401 [] (GJ.eq_1 ..)
instance(a b c):CT (E4 a b c) 217 [AL a,BQ b,Bg c] rI:=Fe f217 0x816001786b38df9e389f9d [] (E4.eq_1 ..)
instance(a b):CT (E5 a b) 276 [Su a,lI b] rI:=Fe f276 0xdb5c5f5b01555c855b9f32 [] (E5.eq_1 ..)
instance(a b):CT (Hb a b) 343 [eI a,eI b] (rT eI Ih):=Fe f343 0x9a593f593f013f60817201283f013f32b9 [.cvt .u64 (.s 9),.cvt .u64 (.s 11),.bin (.w) .shr (.s 16) (.c (.int .u64 63)),.bin (.w) .shr (.s 18) (.c (.int .u64 63)),.cvt .i64 (.s 21)] (Hb.eq_1 ..)
instance(a b):CT (Fh a b) 342 [Su a,.pt [lI b]] (λr=>.tp [eI r.1,Ih r.2.1,eB r.2.2]):=Fe f342 0x819a329a785c5f5b03ffcc9a0a70035b595b819a329a785cdb5b01329332 [] (Fh.eq_1 ..)
instance(a b):CT (Gs a b) 277 [F1 a,lI b] rB:=Fe f277 0xa20a058c5b76058c5b810ea70e320e32a1083208609a1172010f380342609a1172010f38b86010f1 [] (Gs.eq_1 ..)
instance(a b c):CT (GB a b c) 219 [BQ a,Bg b,A6 c] (rT lI eI):=KE f219 0x81821808cd4b4a08049655e08820149eba04c99e054308f84c4b4a0804e2b7085d1918170908cb089655e08501201438ac1918170c0b0908cb0a1918170c0b0908cb0a3cf4f4057fac321401148a0817cd0114596073ac815f5c5f5fdc90044b05c9d50443085d621918170908cb08e2ac99993fb63fb63240939d [.mkx 1 [.int .i64 0] (.s 17),.mkx 1 [.bool false] (.s 20)] (GB.eq_1 ..) (BG 0 25 24 0 λs0:Fp×a6=>[(8,.xo 1 (w_ eI s0.1)),(9,.xo 1 (w_ eB s0.2))]) (BM 2 76 75 0)
instance(a b c d):CT (E3 a b c d) 279 [AL a,BQ b,Bg c,A6 d] (rT lI eI):=Fe f279 0x818272926b9e55e07e92d3d33855e07e0e6b9e383240619d [] (E3.eq_1 ..)
instance(a b c d):CT (Ki a b c d) 220 [AL a,CB b,Bg c,Bo d] rI:=Fe f220 0x81fd9001a6e3d36b9eb838bb0e030f42d3d3385ab83801619d [] (Ki.eq_1 ..)
instance(a b c d):CT (GK a b c d) 221 [AL a,A2 b,A2 c,A6 d] (rT A2 eI):=Fk f221 0x8184380c08022726250c08060696d93701d08d5b0437815f0c0802622726250c080606e2370250fa3f0e5c5584f7f69238c15584f7f692c101fa619d [.Aao [.z ⟨X,.list 1 []⟩,.w 34]] [.cell 8 (Y 2),.tmp 9] λr h e f=>by
  unfold GK at h;have:=BG 0 39 38 0 λs0:d5=>[(12,.bx [⟨X,lI s0.d3⟩,⟨X,lE s0.d4⟩])];exact nz
instance(a):CT (DQ a) 281 [JW a] rI:=Fe f281 0x8192b7d3a692bc38acd3f9 [] (DQ.eq_1 ..)
instance(a b):CT (Gp a b) 350 [lI a,lI b] (rO (eL 2 St)):=KE f350 0xec05760905650596da056505daf5650775daf56507daf565073c0202480247054632028a0ab30132b3018cebebda056505e7daf56507db6059f8da05650597c4c002406502 [] (Gp.eq_1 ..) (BG 0 10 9 0 (hO 5 (eL 2 St))) (BG 2 7 0 0 (hO 5 (eL 2 St)))
instance(a):CT (EE a) 282 [JW a] (rT (eL 2 St) (eL 2 St)):=Fe f282 0x82820e7fb77fbc0e73b773bc02400240fc [] (EE.eq_1 ..)
instance(a):CT (Du a) 351 [JW a] (rO lI):=Bv f351 0xec36da08360596da083605da0836053cadd0c4d60173b79a8d3662da083605e25abce0fbfc [] (Du.eq_1 ..) (BG 0 10 9 0 (hO 3 lI))
instance(a):CT (Dg a) 283 [JW a] (rO lI):=Bv f283 0xec0401c60bf30696c60bf306c60bf3063cadd0c48a0a0e90320e5c32b3017fbcb181eecf7d04f8c60bf306e20141ace0820e0844fbfc [] (Dg.eq_1 ..) (BG 0 13 12 0 (hO 4 lI))
instance(a b c):CT (Ha a b c) 284 [eI a,lI b,lI c] (rO lI):=KE f284 0xec0a01201f1e0a0496201f1e0a04201f1e0a043cadd0c48860815f76f8201f1e0a049798e0070111100f0702059611100f07020511100f0702053cf40114d6329a8d07f811100f0702059781993f324002d4 [.mkx 1 [.bool false] (.s 13)] (Ha.eq_1 ..) (BG 0 17 16 0 (hX 7 1 eB)) (BG 2 32 31 0 (hO 10 lI))
instance(a b c d):CT (Hk a b c d) 222 [A2 a,A2 b,Hc c,A6 d] (rT Hc eI):=Fk f222 0x8013b818404460e5c5ce90edcbdff5584004681700e084481840046db7001e582e30844558465f60e0844084b0dc90646c1c165c9619d [] [.cell 8 (Y 2),.tmp 9] λr h e f=>by
  unfold Hk at h;exact nz
instance(a b c d e f):CT (GD a b c d e f) 352 [AL a,BQ b,AI c,Bg d,Bo e,eB f] rI:=Fe f352 0x81fd9001a6e3d36b9e38dfb537d3d338a601786b38dfa99e389f6161a5 [] (GD.eq_1 ..)
instance(a b c):CT (Gq a b c) 428 [eI a,lI b,lI c] (rO lI):=Bv f428 0x821807010f0e0d07020596f48d32149a8d07f80f0e0d0702059781991a3247fb02d4 [] (Gq.eq_1 ..) (BG 0 15 14 0 (hX 7 1 eI))
theorem AAh:CK f413 (.seq (.region [⟨Y 4,.mv (.c (.int .i64 0)),W⟩] [0,1])
 (.seq (.seq (.region [⟨Y 5,.mv (.s 0),W⟩,
    ⟨Y 6,.isn (.s 5),W⟩] [0,1,6])
  (.cond (.s 6) (.seq (.region [⟨Y 4,.mv (.c (.int .i64 (-1))),W⟩] [4])
   (.ret))
  (.skip [0,1])))
 (.seq (.region [⟨Y 7,.mv (.s 0),W⟩,
    ⟨Y 8,.mv (.s 1),W⟩,
    ⟨Y 9,.iad (.s 7) (.s 8) 1,W⟩,
    ⟨Y 10,.ld (.s 9),W⟩,
    ⟨Y 4,.mv (.s 10),W⟩] [4])
 (.ret)))) [.tmp 4]:=c!
instance ACv(l:Option Fp)(i:Int):Ct Go.Proofs.Tryz.prog (M2 l i) 413 [(eO 1 eI) l,eI i] (rS eI):=Fi AAh λr h a b=>by
  cases l with
  |none=>replace h:Y (-1)=Y r:=h;exact au|some l=>replace h:((XZ l).bind λ_=>(idx l i).bind λx=>Y x)=Y r:=h;exact au
instance(a b c):CT (EN a b c) 415 [.pt (Tj a).cells,eI b,eI c] rB:=Fe f415 0x813f07465f90030977015f5c030977015bcf7d7f027701a1a58c600e017f057701b1eecf7d36775a3202d4 [.bin (.a [0,0,0]) .eql (.s 38) (.s 57)] (EN.eq_1 ..)
instance(a):CT (Cc a) 414 [.pt (Tj a).cells] rB:=KE f414 0xaa14e4c8055e14e4c80514e4c80581880114e406c806262514e40604c80996ff14e406c806018e0132810114e406c80662262514e40604c809977f027760ff14e4c80585012c905cb181eecf43656214e4c805e201775a60700309779101 [] (Cc.eq_1 ..) (BM 0 20 19 0) (BG 2 38 37 0 (hT 6 eB))
noncomputable def cv:PC:=PC.of OL f386.body (xq bT 0xff00013cd90b77024802470446201d0ab2201d09b2040bb2370001a4a30600045ea4a3060004a4a30600043c1f0a770151011e0ab2370052371f0a77014fa7011e0ab237ffa4a30600048a0a20011d0ab2f707b201082032378165f8a4a3060004977f02b281151d0ab2817036775a37151d0ab200013f3e3d0200055e3f3e3d0200053f3e3d0200053c1f09770151011e09b2373f3e3d0200053f3e3d0200053c005237a0371f0977014fa7011e09b237ff3f3e3d0200058a0a20011d09b2f707b276088d5f8d735a5a370304b276a58c600e017305b29a5f65f83f3e3d020005e25a02b281151d09b28170735a5a37151d09b20060050308b20b030bb20001) []
theorem AAg:CK f386 cv []:=c!
theorem AA7:PC.x9 cv=X/\PC.zt 0 cv=X:=c!
abbrev Q_386(n:Nat):Prop:=∀(f:AM),CT (BL n f) 386 [.undef] (λr=>.bo (DG f) (DG r) 0 [])
theorem AAT(n:Nat)(_ih_386:Q_386 n)(f:AM):CT (BL (n+1) f) 386 [.undef] (λr=>.bo (DG f) (DG r) 0 []):=iS AAg AA7 λr h c b d=>by
  unfold cv;unfold f386;unfold BL at h;have:=BG 1 63 62 0 λs1:AM=>[(0,.bx (DG s1))];have:=BG 3 164 163 0 λs3:AM=>[(0,.bx (DG s3))];have:HJ 28 λ(a:AM)=>[(0,.bx (DG a))]:=⟨⟩;exact nz
theorem AAS:∀n:Nat,Q_386 n:=by
  intro n
  induction n with
  |zero=>exact(λf=>⟨λ_ h=>d_⟩)
  |succ n a=>exact AAT n a
instance(f):CT (HZ f) 386 [.undef] (λr=>.bo (DG f) (DG r) 0 []):=⟨λr h=>by
  obtain ⟨N,a⟩:=Cy h;exact((AAS N) f).snd r (a N (az _))⟩
end Go.Sf.Sc
