/- Contracts of the functions. -/
import Derived.Test.YthcncnllajfkfaaGreatCon0
set_option linter.all false
set_option maxRecDepth 100000
set_option maxHeartbeats 4000000
open Option renaming some->Y,none->W
open Bool renaming true->X
open List renaming map->v1
namespace Go.Sf.Sc
open Go Go.Sf Go.Proofs.Tryz
instance(a b):CT (Gp a b) 32 [Bj a,Bj b] rB:=Fe f32 0x803f7e7e720edddd65bdbddb [.call 66 [.s 23,.s 25,.c (.clo 23 [])]] (Gp.eq_1 ..)
instance(a b):CT (GK a b) 22 [Br a,Br b] (rT FN eI):=Fk f22 0x818436080402585708e20692585708e206585708e2063c014aad01e0f1ad8a059d7de4559d7de4810108040261585708e2069b78e2053d3c78e207923d3c78e2073d3c78e2073c014a3201e0f1328a059d6ae4559d6ae4810178e205613d3c78e2079b00c937df468abc0b7de472bc0b7de472bc0b6ae472bc0b6ae401a5621c42621c429b0b31711c420b6a381c4260c991 [] [.cell 4 (Y 2),.tmp 5] λr h c d=>by
  unfold GK at h;have:=BI 0 61 60 0 λs0:BN=>[(8,.bx [⟨X,lI s0.dl⟩,⟨X,lI s0.d3⟩])];have:=BI 2 88 87 0 λs2:BN=>[(8,.bx [⟨X,lI s2.dl⟩,⟨X,lI s2.d3⟩])];exact nz
instance(a):CT (NB a) 398 [X6 a] rB:=Fe f398 0x800a05aa300a05aa30d7 [] (NB.eq_1 ..)
instance AC3(b:ByteArray)(d:Int->K1)(e:FuncId)(a:Fq)[g:∀(c:Int),CT (d c) e (X6 c::a) rB]:CT (Ip b d) 399 [eS b,.clo e a] rI:=B8 f399 0x81557405be5f55748a0f1230aa0caabe81fc [] (Ip.eq_1 ..) (⟨⟩:HW 0 λ(f:Int)=>[(5,.tv (eI f))])
instance(a):CT (MH a) 401 [X6 a] rB:=Fe f401 0x8005aa30d7 [] (MH.eq_1 ..)
instance(a):CT (Py a) 400 [X6 a] rB:=Fe f400 0x8005300a0e300e30d7 [] (Py.eq_1 ..)
instance(a):CT (Nk a) 422 [X6 a] rB:=Fe f422 0x8005300a05aa30d7 [] (Nk.eq_1 ..)
instance(a):CT (JC a) 402 [eS a] (rT eI eI):=Fe f402 0x9bbccb8501cb8a05120577050c555d3f0d77d7 [.call 399 [.s 6,.c (.clo 422 [])]] (JC.eq_1 ..)
instance(a):CT (Px a) 403 [eS a] rB:=Fe f403 0x800e0d013f550c30d7 [.lst 1 [.c (.str ⟨#[45,62]⟩),.c (.str ⟨#[60,61]⟩),.c (.str ⟨#[62,61]⟩),.c (.str ⟨#[61,61]⟩),.c (.str ⟨#[33,61]⟩)]] (Px.eq_1 ..)
instance(a):CT (Lj a) 363 [eS a] (λr=>.tp [eI r.1,eI r.2.1,eI r.2.2]):=Fe f363 0x819bffcb9b053f5d819b0e5d9b309b755d055d9b01379b6c3f5d0e5d9b01379b6c3f5d0e5d123030d7 [.call 399 [.s 15,.c (.clo 400 [])],.call 399 [.s 23,.c (.clo 401 [])],.call 404 [.c (.str ⟨#[123,125,40,41,91,93,44,59,58,61,43,45,42,60,62,33,38,124,46,63]⟩),.s 42]] (Lj.eq_1 ..)
instance(a):CT (MI a) 303 [X5 a] (rT eS eB):=B8 f303 0x8180050c770a0559aa30819b11750137bfbff1c304c33c013f3f018559815a013f9300 [.mv (.c (.str ⟨#[]⟩)),.bin (.s) .add (.c (.str ⟨#[34]⟩)) (.s 13),.bin (.s) .add (.s 14) (.c (.str ⟨#[34]⟩)),.bin (.s) .eql (.s 16) (.c (.str ⟨#[]⟩)),.mv (.c (.str ⟨#[]⟩))] (MI.eq_1 ..) (⟨⟩:HJ 12 λ(b:ByteArray)=>[(4,.tv (eS b))])
instance(a):CT (Ep a) 236 [eS a] rB:=Fe f236 0x815d0175014630d7 [] (Ep.eq_1 ..)
instance(a b):CT (P0 a b) 296 [FM a,.pt (FM b).cells] rB:=Fe f296 0x8106c4fa [] (P0.eq_1 ..)
abbrev Q_297(n:Nat):Prop:=∀(t:AC)(a:Int),CT (Dw n t a) 297 [AK t,eI a] (λr=>.AaX 4 (v1 HT r))
theorem AAl(n:Nat)(_ih_297:Q_297 n)(t:AC)(a:Int):CT (Dw (n+1) t a) 297 [AK t,eI a] (λr=>.AaX 4 (v1 HT r)):=Fj f297 0x99044f8d41e7591905b50305b5033c191ab16c7de75904ce044e9330 [] λh=>by
  unfold Dw at h;have:HJ 14 λ(b:List ke)=>[(5,.xo 4 (v1 HT b))]:=⟨⟩;exact nz
theorem AAk:∀n:Nat,Q_297 n:=by
  intro n
  induction n with
  |zero=>exact(λt a=>⟨λ_ h=>c_⟩)
  |succ n b=>exact AAl n b
instance(t a):CT (OH t a) 297 [AK t,eI a] (λr=>.AaX 4 (v1 HT r)):=⟨λr h=>by
  obtain ⟨N,b⟩:=Cn h;exact((AAk N) t a).snd r (b N (ae _))⟩
instance(a b):CT (Ke a b) 360 [HT a,.pt (HT b).cells] rB:=Fe f360 0x8106c4fa [] (Ke.eq_1 ..)
instance(a):CT (KW a) 361 [lB a] rI:=B8 f361 0xa60acd000492ffcb0e3045309ba55d815ef90acd00049781b90b30d7 [] (KW.eq_1 ..) (BM 0 10 9 0)
instance(a b):CT (Gi a b) 298 [HT a,lA b] rI:=B8 f298 0x81378801060106013cee73b77e555a850bb780057eee7e5a555ad6b7ffcb0e105d81a559fa [] (Gi.eq_1 ..) (⟨⟩:HJ 40 λ(c:Bool)=>[(6,.tv (eB c))])
instance(a b):CT (Ln a b) 234 [AK a,eI b] rI:=B8 f234 0xa607060276d6044530d504b6e1300706028173b7f7b9f7820eb1ffcb73b78180bc5a555a9b0e10044501599ba559053d044b01c9d5e759fa [] (Ln.eq_1 ..) (BM 1 7 6 0)
instance(a b):CT (NC a b) 299 [eI a,.pt (AK b).cells] rB:=Fe f299 0x807359aae6 [] (NC.eq_1 ..)
instance(a b):CT (Pz a b) 301 [GA a,.pt (GA b).cells] rB:=Fe f301 0x8106c4fa [] (Pz.eq_1 ..)
instance(a b):CT (L0 a b) 302 [eI a,eI b] rB:=Fe f302 0x800a0a05aa7705300a05aae6 [] (L0.eq_1 ..)
instance(a b):CT (Lk a b) 235 [AK a,eI b] rI:=B8 f235 0x81ff3719013c72a503c603054201a503acb7195d0a080f7e30080f5a5d810e100745015a9ba5598110053d074b02c9074407d8fa [] (Lk.eq_1 ..) (⟨⟩:HJ 25 λ(c:Bool)=>[(25,.tv (eB c))])
instance(a):CT (EG a) 177 [AK a] (rT eS eI):=JK f177 0x81bf002e2d2cf192cb01596c0eb1074b8102c907440743f92e2d2cf1dcad301d1c1bf192cb01596c0eb1044b8101c9d5044377611d1c1bf1dc32ff37bf80eb55d981bf817359013f9300 [.mv (.c (.str ⟨#[]⟩)),.mv (.c (.str ⟨#[]⟩)),.mv (.c (.str ⟨#[]⟩)),.mv (.c (.str ⟨#[]⟩))] (EG.eq_1 ..) (BM 1 29 28 0) (BM 3 46 45 0)
instance(a b):CT (I2 a b) 248 [eI a,eI b] rB:=Fe f248 0x80057705e6 [] (I2.eq_1 ..)
instance(a):CT (OM a) 247 [eI a] rB:=Fe f247 0x81a530d7 [] (OM.eq_1 ..)
instance(a b):CT (PT a b) 251 [Ba a,eI b] rB:=Fe f251 0x800ebc7e720ebc5a6559fa [] (PT.eq_1 ..)
instance(a b):CT (ON a b) 250 [Ba a,.pt (A8 b).cells] rB:=Fe f250 0x81a5d962fa [] (ON.eq_1 ..)
instance(a):CT (Db a) 183 [A8 a] rI:=Fe f183 0x81378e105a37bf5996eb55d99a00 [.call 71 [.s 14,.c (.clo 247 [])]] (Db.eq_1 ..)
instance(a b):CT (ID a b) 304 [eI a,.pt (AK b).cells] rB:=Fe f304 0x817359e6 [] (ID.eq_1 ..)
instance(a b):CT (IE a b) 305 [Ba a,.pt (AK b).cells] rB:=Fe f305 0x81eb59fa [] (IE.eq_1 ..)
instance(a b c):CT (DF a b c) 306 [eI a,eI b,eI c] rB:=Fe f306 0x800577057702be [] (DF.eq_1 ..)
instance(a b):CT (OZ a b) 374 [eI a,.pt (AK b).cells] rB:=Fe f374 0x807359aae6 [] (OZ.eq_1 ..)
instance(a b):CT (Hg a b) 320 [AK a,lI b] rI:=Fe f320 0x81378e10019e017536fa [] (Hg.eq_1 ..)
instance(t a):CT (Fd t a) 289 [AK t,eI a] (rT lA eI):=nL f289 0xe81807011514070392014d0354044c0e170354044c01140114810107ea15140703819514991ab13704c07c0eb3b1f1409330 [] (Fd.eq_1 ..) (BI 0 21 20 0 (hX 7 4 HT)) (⟨⟩:HS 31) (⟨⟩:HX 33 λ(a:ke)(v:List ByteArray)=>ke.mk a.kq a.Low a.Aab v)
instance(a b c):CT (G9 a b c) 307 [AK a,BP b,Dk c] (rT HT eB):=Fk f307 0x81044bd504435a0137044b0246cc73015a01d15e59bd3637044b0246cc73bd590103c99391 [] [.cell 6 (Y 4),.tmp 7] λr h d e=>by
  unfold G9 at h;exact nz
instance(a b):CT (Jh a b) 405 [eI a,QT b] rB:=Fe f405 0x80055aee5a72bc5955599ad7 [] (Jh.eq_1 ..)
instance(a b):CT (Kj a b) 364 [eI a,D7 b] rI:=Fe f364 0x81ff3780088c034230088cad5d80055955599ad7 [] (Kj.eq_1 ..)
instance(a b):CT (I0 a b) 308 [eI a,lT b] rI:=B8 f308 0xa6de11000492d689554b04c98905430061de1100049781b9f79605aae6 [] (I0.eq_1 ..) (BM 0 19 18 0)
instance(a b):CT (Dz a b) 237 [AK a,BP b] rI:=B8 f237 0x8137a014d603acb7085b3c3b3a085b06923c3b3a085b063c3b3a085b063c01f86aa914856aa996a57da972a505b76aa901085d044b034975d58936044b05c9d50443085b613c3b3a085b06dca9993fb7967303ac550b7ef3b7960e10dd6510bd9e8c329e017536db [.mkx 1 [.bool false] (.s 55)] (Dz.eq_1 ..) (BI 0 60 59 0 (hX 8 1 eB))
instance(a b):CT (Ps a b) 366 [eI a,.pt (AK b).cells] rB:=Fe f366 0x817359e6 [] (Ps.eq_1 ..)
instance(a b):CT (Pt a b) 367 [Ba a,.pt (AK b).cells] rB:=Fe f367 0x81eb59fa [] (Pt.eq_1 ..)
instance(a b):CT (Ld a b) 310 [AK a,A8 b] rB:=Fe f310 0x80a5105a01a51059db [] (Ld.eq_1 ..)
instance(a b):CT (Ql a b) 369 [Dk a,.pt (Dk b).cells] rB:=Fe f369 0x80055a5a55c4fa [] (Ql.eq_1 ..)
instance(a b c):CT (M6 a b c) 311 [AK a,B3 b,eI c] rI:=Fe f311 0x81378e100445015b41c696055aee5aee8d41c659ee597273015a555a8406c936a901d15e596a38c63696736a38c6595559073d044b05c9d5e75b41c6015cb5 [] (M6.eq_1 ..)
instance(a b):CT (Lc a b) 238 [AK a,B3 b] rI:=B8 f238 0xa62f2e5b0492d601ca3681f92f2e5b04975b41c6ffcb735b41c6818073030441c6558d41ad8d41c69b088c38c6369e8c38c6db [] (Lc.eq_1 ..) (BM 1 47 46 0)
instance(a b):CT (JY a b) 418 [lI a,eI b] rI:=B8 f418 0xa6097860059296055e0530aa01960577055d815ef9097860059781fc [] (JY.eq_1 ..) (BM 0 9 8 0)
instance(a b):CT (NA a b) 419 [lI a,eI b] rB:=Fe f419 0x815d017530fc [] (NA.eq_1 ..)
instance(a b):CT (OY a b) 394 [A8 a,FN b] rI:=B8 f394 0xa61e1d1c5b059296a55b4103d85901a57d03d859815e00611e1d1c5b05dcadd6ed5ad60bc4db [] (OY.eq_1 ..) (BM 0 30 29 0)
instance(a b):CT (GF a b) 349 [A8 a,FN b] rI:=Fe f349 0x818c369e8cdb [] (GF.eq_1 ..)
instance(a b):CT (F5 a b) 312 [A8 a,FN b] (λr=>.tp [A8 r.1,Az r.2.1,eI r.2.2]):=Fk f312 0x70023b81848404460e5a0e593608d0042b2a2908705b0892014aad034803476204ad014aa9757e59014aad755a59b2efc8d8815e08d004612b2a2908705b08dcad08705b0519181708705b0892014a3201e09d590432815e08705b056119181708705b08dc3207c9378484604603f48c3660c907c991 [] [.cell 4 (Y 2),.cell 5 (Y 2),.tmp 6] λr h c d=>by
  unfold F5 at h;have:=BI 0 25 24 0 λs0:dr=>[(8,.bx [⟨X,lI s0.dl⟩,⟨X,lE s0.d3⟩])];have:=BI 2 43 42 0 λs2:dr=>[(8,.bx [⟨X,lI s2.dl⟩,⟨X,lE s2.d3⟩])];exact nz
instance(a b c):CT (EE a b c) 313 [A8 a,A8 b,Az c] rI:=JK f313 0xa6494847d0069296057e5e7e59555a5e5a59b9c4b2b2efefc8d8c8d896ebaa5d815ef9494847d006dcad708d2c2b2ad00692b99d599d59967359aa5d815e55048d612c2b2ad006dc3296ebed55d9d99e8c9e8c9a91 [] (EE.eq_1 ..) (BM 0 44 43 0) (BM 2 73 72 0)
instance(a):CT (Hw a) 370 [lI a] rI:=Fe f370 0x81152a142914991a30d7 [] (Hw.eq_1 ..)
instance(a b c):CT (D4 a b c) 314 [A8 a,A8 b,Az c] rB:=Fe f314 0x80eb0e5a7273590e59558cc59a91 [] (D4.eq_1 ..)
instance(a):CT (M5 a) 239 [B3 a] rI:=Fe f239 0x8137888c0d423638c6369e8c0d423638c6369e84df4907c91175360b423638ad9a00 [] (M5.eq_1 ..)
instance(a b):CT (MG a b) 315 [lI a,eI b] (rO lI):=B8 f315 0x8202bc780500049278050004780500043cb5e0c3cc308155ea780500049be501406002 [] (MG.eq_1 ..) (BI 0 8 7 0 (hO 5 lI))
instance(a):CT (M4 a) 240 [B3 a] (rT lI lI):=Fe f240 0x82820e0b3171c67d0d420e0b6a38c66a0d42014001409300 [] (M4.eq_1 ..)
instance(a b c):CT (Ni a b c) 316 [eI a,.pt (AK b).cells,.pt (A8 c).cells] rB:=Fe f316 0x815b4104439dc4c3be [] (Ni.eq_1 ..)
instance(a b):CT (Nl a b) 375 [AK a,eI b] (rO lI):=B8 f375 0x821829140555b5033c017de759ff19014fb30119bc6155b531ce01409330 [] (Nl.eq_1 ..) (⟨⟩:HW 0 λ(c:Int×Fp)=>[(1,.tv (eI c.1)),(5,.xo 1 (v1 eI c.2))])
instance(a b c):CT (Ll a b c) 321 [AK a,eI b,eI c] rB:=Fe f321 0x810e65b19ab502 [] (Ll.eq_1 ..)
instance(a b c d):CT (J3 a b c d) 244 [AK a,eI b,eI c,eI d] rB:=Fe f244 0x800e5b4107d8b1657d07d8b196eb300a05aa0eb330369a5b0103 [] (J3.eq_1 ..)
instance(a b c):CT (Iv a b c) 317 [eI a,.pt (A8 b).cells,.pt (AK c).cells] rB:=Fe f317 0x81a55e7e595e5ac436b2efc8d8c3be [] (Iv.eq_1 ..)
instance(a b c d):CT (I9 a b c d) 241 [AK a,A8 b,lI c,lI d] rB:=Fe f241 0x80a51030a510305c5b02 [] (I9.eq_1 ..)
instance(a):CT (F8 a) 408 [AJ a] rB:=Fe f408 0x8005b7557303ac737e73dd73bd737da90b6aa9d409c989ac9a00 [] (F8.eq_1 ..)
abbrev AbC(n:Nat):Prop:=∀(c:d5),CT (Bt n c) 371 [AJ c] rB
abbrev AbF(n:Nat):Prop:=∀(k:d5),CT (B7 n k) 410 [AJ k] rB
theorem AAr(n:Nat)(_ih_371:AbC n)(_ih_410:AbF n)(c:d5):CT (Bt (n+1) c) 371 [AJ c] rB:=Fj f371 0x80083f5a30ff04c304c35f5d70c33c720e9f55011a09e3055f1a09e3058170c33c720e9f555d70c33c720e9f555d0583329bed9a00 [.call 409 [.s 42,.c (.clo 410 [])]] λh=>by
  unfold Bt at h;have:HJ 10 λ(a:Bool)=>[(4,.tv (eB a))]:=⟨⟩;exact nz
theorem AAx(n:Nat)(_ih_371:AbC n)(_ih_410:AbF n)(k:d5):CT (B7 (n+1) k) 410 [AJ k] rB:=Fj f410 0x81a59f9a00 [] λh=>by
  unfold B7 at h;exact nz
theorem te:∀n:Nat,AbC n/\AbF n:=by
  intro n
  induction n with
  |zero=>exact⟨(λc=>⟨λ_ h=>c_⟩),(λk=>⟨λ_ h=>c_⟩)⟩
  |succ n a=>exact⟨AAr n a.1 a.2,AAx n a.1 a.2⟩
instance(c):CT (IR c) 371 [AJ c] rB:=⟨λr h=>by
  obtain ⟨N,a⟩:=Cn h;exact((te N).1 c).snd r (a N (ae _))⟩
instance(k):CT (TA k) 410 [AJ k] rB:=⟨λr h=>by
  obtain ⟨N,a⟩:=Cn h;exact((te N).2 k).snd r (a N (ae _))⟩
abbrev Q_372(n:Nat):Prop:=∀(c:d5),CT (Cw n c) 372 [AJ c] (rT eI eI)
theorem AAt(n:Nat)(_ih_372:Q_372 n)(c:d5):CT (Cw (n+1) c) 372 [AJ c] (rT eI eI):=Fj f372 0x9b30700270025f018559700103c10b70010692302caa309b75fb4b0ac9fb4370010361c10b700106dcad9b309300 [] λh=>by
  unfold Cw at h;have:=BI 0 13 12 0 λs0:Int×Int=>[(4,.tv (eI s0.1)),(5,.tv (eI s0.2))];have:HJ 31 λ(a:Int)=>[(5,.tv (eI a))]:=⟨⟩;exact nz
theorem AAs:∀n:Nat,Q_372 n:=by
  intro n
  induction n with
  |zero=>exact(λc=>⟨λ_ h=>c_⟩)
  |succ n a=>exact AAt n a
instance(c):CT (KY c) 372 [AJ c] (rT eI eI):=⟨λr h=>by
  obtain ⟨N,a⟩:=Cn h;exact((AAs N) c).snd r (a N (ae _))⟩
instance(a):CT (GX a) 318 [AJ a] rI:=Fe f318 0xfe05aa5d81759ff39f9a00 [] (GX.eq_1 ..)
instance(a b):CT (JJ a b) 411 [Dk a,.pt [eI b]] rB:=Fe f411 0xba036aa9fa [] (JJ.eq_1 ..)
instance(a b c):CT (FD a b c) 373 [AK a,BP b,eI c] rI:=B8 f373 0xa67804033c083d014b05314b0b4983ff3701cc107e0061b703780403083d014b0bc901d68936015cb5 [] (FD.eq_1 ..) (⟨⟩:HW 0 λ(d:Int)=>[(8,.tv (.pt [eI d]))])
abbrev Q_319(n:Nat):Prop:=∀(t:AC)(p:d7)(c:d5),CT (Ce n t p c) 319 [AK t,BP p,AJ c] rI
theorem AAn(n:Nat)(_ih_319:Q_319 n)(t:AC)(p:d7)(c:d5):CT (Ce (n+1) t p c) 319 [AK t,BP p,AJ c] rI:=Fj f319 0xa635343304030592d69f8936094b0ac9fb430061353433040305dcad708d708d3cd48937888ca9cfcf9e8ca9cfcfd6b78936b9b7b7d409c989ac85599abf9300 [.Abp (.s 1)] λh=>by
  unfold Ce at h;have:=BM 0 53 52 0;exact nz
theorem AAm:∀n:Nat,Q_319 n:=by
  intro n
  induction n with
  |zero=>exact(λt p c=>⟨λ_ h=>c_⟩)
  |succ n a=>exact AAn n a
instance(t p c):CT (Od t p c) 319 [AK t,BP p,AJ c] rI:=⟨λr h=>by
  obtain ⟨N,a⟩:=Cn h;exact((AAm N) t p c).snd r (a N (ae _))⟩
instance(a b c):CT (D0 a b c) 242 [AK a,BP b,AJ c] rI:=Fe f242 0x810e9f8936d69fd689369a91 [] (D0.eq_1 ..)
instance(a b):CT (Jy a b) 178 [AK a,B3 b] rI:=Fe f178 0x810e9f104289ad36f3303638c63682d1cad6cad6ca36d689ad36f3599e017536db [] (Jy.eq_1 ..)
instance(a b c):CT (Mp a b c) 243 [AK a,eI b,lI c] rI:=B8 f243 0xa623222102049296057e5e77055abb044b8103c9d50443f923222102049781b9f70b30d1b137830241e759b9d93093b502 [] (Mp.eq_1 ..) (BM 0 35 34 0)
instance(a b):CT (HU a b) 179 [AK a,Bj b] (rT eI eI):=JK f179 0x9b003e3d3c5b0592cb01cc5e7ebd5e5abd5936cb0185ed59b281efc843f93e3d3c5b05dc0141325b022827265b0592cb306c0e9d7eb19b9d5b02612827265b05dc3832cb850bbd0b7ecb7c8c32cb7c0175363091 [] (HU.eq_1 ..) (BM 0 40 39 0) (BM 2 62 61 0)
instance(a b c):CT (Fy a b c) 121 [AK a,(eL 25 B3) b,Bj c] rI:=B8 f121 0x815d01756236055b1b1a1905030592d6ca36194b0cc9ca1943055b611b1a190503059781b9f79e017536015c30 [] (Fy.eq_1 ..) (BM 0 27 26 0)
instance(a b c):CT (IX a b c) 165 [AK a,B3 b,Bj c] rI:=Fe f165 0x815d01756236d6ca369e0175369a91 [] (IX.eq_1 ..)
instance(a b):CT (Mb a b) 384 [eI a,.pt (AK b).cells] rB:=Fe f384 0x817359e6 [] (Mb.eq_1 ..)
instance(a b):CT (Mc a b) 385 [Ba a,.pt (AK b).cells] rB:=Fe f385 0x81eb59fa [] (Mc.eq_1 ..)
instance(a b):CT (Gv a b) 340 [AK a,A8 b] rB:=Fe f340 0x80a5105a01a51059db [] (Gv.eq_1 ..)
instance(a b c):CT (Fc a b c) 274 [AK a,A8 b,A8 c] rI:=B8 f274 0xfe088c3601088c36708d181716d006929e8c8407c9360243708d61181716d0069702c7c59e0175369a91 [] (Fc.eq_1 ..) (BM 0 24 23 0)
instance(a b):CT (KV a b) 393 [AK a,eI b] (rT lI eI):=B8 f393 0xe8020701de07025592de070255de0702553cb5e0c38e3036810107eade0702559759e537e57c0eb3b130409330 [] (KV.eq_1 ..) (BI 0 19 18 0 (hO 7 lI))
instance(a):CT (Hn a) 348 [AK a] (rO (eL 1 (eL 1 eB))):=JK f348 0x820231c1310492b5e01802c10531051c1b1ac10531089201f80114815ec1053105611c1b1ac1053108978101d1b1993fd981013161c131049759e501409300 [.mkx 1 [.bool false] (.s 18)] (Hn.eq_1 ..) (BI 0 13 12 0 (hO 3 (eL 1 (eL 1 eB)))) (BI 2 28 27 0 (hX 5 1 eB))
instance(a b c d):CT (Ho a b c d) 280 [AK a,A8 b,A8 c,Az d] rI:=JK f280 0xa647464507a1069296057e5e7e59555a5e5a59b9c4b2b2efefc8d8c8d896ebaa5d815ef947464507a106dcad07a1032524230907a1079237885e9d595e9d5901967359aa5d819d07a103612524230907a107dc32828c96ebed55d9d9015c91 [] (Ho.eq_1 ..) (BM 0 37 36 0) (BM 2 71 70 0)
theorem ACU(l:Fp)(r:Bool)(h:JB l=Y r):AT prog 347 [lI l] (.sh (eB r)):=by
  unfold JB at h;rw[<-tR]at h;split at h
  · rename_i a
    cases h;exact jP l a
  .cases h
instance ADG(l:Fp):Ct Go.Proofs.Tryz.prog (JB l) 347 [lI l] (rS eB):=⟨ACU l⟩
instance(a b c d e):CT (Gd a b c d e) 278 [AK a,A8 b,A8 c,Az d,eB e] rI:=Fe f278 0xfe0a0e5a6559309e8c36c59e8cc5015c5c0401 [] (Gd.eq_1 ..)
instance(a b c):CT (FK a b c) 217 [AK a,BP b,Bj c] rI:=Fe f217 0x815d01756236d689369a91 [] (FK.eq_1 ..)
instance(a b):CT (FL a b) 276 [QT a,lI b] rI:=Fe f276 0xba5a5e5901375a8559fa [] (FL.eq_1 ..)
instance(a b):CT (Hu a b) 343 [eI a,eI b] (rT eI MM):=Fe f343 0x9b553f553f013f5d816b01283f013f30fc [.cvt .u64 (.s 9),.cvt .u64 (.s 11),.bin (.w) .shr (.s 16) (.c (.int .u64 63)),.bin (.w) .shr (.s 18) (.c (.int .u64 63)),.cvt .i64 (.s 21)] (Hu.eq_1 ..)
instance(a b):CT (F9 a b) 342 [QT a,.pt [lI b]] (λr=>.tp [eI r.1,MM r.2.1,eB r.2.2]):=Fe f342 0x819b309b755a5e5903ff379b807303595559819b309b755aba59779330 [] (F9.eq_1 ..)
instance(a b):CT (HF a b) 277 [D7 a,lI b] rB:=Fe f277 0x800a05aa59eeaa59810eb30e300e30960830085d9b116b010f3603425d9b116b010f36ad5d10db [] (HF.eq_1 ..)
instance(a b c):CT (GU a b c) 219 [BP a,Bj b,Az c] (rT lI eI):=JK f219 0xe81808d34b4a08049237e588201489d404c989054308ea4c4b4a0804dcac085b191817cdd0089237e58501201436a91918170c0bcdd00a1918170c0bcdd00a3c01f801f8057da9301401148a0817d30114555d6aa9815e5a5e5ec47e044b05c9d50443085b61191817cdd008dca999993fb73fb730409391 [.mkx 1 [.int .i64 0] (.s 17),.mkx 1 [.bool false] (.s 20)] (GU.eq_1 ..) (BI 0 25 24 0 λs0:Fp×a5=>[(8,.xo 1 (v1 eI s0.1)),(9,.xo 1 (v1 eB s0.2))]) (BM 2 76 75 0)
instance(a b c d):CT (FJ a b c d) 279 [AK a,BP b,Bj c,Az d] (rT lI eI):=Fe f279 0xe86b8c628937e57c8ccfcf3637e57cec893630405c91 [] (FJ.eq_1 ..)
instance(a b c d):CT (Kx a b c d) 220 [AK a,B3 b,Bj c,Bn d] rI:=Fe f220 0x81f37e019ed1cf6289ad36b90e030f42cfcf3638ad36015c91 [] (Kx.eq_1 ..)
instance(a b c d):CT (Ge a b c d) 221 [AK a,A8 b,A8 c,Az d] (rT A8 eI):=Fk f221 0x8184360c08022726250c08060692014a3201e09d590432815e0c0802612726250c080606dc32025007c93f0e5a37840103f48c36c537840103f48cc50107c95c91 [.Aah [.z ⟨X,.list 1 []⟩,.w 34]] [.cell 8 (Y 2),.tmp 9] λr h e f=>by
  unfold Ge at h;have:=BI 0 39 38 0 λs0:dr=>[(12,.bx [⟨X,lI s0.dl⟩,⟨X,lE s0.d3⟩])];exact nz
instance(a):CT (Dc a) 281 [Ji a] rI:=Fe f281 0x818caccf9e8cc636a9cf9a00 [] (Dc.eq_1 ..)
instance(a b):CT (HC a b) 350 [lI a,lI b] (rO (eL 2 Sb)):=JK f350 0x8202057209056005920a090560050a0907a16007760a0907a160070a0907a160073c0202480247054630028a0aa577a57705bbbb0a09056005f50a0907a16007ba5d55ea0a0905600597c3c002406002 [] (HC.eq_1 ..) (BI 0 10 9 0 (hO 5 (eL 2 Sb))) (BI 2 7 0 0 (hO 5 (eL 2 Sb)))
instance(a):CT (EN a) 282 [Ji a] (rT (eL 2 Sb) (eL 2 Sb)):=Fe f282 0x82820e7dac7dc60e6aac6ac6024002409300 [] (EN.eq_1 ..)
instance(a):CT (D3 a) 351 [Ji a] (rO lI):=B8 f351 0x8202310acd3105920acd31050acd31053cb5e0c3cc016aac9b9d31610acd3105dc38c6e501409300 [] (D3.eq_1 ..) (BI 0 10 9 0 (hO 3 lI))
instance(a):CT (Dn a) 283 [Ji a] (rO lI):=B8 f283 0x82020401c10be30692c10be306c10be3063cb5e0c38a0a0e7e300e5a30a5017dc6b281efc89004eac10be306dc0141a9e5820e084401409300 [] (Dn.eq_1 ..) (BI 0 13 12 0 (hO 4 lI))
instance(a b c):CT (Ht a b c) 284 [eI a,lI b,lI c] (rO lI):=JK f284 0x82020a01201f1e0a0492201f1e0a04201f1e0a043cb5e0c3885d815e72ea201f1e0a049798e5070111100f0702059211100f07020511100f0702053c01f80114cc309b9d07ea11100f0702059781993f304002be [.mkx 1 [.bool false] (.s 13)] (Ht.eq_1 ..) (BI 0 17 16 0 (hX 7 1 eB)) (BI 2 32 31 0 (hO 10 lI))
instance(a b c d):CT (H5 a b c d) 222 [A8 a,A8 b,FN c,Az d] (rT FN eI):=Fk f222 0x8013b818404460e5a5aed0ec4d9ff37df4681730e084481df46ba7301f782d10844378460f40e0844084b0dc90646c5c560c95c91 [] [.cell 8 (Y 2),.tmp 9] λr h e f=>by
  unfold H5 at h;exact nz
instance(a b c d e f):CT (GW a b c d e f) 352 [AK a,BP b,AJ c,Bj d,Bn e,eB f] rI:=Fe f352 0x81f37e019ed1cf628936d6b132cfcf369e01756236d69f89369a5c5cbc [] (GW.eq_1 ..)
instance(a b c):CT (HD a b c) 428 [eI a,lI b,lI c] (rO lI):=B8 f428 0x821807010f0e0d0702059201f85e77149b9d07ea0f0e0d0702059781991a3047014002be [] (HD.eq_1 ..) (BI 0 15 14 0 (hX 7 1 eI))
theorem ABB:CK f413 (.seq (.region [⟨Y 4,.mv (.c (.int .i64 0)),W⟩] [0,1])
 (.seq (.seq (.region [⟨Y 5,.mv (.s 0),W⟩,
    ⟨Y 6,.isn (.s 5),W⟩] [0,1,6])
  (.cond (.s 6) (.seq (.region [⟨Y 4,.mv (.c (.int .i64 (-1))),W⟩] [4])
   (.ret))
  (.skip [0,1])))
 (.seq (.region [⟨Y 7,.mv (.s 0),W⟩,
    ⟨Y 8,.mv (.s 1),W⟩,
    ⟨Y 9,.iad (.s 7) (.s 8) 1,W⟩,
    ⟨Y 10,.ld (.s 9),W⟩,
    ⟨Y 4,.mv (.s 10),W⟩] [4])
 (.ret)))) [.tmp 4]:=b!
instance AC6(l:Option Fp)(i:Int):Ct Go.Proofs.Tryz.prog (M7 l i) 413 [(eO 1 eI) l,eI i] (rS eI):=Fi ABB λr h a b=>by
  cases l with
  |none=>replace h:Y (-1)=Y r:=h;exact au|some l=>replace h:((XL l).bind λ_=>(idx l i).bind λx=>Y x)=Y r:=h;exact au
instance(a b c):CT (EW a b c) 415 [.pt (TN a).cells,eI b,eI c] rB:=Fe f415 0x813f07465e7e030971015e5a0309710159c8907d027101960577055d0e017d057101b2efc8903171383002be [.bin (.a [0,0,0]) .eql (.s 38) (.s 57)] (EW.eq_1 ..)
instance(a):CT (Ck a) 414 [.pt (TN a).cells] rB:=JK f414 0xa614def2055f14def20514def20581880114de06f206262514de0604f20992ff14de06f206018e77810114de06f20661262514de0604f209977d02715dff14def20585012c7e5ab281efc843f914def205dc0171385d7303097130d7 [] (Ck.eq_1 ..) (BM 0 20 19 0) (BI 2 38 37 0 (hT 6 eB))
noncomputable def dE:PC:=PC.of Nr f386.body (xq bT 0xffd73c014a0b71024802470446201d0aa2201d09a2040ba232d7a4a30600045fa4a3060004a4a30600043c1f0a710151011e0aa2320052321f0a71014fb3011e0aa232ffa4a30600048a0a20011d0aa2010307a201082030328160eaa4a3060004977d02a281151d0aa2817331713832151d0aa2d73f3e3d0200055f3f3e3d0200053f3e3d0200053c1f09710151011e09a2323f3e3d0200053f3e3d0200053c005232a0321f0971014fb3011e09a232ff3f3e3d0200058a0a20011d09a2010307a272089d5e9d6a3838320304a2ee77055d0e016a05a29b5e60ea3f3e3d020005dc3802a281151d09a281736a383832151d09a2005d050308a20b030ba2d7) []
theorem ABA:CK f386 dE []:=b!
theorem ABY:PC.sB dE=X/\PC.tn 0 dE=X:=b!
abbrev Q_386(n:Nat):Prop:=∀(f:AM),CT (BJ n f) 386 [.undef] (λr=>.bo (DU f) (DU r) 0 [])
theorem AAv(n:Nat)(_ih_386:Q_386 n)(f:AM):CT (BJ (n+1) f) 386 [.undef] (λr=>.bo (DU f) (DU r) 0 []):=aA ABA ABY λr h c b d=>by
  unfold dE;unfold f386;unfold BJ at h;have:=BI 1 63 62 0 λs1:AM=>[(0,.bx (DU s1))];have:=BI 3 164 163 0 λs3:AM=>[(0,.bx (DU s3))];have:HJ 28 λ(a:AM)=>[(0,.bx (DU a))]:=⟨⟩;exact nz
theorem AAu:∀n:Nat,Q_386 n:=by
  intro n
  induction n with
  |zero=>exact(λf=>⟨λ_ h=>c_⟩)
  |succ n a=>exact AAv n a
instance(f):CT (Hs f) 386 [.undef] (λr=>.bo (DU f) (DU r) 0 []):=⟨λr h=>by
  obtain ⟨N,a⟩:=Cn h;exact((AAu N) f).snd r (a N (ae _))⟩
end Go.Sf.Sc
