/- Contracts of the functions. -/
import Derived.Test.YthcncnllajfkfaaGreatCon0
set_option linter.all false
set_option maxRecDepth 100000
set_option maxHeartbeats 4000000
open Option renaming some->Y,none->W
open Bool renaming true->X
open List renaming map->v5
namespace Go.Sf.Sc
open Go Go.Sf Go.Proofs.Tryz
instance(a b):CT (Ge a b) 32 [BY a,BY b] rB:=Fe f32 0x803f7e7e720edede65bdbddc [.call 66 [.s 23,.s 25,.c (.clo 23 [])]] (Ge.eq_1 ..)
instance(a b):CT (GA a b) 22 [Bg a,Bg b] (rT FC eI):=Fk f22 0x818436080402585708e20692585708e206585708e2063c014aad01dbf1ad8a05977de455977de4810108040261585708e2069e78e2053d3c78e207923d3c78e2073d3c78e2073c014a3201dbf1328a05976ae455976ae4810178e205613d3c78e2079e00c937e0468abc0b7de472bc0b7de472bc0b6ae472bc0b6ae401a5621c42621c429e0b31711c420bf51c425fc991 [] [.cell 4 (Y 2),.tmp 5] λr h c d=>by
  unfold GA at h;have:=A8 0 61 60 0 λs0:BC=>[(8,.bx [⟨X,lI s0.dl⟩,⟨X,lI s0.d3⟩])];have:=A8 2 88 87 0 λs2:BC=>[(8,.bx [⟨X,lI s2.dl⟩,⟨X,lI s2.d3⟩])];exact nz
instance(a):CT (M2 a) 398 [X0 a] rB:=Fe f398 0x800a05aa300a05aa30d7 [] (M2.eq_1 ..)
instance ACu(b:ByteArray)(c:Int->K1)(d:FuncId)(a:Fq)[g:∀(e:Int),CT (c e) d (X0 e::a) rB]:CT (Ie b c) 399 [eS b,.clo d a] rI:=By f399 0x81557305be6055738a0f1230aa0caabe81fa [] (Ie.eq_1 ..) (⟨⟩:HW 0 λ(f:Int)=>[(5,.tv (eI f))])
instance(a):CT (L6 a) 401 [X0 a] rB:=Fe f401 0x8005aa30d7 [] (L6.eq_1 ..)
instance(a):CT (Po a) 400 [X0 a] rB:=Fe f400 0x8005300a0e300e30d7 [] (Po.eq_1 ..)
instance(a):CT (Na a) 422 [X0 a] rB:=Fe f422 0x8005300a05aa30d7 [] (Na.eq_1 ..)
instance(a):CT (I2 a) 402 [eS a] (rT eI eI):=Fe f402 0x9ebccb8501cb8a05120577050c555e3f0d77d7 [.call 399 [.s 6,.c (.clo 422 [])]] (I2.eq_1 ..)
instance(a):CT (Pn a) 403 [eS a] rB:=Fe f403 0x800e0d013f550c30d7 [.lst 1 [.c (.str ⟨#[45,62]⟩),.c (.str ⟨#[60,61]⟩),.c (.str ⟨#[62,61]⟩),.c (.str ⟨#[61,61]⟩),.c (.str ⟨#[33,61]⟩)]] (Pn.eq_1 ..)
instance(a):CT (LY a) 363 [eS a] (λr=>.tp [eI r.1,eI r.2.1,eI r.2.2]):=Fe f363 0x819effcb9e053f5e819e0e5e9e309e755e055e9e01379e6c3f5e0e5e9e01379e6c3f5e0e5e123030d7 [.call 399 [.s 15,.c (.clo 400 [])],.call 399 [.s 23,.c (.clo 401 [])],.call 404 [.c (.str ⟨#[123,125,40,41,91,93,44,59,58,61,43,45,42,60,62,33,38,124,46,63]⟩),.s 42]] (LY.eq_1 ..)
instance(a):CT (L7 a) 303 [Xz a] (rT eS eB):=By f303 0x8180050c770a0559aa30819e11750137bfbff1c304c33c013f3f018559815a013f9300 [.mv (.c (.str ⟨#[]⟩)),.bin (.s) .add (.c (.str ⟨#[34]⟩)) (.s 13),.bin (.s) .add (.s 14) (.c (.str ⟨#[34]⟩)),.bin (.s) .eql (.s 16) (.c (.str ⟨#[]⟩)),.mv (.c (.str ⟨#[]⟩))] (L7.eq_1 ..) (⟨⟩:HJ 12 λ(b:ByteArray)=>[(4,.tv (eS b))])
instance(a):CT (Ef a) 236 [eS a] rB:=Fe f236 0x815e0175014630d7 [] (Ef.eq_1 ..)
instance(a b):CT (Pq a b) 296 [FB a,.pt (FB b).cells] rB:=Fe f296 0x8106c4fc [] (Pq.eq_1 ..)
abbrev Q_297(n:Nat):Prop:=∀(t:AC)(a:Int),CT (Dl n t a) 297 [AK t,eI a] (λr=>.AaW 4 (v5 HF r))
theorem AAc(n:Nat)(_ih_297:Q_297 n)(t:AC)(a:Int):CT (Dl (n+1) t a) 297 [AK t,eI a] (λr=>.AaW 4 (v5 HF r)):=Fj f297 0x99044f8d41e7591905b50305b5033c191ab16c7de75904ce044e9330 [] λh=>by
  unfold Dl at h;have:HJ 14 λ(b:List ke)=>[(5,.xo 4 (v5 HF b))]:=⟨⟩;exact nz
theorem AAb:∀n:Nat,Q_297 n:=by
  intro n
  induction n with
  |zero=>exact(λt a=>⟨λ_ h=>c_⟩)
  |succ n b=>exact AAc n b
instance(t a):CT (N7 t a) 297 [AK t,eI a] (λr=>.AaW 4 (v5 HF r)):=⟨λr h=>by
  obtain ⟨N,b⟩:=Cd h;exact((AAb N) t a).snd r (b N (ae _))⟩
instance(a b):CT (KU a b) 360 [HF a,.pt (HF b).cells] rB:=Fe f360 0x8106c4fc [] (KU.eq_1 ..)
instance(a):CT (KL a) 361 [lB a] rI:=By f361 0xa70acd000492ffcb0e3045309ea55e815dfb0acd00049a81b90b30d7 [] (KL.eq_1 ..) (BB 0 10 9 0)
instance(a b):CT (GZ a b) 298 [HF a,lA b] rI:=By f298 0x81378801060106013cec74b77e555a850bb780057eec7e5a555ad6b7ffcb0e105e81a559fc [] (GZ.eq_1 ..) (⟨⟩:HJ 40 λ(c:Bool)=>[(6,.tv (eB c))])
instance(a b):CT (Lb a b) 234 [AK a,eI b] rI:=By f234 0xa707060276d6044530d504b6e1300706028174b7f8b9f8820eb1ffcb74b78180bc5a555a9e0e10044501599ea559053d044b01c9d5e759fc [] (Lb.eq_1 ..) (BB 1 7 6 0)
instance(a b):CT (M3 a b) 299 [eI a,.pt (AK b).cells] rB:=Fe f299 0x807459aae6 [] (M3.eq_1 ..)
instance(a b):CT (Pp a b) 301 [F1 a,.pt (F1 b).cells] rB:=Fe f301 0x8106c4fc [] (Pp.eq_1 ..)
instance(a b):CT (Lq a b) 302 [eI a,eI b] rB:=Fe f302 0x800a0a05aa7705300a05aae6 [] (Lq.eq_1 ..)
instance(a b):CT (LZ a b) 235 [AK a,eI b] rI:=By f235 0x81ff3719013c72a503c603054201a503acb7195e0a080f7e30080f5a5e810e100745015a9ea5598110053d074b02c9074407d8fc [] (LZ.eq_1 ..) (⟨⟩:HJ 25 λ(c:Bool)=>[(25,.tv (eB c))])
instance(a):CT (D6 a) 177 [AK a] (rT eS eI):=I9 f177 0x81bf002e2d2cf192cb01596c0eb1074b8102c907440743fb2e2d2cf1ddad301d1c1bf192cb01596c0eb1044b8101c9d5044377611d1c1bf1dd32ff37bf80eb55d981bf817459013f9300 [.mv (.c (.str ⟨#[]⟩)),.mv (.c (.str ⟨#[]⟩)),.mv (.c (.str ⟨#[]⟩)),.mv (.c (.str ⟨#[]⟩))] (D6.eq_1 ..) (BB 1 29 28 0) (BB 3 46 45 0)
instance(a b):CT (Is a b) 248 [eI a,eI b] rB:=Fe f248 0x80057705e6 [] (Is.eq_1 ..)
instance(a):CT (OC a) 247 [eI a] rB:=Fe f247 0x81a530d7 [] (OC.eq_1 ..)
instance(a b):CT (PH a b) 251 [BQ a,eI b] rB:=Fe f251 0x800ebc7e720ebc5a6559fc [] (PH.eq_1 ..)
instance(a b):CT (OD a b) 250 [BQ a,.pt (Ay b).cells] rB:=Fe f250 0x81a5d962fc [] (OD.eq_1 ..)
instance(a):CT (DQ a) 183 [Ay a] rI:=Fe f183 0x81378e105a37bf5996eb55d99b00 [.call 71 [.s 14,.c (.clo 247 [])]] (DQ.eq_1 ..)
instance(a b):CT (H0 a b) 304 [eI a,.pt (AK b).cells] rB:=Fe f304 0x817459e6 [] (H0.eq_1 ..)
instance(a b):CT (H4 a b) 305 [BQ a,.pt (AK b).cells] rB:=Fe f305 0x81eb59fc [] (H4.eq_1 ..)
instance(a b c):CT (C5 a b c) 306 [eI a,eI b,eI c] rB:=Fe f306 0x800577057702be [] (C5.eq_1 ..)
instance(a b):CT (OP a b) 374 [eI a,.pt (AK b).cells] rB:=Fe f374 0x807459aae6 [] (OP.eq_1 ..)
instance(a b):CT (HT a b) 320 [AK a,lI b] rI:=Fe f320 0x81378e10019f017536fc [] (HT.eq_1 ..)
instance(t a):CT (FR t a) 289 [AK t,eI a] (rT lA eI):=nC f289 0xe81807011514070392014d0354044c0e170354044c01140114810107ea15140703819514991ab13704c07c0eb3b1f1409330 [] (FR.eq_1 ..) (A8 0 21 20 0 (hX 7 4 HF)) (⟨⟩:HS 31) (⟨⟩:HX 33 λ(a:ke)(v:List ByteArray)=>ke.mk a.kq a.Low a.z5 v)
instance(a b c):CT (Gy a b c) 307 [AK a,BE b,Da c] (rT HF eB):=Fk f307 0x81044bd504435a0137044b0246cc74015a01d15d59bd3637044b0246cc74bd590103c99391 [] [.cell 6 (Y 4),.tmp 7] λr h d e=>by
  unfold Gy at h;exact nz
instance(a b):CT (JX a b) 405 [eI a,QI b] rB:=Fe f405 0x80055aec5a72bc5955599bd7 [] (JX.eq_1 ..)
instance(a b):CT (KZ a b) 364 [eI a,Dx b] rI:=Fe f364 0x81ff3780088c034230088cad5e80055955599bd7 [] (KZ.eq_1 ..)
instance(a b):CT (Iq a b) 308 [eI a,lT b] rI:=By f308 0xa7df11000492d689554b04c98905430061df1100049a81b9f89605aae6 [] (Iq.eq_1 ..) (BB 0 19 18 0)
instance(a b):CT (Do a b) 237 [AK a,BE b] rI:=By f237 0x8137a014d603acb7085b3c3b3a085b06923c3b3a085b063c3b3a085b063c01f96aa914856aa996a57da972a505b76aa901085e044b034975d58936044b05c9d50443085b613c3b3a085b06dda9993fb7967403ac550b7ef3b7960e10de6510bd9f8c329f017536dc [.mkx 1 [.bool false] (.s 55)] (Do.eq_1 ..) (A8 0 60 59 0 (hX 8 1 eB))
instance(a b):CT (Ph a b) 366 [eI a,.pt (AK b).cells] rB:=Fe f366 0x817459e6 [] (Ph.eq_1 ..)
instance(a b):CT (Pj a b) 367 [BQ a,.pt (AK b).cells] rB:=Fe f367 0x81eb59fc [] (Pj.eq_1 ..)
instance(a b):CT (LS a b) 310 [AK a,Ay b] rB:=Fe f310 0x80a5105a01a51059dc [] (LS.eq_1 ..)
instance(a b):CT (Qb a b) 369 [Da a,.pt (Da b).cells] rB:=Fe f369 0x80055a5a55c4fc [] (Qb.eq_1 ..)
instance(a b c):CT (Mw a b c) 311 [AK a,Bt b,eI c] rI:=Fe f311 0x81378e100445015b41c696055aec5aec8d41c659ec597274015a555a8406c936a901d15d59f5c6369674f5c6595559073d044b05c9d5e75b41c6015cb5 [] (Mw.eq_1 ..)
instance(a b):CT (LR a b) 238 [AK a,Bt b] rI:=By f238 0xa72f2e5b0492d601ca3681fb2f2e5b049a5b41c6ffcb745b41c6818074030441c6558d41ad8d41c69e088c38c6369f8c38c6dc [] (LR.eq_1 ..) (BB 1 47 46 0)
instance(a b):CT (JO a b) 418 [lI a,eI b] rI:=By f418 0xa709785f059296055d0530aa01960577055e815dfb09785f059a81fa [] (JO.eq_1 ..) (BB 0 9 8 0)
instance(a b):CT (M1 a b) 419 [lI a,eI b] rB:=Fe f419 0x815e017530fa [] (M1.eq_1 ..)
instance(a b):CT (OO a b) 394 [Ay a,FC b] rI:=By f394 0xa71e1d1c5b059296a55b4103d85901a57d03d859815d00611e1d1c5b05ddadd6ee5ad60bc4dc [] (OO.eq_1 ..) (BB 0 30 29 0)
instance(a b):CT (F5 a b) 349 [Ay a,FC b] rI:=Fe f349 0x818c369f8cdc [] (F5.eq_1 ..)
instance(a b):CT (Fu a b) 312 [Ay a,FC b] (λr=>.tp [Ay r.1,Ap r.2.1,eI r.2.2]):=Fk f312 0x70023b81848404460e5a0e593608d0042b2a2908705b0892014aad034803476204ad014aa9757e59014aad755a59b2efc8d8815d08d004612b2a2908705b08ddad08705b0519181708705b0892014a3201db97590432815d08705b056119181708705b08dd3207c93784845f4603f48c365fc907c991 [] [.cell 4 (Y 2),.cell 5 (Y 2),.tmp 6] λr h c d=>by
  unfold Fu at h;have:=A8 0 25 24 0 λs0:dr=>[(8,.bx [⟨X,lI s0.dl⟩,⟨X,lE s0.d3⟩])];have:=A8 2 43 42 0 λs2:dr=>[(8,.bx [⟨X,lI s2.dl⟩,⟨X,lE s2.d3⟩])];exact nz
instance(a b c):CT (D4 a b c) 313 [Ay a,Ay b,Ap c] rI:=I9 f313 0xa7494847d0069296057e5d7e59555a5d5a59b9c4b2b2efefc8d8c8d896ebaa5e815dfb494847d006ddad708d2c2b2ad00692b997599759967459aa5e815d55048d612c2b2ad006dd3296ebee55d9d99f8c9f8c9b91 [] (D4.eq_1 ..) (BB 0 44 43 0) (BB 2 73 72 0)
instance(a):CT (Hm a) 370 [lI a] rI:=Fe f370 0x81152a142914991a30d7 [] (Hm.eq_1 ..)
instance(a b c):CT (Du a b c) 314 [Ay a,Ay b,Ap c] rB:=Fe f314 0x80eb0e5a7274590e59558cc59b91 [] (Du.eq_1 ..)
instance(a):CT (Mv a) 239 [Bt a] rI:=Fe f239 0x8137888c0d423638c6369f8c0d423638c6369f84e04907c91175360b423638ad9b00 [] (Mv.eq_1 ..)
instance(a b):CT (L5 a b) 315 [lI a,eI b] (rO lI):=By f315 0x8202bc780500049278050004780500043cb5dbc3cc308155ea780500049ee501405f02 [] (L5.eq_1 ..) (A8 0 8 7 0 (hO 5 lI))
instance(a):CT (Mu a) 240 [Bt a] (rT lI lI):=Fe f240 0x82820e0b3171c67d0d420e0bf5c66a0d42014001409300 [] (Mu.eq_1 ..)
instance(a b c):CT (NY a b c) 316 [eI a,.pt (AK b).cells,.pt (Ay c).cells] rB:=Fe f316 0x815b41044397c4c3be [] (NY.eq_1 ..)
instance(a b):CT (Nb a b) 375 [AK a,eI b] (rO lI):=By f375 0x821829140555b5033c017de759ff19014fb30119bc6155b531ce01409330 [] (Nb.eq_1 ..) (⟨⟩:HW 0 λ(c:Int×Fp)=>[(1,.tv (eI c.1)),(5,.xo 1 (v5 eI c.2))])
instance(a b c):CT (La a b c) 321 [AK a,eI b,eI c] rB:=Fe f321 0x810e65b19bb502 [] (La.eq_1 ..)
instance(a b c d):CT (Jt a b c d) 244 [AK a,eI b,eI c,eI d] rB:=Fe f244 0x800e5b4107d8b1657d07d8b196eb300a05aa0eb330369b5b0103 [] (Jt.eq_1 ..)
instance(a b c):CT (Ik a b c) 317 [eI a,.pt (Ay b).cells,.pt (AK c).cells] rB:=Fe f317 0x81a55d7e595d5ac436b2efc8d8c3be [] (Ik.eq_1 ..)
instance(a b c d):CT (Iz a b c d) 241 [AK a,Ay b,lI c,lI d] rB:=Fe f241 0x80a51030a510305c5b02 [] (Iz.eq_1 ..)
instance(a):CT (Fx a) 408 [AJ a] rB:=Fe f408 0x8005b7557403ac747e74de74bd747da90b6aa9d409c989ac9b00 [] (Fx.eq_1 ..)
abbrev AbH(n:Nat):Prop:=∀(c:d5),CT (Bi n c) 371 [AJ c] rB
abbrev AbD(n:Nat):Prop:=∀(k:d5),CT (Bx n k) 410 [AJ k] rB
theorem AAi(n:Nat)(_ih_371:AbH n)(_ih_410:AbD n)(c:d5):CT (Bi (n+1) c) 371 [AJ c] rB:=Fj f371 0x80083f5a30ff04c304c3605e70c33c720ea155011a09e305601a09e3058170c33c720ea1555e70c33c720ea1555e0583329eee9b00 [.call 409 [.s 42,.c (.clo 410 [])]] λh=>by
  unfold Bi at h;have:HJ 10 λ(a:Bool)=>[(4,.tv (eB a))]:=⟨⟩;exact nz
theorem AAo(n:Nat)(_ih_371:AbH n)(_ih_410:AbD n)(k:d5):CT (Bx (n+1) k) 410 [AJ k] rB:=Fj f410 0x81a5a19b00 [] λh=>by
  unfold Bx at h;exact nz
theorem tR:∀n:Nat,AbH n/\AbD n:=by
  intro n
  induction n with
  |zero=>exact⟨(λc=>⟨λ_ h=>c_⟩),(λk=>⟨λ_ h=>c_⟩)⟩
  |succ n a=>exact⟨AAi n a.1 a.2,AAo n a.1 a.2⟩
instance(c):CT (IG c) 371 [AJ c] rB:=⟨λr h=>by
  obtain ⟨N,a⟩:=Cd h;exact((tR N).1 c).snd r (a N (ae _))⟩
instance(k):CT (S0 k) 410 [AJ k] rB:=⟨λr h=>by
  obtain ⟨N,a⟩:=Cd h;exact((tR N).2 k).snd r (a N (ae _))⟩
abbrev Q_372(n:Nat):Prop:=∀(c:d5),CT (Ck n c) 372 [AJ c] (rT eI eI)
theorem AAk(n:Nat)(_ih_372:Q_372 n)(c:d5):CT (Ck (n+1) c) 372 [AJ c] (rT eI eI):=Fj f372 0x9e307002700260018559700103c10b70010692302caa309e75fd4b0ac9fd4370010361c10b700106ddad9e309300 [] λh=>by
  unfold Ck at h;have:=A8 0 13 12 0 λs0:Int×Int=>[(4,.tv (eI s0.1)),(5,.tv (eI s0.2))];have:HJ 31 λ(a:Int)=>[(5,.tv (eI a))]:=⟨⟩;exact nz
theorem AAj:∀n:Nat,Q_372 n:=by
  intro n
  induction n with
  |zero=>exact(λc=>⟨λ_ h=>c_⟩)
  |succ n a=>exact AAk n a
instance(c):CT (KN c) 372 [AJ c] (rT eI eI):=⟨λr h=>by
  obtain ⟨N,a⟩:=Cd h;exact((AAj N) c).snd r (a N (ae _))⟩
instance(a):CT (GM a) 318 [AJ a] rI:=Fe f318 0x819605aa5e8175a1f3a19b00 [] (GM.eq_1 ..)
instance(a b):CT (I8 a b) 411 [Da a,.pt [eI b]] rB:=Fe f411 0xba036aa9fc [] (I8.eq_1 ..)
instance(a b c):CT (E3 a b c) 373 [AK a,BE b,eI c] rI:=By f373 0xa77804033c083d014b05314b0b4983ff3701cc107e0061b703780403083d014b0bc901d68936015cb5 [] (E3.eq_1 ..) (⟨⟩:HW 0 λ(d:Int)=>[(8,.tv (.pt [eI d]))])
abbrev Q_319(n:Nat):Prop:=∀(t:AC)(p:d7)(c:d5),CT (CS n t p c) 319 [AK t,BE p,AJ c] rI
theorem AAe(n:Nat)(_ih_319:Q_319 n)(t:AC)(p:d7)(c:d5):CT (CS (n+1) t p c) 319 [AK t,BE p,AJ c] rI:=Fj f319 0xa735343304030592d6a18936094b0ac9fd430061353433040305ddad708d708d3cd48937888ca9cfcf9f8ca9cfcfd6b78936b9b7b7d409c989ac85599bbf9300 [.Abp (.s 1)] λh=>by
  unfold CS at h;have:=BB 0 53 52 0;exact nz
theorem AAd:∀n:Nat,Q_319 n:=by
  intro n
  induction n with
  |zero=>exact(λt p c=>⟨λ_ h=>c_⟩)
  |succ n a=>exact AAe n a
instance(t p c):CT (OT t p c) 319 [AK t,BE p,AJ c] rI:=⟨λr h=>by
  obtain ⟨N,a⟩:=Cd h;exact((AAd N) t p c).snd r (a N (ae _))⟩
instance(a b c):CT (Dp a b c) 242 [AK a,BE b,AJ c] rI:=Fe f242 0x810ea18936d6a1d689369b91 [] (Dp.eq_1 ..)
instance(a b):CT (Jo a b) 178 [AK a,Bt b] rI:=Fe f178 0x810ea1104289ad36f3303638c63682d1cad6cad6ca36d689ad36f3599f017536dc [] (Jo.eq_1 ..)
instance(a b c):CT (Md a b c) 243 [AK a,eI b,lI c] rI:=By f243 0xa723222102049296057e5d77055abb044b8103c9d50443fb23222102049a81b9f80b30d1b137830241e759b9d93093b502 [] (Md.eq_1 ..) (BB 0 35 34 0)
instance(a b):CT (HH a b) 179 [AK a,BY b] (rT eI eI):=I9 f179 0x9e003e3d3c5b0592cb01cc5d7ebd5d5abd5936cb0185ee59b281efc843fb3e3d3c5b05dd0141325b022827265b0592cb306c0e977eb19e975b02612827265b05dd3832cb850bbd0b7ecb7c8c32cb7c0175363091 [] (HH.eq_1 ..) (BB 0 40 39 0) (BB 2 62 61 0)
instance(a b c):CT (Fh a b c) 121 [AK a,(eL 25 Bt) b,BY c] rI:=By f121 0x815e01756236055b1b1a1905030592d6ca36194b0cc9ca1943055b611b1a190503059a81b9f89f017536015c30 [] (Fh.eq_1 ..) (BB 0 27 26 0)
instance(a b c):CT (IM a b c) 165 [AK a,Bt b,BY c] rI:=Fe f165 0x815e01756236d6ca369f0175369b91 [] (IM.eq_1 ..)
instance(a b):CT (MQ a b) 384 [eI a,.pt (AK b).cells] rB:=Fe f384 0x817459e6 [] (MQ.eq_1 ..)
instance(a b):CT (MR a b) 385 [BQ a,.pt (AK b).cells] rB:=Fe f385 0x81eb59fc [] (MR.eq_1 ..)
instance(a b):CT (Gl a b) 340 [AK a,Ay b] rB:=Fe f340 0x80a5105a01a51059dc [] (Gl.eq_1 ..)
instance(a b c):CT (FQ a b c) 274 [AK a,Ay b,Ay c] rI:=By f274 0x8196088c3601088c36708d181716d006929f8c8407c9360243708d61181716d0069a02c7c59f0175369b91 [] (FQ.eq_1 ..) (BB 0 24 23 0)
instance(a b):CT (KK a b) 393 [AK a,eI b] (rT lI eI):=By f393 0xe8020701df07025592df070255df0702553cb5dbc38e3036810107eadf0702559a59e537e57c0eb3b130409330 [] (KK.eq_1 ..) (A8 0 19 18 0 (hO 7 lI))
instance(a):CT (Hd a) 348 [AK a] (rO (eL 1 (eL 1 eB))):=I9 f348 0x820231c1310492b5db1802c10531051c1b1ac10531089201f90114815dc1053105611c1b1ac10531089a8101d1b1993fd981013161c131049a59e501409300 [.mkx 1 [.bool false] (.s 18)] (Hd.eq_1 ..) (A8 0 13 12 0 (hO 3 (eL 1 (eL 1 eB)))) (A8 2 28 27 0 (hX 5 1 eB))
instance(a b c d):CT (He a b c d) 280 [AK a,Ay b,Ay c,Ap d] rI:=I9 f280 0xa747464507a2069296057e5d7e59555a5d5a59b9c4b2b2efefc8d8c8d896ebaa5e815dfb47464507a206ddad07a2032524230907a2079237885d97595d975901967459aa5e819707a203612524230907a207dd32828c96ebee55d9d9015c91 [] (He.eq_1 ..) (BB 0 37 36 0) (BB 2 71 70 0)
theorem ACL(l:Fp)(r:Bool)(h:I1 l=Y r):AT prog 347 [lI l] (.sh (eB r)):=by
  unfold I1 at h;rw[<-tG]at h;split at h
  · rename_i a
    cases h;exact jI l a
  .cases h
instance AC7(l:Fp):Ct Go.Proofs.Tryz.prog (I1 l) 347 [lI l] (rS eB):=⟨ACL l⟩
instance(a b c d e):CT (GU a b c d e) 278 [AK a,Ay b,Ay c,Ap d,eB e] rI:=Fe f278 0x81960a0e5a6559309f8c36c59f8cc5015c5c0401 [] (GU.eq_1 ..)
instance(a b c):CT (E9 a b c) 217 [AK a,BE b,BY c] rI:=Fe f217 0x815e01756236d689369b91 [] (E9.eq_1 ..)
instance(a b):CT (FA a b) 276 [QI a,lI b] rI:=Fe f276 0xba5a5d5901375a8559fc [] (FA.eq_1 ..)
instance(a b):CT (Hk a b) 343 [eI a,eI b] (rT eI MB):=Fe f343 0x9e553f553f013f5e816b01283f013f30fa [.cvt .u64 (.s 9),.cvt .u64 (.s 11),.bin (.w) .shr (.s 16) (.c (.int .u64 63)),.bin (.w) .shr (.s 18) (.c (.int .u64 63)),.cvt .i64 (.s 21)] (Hk.eq_1 ..)
instance(a b):CT (Fy a b) 342 [QI a,.pt [lI b]] (λr=>.tp [eI r.1,MB r.2.1,eB r.2.2]):=Fe f342 0x819e309e755a5d5903ff379e807403595559819e309e755aba59779330 [] (Fy.eq_1 ..)
instance(a b):CT (G3 a b) 277 [Dx a,lI b] rB:=Fe f277 0x800a05aa59ecaa59810eb30e300e30960830085e9e116b010f3603425e9e116b010f36ad5e10dc [] (G3.eq_1 ..)
instance(a b c):CT (GK a b c) 219 [BE a,BY b,Ap c] (rT lI eI):=I9 f219 0xe81808d34b4a08049237e588201489d404c989054308ea4c4b4a0804ddac085b191817cdd0089237e58501201436a91918170c0bcdd00a1918170c0bcdd00a3c01f901f9057da9301401148a0817d30114555e6aa9815d5a5d5dc47e044b05c9d50443085b61191817cdd008dda999993fb73fb730409391 [.mkx 1 [.int .i64 0] (.s 17),.mkx 1 [.bool false] (.s 20)] (GK.eq_1 ..) (A8 0 25 24 0 λs0:Fp×a5=>[(8,.xo 1 (v5 eI s0.1)),(9,.xo 1 (v5 eB s0.2))]) (BB 2 76 75 0)
instance(a b c d):CT (E8 a b c d) 279 [AK a,BE b,BY c,Ap d] (rT lI eI):=Fe f279 0xe86b8c628937e57c8ccfcf3637e57ced893630405c91 [] (E8.eq_1 ..)
instance(a b c d):CT (Km a b c d) 220 [AK a,Bt b,BY c,Bb d] rI:=Fe f220 0x81f37e019fd1cf6289ad36b90e030f42cfcf3638ad36015c91 [] (Km.eq_1 ..)
instance(a b c d):CT (GV a b c d) 221 [AK a,Ay b,Ay c,Ap d] (rT Ay eI):=Fk f221 0x8184360c08022726250c08060692014a3201db97590432815d0c0802612726250c080606dd32025007c93f0e5a37840103f48c36c537840103f48cc50107c95c91 [.Aag [.z ⟨X,.list 1 []⟩,.w 34]] [.cell 8 (Y 2),.tmp 9] λr h e f=>by
  unfold GV at h;have:=A8 0 39 38 0 λs0:dr=>[(12,.bx [⟨X,lI s0.dl⟩,⟨X,lE s0.d3⟩])];exact nz
instance(a):CT (DR a) 281 [JY a] rI:=Fe f281 0x818caccf9f8cc636a9cf9b00 [] (DR.eq_1 ..)
instance(a b):CT (Gz a b) 350 [lI a,lI b] (rO (eL 2 SR)):=I9 f350 0x8202057209055f05920a09055f050a0907a25f07760a0907a25f070a0907a25f073c0202480247054630028a0aa577a57705bbbb0a09055f05f60a0907a25f07ba5e55ea0a09055f059ac3c002405f02 [] (Gz.eq_1 ..) (A8 0 10 9 0 (hO 5 (eL 2 SR))) (A8 2 7 0 0 (hO 5 (eL 2 SR)))
instance(a):CT (ED a) 282 [JY a] (rT (eL 2 SR) (eL 2 SR)):=Fe f282 0x82820e7dac7dc60e6aac6ac6024002409300 [] (ED.eq_1 ..)
instance(a):CT (Dt a) 351 [JY a] (rO lI):=By f351 0x8202310acd3105920acd31050acd31053cb5dbc3cc016aac9e9731610acd3105dd38c6e501409300 [] (Dt.eq_1 ..) (A8 0 10 9 0 (hO 3 lI))
instance(a):CT (Dd a) 283 [JY a] (rO lI):=By f283 0x82020401c10be30692c10be306c10be3063cb5dbc38a0a0e7e300e5a30a5017dc6b281efc89004eac10be306dd0141a9e5820e084401409300 [] (Dd.eq_1 ..) (A8 0 13 12 0 (hO 4 lI))
instance(a b c):CT (Hj a b c) 284 [eI a,lI b,lI c] (rO lI):=I9 f284 0x82020a01201f1e0a0492201f1e0a04201f1e0a043cb5dbc3885e815d72ea201f1e0a049a98e5070111100f0702059211100f07020511100f0702053c01f90114cc309e9707ea11100f0702059a81993f304002be [.mkx 1 [.bool false] (.s 13)] (Hj.eq_1 ..) (A8 0 17 16 0 (hX 7 1 eB)) (A8 2 32 31 0 (hO 10 lI))
instance(a b c d):CT (Hs a b c d) 222 [Ay a,Ay b,FC c,Ap d] (rT FC eI):=Fk f222 0x8013b818404460e5a5aee0ec4d9ff37e04681740e084481e046ba7401f882d1084437845ff40e0844084b0dc90646c5c55fc95c91 [] [.cell 8 (Y 2),.tmp 9] λr h e f=>by
  unfold Hs at h;exact nz
instance(a b c d e f):CT (GL a b c d e f) 352 [AK a,BE b,AJ c,BY d,Bb e,eB f] rI:=Fe f352 0x81f37e019fd1cf628936d6b132cfcf369f01756236d6a189369b5c5cbc [] (GL.eq_1 ..)
instance(a b c):CT (G0 a b c) 428 [eI a,lI b,lI c] (rO lI):=By f428 0x821807010f0e0d0702059201f95d77149e9707ea0f0e0d0702059a81991a3047014002be [] (G0.eq_1 ..) (A8 0 15 14 0 (hX 7 1 eI))
theorem AA2:CK f413 (.seq (.region [⟨Y 4,.mv (.c (.int .i64 0)),W⟩] [0,1])
 (.seq (.seq (.region [⟨Y 5,.mv (.s 0),W⟩,
    ⟨Y 6,.isn (.s 5),W⟩] [0,1,6])
  (.cond (.s 6) (.seq (.region [⟨Y 4,.mv (.c (.int .i64 (-1))),W⟩] [4])
   (.ret))
  (.skip [0,1])))
 (.seq (.region [⟨Y 7,.mv (.s 0),W⟩,
    ⟨Y 8,.mv (.s 1),W⟩,
    ⟨Y 9,.iad (.s 7) (.s 8) 1,W⟩,
    ⟨Y 10,.ld (.s 9),W⟩,
    ⟨Y 4,.mv (.s 10),W⟩] [4])
 (.ret)))) [.tmp 4]:=b!
instance ACx(l:Option Fp)(i:Int):Ct Go.Proofs.Tryz.prog (Mx l i) 413 [(eO 1 eI) l,eI i] (rS eI):=Fi AA2 λr h a b=>by
  cases l with
  |none=>replace h:Y (-1)=Y r:=h;exact au|some l=>replace h:((XF l).bind λ_=>(idx l i).bind λx=>Y x)=Y r:=h;exact au
instance(a b c):CT (EL a b c) 415 [.pt (TD a).cells,eI b,eI c] rB:=Fe f415 0x813f07465d7e030971015d5a0309710159c8907d027101960577055e0e017d057101b2efc8903171383002be [.bin (.a [0,0,0]) .eql (.s 38) (.s 57)] (EL.eq_1 ..)
instance(a):CT (Ca a) 414 [.pt (TD a).cells] rB:=I9 f414 0xa714dff2056014dff20514dff20581880114df06f206262514df0604f20992ff14df06f206018e77810114df06f20661262514df0604f2099a7d02715eff14dff20585012c7e5ab281efc843fb14dff205dd0171385e7403097130d7 [] (Ca.eq_1 ..) (BB 0 20 19 0) (A8 2 38 37 0 (hT 6 eB))
noncomputable def cw:PC:=PC.of My f386.body (xq bT 0xffd73c014a0b71024802470446201d0a9d201d099d040b9d32d7a4a306000460a4a3060004a4a30600043c1f0a710151011e0a9d320052321f0a71014fb3011e0a9d32ffa4a30600048a0a20011d0a9d0103079d0108203032815feaa4a30600049a7d029d81151d0a9d817431713832151d0a9dd73f3e3d020005603f3e3d0200053f3e3d0200053c1f09710151011e099d323f3e3d0200053f3e3d0200053c005232a0321f0971014fb3011e099d32ff3f3e3d0200058a0a20011d099d0103079d7208975d97f5383203049dec77055e0e016a059d9e5d5fea3f3e3d020005dd38029d81151d099d8174f53832151d099d005e0503089d0b030b9dd7) []
theorem AA1:CK f386 cw []:=b!
theorem ABP:PC.sR cw=X/\PC.tl 0 cw=X:=b!
abbrev Q_386(n:Nat):Prop:=∀(f:AM),CT (A9 n f) 386 [.undef] (λr=>.bo (DJ f) (DJ r) 0 [])
theorem AAm(n:Nat)(_ih_386:Q_386 n)(f:AM):CT (A9 (n+1) f) 386 [.undef] (λr=>.bo (DJ f) (DJ r) 0 []):=Z5 AA1 ABP λr h c b d=>by
  unfold cw;unfold f386;unfold A9 at h;have:=A8 1 63 62 0 λs1:AM=>[(0,.bx (DJ s1))];have:=A8 3 164 163 0 λs3:AM=>[(0,.bx (DJ s3))];have:HJ 28 λ(a:AM)=>[(0,.bx (DJ a))]:=⟨⟩;exact nz
theorem AAl:∀n:Nat,Q_386 n:=by
  intro n
  induction n with
  |zero=>exact(λf=>⟨λ_ h=>c_⟩)
  |succ n a=>exact AAm n a
instance(f):CT (Hi f) 386 [.undef] (λr=>.bo (DJ f) (DJ r) 0 []):=⟨λr h=>by
  obtain ⟨N,a⟩:=Cd h;exact((AAl N) f).snd r (a N (ae _))⟩
end Go.Sf.Sc
