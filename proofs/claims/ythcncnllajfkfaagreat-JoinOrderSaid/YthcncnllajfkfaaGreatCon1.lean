/- Contracts of the functions. -/
import Derived.Test.YthcncnllajfkfaaGreatCon0
set_option linter.all false
set_option maxRecDepth 100000
set_option maxHeartbeats 4000000
open Option renaming some->Y,none->W
open Bool renaming true->X
open List renaming map->v?
namespace Go.Sf.Sc
open Go Go.Sf Go.Proofs.Tryz
instance(a b):CT (GV a b) 32 [Bm a,Bm b] rB:=Fe f32 0xa63f9191770ef3f370c6c601a1 [.call 66 [.s 23,.s 25,.c (.clo 23 [])]] (GV.eq_1 ..)
instance(a b):CT (G7 a b) 22 [DY a,DY b] (rT Hg eI):=Fk f22 0x818955080402585708de0697585708de06585708de063cd9b601d1f5b68a058d8422425a8d842242d508040265585708de069db2de053d3cb2de07973d3cb2de073d3cb2de073cd93801d1f5388a058d7422425a8d742242d5b2de05653d3cb2de079df1598900468a7f0b842242777f0b842242777f0b742242777f0b74224201b46c1c426c1c429d0b377c1c420b745b1c426ac9a1 [] [.cell 4 (Y 2),.tmp 5] λr h c d=>by
  unfold G7 at h;have:=BH 0 61 60 0 λs0:BR=>[(8,.bx [⟨X,lI s0.ci⟩,⟨X,lI s0.c9⟩])];have:=BH 2 88 87 0 λs2:BR=>[(8,.bx [⟨X,lI s2.ci⟩,⟨X,lI s2.c9⟩])];exact nz
instance(a):CT (M3 a) 398 [Eh a] rB:=Fe f398 0xa60a05a5360a05a59201 [] (M3.eq_1 ..)
instance ACi(b:ByteArray)(d:Int->K1)(c:FuncId)(a:Fq)[g:∀(e:Int),CT (d e) c (Eh e::a) rB]:CT (IY b d) 399 [eS b,.clo c a] rI:=B1 f399 0x815a7505e05f5a758a0f1236a50ca5e081ba [] (IY.eq_1 ..) (⟨⟩:HW 0 λ(f:Int)=>[(5,.tv (eI f))])
instance(a):CT (L6 a) 401 [Eh a] rB:=Fe f401 0xa605a59201 [] (L6.eq_1 ..)
instance(a):CT (Pq a) 400 [Eh a] rB:=Fe f400 0xa6e50a0e360e9201 [] (Pq.eq_1 ..)
instance(a):CT (Nc a) 422 [Eh a] rB:=Fe f422 0xa6e50a05a59201 [] (Nc.eq_1 ..)
instance(a):CT (Ix a) 402 [eS a] (rT eI eI):=Fe f402 0x9d7f598185f8818a05127fa50c5a603f0d019201 [.call 399 [.s 6,.c (.clo 422 [])]] (Ix.eq_1 ..)
instance(a):CT (Pp a) 403 [eS a] rB:=Fe f403 0xa60e0d013f5a0c9201 [.lst 1 [.c (.str ⟨#[45,62]⟩),.c (.str ⟨#[60,61]⟩),.c (.str ⟨#[62,61]⟩),.c (.str ⟨#[61,61]⟩),.c (.str ⟨#[33,61]⟩)]] (Pp.eq_1 ..)
instance(a):CT (La a) 363 [eS a] (λr=>.tp [eI r.1,eI r.2.1,eI r.2.2]):=Fe f363 0x819dff59819d053f60819d0e609d369d7d6005609df89d723f600e609df89d723f600e6012369201 [.call 399 [.s 15,.c (.clo 400 [])],.call 399 [.s 23,.c (.clo 401 [])],.call 404 [.c (.str ⟨#[123,125,40,41,91,93,44,59,58,61,43,45,42,60,62,33,38,124,46,63]⟩),.s 42]] (La.eq_1 ..)
instance(a):CT (L7 a) 303 [YC a] (rT eS eB):=B1 f303 0x9d0a050c01360a055ca536819d117df8bfbff5c504c53c013f3f01855c815d013f9300 [.mv (.c (.str ⟨#[]⟩)),.bin (.s) .add (.c (.str ⟨#[34]⟩)) (.s 13),.bin (.s) .add (.s 14) (.c (.str ⟨#[34]⟩)),.bin (.s) .eql (.s 16) (.c (.str ⟨#[]⟩)),.mv (.c (.str ⟨#[]⟩))] (L7.eq_1 ..) (⟨⟩:HJ 12 λ(b:ByteArray)=>[(4,.tv (eS b))])
instance(a):CT (Ee a) 236 [eS a] rB:=Fe f236 0x8160017d01469201 [] (Ee.eq_1 ..)
instance(a b):CT (Ps a b) 296 [IJ a,.pt (IJ b).cells] rB:=Fe f296 0x8106ec9e36 [] (Ps.eq_1 ..)
abbrev Q_297(n:Nat):Prop:=∀(t:AC)(a:Int),CT (Dn n t a) 297 [AL t,eI a] (λr=>.Aba 4 (v? JU r))
theorem z8(n:Nat)(_ih_297:Q_297 n)(t:AC)(a:Int):CT (Dn (n+1) t a) 297 [AL t,eI a] (λr=>.Aba 4 (v? JU r)):=Fj f297 0x99044f8c41e45c1905a90305a9033c191abb7284e45c04ce044e9336 [] λh=>by
  unfold Dn at h;have:HJ 14 λ(b:List kh)=>[(5,.xo 4 (v? JU b))]:=⟨⟩;exact nz
theorem z7:∀n:Nat,Q_297 n:=by
  intro n
  induction n with
  |zero=>exact(λt a=>⟨λ_ h=>d_⟩)
  |succ n b=>exact z8 n b
instance(t a):CT (OE t a) 297 [AL t,eI a] (λr=>.Aba 4 (v? JU r)):=⟨λr h=>by
  obtain ⟨N,b⟩:=Cy h;exact((z7 N) t a).snd r (b N (az _))⟩
instance(a b):CT (KM a b) 360 [JU a,.pt (JU b).cells] rB:=Fe f360 0x8106ec9e36 [] (KM.eq_1 ..)
instance(a):CT (KC a) 361 [lB a] rI:=B1 f361 0xaddb08000497ff59810e3645369db46081616a65db0800049ae2da9201 [] (KC.eq_1 ..) (BM 0 10 9 0)
instance(a b):CT (GQ a b) 298 [JU a,lA b] rI:=B1 f298 0xe28801060106013c770571b7915a5ddab7a605917705915d5a5d59beb7ff59810e106081b45c9e36 [] (GQ.eq_1 ..) (⟨⟩:HJ 40 λ(c:Bool)=>[(6,.tv (eB c))])
instance(a b):CT (Ld a b) 234 [AL a,eI b] rI:=B1 f234 0xad7802cbbe044536e3044392ea78028171b70bf8da01820ebbff598171b79d0a7f5d5a5d9d0e100445015c9db45c053d044b01c9e3e45c9e36 [] (Ld.eq_1 ..) (BM 1 7 6 0)
instance(a b):CT (M4 a b) 299 [eI a,.pt (AL b).cells] rB:=Fe f299 0xa6715c367fba [] (M4.eq_1 ..)
instance(a b):CT (Pr a b) 301 [JV a,.pt (JV b).cells] rB:=Fe f301 0x8106ec9e36 [] (Pr.eq_1 ..)
instance(a b):CT (Lr a b) 302 [eI a,eI b] rB:=Fe f302 0xa60a0ae57fa5360ae57fba [] (Lr.eq_1 ..)
instance(a b):CT (Lb a b) 235 [AL a,eI b] rI:=B1 f235 0x81ff5919013c77b403bc03054201b403b5b719600a080f9136080f5d60810e100745015d9db45c8110053d074b02c9074407cd9e36 [] (Lb.eq_1 ..) (⟨⟩:HJ 25 λ(c:Bool)=>[(25,.tv (eB c))])
instance(a):CT (D9 a) 177 [AL a] (rT eS eI):=KD f177 0x81bf002e2d2cf5ebd55c720ebb074b8102c9074407436a652e2d2cf5e7b6361d1c1bf5ebd55c720ebb044bd5c9e3e436651d1c1bf5e738ff59bfa6dd5ac181bf8171e13f9300 [.mv (.c (.str ⟨#[]⟩)),.mv (.c (.str ⟨#[]⟩)),.mv (.c (.str ⟨#[]⟩)),.mv (.c (.str ⟨#[]⟩))] (D9.eq_1 ..) (BM 1 29 28 0) (BM 3 46 45 0)
instance(a b):CT (Ij a b) 248 [eI a,eI b] rB:=Fe f248 0xa67f367fba [] (Ij.eq_1 ..)
instance(a):CT (OH a) 247 [eI a] rB:=Fe f247 0x81b49201 [] (OH.eq_1 ..)
instance(a b):CT (PG a b) 251 [B6 a,eI b] rB:=Fe f251 0xa60e7f91770e7f5d705c9e36 [] (PG.eq_1 ..)
instance(a b):CT (OI a b) 250 [B6 a,.pt (A5 b).cells] rB:=Fe f250 0x81b4c16c9e36 [] (OI.eq_1 ..)
instance(a):CT (DP a) 183 [A5 a] rI:=Fe f183 0xe28e105d59bf5caadd5ac19e00 [.call 71 [.s 14,.c (.clo 247 [])]] (DP.eq_1 ..)
instance(a b):CT (Hx a b) 304 [eI a,.pt (AL b).cells] rB:=Fe f304 0x8171e1ba [] (Hx.eq_1 ..)
instance(a b):CT (Hy a b) 305 [B6 a,.pt (AL b).cells] rB:=Fe f305 0x81dd5c9e36 [] (Hy.eq_1 ..)
instance(a b c):CT (C3 a b c) 306 [eI a,eI b,eI c] rB:=Fe f306 0xa67f367f3602e0 [] (C3.eq_1 ..)
instance(a b):CT (OV a b) 374 [eI a,.pt (AL b).cells] rB:=Fe f374 0xa6715c367fba [] (OV.eq_1 ..)
instance(a b):CT (HM a b) 320 [AL a,lI b] rI:=Fe f320 0xe28e10f880017d559e36 [] (HM.eq_1 ..)
instance(t a):CT (FI t a) 289 [AL t,eI a] (rT lA eI):=iO f289 0x81821807011514070397014d0354044c0e170354044c01140114d507fa15140703819514991a019f04c0bea2bbf5409336 [] (FI.eq_1 ..) (BH 0 21 20 0 (hX 7 4 JU)) (⟨⟩:HS 31) (⟨⟩:HX 33 λ(a:kh)(v:List ByteArray)=>kh.mk a.kp a.Low a.Aae v)
instance(a b c):CT (Gr a b c) 307 [AL a,BQ b,FK c] (rT JU eB):=Fk f307 0x81044be304435df8044b0246d771015d01e8615cc69f044b0246d771c6e103c993a1 [] [.cell 6 (Y 4),.tmp 7] λr h d e=>by
  unfold Gr at h;exact nz
instance(a b):CT (JT a b) 405 [eI a,Sj b] rB:=Fe f405 0xa6055d77055d777f5c5a5c9e0001 [] (JT.eq_1 ..)
instance(a b):CT (KU a b) 364 [eI a,F1 b] rI:=Fe f364 0x81ff59a608960342360896b660a6055c5a5c9e0001 [] (KU.eq_1 ..)
instance(a b):CT (Ih a b) 308 [eI a,lT b] rI:=B1 f308 0xade9110004ebbe9b5a4b04c99b05430065e91100049ae2da01aae57fba [] (Ih.eq_1 ..) (BM 0 19 18 0)
instance(a b):CT (Dp a b) 237 [AL a,BQ b] rI:=B1 f237 0xe2a01459be03b5b7085e3c3b3a085e06973c3b3a085e063c3b3a085e063cf674a8148574a8aab484a877b405b774a8010860044b03497de39b55044b05c9e30443085e653c3b3a085e06e7a8993fb7aa7103b55a0b9159d7b7aa0e10f37010c659f4385980017d5501a1 [.mkx 1 [.bool false] (.s 55)] (Dp.eq_1 ..) (BH 0 60 59 0 (hX 8 1 eB))
instance(a b):CT (Pl a b) 366 [eI a,.pt (AL b).cells] rB:=Fe f366 0x8171e1ba [] (Pl.eq_1 ..)
instance(a b):CT (Pm a b) 367 [B6 a,.pt (AL b).cells] rB:=Fe f367 0x81dd5c9e36 [] (Pm.eq_1 ..)
instance(a b):CT (LS a b) 310 [AL a,A5 b] rB:=Fe f310 0xa6b4105d01b410e1a1 [] (LS.eq_1 ..)
instance(a b):CT (Qq a b) 369 [FK a,.pt (FK b).cells] rB:=Fe f369 0xa6055d5d5aec9e36 [] (Qq.eq_1 ..)
instance(a b c):CT (Mw a b c) 311 [AL a,CB b,eI c] rI:=Fe f311 0xe28e100445015e41bcaa055d77055d77058c41bc5c77055c7771015d5a5d8906c955a801e8615c745bbc9f8a71745bbc5c5a5c073d044b05c9e3e45e41bc0162a9 [] (Mw.eq_1 ..)
instance(a b):CT (LR a b) 238 [AL a,CB b] rI:=B1 f238 0xad2f2e5e04ebbe01d355816a652f2e5e049a5e41bcff5981715e41bc9d0a71030441bc5a8c41b68c41bc9d08965bbc9ff45bbc01a1 [] (LR.eq_1 ..) (BM 1 47 46 0)
instance(a b):CT (JH a b) 418 [lI a,eI b] rI:=B1 f418 0xad09b26a0597aa0561e5367faa7fa56081616a6509b26a059a81ba [] (JH.eq_1 ..) (BM 0 9 8 0)
instance(a b):CT (M1 a b) 419 [lI a,eI b] rB:=Fe f419 0x8160017d36ba [] (M1.eq_1 ..)
instance(a b):CT (OT a b) 394 [A5 a,Hg b] rI:=B1 f394 0xad1e1d1c5e0597aab45e4103cde1b48403cd5c816100651e1d1c5e05e7b659bef25d59bec1e1a1 [] (OT.eq_1 ..) (BM 0 30 29 0)
instance(a b):CT (Fu a b) 349 [A5 a,Hg b] rI:=Fe f349 0x81969ff401a1 [] (Fu.eq_1 ..)
instance(a b):CT (Fa a b) 312 [A5 a,Hg b] (λr=>.tp [A5 r.1,A8 r.2.1,eI r.2.2]):=Fk f312 0x6b023b81898904460e5d0e5c5508c3042b2a2908ca0897d9b6034803476c04b6d9a87d915cd9b67d5d5cacf0d8cd816108c304652b2a2908ca08e7b608ca0519181708ca0897d93801d18d5c0438816108ca056519181708ca08e738fd5989896a4603f796556ac9fda1 [] [.cell 4 (Y 2),.cell 5 (Y 2),.tmp 6] λr h c d=>by
  unfold Fa at h;have:=BH 0 25 24 0 λs0:d3=>[(8,.bx [⟨X,lI s0.ci⟩,⟨X,lE s0.c9⟩])];have:=BH 2 43 42 0 λs2:d3=>[(8,.bx [⟨X,lI s2.ci⟩,⟨X,lE s2.c9⟩])];exact nz
instance(a b c):CT (D6 a b c) 313 [A5 a,A5 b,A8 c] rI:=KD f313 0xad494847c30697aa059161915c5a5d615d5c5985ecacacf0f0d8cdd8cdaadda56081616a65494847c306e7b66b8c2c2b2ac306eb858d5c8d5caa715ca56081615a048c652c2b2ac306e738aaddf25ac1c159f459f49ea1 [] (D6.eq_1 ..) (BM 0 44 43 0) (BM 2 73 72 0)
instance(a):CT (Hj a) 370 [lI a] rI:=Fe f370 0x81152a142914991a9201 [] (Hj.eq_1 ..)
instance(a b c):CT (Dw a b c) 314 [A5 a,A5 b,A8 c] rB:=Fe f314 0xa6dd0e5d77715c0e5c5a96df9ea1 [] (Dw.eq_1 ..)
instance(a):CT (Mv a) 239 [CB a] rI:=Fe f239 0xe288960d42555bbc9ff40d42555bbc9f8089890049fd117d550b42555bb69e00 [] (Mv.eq_1 ..)
instance(a b):CT (L4 a b) 315 [lI a,eI b] (rO lI):=B1 f315 0xee7fb205000497b2050004b20500043ca9d1c5d736815afab20500049d01c0fe6a02 [] (L4.eq_1 ..) (BH 0 8 7 0 (hO 5 lI))
instance(a):CT (Mu a) 240 [CB a] (rT lI lI):=Fe f240 0x82820e0b377cbc840d420e0b745bbc740d42fefe9300 [] (Mu.eq_1 ..)
instance(a b c):CT (Na a b c) 316 [eI a,.pt (AL b).cells,.pt (A5 c).cells] rB:=Fe f316 0x815e4104438decc5e0 [] (Na.eq_1 ..)
instance(a b):CT (Nd a b) 375 [AL a,eI b] (rO lI):=B1 f375 0x82182914055aa9033c0184e45cff19014fa201197f655aa937cefe9336 [] (Nd.eq_1 ..) (⟨⟩:HW 0 λ(c:Int×Fp)=>[(1,.tv (eI c.1)),(5,.xo 1 (v? eI c.2))])
instance(a b c):CT (Lc a b c) 321 [AL a,eI b,eI c] rB:=Fe f321 0x810e70bb9ea902 [] (Lc.eq_1 ..)
instance(a b c d):CT (Js a b c d) 244 [AL a,eI b,eI c,eI d] rB:=Fe f244 0xa60e5e4107cdbb708407cd019f8add360a05a50ea236559e5efc [] (Js.eq_1 ..)
instance(a b c):CT (Ic a b c) 317 [eI a,.pt (A5 b).cells,.pt (AL c).cells] rB:=Fe f317 0x81b461915c615dec55acf0d8cdc5e0 [] (Ic.eq_1 ..)
instance(a b c d):CT (It a b c d) 241 [AL a,A5 b,lI c,lI d] rB:=Fe f241 0xa6b41036b41036625e02 [] (It.eq_1 ..)
instance(a):CT (Fh a) 408 [AI a] rB:=Fe f408 0xa605b75a7103b5719171f371c67184a80b74a8b909c99bb59e00 [] (Fh.eq_1 ..)
abbrev AbX(n:Nat):Prop:=∀(c:d5),CT (Bk n c) 371 [AI c] rB
abbrev AbU(n:Nat):Prop:=∀(k:d5),CT (Bx n k) 410 [AI k] rB
theorem AAF(n:Nat)(_ih_371:AbX n)(_ih_410:AbU n)(c:d5):CT (Bk (n+1) c) 371 [AI c] rB:=Fj f371 0xa6083f5d36ff04c504c55f606bc53c770ea75a011a09ed055f1a09ed05816bc53c770ea75a606bc53c770ea75a600583389df29e00 [.call 409 [.s 42,.c (.clo 410 [])]] λh=>by
  unfold Bk at h;have:HJ 10 λ(a:Bool)=>[(4,.tv (eB a))]:=⟨⟩;exact nz
theorem AAL(n:Nat)(_ih_371:AbX n)(_ih_410:AbU n)(k:d5):CT (Bx (n+1) k) 410 [AI k] rB:=Fj f410 0x81b4a79e00 [] λh=>by
  unfold Bx at h;exact nz
theorem sg:∀n:Nat,AbX n/\AbU n:=by
  intro n
  induction n with
  |zero=>exact⟨(λc=>⟨λ_ h=>d_⟩),(λk=>⟨λ_ h=>d_⟩)⟩
  |succ n a=>exact⟨AAF n a.1 a.2,AAL n a.1 a.2⟩
instance(c):CT (IB c) 371 [AI c] rB:=⟨λr h=>by
  obtain ⟨N,a⟩:=Cy h;exact((sg N).1 c).snd r (a N (az _))⟩
instance(k):CT (TG k) 410 [AI k] rB:=⟨λr h=>by
  obtain ⟨N,a⟩:=Cy h;exact((sg N).2 k).snd r (a N (az _))⟩
abbrev Q_372(n:Nat):Prop:=∀(c:d5),CT (Cj n c) 372 [AI c] (rT eI eI)
theorem AAH(n:Nat)(_ih_372:Q_372 n)(c:d5):CT (Cj (n+1) c) 372 [AI c] (rT eI eI):=Fj f372 0x9d366b026b025f01855c6bfcc80b6b010697362ca5369d7da7094b0ac9a709436bfc65c80b6b0106e7b69d369300 [] λh=>by
  unfold Cj at h;have:=BH 0 13 12 0 λs0:Int×Int=>[(4,.tv (eI s0.1)),(5,.tv (eI s0.2))];have:HJ 31 λ(a:Int)=>[(5,.tv (eI a))]:=⟨⟩;exact nz
theorem AAG:∀n:Nat,Q_372 n:=by
  intro n
  induction n with
  |zero=>exact(λc=>⟨λ_ h=>d_⟩)
  |succ n a=>exact AAH n a
instance(c):CT (KG c) 372 [AI c] (rT eI eI):=⟨λr h=>by
  obtain ⟨N,a⟩:=Cy h;exact((AAG N) c).snd r (a N (az _))⟩
instance(a):CT (GF a) 318 [AI a] rI:=Fe f318 0x81aa05a560817da759d7a79e00 [] (GF.eq_1 ..)
instance(a b):CT (I3 a b) 411 [FK a,.pt [eI b]] rB:=Fe f411 0xdc0374a89e36 [] (I3.eq_1 ..)
instance(a b c):CT (Ez a b c) 373 [AL a,BQ b,eI c] rI:=B1 f373 0xadb204033c083d014b05374b0b4983ff5901d710910065b703b20403083d014b0bc9f8be9b550162a9 [] (Ez.eq_1 ..) (⟨⟩:HW 0 λ(d:Int)=>[(8,.tv (.pt [eI d]))])
abbrev Q_319(n:Nat):Prop:=∀(t:AC)(p:d6)(c:d5),CT (CS n t p c) 319 [AL t,BQ p,AI c] rI
theorem AAB(n:Nat)(_ih_319:Q_319 n)(t:AC)(p:d6)(c:d5):CT (CS (n+1) t p c) 319 [AL t,BQ p,AI c] rI:=Fj f319 0xad353433040305ebbea79b55094b0ac9a709430065353433040305e7b66b8c6b8c3cb99b598896a8d0d059f4a8d0d059beb79b9f85b7b7b909c99bb5855c9ebf9300 [.AbB (.s 1)] λh=>by
  unfold CS at h;have:=BM 0 53 52 0;exact nz
theorem AAA:∀n:Nat,Q_319 n:=by
  intro n
  induction n with
  |zero=>exact(λt p c=>⟨λ_ h=>d_⟩)
  |succ n a=>exact AAB n a
instance(t p c):CT (OY t p c) 319 [AL t,BQ p,AI c] rI:=⟨λr h=>by
  obtain ⟨N,a⟩:=Cy h;exact((AAA N) t p c).snd r (a N (az _))⟩
instance(a b c):CT (Dq a b c) 242 [AL a,BQ b,AI c] rI:=Fe f242 0x810ea79b9fbea759be9b559ea1 [] (Dq.eq_1 ..)
instance(a b):CT (Jl a b) 178 [AL a,CB b] rI:=Fe f178 0x810ea710429bb69fd736555bbc5582e8d359bed359bed39fbe9bb69fd75c5980017d5501a1 [] (Jl.eq_1 ..)
instance(a b c):CT (MY a b c) 243 [AL a,eI b,lI c] rI:=B1 f243 0xad232221020497aa05918da55df9044b8103c9e304436a6523222102049ae2da010b36e8019f830241e45c5985c13693a902 [] (MY.eq_1 ..) (BM 0 35 34 0)
instance(a b):CT (G6 a b) 179 [AL a,Bm b] (rT eI eI):=KD f179 0x9d003e3d3c5e05ebd5d76191c6615dc65c9fd5da5d5cac81f0d8436a653e3d3c5e05e70141385e0228fb5e05eb8136720e8d91bb9d8d5e026528fb5e05e75b385981dac60b915981f438598180017d5536a1 [] (G6.eq_1 ..) (BM 0 40 39 0) (BM 2 62 61 0)
instance(a b c):CT (FU a b c) 121 [AL a,(eL 25 CB) b,Bm c] rI:=B1 f121 0x8160017d6c55055e1b1a19050305ebbed355194b0cc9d31943055e651b1a190503059ae2daf880017d55016236 [] (FU.eq_1 ..) (BM 0 27 26 0)
instance(a b c):CT (IG a b c) 165 [AL a,CB b,Bm c] rI:=Fe f165 0x8160017d6c9fbed39f80017d559ea1 [] (IG.eq_1 ..)
instance(a b):CT (MK a b) 384 [eI a,.pt (AL b).cells] rB:=Fe f384 0x8171e1ba [] (MK.eq_1 ..)
instance(a b):CT (ML a b) 385 [B6 a,.pt (AL b).cells] rB:=Fe f385 0x81dd5c9e36 [] (ML.eq_1 ..)
instance(a b):CT (Ga a b) 340 [AL a,A5 b] rB:=Fe f340 0xa6b4105d01b410e1a1 [] (Ga.eq_1 ..)
instance(a b c):CT (FH a b c) 274 [AL a,A5 b,A5 c] rI:=B1 f274 0x81aa089655010896556b8c181716c306ebf489fd5502436b8c65181716c3069a02c7559f80017d559ea1 [] (FH.eq_1 ..) (BM 0 24 23 0)
instance(a b):CT (KB a b) 393 [AL a,eI b] (rT lI eI):=B1 f393 0x81ee0701e907025a97e907025ae907025a3ca9d1c58e3655d507fae907025a9ae1c05901c0bea2bb36409336 [] (KB.eq_1 ..) (BH 0 19 18 0 (hO 7 lI))
instance(a):CT (HU a) 348 [AL a] (rO (eL 1 (eL 1 eB))):=KD f348 0xee37c8370497a9d11802c80537051c1b1ac805370897f601148161c8053705651c1b1ac80537089ad5e8bb993fc1d53765c837049ae1c0fe9300 [.mkx 1 [.bool false] (.s 18)] (HU.eq_1 ..) (BH 0 13 12 0 (hO 3 (eL 1 (eL 1 eB)))) (BH 2 28 27 0 (hX 5 1 eB))
instance(a b c d):CT (HV a b c d) 280 [AL a,A5 b,A5 c,A8 d] rI:=KD f280 0xad47464578050697aa059161915c5a5d615d5c5985ecacacf0f0d8cdd8cdaadda56081616a65474645780506e7b678050325242309780507eb88618d5c618de1aa715ca560818d7805036525242309780507e7388296aaddf25ac1c10162a1 [] (HV.eq_1 ..) (BM 0 37 36 0) (BM 2 71 70 0)
theorem ABz(l:Fp)(r:Bool)(h:Iv l=Y r):AV prog 347 [lI l] (.sh (eB r)):=by
  unfold Iv at h;rw[<-sS]at h;split at h
  · rename_i a
    cases h;exact iL l a
  .cases h
instance ACv(l:Fp):Ct Go.Proofs.Tryz.prog (Iv l) 347 [lI l] (rS eB):=⟨ABz l⟩
instance(a b c d e):CT (GL a b c d e) 278 [AL a,A5 b,A5 c,A8 d,eB e] rI:=Fe f278 0x81aa0a0e5d705c3659f4df9ff4df0162620401 [] (GL.eq_1 ..)
instance(a b c):CT (E4 a b c) 217 [AL a,BQ b,Bm c] rI:=Fe f217 0x8160017d6c9fbe9b559ea1 [] (E4.eq_1 ..)
instance(a b):CT (E5 a b) 276 [Sj a,lI b] rI:=Fe f276 0xdc5d61e1595d855c9e36 [] (E5.eq_1 ..)
instance(a b):CT (Hf a b) 343 [eI a,eI b] (rT eI Ii):=Fe f343 0x9d5a3f5a3f013f60817301283f013f36ba [.cvt .u64 (.s 9),.cvt .u64 (.s 11),.bin (.w) .shr (.s 16) (.c (.int .u64 63)),.bin (.w) .shr (.s 18) (.c (.int .u64 63)),.cvt .i64 (.s 21)] (Hf.eq_1 ..)
instance(a b):CT (Fm a b) 342 [Sj a,.pt [lI b]] (λr=>.tp [eI r.1,Ii r.2.1,eB r.2.2]):=Fe f342 0x819d369d7d5d615c03ff59819d0a71035c5a5c819d369d7d5ddce1369336 [] (Fm.eq_1 ..)
instance(a b):CT (Gv a b) 277 [F1 a,lI b] rB:=Fe f277 0xa60a05a55c7705a55c810ea20e360e36aa083608609d1173010f550342609d1173010f55b6601001a1 [] (Gv.eq_1 ..)
instance(a b c):CT (GD a b c) 219 [BQ a,Bm b,A8 c] (rT lI eI):=KD f219 0x81821808cf4b4a0804eb01c08820149bb904c99b054308fa4c4b4a0804e7b5085e1918170908c308eb01c08501201455a81918170c0b0908c30a1918170c0b0908c30a3cf6f60584a8361401148a0817cf01145a6074a881615d6161ec91044b05c9e30443085e651918170908c308e7a899993fb73fb7364093a1 [.mkx 1 [.int .i64 0] (.s 17),.mkx 1 [.bool false] (.s 20)] (GD.eq_1 ..) (BH 0 25 24 0 λs0:Fp×a6=>[(8,.xo 1 (v? eI s0.1)),(9,.xo 1 (v? eB s0.2))]) (BM 2 76 75 0)
instance(a b c d):CT (E3 a b c d) 279 [AL a,BQ b,Bm c,A8 d] (rT lI eI):=Fe f279 0x818273966c9b5901c0f4d0d09f01c0be6c9b55364062a1 [] (E3.eq_1 ..)
instance(a b c d):CT (Ki a b c d) 220 [AL a,CB b,Bm c,Bv d] rI:=Fe f220 0xe2d791f880e8d06c9bb69f850e030f42d0d0555bb6550162a1 [] (Ki.eq_1 ..)
instance(a b c d):CT (GM a b c d) 221 [AL a,A5 b,A5 c,A8 d] (rT A5 eI):=Fk f221 0x8189550c0802fb250c08060697d93801d18d5c043881610c080265fb250c080606e7380250fd3f0e5d5989fcf796df9f89fcf796df01fd62a1 [.Aap [.z ⟨X,.list 1 []⟩,.w 34]] [.cell 8 (Y 2),.tmp 9] λr h e f=>by
  unfold GM at h;have:=BH 0 39 38 0 λs0:d3=>[(12,.bx [⟨X,lI s0.ci⟩,⟨X,lE s0.c9⟩])];exact nz
instance(a):CT (DR a) 281 [JW a] rI:=Fe f281 0x8196b5d059f4bc55a8d09e00 [] (DR.eq_1 ..)
instance(a b):CT (Gs a b) 350 [lI a,lI b] (rO (eL 2 Si)):=KD f350 0xee057709056a0597db056a05db78056a0776db78056a07db78056a073c0202480247054636028a0ab40136b401a5f9f9db056a05eadb78056a07dc605afadb056a059ac5c002406a02 [] (Gs.eq_1 ..) (BH 0 10 9 0 (hO 5 (eL 2 Si))) (BH 2 7 0 0 (hO 5 (eL 2 Si)))
instance(a):CT (EE a) 282 [JW a] (rT (eL 2 Si) (eL 2 Si)):=Fe f282 0x82820e84b584bc0e74b574bc024002409300 [] (EE.eq_1 ..)
instance(a):CT (Du a) 351 [JW a] (rO lI):=B1 f351 0xee37db08370597db083705db0837053ca9d1c5d70174b59d8d3765db083705e75bbc01c0fe9300 [] (Du.eq_1 ..) (BH 0 10 9 0 (hO 3 lI))
instance(a):CT (Dh a) 283 [JW a] (rO lI):=B1 f283 0xee0401c80bed0697c80bed06c80bed063ca9d1c58a0a0e91360e5d36b40184bcac81f0d87e04fac80bed06e70141a801c0820e0844fe9300 [] (Dh.eq_1 ..) (BH 0 13 12 0 (hO 4 lI))
instance(a b c):CT (He a b c) 284 [eI a,lI b,lI c] (rO lI):=KD f284 0xee0a01201f1e0a0497201f1e0a04201f1e0a043ca9d1c58860816177fa201f1e0a049a9801c0070111100f0702059711100f07020511100f0702053cf60114d7369d8d07fa11100f0702059a81993f364002e0 [.mkx 1 [.bool false] (.s 13)] (He.eq_1 ..) (BH 0 17 16 0 (hX 7 1 eB)) (BH 2 32 31 0 (hO 10 lI))
instance(a b c d):CT (Ho a b c d) 222 [A5 a,A5 b,Hg c,A8 d] (rT Hg eI):=Fk f222 0x8013b818904460e5d5df20eecc1ff5989004681710e084481890046dc71010b0182e8084459896af70e0844084b0dc90646dfdf6ac962a1 [] [.cell 8 (Y 2),.tmp 9] λr h e f=>by
  unfold Ho at h;exact nz
instance(a b c d e f):CT (GE a b c d e f) 352 [AL a,BQ b,AI c,Bm d,Bv e,eB f] rI:=Fe f352 0xe2d791f880e8d06c9b9fbebb38d0d09f80017d6c9fbea79b559e62627f [] (GE.eq_1 ..)
instance(a b c):CT (Gt a b c) 428 [eI a,lI b,lI c] (rO lI):=B1 f428 0x821807010f0e0d07020597f68d36149d8d07fa0f0e0d0702059a81991a3647fe02e0 [] (Gt.eq_1 ..) (BH 0 15 14 0 (hX 7 1 eI))
theorem AAX:CK f413 (.seq (.region [⟨Y 4,.mv (.c (.int .i64 0)),W⟩] [0,1])
 (.seq (.seq (.region [⟨Y 5,.mv (.s 0),W⟩,
    ⟨Y 6,.isn (.s 5),W⟩] [0,1,6])
  (.cond (.s 6) (.seq (.region [⟨Y 4,.mv (.c (.int .i64 (-1))),W⟩] [4])
   (.ret))
  (.skip [0,1])))
 (.seq (.region [⟨Y 7,.mv (.s 0),W⟩,
    ⟨Y 8,.mv (.s 1),W⟩,
    ⟨Y 9,.iad (.s 7) (.s 8) 1,W⟩,
    ⟨Y 10,.ld (.s 9),W⟩,
    ⟨Y 4,.mv (.s 10),W⟩] [4])
 (.ret)))) [.tmp 4]:=c!
instance ACl(l:Option Fp)(i:Int):Ct Go.Proofs.Tryz.prog (Mx l i) 413 [(eO 1 eI) l,eI i] (rS eI):=Fi AAX λr h a b=>by
  cases l with
  |none=>replace h:Y (-1)=Y r:=h;exact au|some l=>replace h:((XT l).bind λ_=>(idx l i).bind λx=>Y x)=Y r:=h;exact au
instance(a b c):CT (EM a b c) 415 [.pt (TY a).cells,eI b,eI c] rB:=Fe f415 0x813f0746619103097c01615d03097c015cd87e84027c01aa7fa5600e0184057c01acf0d87e377c5b3602e0 [.bin (.a [0,0,0]) .eql (.s 38) (.s 57)] (EM.eq_1 ..)
instance(a):CT (Cb a) 414 [.pt (TY a).cells] rB:=KD f414 0xad14e9cc055f14e9cc0514e9cc0581880114e906cc06262514e90604cc0997ff14e906cc06018e0136d514e906cc0665262514e90604cc099a84027c60ff14e9cc0585012c915dac81f0d8436a6514e9cc05e7017c5b607103097c9201 [] (Cb.eq_1 ..) (BM 0 20 19 0) (BH 2 38 37 0 (hT 6 eB))
noncomputable def cq:PC:=PC.of OD f386.body (xq bT 0xff00013cd90b7c024802470446201d0ab1201d09b1040bb1380001a4a30600045fa4a3060004a4a30600043c1f0a7c0151011e0ab1380052381f0a7c014fa2011e0ab138ffa4a30600048a0a20011d0ab1fc07b10108203638816afaa4a30600049a8402b181151d0ab18171377c5b38151d0ab100013f3e3d0200055f3f3e3d0200053f3e3d0200053c1f097c0151011e09b1383f3e3d0200053f3e3d0200053c005238a0381f097c014fa2011e09b138ff3f3e3d0200058a0a20011d09b1fc07b177088d618d745b5b380304b1777fa5600e017405b19d616afa3f3e3d020005e75b02b181151d09b18171745b5b38151d09b10060050308b10b030bb10001) []
theorem AAW:CK f386 cq []:=c!
theorem AAx:PC.x7 cq=X/\PC.x9 0 cq=X:=c!
abbrev Q_386(n:Nat):Prop:=∀(f:AM),CT (BL n f) 386 [.undef] (λr=>.bo (DG f) (DG r) 0 [])
theorem AAJ(n:Nat)(_ih_386:Q_386 n)(f:AM):CT (BL (n+1) f) 386 [.undef] (λr=>.bo (DG f) (DG r) 0 []):=iP AAW AAx λr h c b d=>by
  unfold cq;unfold f386;unfold BL at h;have:=BH 1 63 62 0 λs1:AM=>[(0,.bx (DG s1))];have:=BH 3 164 163 0 λs3:AM=>[(0,.bx (DG s3))];have:HJ 28 λ(a:AM)=>[(0,.bx (DG a))]:=⟨⟩;exact nz
theorem AAI:∀n:Nat,Q_386 n:=by
  intro n
  induction n with
  |zero=>exact(λf=>⟨λ_ h=>d_⟩)
  |succ n a=>exact AAJ n a
instance(f):CT (Hd f) 386 [.undef] (λr=>.bo (DG f) (DG r) 0 []):=⟨λr h=>by
  obtain ⟨N,a⟩:=Cy h;exact((AAI N) f).snd r (a N (az _))⟩
end Go.Sf.Sc
