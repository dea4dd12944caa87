/- Contracts of the functions. -/
import Derived.Test.YtagcclhejecceaaGreatCon0
import Derived.Test.YtagcclhejecceaaGreatTryzShelf
import Derived.Test.YtagcclhejecceaaGreatTw
set_option linter.all false
set_option maxRecDepth 100000
set_option maxHeartbeats 4000000
namespace Go.Sf.Sc
open Go Go.Sf Go.Proofs.Tryz
instance(a):CT (Kk a) 332 [Pc a] rB:=Fe f332 0xdd9f97309f979201 [] (Kk.eq_1 ..)
instance vY(b:ByteArray)(d:Int->K1)(c:FuncId)(a:Fq)[g:∀(e:Int),CT (d e) c (Pc e::a) rB]:CT (Gz b d) 333 [eS b,.w8 c a] rI:=Bz f333 0x815c01ff05cf655c01ff8a0f1230970c97cf81bd [] (Gz.eq_1 ..) (⟨⟩:HW 0 fun(f:Int)=>[(5,.tv (eI f))])
instance(a):CT (Jx a) 335 [Pc a] rB:=Fe f335 0x819f979201 [] (Jx.eq_1 ..)
instance(a):CT (NP a) 334 [Pc a] rB:=Fe f334 0x819f300a0e300e9201 [] (NP.eq_1 ..)
instance(a):CT (LB a) 361 [Pc a] rB:=Fe f361 0x819f309f979201 [] (LB.eq_1 ..)
instance(a):CT (HU a) 336 [eS a] (rT eI eI):=Fe f336 0x9ecc588185fb81f012cc970c5c613f0d019201 [.call 333 [.s 6,.c (.w8 361 [])]] (HU.eq_1 ..)
instance(a):CT (NO a) 337 [eS a] rB:=Fe f337 0xdd0e0d013f5c0c9201 [.yI 1 [.c (.str ⟨#[45,62]⟩),.c (.str ⟨#[60,61]⟩),.c (.str ⟨#[62,61]⟩),.c (.str ⟨#[61,61]⟩),.c (.str ⟨#[33,61]⟩)]] (NO.eq_1 ..)
instance(a):CT (JQ a) 289 [eS a] (fun r=>.tp [eI r.1,eI r.2.1,eI r.2.2]):=Fe f289 0x819e7c819e053f61819e0e619e309e8c6105619efb9e6c3f610e619efb9e6c3f610e6112309201 [.call 333 [.s 15,.c (.w8 334 [])],.call 333 [.s 23,.c (.w8 335 [])],.call 338 [.c (.str ⟨#[123,125,40,41,91,93,44,59,58,61,43,45,42,60,62,33,38,124,46,63]⟩),.s 42]] (JQ.eq_1 ..)
instance(a):CT (Jy a) 226 [Vo a] (rT eS eB):=Bz f226 0x9e9f0c01309f5d9730819e118cfbbfbff3d004d03c013f3f01855d81c63fbe [.mv (.c (.str ⟨#[]⟩)),.bin (.s) .add (.c (.str ⟨#[34]⟩)) (.s 13),.bin (.s) .add (.s 14) (.c (.str ⟨#[34]⟩)),.bin (.s) .eql (.s 16) (.c (.str ⟨#[]⟩)),.mv (.c (.str ⟨#[]⟩))] (Jy.eq_1 ..) (⟨⟩:HJ 12 fun(b:ByteArray)=>[(4,.tv (eS b))])
instance(a):CT (Dv a) 159 [eS a] rB:=Fe f159 0x8161018c00469201 [] (Dv.eq_1 ..)
instance(a b):CT (NR a b) 193 [Cj a,.pt (Cj b).cells] rB:=Fe f193 0x81065da2df [] (NR.eq_1 ..)
abbrev Q_194(n:Nat):Prop:=∀(t:AC)(a:Int),CT (DG n t a) 194 [AM t,eI a] (fun r=>.x5 4 (List.map Fu r))
theorem rh(n:Nat)(_ih_194:Q_194 n)(t:AC)(a:Int):CT (DG (n+1) t a) 194 [AM t,eI a] (fun r=>.x5 4 (List.map Fu r)):=Fj f194 0x99044f9b41d45d1905b30305b3033c191a01556c90d45d04ce044edf [] fun h=>by
  unfold DG at h;have:HJ 14 fun(b:List kl)=>[(5,.xo 4 (List.map Fu b))]:=⟨⟩;exact nz
theorem rg:∀n:Nat,Q_194 n:=by
  intro n
  induction n with
  |zero=>exact(fun t a=>⟨fun _ h=>by cases h⟩)
  |succ n b=>exact rh n b
instance(t a):CT (Ln t a) 194 [AM t,eI a] (fun r=>.x5 4 (List.map Fu r)):=⟨fun r h=>by
  obtain ⟨N,b⟩:=DD h;exact((rg N) t a).snd r (b N (az _))⟩
instance(a b):CT (Ib a b) 260 [Fu a,.pt (Fu b).cells] rB:=Fe f260 0x81065da2df [] (Ib.eq_1 ..)
instance(a):CT (IT a) 261 [lB a] rI:=Bz f261 0xa5c3080004da7c810e3045309ea66181606b6ac3080004a1b2e59201 [] (IT.eq_1 ..) (A4 0 10 9 0)
instance(a b):CT (FK a b) 195 [Fu a,lA b] rI:=Bz f195 0xb28801060106013c019f74d7aa5c5ee5d7819ff59faa5e5c5ee3d77c810e106181a6a2df [] (FK.eq_1 ..) (⟨⟩:HJ 40 fun(c:Bool)=>[(6,.tv (eB c))])
instance(a b):CT (JT a b) 118 [AM a,eI b] rI:=Bz f118 0xa5070602ac9a044530ece492ef0706028174d70bfbe501820e01557c8174d79e9f015e5c5e9e0e100445015d9ea65d053df600c9ecd4a2df [] (JT.eq_1 ..) (A4 1 7 6 0)
instance(a b):CT (Kl a b) 196 [eI a,.pt (AM b).cells] rB:=Fe f196 0xdd745d9701bd [] (Kl.eq_1 ..)
instance(a b):CT (NQ a b) 198 [C4 a,.pt (C4 b).cells] rB:=Fe f198 0x81065da2df [] (NQ.eq_1 ..)
instance(a b):CT (Jh a b) 199 [eI a,eI b] rB:=Fe f199 0xdd0a9f970197309f9701bd [] (Jh.eq_1 ..)
instance(a b):CT (JR a b) 119 [AM a,eI b] rI:=Bz f119 0x817c19013c010aa603db03057ea6cd42d719610a080faa30080f5e61810e100745015e9ea65d8110053d074b01c907440789c6df [] (JR.eq_1 ..) (⟨⟩:HJ 25 fun(c:Bool)=>[(25,.tv (eB c))])
instance(a):CT (DY a) 57 [AM a] (rT eS eI):=Gr f57 0x81bf002e2d2cf3d5d85d840155074bd8c9074407436b6a2e2d2cf3e0bb301d1c1bf3d5d85d840155f6a5c9ecd4306a1d1c1bf3e0327cbfdd745e5cd681bf8174a23fbe [.mv (.c (.str ⟨#[]⟩)),.mv (.c (.str ⟨#[]⟩)),.mv (.c (.str ⟨#[]⟩)),.mv (.c (.str ⟨#[]⟩))] (DY.eq_1 ..) (A4 1 29 28 0) (A4 3 46 45 0)
instance(a):CT (MW a) 157 [eI a] rB:=Fe f157 0x819f979201 [] (MW.eq_1 ..)
instance(a b c):CT (Ll a b c) 158 [AM a,EO b,eI c] rI:=Fe f158 0xb28a07055c0197309e605f4107895e5d609007895e5d58c56191c669b3 [] (Ll.eq_1 ..)
instance(a b):CT (HZ a b) 90 [AM a,EO b] rI:=Gr f90 0xa544435f04d59a018d816b6a44435f04a15e5f022726255f05d58acceb5c6190d45d58c56181915f026a2726255f05e03258ca5eee5cd6d658016c018cd9a8 [] (HZ.eq_1 ..) (A4 0 39 38 0) (A4 2 68 67 0)
instance(a):CT (G4 a) 91 [lI a] (rO lI):=Bz f91 0x821831c308cdda01f40530149e17e101316ac308cd819594991a30400001 [] (G4.eq_1 ..) (BH 0 10 9 0 (hX 3 1 eI))
instance(a b):CT (Fy a b) 42 [AM a,EO b] (rT EO eI):=Fk f42 0x4013b81a902460e5e0e5d58a93046848dd0c9a8 [] [.cell 4 (some 2),.tmp 5] fun r h c d=>by
  unfold Fy at h;exact nz
instance(a):CT (EE a) 44 [Cj a] rB:=Fe f44 0x81749b7ebe [] (EE.eq_1 ..)
instance(a b):CT (L3 a b) 201 [eI a,.pt (AM b).cells] rB:=Fe f201 0xdd745d9701bd [] (L3.eq_1 ..)
instance(a b):CT (F1 a b) 125 [AM a,lI b] rI:=Fe f125 0xb28e10fb016c018cd9df [] (F1.eq_1 ..)
instance(a b):CT (LE a b) 203 [AM a,eI b] (rO lI):=Bz f203 0x82182914055cb3033c0190d45dff19014fb10119cc6a5cb331ce0140df [] (LE.eq_1 ..) (⟨⟩:HW 0 fun(c:Int×Fp)=>[(1,.tv (eI c.1)),(5,.xo 1 (List.map eI c.2))])
instance(a b c):CT (JS a b c) 126 [AM a,eI b,eI c] rB:=Fe f126 0x810e7501d993b302 [] (JS.eq_1 ..)
instance(a b c d):CT (Gq a b c d) 60 [AM a,eI b,eI c,eI d] rB:=Fe f60 0xdd0e5f410789c65575900789c6adca5e309f970eb130d9935f0103 [] (Gq.eq_1 ..)
instance(a b):CT (Eg a b) 93 [AM a,EO b] rI:=Fe f93 0x8161a902498c8d01a8 [] (Eg.eq_1 ..)
instance(a b):CT (HE a b) 121 [eI a,eI b] rB:=Fe f121 0x819f019701bd [] (HE.eq_1 ..)
instance(a):CT (Ls a) 120 [eI a] rB:=Fe f120 0x81a69201 [] (Ls.eq_1 ..)
instance(a b):CT (Mp a b) 123 [Bp a,eI b] rB:=Fe f123 0xdd0eccf50a0ecc5e75a2df [] (Mp.eq_1 ..)
instance(a b):CT (Lt a b) 122 [Bp a,.pt (Al b).cells] rB:=Fe f122 0x81a6d67701df [] (Lt.eq_1 ..)
instance(a):CT (DK a) 58 [Al a] rI:=Fe f58 0xb28e105e58bf5d58ca5e5c0ba2be [.call 71 [.s 14,.c (.w8 120 [])]] (DK.eq_1 ..)
instance(a b):CT (Ga a b) 227 [eI a,.pt (AM b).cells] rB:=Fe f227 0x8174a2bd [] (Ga.eq_1 ..)
instance(a b):CT (Gb a b) 228 [Bp a,.pt (AM b).cells] rB:=Fe f228 0x81745ea2df [] (Gb.eq_1 ..)
instance(a b c):CT (Cf a b c) 229 [eI a,eI b,eI c] rB:=Fe f229 0x819f0197013002cf [] (Cf.eq_1 ..)
instance(t a):CT (EX t a) 124 [AM t,eI a] (rT lA eI):=kZ f124 0x818218070115140703da014d0354044c0e170354044c01140114d807fd15140703819514991a01ad04c09ab101d90440df [] (EX.eq_1 ..) (BH 0 21 20 0 (hX 7 4 Fu)) (⟨⟩:HS 31) (⟨⟩:HX 33 fun(a:kl)(v:List ByteArray)=>kl.mk a.l4 a.xt a.wM v)
instance(a b c):CT (Fc a b c) 230 [AM a,Bo b,E8 c] (rT Fu eB):=Fk f230 0x81f6ece4c658f60346c57401c6828c605dd1adf60346c574d1a203c9f1 [] [.cell 6 (some 4),.tmp 7] fun r h d e=>by
  unfold Fc at h;exact nz
instance(a b):CT (Hz a b) 339 [eI a,N0 b] rB:=Fe f339 0x819fc69fc69f015d5ca2be01 [] (Hz.eq_1 ..)
instance(a b):CT (Ih a b) 290 [eI a,Fv b] rI:=Fe f290 0x817cdda655034230a655bb61819f5d5ca2be01 [] (Ih.eq_1 ..)
instance(a b):CT (HD a b) 231 [eI a,lT b] rI:=Bz f231 0xa51312110004d59ab45c4b04c9b40543006a1312110004a1b2e5fbf09701bd [] (HD.eq_1 ..) (A4 0 19 18 0)
instance(a b):CT (DI a b) 160 [AM a,Bo b] rI:=Bz f160 0xb2a014e3cd42d7085f3c3b3a085f06da3c3b3a085f063c3b3a085f063c01f473c4148573c4588aa690fa0aa605d773fa0861f603498cecb455f605c9ece4085f6a3c3b3a085f06e0c4993fd758cacd425c0baa58c5d7588a0e10fe7510d1e3c158016c018cd9a8 [.yg 1 [.bool false] (.s 55)] (DI.eq_1 ..) (BH 0 60 59 0 (hX 8 1 eB))
instance(a b):CT (ND a b) 291 [eI a,.pt (AM b).cells] rB:=Fe f291 0x8174a2bd [] (ND.eq_1 ..)
instance(a b):CT (NE a b) 292 [Bp a,.pt (AM b).cells] rB:=Fe f292 0x81745ea2df [] (NE.eq_1 ..)
instance(a b):CT (JK a b) 232 [AM a,Al b] rB:=Fe f232 0xdda610c6a610a2a8 [] (JK.eq_1 ..)
instance(a b):CT (OI a b) 294 [E8 a,.pt (E8 b).cells] rB:=Fe f294 0x819f5e5e5c5da2df [] (OI.eq_1 ..)
instance(a b c):CT (Kg a b c) 233 [AM a,Bg b,eI c] rI:=Fe f233 0xb28e100445015f41db58f0c69fc69f9b41dba29fa20a74015e5c5ea906c955fa828c605d735bdbadca735bdb5d5c5d073df605c9ecd45f41067e69b3 [] (Kg.eq_1 ..)
instance(a b):CT (JJ a b) 161 [AM a,Bg b] rI:=Bz f161 0xa52f2e5f04d59a01e755816b6a2f2e5f04a15f41db7c81745f41db9e0a74cd41db5c9b41bb9b41db9ea6e6dbad9ae6067ea8 [] (JJ.eq_1 ..) (A4 1 47 46 0)
instance(a b c):CT (DE a b c) 61 [Al a,Al b,As c] rI:=Gr f61 0xa54948476d0306d5f0aa60aa5d5c5e605e5d58855d5da7a7e9e9f85ef85e58ca5e976181606b6a4948476d0306e0bb6d9b2c2b2a6d0306d585ebeb58ca5d976181605c049b6a2c2b2a6d0306e03258ca5eee5cd6d6e3ad9ad9f1 [] (DE.eq_1 ..) (A4 0 44 43 0) (A4 2 73 72 0)
instance(a):CT (EH a) 62 [lI a] rI:=Fe f62 0x81152a142914991a9201 [] (EH.eq_1 ..)
instance(a b c):CT (CQ a b c) 30 [Al a,Al b,As c] rB:=Fe f30 0xdd745e0ec60a745d0e5d5c0e558d01f1 [] (CQ.eq_1 ..)
instance(a b):CT (Hq a b) 352 [lI a,eI b] rI:=Bz f352 0xa509806b05d5f060053097fb8acc976181606b6a09806b05a181bd [] (Hq.eq_1 ..) (A4 0 9 8 0)
instance(a b):CT (Kj a b) 353 [lI a,eI b] rB:=Fe f353 0x8161018c30bd [] (Kj.eq_1 ..)
instance(a b):CT (L0 a b) 305 [Al a,GM b] rI:=Bz f305 0xa51e1d1c5f05d58aa65f41de5ea2a690de5e5d8160006a1e1d1c5f05e0bbe3ee5ee3d6a2a8 [] (L0.eq_1 ..) (A4 0 30 29 0)
instance(a b):CT (Er a b) 245 [Al a,GM b] rI:=Fe f245 0x810e8de3d9a8 [] (Er.eq_1 ..)
instance(a b):CT (Ee a b) 234 [Al a,GM b] (fun r=>.tp [Al r.1,As r.2.1,eI r.2.2]):=Fk f234 0x6d023b81a9a902460e5e0e5d55086dcd2b2a29086d5f08daf7bb034803477704017e4ac48caaa24abb8c5e5da7e9f85e8160086dcd6a2b2a29086d5f08e0bb086d5f05191817086d5f08daf73201dceb04328160086d5f056a191817086d5f08e03208c958a9a930460446848dd0c908c9a8 [] [.cell 4 (some 2),.cell 5 (some 2),.tmp 6] fun r h c d=>by
  unfold Ee at h;have:=BH 0 25 24 0 fun s0:c9=>[(8,.bx [⟨true,lI s0.ca⟩,⟨true,lE s0.ci⟩])];have:=BH 2 43 42 0 fun s2:c9=>[(8,.bx [⟨true,lI s2.ca⟩,⟨true,lE s2.ci⟩])];exact nz
instance(a):CT (Kf a) 162 [Bg a] rI:=Fe f162 0xb2c5550d42e6dbad9a550d42e6dbad016ca9a9024908c9118c550b42e6017ebe [] (Kf.eq_1 ..)
instance(a b):CT (Jw a b) 235 [lI a,eI b] (rO lI):=Bz f235 0x8202cc80050004da80050004800500043cb3dcd0c530815cfd800500049e01c001406b02 [] (Jw.eq_1 ..) (BH 0 8 7 0 (hO 5 lI))
instance(a):CT (Ke a) 163 [Bg a] (rT lI lI):=Fe f163 0x82820e0b317fdb900d420e0b735bdb730d7e400140be [] (Ke.eq_1 ..)
instance(a b c):CT (K7 a b c) 236 [eI a,.pt (AM b).cells,.pt (Al c).cells] rB:=Fe f236 0x815f41e4eba202cf [] (K7.eq_1 ..)
instance(a b c):CT (G2 a b c) 237 [eI a,.pt (Al b).cells,.pt (AM c).cells] rB:=Fe f237 0x81a660aa5d605e5d5d55a7e9f8c602cf [] (G2.eq_1 ..)
instance(a b c d):CT (HO a b c d) 164 [AM a,Al b,lI c,lI d] rB:=Fe f164 0xdda61030a61030695f02 [] (HO.eq_1 ..)
instance(a):CT (Ej a) 341 [AP a] rB:=Fe f341 0x819fd75c74cd4274aa74fe74d17490c40b73c4e209c9b4047ebe [] (Ej.eq_1 ..)
abbrev zC(n:Nat):Prop:=∀(c:d5),CT (BV n c) 295 [AP c] rB
abbrev zt(n:Nat):Prop:=∀(k:d5),CT (Bf n k) 343 [AP k] rB
theorem ry(n:Nat)(_ih_295:zC n)(_ih_343:zt n)(c:d5):CT (BV (n+1) c) 295 [AP c] rB:=Fj f295 0xdd083f5e30ff04d004d065616dd03c010a0ec85c011a09043105651a09043105816dd03c010a0ec85c616dd03c010a0ec85c610583329e0bc6be [.call 342 [.s 42,.c (.w8 343 [])]] fun h=>by
  unfold BV at h;have:HJ 10 fun(a:Bool)=>[(4,.tv (eB a))]:=⟨⟩;exact nz
theorem r8(n:Nat)(_ih_295:zC n)(_ih_343:zt n)(k:d5):CT (Bf (n+1) k) 343 [AP k] rB:=Fj f343 0x81a6c801be [] fun h=>by
  unfold Bf at h;exact nz
theorem km:∀n:Nat,zC n/\zt n:=by
  intro n
  induction n with
  |zero=>exact⟨(fun c=>⟨fun _ h=>by cases h⟩),(fun k=>⟨fun _ h=>by cases h⟩)⟩
  |succ n a=>exact⟨ry n a.1 a.2,r8 n a.1 a.2⟩
instance(c):CT (Gk c) 295 [AP c] rB:=⟨fun r h=>by
  obtain ⟨N,a⟩:=DD h;exact((km N).1 c).snd r (a N (az _))⟩
instance(k):CT (QP k) 343 [AP k] rB:=⟨fun r h=>by
  obtain ⟨N,a⟩:=DD h;exact((km N).2 k).snd r (a N (az _))⟩
abbrev Q_296(n:Nat):Prop:=∀(c:d5),CT (CO n c) 296 [AP c] (rT eI eI)
theorem r6(n:Nat)(_ih_296:Q_296 n)(c:d5):CT (CO (n+1) c) 296 [AP c] (rT eI eI):=Fj f296 0x9e306d026d027d855d6d01030de86d0106da302c97309e8cc8094b0ac9c809436d01036a0de86d0106e0bb9e30be [] fun h=>by
  unfold CO at h;have:=BH 0 13 12 0 fun s0:Int×Int=>[(4,.tv (eI s0.1)),(5,.tv (eI s0.2))];have:HJ 31 fun(a:Int)=>[(5,.tv (eI a))]:=⟨⟩;exact nz
theorem rz:∀n:Nat,Q_296 n:=by
  intro n
  induction n with
  |zero=>exact(fun c=>⟨fun _ h=>by cases h⟩)
  |succ n a=>exact r6 n a
instance(c):CT (IX c) 296 [AP c] (rT eI eI):=⟨fun r h=>by
  obtain ⟨N,a⟩:=DD h;exact((rz N) c).snd r (a N (az _))⟩
instance(a):CT (E6 a) 238 [AP a] rI:=Fe f238 0xb2f09761818cc858c5c801be [] (E6.eq_1 ..)
instance(a b):CT (Hd a b) 344 [E8 a,.pt [eI b]] rB:=Fe f344 0xba0373fadf [] (Hd.eq_1 ..)
instance(a b c):CT (EC a b c) 297 [AM a,Bo b,eI c] rI:=Bz f297 0xa58004033c083d014b05314b0b49837c01c510aa006ad703800403083d014b0bc901e3b4d969b3 [] (EC.eq_1 ..) (⟨⟩:HW 0 fun(d:Int)=>[(8,.tv (.pt [eI d]))])
abbrev Q_239(n:Nat):Prop:=∀(t:AC)(p:d6)(c:d5),CT (B6 n t p c) 239 [AM t,Bo p,AP c] rI
theorem rn(n:Nat)(_ih_239:Q_239 n)(t:AC)(p:d6)(c:d5):CT (B6 (n+1) t p c) 239 [AM t,Bo p,AP c] rI:=Fj f239 0xa5353433040305d59ac8b455094b0ac9c80943006a353433040305e0bb6d9b6d9b3ce2b458c555c4c1c1e355c4c1c1e3d7b4ad85d7d7e209c9b4fc85a293bfbe [.yK (.s 1)] fun h=>by
  unfold B6 at h;have:=A4 0 53 52 0;exact nz
theorem rm:∀n:Nat,Q_239 n:=by
  intro n
  induction n with
  |zero=>exact(fun t p c=>⟨fun _ h=>by cases h⟩)
  |succ n a=>exact rn n a
instance(t p c):CT (L7 t p c) 239 [AM t,Bo p,AP c] rI:=⟨fun r h=>by
  obtain ⟨N,a⟩:=DD h;exact((rm N) t p c).snd r (a N (az _))⟩
instance(a b c):CT (DJ a b c) 165 [AM a,Bo b,AP c] rI:=Fe f165 0x810ec8b4ad9ac8e3b4d9f1 [] (DJ.eq_1 ..)
instance(a b):CT (IB a b) 94 [AM a,Bg b] rI:=Fe f94 0x810ec81042b4bbadc530e6db5582828ce7e3e7e3e7ad9ab4bbadc55d58016c018cd9a8 [] (IB.eq_1 ..)
instance(a b):CT (IF a b) 96 [Cj a,.pt [eI b]] rB:=Fe f96 0xba03c6df [] (IF.eq_1 ..)
instance(a b c):CT (Ef a b c) 45 [AM a,EO b,Bg c] rI:=Gr f45 0xa5727170050305d5c560aa735bbb605e735bbb5d55a7e9770343006a727170050305e0017fbb055f646362050305d58e105d0b3d014b0bc960055f6a646362050305a18eb1735bdb735bbb58ca317fbb0b900b7e0a74735bbb0b730b7e9f73107e0a08030f7e08619f9b41bb5c74cd41db745f41db74cd41bb0b5f41bbe3e7ad9a8d01f1 [] (Ef.eq_1 ..) (A4 0 100 99 0) (A4 2 114 113 0)
instance(a):CT (CD a) 23 [F8 a] rI:=Bz f23 0xa51e1d1cf3d59ae755c4c1194b0cc9e71943006a1e1d1cf3e0fc58bfd158016ca902498c55c4c158e5cd7ebe [.call 43 [.s 25,.c (.w8 44 [])]] (CD.eq_1 ..) (A4 0 30 29 0)
instance(a b c):CT (KM a b c) 59 [AM a,eI b,lI c] rI:=Bz f59 0xa52322210204d5f0aa91975eeaf68103c9ece46b6a2322210204a1b2e5010b30828c01ad830241d45d5885d63093b302 [] (KM.eq_1 ..) (A4 0 35 34 0)
instance(a b):CT (FB a b) 29 [AM a,CE b] (rT eI eI):=Gr f29 0x9e003e3d3c5f05d5d8c560aad1605ed15dadd8e55e5da781e97703436b6a3e3d3c5f05e00141325f022827265f05d581308491f5559e915f026a2827265f05e05b325881e5d10baa58819ac158d86c018c5530a8 [] (FB.eq_1 ..) (A4 0 40 39 0) (A4 2 62 61 0)
instance(a b c):CT (K9 a b c) 46 [AM a,Bg b,CE c] rI:=Fe f46 0x8161018c77ad9ae7ad016c018cd9f1 [] (K9.eq_1 ..)
instance(a b):CT (KD a b) 302 [eI a,.pt (AM b).cells] rB:=Fe f302 0x8174a2bd [] (KD.eq_1 ..)
instance(a b):CT (KE a b) 303 [Bp a,.pt (AM b).cells] rB:=Fe f303 0x81745ea2df [] (KE.eq_1 ..)
instance(a b):CT (FR a b) 243 [AM a,Al b] rB:=Fe f243 0xdda610c6a610a2a8 [] (FR.eq_1 ..)
instance(a b c):CT (EW a b c) 169 [AM a,Al b,Al c] rI:=Bz f169 0xb28aa68d01a68d6d9b1817166d0306d59a55a908c95502436d9b6a1817166d0306a102c78d58016c018cd9f1 [] (EW.eq_1 ..) (A4 0 24 23 0)
instance(a b):CT (IS a b) 304 [AM a,eI b] (rT lI eI):=Bz f304 0x8182020701131207025cda131207025c131207025c3cb3dcd08e3055d807fd131207025ca1a2c05801c09ab101553040df [] (IS.eq_1 ..) (BH 0 19 18 0 (hO 7 lI))
instance(a):CT (GB a) 244 [AM a] (rO (eL 1 (eL 1 eB))):=Gr f244 0x8202310d0c3104dab3dc18020d0c0531051c1b1a0d0c053108da01f4011481600d0c0531056a1c1b1a0d0c053108a1d8828c0155993fd6d8316a0d0c3104a1a2c00140be [.yg 1 [.bool false] (.s 18)] (GB.eq_1 ..) (BH 0 13 12 0 (hO 3 (eL 1 (eL 1 eB)))) (BH 2 28 27 0 (hX 5 1 eB))
instance(a b c d):CT (GD a b c d) 170 [AM a,Al b,Al c,As d] rI:=Gr f170 0xa5474645f206d5f0aa60aa5d5c5e605e5d58855d5da7a7e9e9f85ef85e58ca5e976181606b6a474645f206e0bbf20325242309f207d58860eb6091a258ca5d97618191f2036a25242309f207e032820eadca5eee5cd60ba269a8 [] (GD.eq_1 ..) (A4 0 37 36 0) (A4 2 71 70 0)
theorem uk(l:Fp)(r:Bool)(h:HT l=some r):AR prog 240 [lI l] (.sh (eB r)):=by
  unfold HT at h;rw[<-kU]at h;split at h
  · rename_i a
    cases h;exact ax l a
  .cases h
instance vq(l:Fp):Ct Go.Proofs.Tryz.prog (HT l) 240 [lI l] (rS eB):=⟨uk l⟩
instance(a b c d e):CT (FH a b c d e) 167 [AM a,Al b,Al c,As d,eB e] rI:=Fe f167 0xb28a0a0e5e755d30e38d8de3558d0169690401 [] (FH.eq_1 ..)
instance(a b c):CT (E4 a b c) 241 [AM a,Bo b,CE c] rI:=Fe f241 0x8161018c77ad9ab4d9f1 [] (E4.eq_1 ..)
instance(a b):CT (EG a b) 300 [N0 a,lI b] rI:=Fe f300 0xba5e60a2585e85a2df [] (EG.eq_1 ..)
instance(a b):CT (GL a b) 348 [eI a,eI b] (rT eI Jz):=Fe f348 0x9e5c3f5c3f013f61817601283f013f30bd [.yA .u64 (.s 9),.yA .u64 (.s 11),.bin (.w) .shr (.s 16) (.c (.int .u64 63)),.bin (.w) .shr (.s 18) (.c (.int .u64 63)),.yA .i64 (.s 21)] (GL.eq_1 ..)
instance(a b):CT (Ek a b) 347 [N0 a,.pt [lI b]] (fun r=>.tp [eI r.1,Jz r.2.1,eB r.2.2]):=Fe f347 0x819e309e8c5e605d037c819e0a74035d5c5d819e309e8c5ebaa230df [] (Ek.eq_1 ..)
instance(a b):CT (Fg a b) 301 [Fv a,lI b] rB:=Fe f301 0xdd9f97a29f975d810eb10e300e30588a083008619e1176010f550342619e1176010f55bb611001a8 [] (Fg.eq_1 ..)
instance(a b c):CT (Hw a b c) 242 [Bo a,CE b,As c] (rT lI eI):=Gr f242 0x81821808e14b4a0804d501c0882014b4e204c9b4054308fd4c4b4a0804e0fc085f19181709086d0308d501c08501201455c4191817e809086d030a191817e809086d030a3c01f401f40590c4301401148a0817e101145c6173c481605e60605d5daaf605c9ece4085f6a19181709086d0308e0c499993fd73fd73040f1 [.yg 1 [.int .i64 0] (.s 17),.yg 1 [.bool false] (.s 20)] (Hw.eq_1 ..) (BH 0 25 24 0 fun s0:Fp×a5=>[(8,.xo 1 (List.map eI s0.1)),(9,.xo 1 (List.map eB s0.2))]) (A4 2 76 75 0)
instance(a b c d):CT (EF a b c d) 168 [AM a,Bo b,CE c,As d] (rT lI eI):=Fe f168 0x8182760e5577b45801c09a8d32c1ad01c09a77b455304069a8 [] (EF.eq_1 ..)
instance(a b c d):CT (Iz a b c d) 97 [AM a,Bg b,CE c,B7 d] rI:=Fe f97 0xb2c5f558016c828cc177b4bbad850e030f42c1c1e6bbd969a8 [] (Iz.eq_1 ..)
instance(a b c d):CT (FI a b c d) 98 [AM a,Al b,Al c,As d] (rT Al eI):=Fk f98 0x81a9550c08022726250c080606daf73201dceb043281600c08026a2726250c080606e032025008c93f0e5e58a9f346848d8d58a9f34684558d0108c969a8 [.wP [.z ⟨true,.list 1 []⟩,.w 34]] [.cell 8 (some 2),.tmp 9] fun r h e f=>by
  unfold FI at h;have:=BH 0 39 38 0 fun s0:c9=>[(12,.bx [⟨true,lI s0.ca⟩,⟨true,lE s0.ci⟩])];exact nz
instance(a):CT (Cz a) 171 [H0 a] rI:=Fe f171 0x810e55fcc1e355db55c4c101be [] (Cz.eq_1 ..)
instance(a b):CT (Fd a b) 246 [lI a,lI b] (rO (eL 2 Pw)):=Gr f246 0x8202ccc3056b05dac3056b05c3f26b07cbc3f26b07c3f26b073c0202480247054630028a0aa60130a60197eaeac3056b05efc3f26b07ba615cfdc3056b05a1d0c002406b02 [] (Fd.eq_1 ..) (BH 0 10 9 0 (hO 5 (eL 2 Pw))) (BH 2 7 0 0 (hO 5 (eL 2 Pw)))
instance(a):CT (De a) 172 [H0 a] (rT (eL 2 Pw) (eL 2 Pw)):=Fe f172 0x82820e90fc90db0e73fc73db02400240be [] (De.eq_1 ..)
instance(a):CT (DN a) 247 [H0 a] (rO lI):=Bz f247 0x820231c3083105dac3083105c30831053cb3dcd0c50173fc9e91316ac3083105e05b067ec00140be [] (DN.eq_1 ..) (BH 0 10 9 0 (hO 3 lI))
instance(a):CT (DA a) 173 [H0 a] (rO lI):=Bz f173 0x820204010de8043106da0de80431060de80431063cb3dcd08a0a0eaa300e5e30a60190dba781e9f804fd0de8043106e00141fac0820e08440140be [] (DA.eq_1 ..) (BH 0 13 12 0 (hO 4 lI))
instance(a b c):CT (GK a b c) 174 [eI a,lI b,lI c] (rO lI):=Gr f174 0x82020a01201f1e0a04da201f1e0a04201f1e0a043cb3dcd0886181910afd201f1e0a04a19801c0070111100f070205da11100f07020511100f0702053c01f40114c5309e9107fd11100f070205a181993f304002cf [.yg 1 [.bool false] (.s 13)] (GK.eq_1 ..) (BH 0 17 16 0 (hX 7 1 eB)) (BH 2 32 31 0 (hO 10 lI))
instance(a b c d):CT (GW a b c d) 99 [Al a,Al b,GM c,As d] (rT GM eI):=Fk f99 0x8013b81a902460e5e5eee0e5d5dd67ca9014681740e084481a90146ba74010b0182828c084458a93046840844084b0dc906468d8dd0c969a8 [] [.cell 8 (some 2),.tmp 9] fun r h e f=>by
  unfold GW at h;exact nz
end Go.Sf.Sc
