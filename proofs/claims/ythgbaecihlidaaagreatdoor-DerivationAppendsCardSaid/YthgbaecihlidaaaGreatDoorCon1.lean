/- Contracts of the functions. -/
import Derived.Test.YthgbaecihlidaaaGreatDoorCon0
import Derived.Test.YthgbaecihlidaaaGreatDoorTryzShelf
import Derived.Test.YthgbaecihlidaaaGreatDoorFo
set_option linter.all false
set_option maxRecDepth 100000
set_option maxHeartbeats 4000000
namespace Go.Sf.Sc
open Go Go.Sf Go.Proofs.Tryz
instance xy(c:Int):CT (KJ c) 259 [Gr c] rB:=Fj f259 0xc47874307874f1 [] fun h=>by
  unfold KJ at h;exact nz
instance xz(b:ByteArray)(e:Int->K1)(c:FuncId)(a:Fq)[g:∀(d:Int),CT (e d) c (Gr d::a) rB]:CT (Gl b e) 260 [eS b,.clo c a] rI:=Fj f260 0x8138690565035e38698a0f1230740c7465c29f [] fun h=>by
  unfold Gl at h;have:HW 0 fun(f:Int)=>[(5,.tv (eI f))]:=⟨⟩;exact nz
instance yB(c:Int):CT (JY c) 262 [Gr c] rB:=Fj f262 0xf874f1 [] fun h=>by
  unfold JY at h;exact nz
instance yA(c:Int):CT (Mn c) 261 [Gr c] rB:=Fj f261 0xf8300afb0ef1 [] fun h=>by
  unfold Mn at h;exact nz
instance yh(c:Int):CT (Ke c) 304 [Gr c] rB:=Fj f304 0xf8307874f1 [] fun h=>by
  unfold Ke at h;exact nz
instance yC(a:ByteArray):CT (Gz a) 263 [eS a] (fun r=>.tp [eI r.1,eI r.2]):=Fj f263 0x7fadb58501b58a0512ad740c385d3f0d01f1 [.call 260 [.s 6,.c (.clo 304 [])]] fun h=>by
  unfold Gz at h;exact nz
instance yD(a:ByteArray):CT (Mm a) 264 [eS a] rB:=Fj f264 0xc40e0d013f380cf1 [.lst 1 [.c (.str ⟨#[45,62]⟩),.c (.str ⟨#[60,61]⟩),.c (.str ⟨#[62,61]⟩),.c (.str ⟨#[61,61]⟩),.c (.str ⟨#[33,61]⟩)]] fun h=>by
  unfold Mm at h;exact nz
instance xE(a:ByteArray):CT (I3 a) 212 [eS a] (fun r=>.tp [eI r.1,eI r.2.1,eI r.2.2]):=Fj f212 0x817fffb57f053f5d817f0e5d7f307f975d055d7f01367f643f5d0e5d7f01367f643f5d0e5d1230f1 [.call 260 [.s 15,.c (.clo 261 [])],.call 260 [.s 23,.c (.clo 262 [])],.call 265 [.c (.str ⟨#[123,125,40,41,91,93,44,59,58,61,43,45,42,60,62,33,38,124,46,63]⟩),.s 42]] fun h=>by
  unfold I3 at h;exact nz
instance vz(t:Eg):CT (JZ t) 147 [UZ t] (fun r=>.tp [eS r.1,eB r.2]):=Fj f147 0x7f780c013078557430817f11970136bfbffdb804b83c013f3f01855581a13f9b [.mv (.c (.str ⟨#[]⟩)),.bin (.s) .add (.c (.str ⟨#[34]⟩)) (.s 13),.bin (.s) .add (.s 14) (.c (.str ⟨#[34]⟩)),.bin (.s) .eql (.s 16) (.c (.str ⟨#[]⟩)),.mv (.c (.str ⟨#[]⟩))] fun h=>by
  unfold JZ at h;have:HJ 12 fun(a:ByteArray)=>[(4,.tv (eS a))]:=⟨⟩;exact nz
instance vC(a:ByteArray):CT (Dn a) 103 [eS a] rB:=Fj f103 0x815d01970046f1 [] fun h=>by
  unfold Dn at h;exact nz
instance vo(m:BL)(a:BL):CT (Mq m a) 140 [Ia m,.pt (Ia a).cells] rB:=Fj f140 0x8106557ec3 [] fun h=>by
  unfold Mq at h;exact nz
abbrev Q_141(n:Nat):Prop:=∀(t:ej)(a:Int),CT (C1 n t a) 141 [AN t,eI a] (fun r=>.Abf 4 (List.map HT r))
theorem rZ(n:Nat)(_ih_141:Q_141 n)(t:ej)(a:Int):CT (C1 (n+1) t a) 141 [AN t,eI a] (fun r=>.Abf 4 (List.map HT r)):=Fj f141 0x99044f7341b955190590030590033c191ad46484b95504ce044ec3 [] fun h=>by
  unfold C1 at h;have:HJ 14 fun(b:List mh)=>[(5,.xo 4 (List.map HT b))]:=⟨⟩;exact nz
theorem rY:∀n:Nat,Q_141 n:=by
  intro n
  induction n with
  |zero=>exact(fun t a=>⟨fun _ h=>by cases h⟩)
  |succ n b=>exact rZ n b
instance vp(t:ej)(a:Int):CT (LK t a) 141 [AN t,eI a] (fun r=>.Abf 4 (List.map HT r)):=⟨fun r h=>by
  obtain ⟨N,b⟩:=DU h;exact((rY N) t a).snd r (b N (bk _))⟩
instance xB(y:mh)(a:mh):CT (IB y a) 209 [HT y,.pt (HT a).cells] rB:=Fj f209 0x8106557ec3 [] fun h=>by
  unfold IB at h;exact nz
instance xC(l:List ByteArray):CT (H4 l) 210 [lB l] rI:=Fj f210 0x91b408000475ffb5fb45307fa95d81800061b4080004f7ac0bf1 [] fun h=>by
  unfold H4 at h;have:HA 0 10 9 0 fun(a:Int)(_:Unit)=>[(10,.tv (eI a))]:=⟨⟩;exact nz
instance vq(b:mh)(a:List mh):CT (E7 b a) 142 [HT b,lA a] rI:=Fj f142 0x81368801060106013c017863a89e385c850ba8f85777789e5c385cbba8ffb50e105d81a97ec3 [] fun h=>by
  unfold E7 at h;have:HJ 40 fun(c:Bool)=>[(6,.tv (eB c))]:=⟨⟩;exact nz
instance vA(t:ej)(a:Int):CT (I6 t a) 101 [AN t,eI a] rI:=Fj f101 0x9176026ebb044530b1d971fa76028163a80b01ac0b01820ed4ffb563a87f78015c385c7f0e10044501557fa955053dba00c9b1b97ec3 [] fun h=>by
  unfold I6 at h;have:HA 1 7 6 0 fun(b:Int)(_:Unit)=>[(7,.tv (eI b))]:=⟨⟩;exact nz
instance vr(n:Int)(a:ej):CT (KK n a) 143 [eI n,.pt (AN a).cells] rB:=Fj f143 0xc4635574de [] fun h=>by
  unfold KK at h;exact nz
instance vu(y:CA)(a:CA):CT (Mp y a) 145 [Jv y,.pt (Jv a).cells] rB:=Fj f145 0x8106557ec3 [] fun h=>by
  unfold Mp at h;exact nz
instance vw(b:Int)(a:Int):CT (JL b a) 146 [eI b,eI a] rB:=Fj f146 0xc40a78740174307874de [] fun h=>by
  unfold JL at h;exact nz
instance vB(t:ej)(a:Int):CT (I4 t a) 102 [AN t,eI a] rI:=Fj f102 0x81ff3619013c010aa903b7030577a9aa42a8195d0a080f9e30080f5c5d810e100745015c7fa9558110053d074b01c90744075fa1c3 [] fun h=>by
  unfold I4 at h;have:HJ 25 fun(b:Bool)=>[(25,.tv (eB b))]:=⟨⟩;exact nz
instance c61(t:ej):CT (DJ t) 61 [AN t] (fun r=>.tp [eS r.1,eI r.2]):=Fj f61 0x81bf002e2d2cfd75b50155640ed4074b8101c90744075f00612e2d2cfdc5b2301d1c1bfd75b50155640ed4ba91c9b1b930611d1c1bfdc532ff36bfc4d038cf81bf81637e3f9b [.mv (.c (.str ⟨#[]⟩)),.mv (.c (.str ⟨#[]⟩)),.mv (.c (.str ⟨#[]⟩)),.mv (.c (.str ⟨#[]⟩))] fun h=>by
  unfold DJ at h;have:HA 1 29 28 0 fun(b:Int)(_:Unit)=>[(29,.tv (eI b))]:=⟨⟩;have:HA 3 46 45 0 fun(a:Int)(_:Unit)=>[(46,.tv (eI a))]:=⟨⟩;exact nz
instance wQ(n:Int)(a:Int):CT (Gs n a) 166 [eI n,eI a] rB:=Fj f166 0xf80174de [] fun h=>by
  unfold Gs at h;exact nz
instance wP(t:Int):CT (LP t) 165 [eI t] rB:=Fj f165 0x81a9f1 [] fun h=>by
  unfold LP at h;exact nz
instance wT(e:Bc)(a:Int):CT (ME e a) 168 [CF e,eI a] rB:=Fj f168 0xc40ead57770a0eada10e7ec3 [] fun h=>by
  unfold ME at h;exact nz
instance wR(e:Bc)(a:d6):CT (LQ e a) 167 [CF e,.pt (A8 a).cells] rB:=Fj f167 0x81a9cf6a01c3 [] fun h=>by
  unfold LQ at h;exact nz
instance vJ(g:d6):CT (Cm g) 110 [A8 g] rI:=Fj f110 0x81368e105c36bf5589d0380b7e9b [.call 72 [.s 14,.c (.clo 165 [])]] fun h=>by
  unfold Cm at h;exact nz
instance v7(n:Int)(a:ej):CT (GN n a) 148 [eI n,.pt (AN a).cells] rB:=Fj f148 0x81637e9f [] fun h=>by
  unfold GN at h;exact nz
instance wA(a:Bc)(b:ej):CT (GO a b) 150 [CF a,.pt (AN b).cells] rB:=Fj f150 0x81d07ec3 [] fun h=>by
  unfold GO at h;exact nz
instance wB(n:Int)(b:Int)(a:Int):CT (CZ n b a) 151 [eI n,eI b,eI a] rB:=Fj f151 0xf801740130026503 [] fun h=>by
  unfold CZ at h;exact nz
instance xT(a:Int)(b:ej):CT (La a b) 228 [eI a,.pt (AN b).cells] rB:=Fj f228 0xc4635574de [] fun h=>by
  unfold La at h;exact nz
instance wV(t:ej)(l:Fp):CT (F1 t l) 170 [AN t,lI l] rI:=Fj f170 0x81368e10017d0172e1c3 [] fun h=>by
  unfold F1 at h;exact nz
instance wU(t:ej)(a:Int):CT (EK t a) 169 [AN t,eI a] (fun r=>.tp [lA r.1,eI r.2]):=Fj f169 0x81821807011514070375014d0354044c0e170354044c01140114810107db151407c29514991ad43604c0700eb301ab0440c3 [] fun h=>by
  unfold EK at h;have:HA 0 21 20 0 fun(b:Int)(c:List mh)=>[(7,.xo 4 (List.map HT c)),(21,.tv (eI b))]:=⟨⟩;have:HS 31:=⟨⟩;have:HX 33 fun(a:mh)(v:List ByteArray)=>mh.mk a.mr a.Low a.Aam v:=⟨⟩;exact nz
instance wC(t:ej)(p:ed)(a:Bv):CT (FW t p a) 152 [AN t,BO p,Fr a] (fun r=>.tp [HT r.1,eB r.2]):=Fk f152 0x81bab1d9a136ba0146c16301a1eb6f55bd3736ba0146c163bd7e02c9e4 [] [.cell 6 (some 4),.tmp 7] fun r h b c=>by
  unfold FW at h;exact nz
instance yE(n:Int)(t:kg):CT (HQ n t) 266 [eI n,UY t] rB:=Fj f266 0xf8a178a17801f47e9b01 [] fun h=>by
  unfold HQ at h;exact nz
instance xG(n:Int)(a:Test):CT (II n a) 214 [eI n,GY a] rI:=Fj f214 0x81ffb50a086d034230086db25df8f47e9b01 [] fun h=>by
  unfold II at h;exact nz
instance wD(n:Int)(l:List Test):CT (Gq n l) 153 [eI n,lT l] rI:=Fj f153 0x91e711000475bb8d384b03c98d05430061e7110004f7ac0b01f574de [] fun h=>by
  unfold Gq at h;have:HA 0 19 18 0 fun(a:Int)(_:Unit)=>[(19,.tv (eI a))]:=⟨⟩;exact nz
instance vD(t:ej)(p:ed):CT (C2 t p) 104 [AN t,BO p] rI:=Fj f104 0x8136a014bbaa42a808573c3b3a085706753c3b3a0857063c3b3a0857063ce96cca14856cca89a984f90aa905a86cf9085dba024997b18d37ba04c9b1d90857613c3b3a085706c5ca993fa88963aa42380b9edda8890e108432010e10bd7d6d327d0172e19a [.mkx 1 [.bool false] (.s 55)] fun h=>by
  unfold C2 at h;have:HA 0 60 59 0 fun(b:Int)(a:ae)=>[(8,.xo 1 (List.map eB a)),(60,.tv (eI b))]:=⟨⟩;exact nz
instance xI(n:Int)(a:ej):CT (Mi n a) 216 [eI n,.pt (AN a).cells] rB:=Fj f216 0x81637e9f [] fun h=>by
  unfold Mi at h;exact nz
instance xJ(a:Bc)(b:ej):CT (Mj a b) 217 [CF a,.pt (AN b).cells] rB:=Fj f217 0x81d07ec3 [] fun h=>by
  unfold Mj at h;exact nz
instance wF(t:ej)(g:d6):CT (Iy t g) 155 [AN t,A8 g] rB:=Fj f155 0xc4a910a1a9107e9a [] fun h=>by
  unfold Iy at h;exact nz
instance xL(y:Bv)(a:Bv):CT (Nl y a) 219 [Fr y,.pt (Fr a).cells] rB:=Fj f219 0xf85c5c38557ec3 [] fun h=>by
  unfold Nl at h;exact nz
instance wG(t:ej)(b:hO)(a:Int):CT (KD t b a) 156 [AN t,CP b,eI a] rI:=Fj f156 0x81368e10044501eeb7f5a178a1787341b77e787e0a63015c385c9605c937f9eb6f556c5bb73789636c5bb7f455073dba04c9b1b9ee06776290 [] fun h=>by
  unfold KD at h;exact nz
instance vE(t:ej)(a:hO):CT (Ix t a) 105 [AN t,CP a] rI:=Fj f105 0x912f2e570475bb01d8378165612f2e57047ceeb7ffb563eeb77f0a63aa41b7387341b27341b77f086d5bb7377d6d5b06779a [] fun h=>by
  unfold Ix at h;have:HA 1 47 46 0 fun(b:Int)(_:Unit)=>[(47,.tv (eI b))]:=⟨⟩;exact nz
instance yi(l:Fp)(n:Int):CT (HL l n) 306 [lI l,eI n] rI:=Fj f306 0x9109a5650575f56f0530740189ad745d8180006109a56505f79f [] fun h=>by
  unfold HL at h;have:HA 0 9 8 0 fun(a:Int)(_:Unit)=>[(9,.tv (eI a))]:=⟨⟩;exact nz
instance yj(l:Fp)(n:Int):CT (KI l n) 307 [lI l,eI n] rB:=Fj f307 0x815d0197309f [] fun h=>by
  unfold KI at h;exact nz
instance yG(g:d6)(p:Bo):CT (LY g p) 268 [A8 g,MA p] rI:=Fj f268 0x911e1d1cd67589a9ee03c67ea98403c655816f00611e1d1cd6c5b2bbdf5cbbcf7e9a [] fun h=>by
  unfold LY at h;have:HA 0 30 29 0 fun(a:Int)(_:Unit)=>[(30,.tv (eI a))]:=⟨⟩;exact nz
instance xM(g:d6)(p:Bo):CT (Ec g p) 220 [A8 g,MA p] rI:=Fj f220 0x816d377de19a [] fun h=>by
  unfold Ec at h;exact nz
instance wH(g:d6)(p:Bo):CT (ER g p) 157 [A8 g,MA p] (fun r=>.tp [A8 r.1,Bm r.2.1,eI r.2.2]):=Fk f157 0x60023b81969604460e5c0e55370860aa2b2a2908a60875c8b2034803476a0401774aca979e7e4ab2975c55a2ead7c6816f0860aa612b2a2908a608c5b208a60519181708a60875c83201d280550432816f08a6056119181708a608c532e3369696fe4602ec6dab07c9e39a [] [.cell 4 (some 2),.cell 5 (some 2),.tmp 6] fun r h e f=>by
  unfold ER at h;have:HA 0 25 24 0 fun(c:Int)(a:d6)=>[(8,.bx [⟨true,lI a.d5⟩,⟨true,lE a.d7⟩]),(25,.tv (eI c))]:=⟨⟩;have:HA 2 43 42 0 fun(d:Int)(b:d6)=>[(8,.bx [⟨true,lI b.d5⟩,⟨true,lE b.d7⟩]),(43,.tv (eI d))]:=⟨⟩;exact nz
instance wI(a:d6)(b:d6)(m:eb):CT (DH a b m) 158 [A8 a,A8 b,Bm m] rI:=Fj f158 0x9149484760d575f59e6f9ef45c6f5c55ac5555a2a2eaead7c6d7c689d0745d8180006149484760d5c5b260732c2b2a60d575ac80558055896355745d816f380473612c2b2a60d5c53289d0df38cfcf7d6d7de1e4 [] fun h=>by
  unfold DH at h;have:HA 0 44 43 0 fun(c:Int)(_:Unit)=>[(44,.tv (eI c))]:=⟨⟩;have:HA 2 73 72 0 fun(d:Int)(_:Unit)=>[(73,.tv (eI d))]:=⟨⟩;exact nz
instance xN(l:Fp):CT (GB l) 222 [lI l] rI:=Fj f222 0x81152a142914991af1 [] fun h=>by
  unfold GB at h;exact nz
instance wJ(a:d6)(b:d6)(m:eb):CT (C6 a b m) 159 [A8 a,A8 b,Bm m] rB:=Fj f159 0xc4d00ea10a63550ef46d37abe4 [] fun h=>by
  unfold C6 at h;exact nz
instance vF(a:hO):CT (KC a) 106 [CP a] rI:=Fj f106 0x8136886d0d42375bb7377d6d0d42375bb7377d96960749e311726d0b42375b01779b [] fun h=>by
  unfold KC at h;exact nz
instance wK(l:Fp)(n:Int):CT (JW l n) 160 [lI l,eI n] (fun r=>.own (lI r)):=Fj f160 0xf0ada505000475a5050004a50500043c90d2b8c1308138dba50500047f01c001406502 [] fun h=>by
  unfold JW at h;have:HA 0 8 7 0 fun(b:Int)(a:Fp)=>[(5,.ow (lI a)),(8,.tv (eI b))]:=⟨⟩;exact nz
instance vG(a:hO):CT (KB a) 107 [CP a] (fun r=>.tp [lI r.1,lI r.2]):=Fj f107 0x82820e0b845bb7840d420e0b6c5bb76c0d774001409b [] fun h=>by
  unfold KB at h;exact nz
instance wL(a:Int)(c:ej)(b:d6):CT (Kc a c b) 161 [eI a,.pt (AN c).cells,.pt (A8 b).cells] rB:=Fj f161 0x81eed980557e026503 [] fun h=>by
  unfold Kc at h;exact nz
instance xU(t:ej)(a:Int):CT (Kf t a) 229 [AN t,eI a] (fun r=>.own (lI r)):=Fj f229 0x82182914053890033c0184b955ff19014fb30119ad61389031ce0140c3 [] fun h=>by
  unfold Kf at h;have:HW 0 fun(b:Int×Fp)=>[(1,.tv (eI b.1)),(5,.xo 1 (List.map eI b.2))]:=⟨⟩;exact nz
instance wW(t:ej)(a:Int)(b:Int):CT (I5 t a b) 171 [AN t,eI a,eI b] rB:=Fj f171 0x810e010e01ab939002 [] fun h=>by
  unfold I5 at h;exact nz
instance vL(t:ej)(b:Int)(a:Int)(c:Int):CT (Hq t b a c) 112 [AN t,eI b,eI a,eI c] rB:=Fj f112 0xc40eee075fa1ab0e84075fa13789d03078740eb330ab9357fe [] fun h=>by
  unfold Hq at h;exact nz
instance wM(a:Int)(c:d6)(b:ej):CT (Gm a c b) 162 [eI a,.pt (A8 c).cells,.pt (AN b).cells] rB:=Fj f162 0x81a96f9e556f5c555537a2ead75fa1026503 [] fun h=>by
  unfold Gm at h;exact nz
instance vH(t:ej)(g:d6)(a:Fp)(b:Fp):CT (Gw t g a b) 108 [AN t,A8 g,lI a,lI b] rB:=Fj f108 0xc4a91030a91030625702 [] fun h=>by
  unfold Gw at h;exact nz
instance yI(c:ea):CT (EW c) 274 [AI c] rB:=Fj f274 0xf8a83863aa42639e63843263bd6384ca0b6ccad309c98d04779b [] fun h=>by
  unfold EW at h;exact nz
abbrev Ab2(n:Nat):Prop:=∀(c:ea),CT (BS n c) 224 [AI c] rB
abbrev Ab0(n:Nat):Prop:=∀(k:ea),CT (Ba n k) 276 [AI k] rB
theorem rh(n:Nat)(_ih_224:Ab2 n)(_ih_276:Ab0 n)(c:ea):CT (BS (n+1) c) 224 [AI c] rB:=Fj f224 0xc4083f5c30ff04b804b85e5d60b83c010a0e9d38011a090431055e1a090431058160b83c010a0e9d385d60b83c010a0e9d385d0583327f0ba19b [.call 275 [.s 42,.c (.clo 276 [])]] fun h=>by
  unfold BS at h;have:HJ 10 fun(a:Bool)=>[(4,.tv (eB a))]:=⟨⟩;exact nz
theorem rk(n:Nat)(_ih_224:Ab2 n)(_ih_276:Ab0 n)(k:ea):CT (Ba (n+1) k) 276 [AI k] rB:=Fj f276 0x81a99d019b [] fun h=>by
  unfold Ba at h;exact nz
theorem kh:∀n:Nat,Ab2 n/\Ab0 n:=by
  intro n
  induction n with
  |zero=>exact⟨(fun c=>⟨fun _ h=>by cases h⟩),(fun k=>⟨fun _ h=>by cases h⟩)⟩
  |succ n a=>exact⟨rh n a.1 a.2,rk n a.1 a.2⟩
instance xP(c:ea):CT (GW c) 224 [AI c] rB:=⟨fun r h=>by
  obtain ⟨N,a⟩:=DU h;exact((kh N).1 c).snd r (a N (bk _))⟩
instance yK(k:ea):CT (Pv k) 276 [AI k] rB:=⟨fun r h=>by
  obtain ⟨N,a⟩:=DU h;exact((kh N).2 k).snd r (a N (bk _))⟩
abbrev Q_225(n:Nat):Prop:=∀(c:ea),CT (CG n c) 225 [AI c] (fun r=>.tp [eI r.1,eI r.2])
theorem rj(n:Nat)(_ih_225:Q_225 n)(c:ea):CT (CG (n+1) c) 225 [AI c] (fun r=>.tp [eI r.1,eI r.2]):=Fj f225 0x7f30600260025e01855560feda0b60010675302c74307f979d094b0ac99d094360fe61da0b600106c5b27f309b [] fun h=>by
  unfold CG at h;have:HA 0 13 12 0 fun(b:Int)(a:Int×Int)=>[(4,.tv (eI a.1)),(5,.tv (eI a.2)),(13,.tv (eI b))]:=⟨⟩;have:HJ 31 fun(d:Int)=>[(5,.tv (eI d))]:=⟨⟩;exact nz
theorem ri:∀n:Nat,Q_225 n:=by
  intro n
  induction n with
  |zero=>exact(fun c=>⟨fun _ h=>by cases h⟩)
  |succ n a=>exact rj n a
instance xQ(c:ea):CT (H5 c) 225 [AI c] (fun r=>.tp [eI r.1,eI r.2]):=⟨fun r h=>by
  obtain ⟨N,a⟩:=DU h;exact((ri N) c).snd r (a N (bk _))⟩
instance wN(c:ea):CT (Ew c) 163 [AI c] rI:=Fj f163 0x81f5745d81979ddd9d019b [] fun h=>by
  unfold Ew at h;exact nz
instance yL(a:Bv)(b:Int):CT (G4 a b) 277 [Fr a,.pt [eI b]] rB:=Fj f277 0xa7036cf9c3 [] fun h=>by
  unfold G4 at h;exact nz
instance xR(t:ej)(q:ed)(a:Int):CT (D2 t q a) 226 [AN t,BO q,eI a] rI:=Fj f226 0x91a504033c083d014b05314b0b4983fff2c1109e0061a803a50403083d014b0bc901bb8dab6290 [] fun h=>by
  unfold D2 at h;have:HW 0 fun(b:Int)=>[(8,.tv (.pt [eI b]))]:=⟨⟩;exact nz
abbrev Q_164(n:Nat):Prop:=∀(t:ej)(p:ed)(c:ea),CT (B4 n t p c) 164 [AN t,BO p,AI c] rI
theorem rb(n:Nat)(_ih_164:Q_164 n)(t:ej)(p:ed)(c:ea):CT (B4 (n+1) t p c) 164 [AN t,BO p,AI c] rI:=Fj f164 0x9135343304030575bb9d8d37094b0ac99d09430061353433040305c5b2607360733cd38d36886dcae0e07d6dcae0e0bba88d37aca8a8d309c98ddc857e93bf9b [.AbF (.s 1)] fun h=>by
  unfold B4 at h;have:HA 0 53 52 0 fun(a:Int)(_:Unit)=>[(53,.tv (eI a))]:=⟨⟩;exact nz
theorem ra:∀n:Nat,Q_164 n:=by
  intro n
  induction n with
  |zero=>exact(fun t p c=>⟨fun _ h=>by cases h⟩)
  |succ n a=>exact rb n a
instance wO(t:ej)(p:ed)(c:ea):CT (Lc t p c) 164 [AN t,BO p,AI c] rI:=⟨fun r h=>by
  obtain ⟨N,a⟩:=DU h;exact((ra N) t p c).snd r (a N (bk _))⟩
instance vI(t:ej)(p:ed)(c:ea):CT (C3 t p c) 109 [AN t,BO p,AI c] rI:=Fj f109 0x810e9d8d37bb9dbb8dabe4 [] fun h=>by
  unfold C3 at h;exact nz
instance c62(t:ej)(a:hO):CT (Hk t a) 62 [AN t,CP a] rI:=Fj f62 0x810e9d10428db237dd30375bb73782ebd8bbd8bbd837bb8db237dd557d0172e19a [] fun h=>by
  unfold Hk at h;exact nz
instance vK(t:ej)(a:Int)(b:Fp):CT (Jy t a b) 111 [AN t,eI a,lI b] rI:=Fj f111 0x91232221020475f59e80745cefba8102c9b1b900612322210204f7ac0b010b30ebd436830241b955accf30939002 [] fun h=>by
  unfold Jy at h;have:HA 0 35 34 0 fun(c:Int)(_:Unit)=>[(35,.tv (eI c))]:=⟨⟩;exact nz
instance c63(t:ej)(a:gt):CT (Ft t a) 63 [AN t,Cw a] (fun r=>.tp [eI r.1,eI r.2]):=Fj f63 0x7f003e3d3cd675b501c16f9ebd6f5cbd5537b50185df55a281ead75f00613e3d3cd6c50141325702282726d675b530640e805777377f80570261282726d6c55b32b5850bbd0b9eb5706d32b57001726d309a [] fun h=>by
  unfold Ft at h;have:HA 0 40 39 0 fun(b:Int)(_:Unit)=>[(40,.tv (eI b))]:=⟨⟩;have:HA 2 62 61 0 fun(c:Int)(_:Unit)=>[(62,.tv (eI c))]:=⟨⟩;exact nz
instance zf(t:ej)(a:List hO)(b:gt):CT (Di t a b) 27 [AN t,(eL 25 CP) a,Cw b] rI:=Fj f27 0x815d01976a3705571b1a1905030575bbd837194b0cc9d819430557611b1a19050305f7ac0b017d0172e16230 [] fun h=>by
  unfold Di at h;have:HA 0 27 26 0 fun(c:Int)(_:Unit)=>[(27,.tv (eI c))]:=⟨⟩;exact nz
instance zg(a:gt):CT (D4 a) 28 [Cw a] (fun r=>.sh (Cw r)):=Fk f28 0xa26a5702e711d675c8f9d20efdca826f570261e711d6c5ca03500dc93f3f0e84320ebd0dc99b [.Aaz [.w 9,.w 13],.Aaz [.g 14 0 2,.g 14 1 2,.z ⟨true,.list 1 []⟩]] [.cell 2 (some 3)] fun r h d e=>by
  unfold D4 at h;have:HA 0 19 18 0 fun(c:Int)(b:gt)=>[(3,.bx [⟨true,lI b.d6.d5⟩,⟨true,lE b.d6.d7⟩,⟨true,(eL 1 lI) b.gp⟩]),(19,.tv (eI c))]:=⟨⟩;exact nz
instance vM(t:ej)(a:hO)(b:gt):CT (Gf t a b) 113 [AN t,CP a,Cw b] rI:=Fj f113 0x815d01976a37bbd8377d0172e1e4 [] fun h=>by
  unfold Gf at h;exact nz
instance wX(t:ej)(p:ed)(a:gt):CT (EA t p a) 172 [AN t,BO p,Cw a] rI:=Fj f172 0x815d01976a37bb8dabe4 [] fun h=>by
  unfold EA at h;exact nz
instance ym(n:Int)(a:ej):CT (Jk n a) 312 [eI n,.pt (AN a).cells] rB:=Fj f312 0x81637e9f [] fun h=>by
  unfold Jk at h;exact nz
instance yn(a:Bc)(b:ej):CT (Jl a b) 313 [CF a,.pt (AN b).cells] rB:=Fj f313 0x81d07ec3 [] fun h=>by
  unfold Jl at h;exact nz
instance yM(t:ej)(g:d6):CT (FI t g) 279 [AN t,A8 g] rB:=Fj f279 0xc4a910a1a9107e9a [] fun h=>by
  unfold FI at h;exact nz
instance xV(t:ej)(p:d6)(g:d6):CT (EJ t p g) 230 [AN t,A8 p,A8 g] rI:=Fj f230 0x8189086dab086d37607318171660d5757d6d96e337024360736118171660d57c02c737377d0172e1e4 [] fun h=>by
  unfold EJ at h;have:HA 0 24 23 0 fun(a:Int)(_:Unit)=>[(24,.tv (eI a))]:=⟨⟩;exact nz
instance yq(t:ej)(a:Int):CT (H3 t a) 319 [AN t,eI a] (fun r=>.tp [lI r.1,eI r.2]):=Fj f319 0x81f00701e707023875e7070238e70702383c90d2b88e3037810107dbe70702387c7ec0f2c0700eb3d43040c3 [] fun h=>by
  unfold H3 at h;have:HA 0 19 18 0 fun(c:Int)(b:Fp)=>[(7,.ow (lI b)),(19,.tv (eI c))]:=⟨⟩;exact nz
instance yT(t:ej):CT (F5 t) 287 [AN t] (fun r=>.own ((eL 1 (eL 1 eB)) r)):=Fj f287 0xf031da31047590d21802da0531051c1b1ada05310875e90114816fda053105611c1b1ada053108f701ebd4993fcf81013161da31047c7ec001409b [.mkx 1 [.bool false] (.s 18)] fun h=>by
  unfold F5 at h;have:HA 0 13 12 0 fun(a:Int)(b:List ae)=>[(3,.ow ((eL 1 (eL 1 eB)) b)),(13,.tv (eI a))]:=⟨⟩;have:HA 2 28 27 0 fun(d:Int)(c:ae)=>[(5,.xo 1 (List.map eB c)),(28,.tv (eI d))]:=⟨⟩;exact nz
theorem r7:CK f333 (.seq (.region [⟨some 4,.mv (.c (.int .i64 0)),none⟩] [0,1])
 (.seq (.seq (.region [⟨some 5,.mv (.s 0),none⟩,
    ⟨some 6,.isn (.s 5),none⟩] [0,1,6])
  (.cond (.s 6) (.seq (.region [⟨some 4,.mv (.c (.int .i64 (-1))),none⟩] [4])
   (.ret))
  (.skip [0,1])))
 (.seq (.region [⟨some 7,.mv (.s 0),none⟩,
    ⟨some 8,.mv (.s 1),none⟩,
    ⟨some 9,.iad (.s 7) (.s 8) 1,none⟩,
    ⟨some 10,.ld (.s 9),none⟩,
    ⟨some 4,.mv (.s 10),none⟩] [4])
 (.ret)))) [.tmp 4]:=by decide +kernel
instance yt(l:Option Fp)(i:Int):Ct Go.Proofs.Tryz.prog (KE l i) 333 [(eO 1 eI) l,eI i] (fun r=>.sh (eI r)):=Fi r7 fun r h a b=>by
  cases l with
  |none=>replace h:some (-1)=some r:=h;exact au|some l=>replace h:((Tx l).bind fun _=>(idx l i).bind fun x=>some x)=some r:=h;exact au
instance yv(f:AH)(b:Int)(k:Int):CT (Db f b k) 335 [.pt (Qi f).cells,eI b,eI k] rB:=Fj f335 0x813f05466f9e030992016f5c0309920155d75f8402920189ad745d0e0184059201a2ead75f845b5b30026503 [.bin (.a [0,0,0]) .eql (.s 38) (.s 57)] fun h=>by
  unfold Db at h;exact nz
instance yu(f:AH):CT (B9 f) 334 [.pt (Qi f).cells] rB:=Fj f334 0x9114e7cc055e14e7cc0514e7cc0581880114e706cc06262514e70604cc0975ff14e706cc06018e0130810114e706cc0661262514e70604cc097c8402925dff14e7cc0585012c9e5ca281ead75f006114e7cc05c501925b5d63030992f1 [] fun h=>by
  unfold B9 at h;have:HA 0 20 19 0 fun(a:Int)(_:Unit)=>[(20,.tv (eI a))]:=⟨⟩;have:HA 2 38 37 0 fun(c:Int)(b:Bool)=>[(6,.tv (eB b)),(38,.tv (eI c))]:=⟨⟩;exact nz
noncomputable def XN:PC:=PC.of Ws f314.body (xq bT 0xff00013cc80b92024802470446201d0abc201d09bc040bbc320001a4a30600045ea4a3060004a4a30600043c1f0a920151011e0abc320052321f0a92014fb3011e0abc32ffa4a30600048a0a20011d0abcfe07bc01082030328165dba4a30600047c8402bc81151d0abc8163845b5b32151d0abc00013f3e3d0200055e3f3e3d0200053f3e3d0200053c1f09920151011e09bc323f3e3d0200053f3e3d0200053c005232a0321f0992014fb3011e09bc32ff3f3e3d0200058a0a20011d09bcfe07bc010a08806f806c5b5b32aabc017801745d0e016c05bc7f8000db3f3e3d020005c55b02bc81151d09bc81636c5b5b32151d09bc005d050308bc0b030bbc0001) []
theorem r6:CK f314 XN []:=by decide +kernel
theorem sS:PC.Aal XN=true/\PC.Aad 0 XN=true:=by decide +kernel
abbrev Q_314(n:Nat):Prop:=∀(f:AH),CT (A4 n f) 314 [.undef] (fun r=>.bo (Ch f) (Ch r) 0 [])
theorem rn(n:Nat)(_ih_314:Q_314 n)(f:AH):CT (A4 (n+1) f) 314 [.undef] (fun r=>.bo (Ch f) (Ch r) 0 []):=tX r6 sS fun r h i g j=>by
  unfold XN;unfold f314;unfold A4 at h;have:HA 1 63 62 0 fun(d:Int)(e:AH)=>[(0,.bx (Ch e)),(63,.tv (eI d))]:=⟨⟩;have:HA 3 164 163 0 fun(a:Int)(c:AH)=>[(0,.bx (Ch c)),(164,.tv (eI a))]:=⟨⟩;have:HJ 28 fun(b:AH)=>[(0,.bx (Ch b))]:=⟨⟩;exact nz
theorem rm:∀n:Nat,Q_314 n:=by
  intro n
  induction n with
  |zero=>exact(fun f=>⟨fun _ h=>by cases h⟩)
  |succ n a=>exact rn n a
instance yo(f:AH):CT (F8 f) 314 [.undef] (fun r=>.bo (Ch f) (Ch r) 0 []):=⟨fun r h=>by
  obtain ⟨N,a⟩:=DU h;exact((rm N) f).snd r (a N (bk _))⟩
end Go.Sf.Sc
