/- Contracts of the functions. -/
import Derived.Test.YtpagkickoiafkaaGreatCon0
set_option linter.all false
set_option maxRecDepth 100000
set_option maxHeartbeats 4000000
open Option renaming some->Y
open Bool renaming true->X
namespace Go.Sf.Sc
open Go Go.Sf Go.Proofs.Tryz
instance(a):CT (Ld a) 330 [Oa a] rB:=Fe f330 0xf8a59630a5968c01 [] (Ld.eq_1 ..)
instance ABG(b:ByteArray)(e:Int->I1)(d:FuncId)(a:Fq)[g:∀(c:Int),CT (e c) d (Oa c::a) rB]:CT (Lf b e) 331 [eS b,.z5 d a] rI:=B0 f331 0x815801ff05ca5f5801ff8a0f1230960c96ca81bd [] (Lf.eq_1 ..) (⟨⟩:HW 0 λ(f:Int)=>[(5,.tv (eI f))])
instance(a):CT (Kq a) 333 [Oa a] rB:=Fe f333 0x81a5968c01 [] (Kq.eq_1 ..)
instance(a):CT (OS a) 332 [Oa a] rB:=Fe f332 0x81a530b8300e8c01 [] (OS.eq_1 ..)
instance(a):CT (MG a) 355 [Oa a] rB:=Fe f355 0x81a530a5968c01 [] (MG.eq_1 ..)
instance(a):CT (Le a) 334 [eS a] (rT eI eI):=Fe f334 0xa2cf558185f281f412cf960c585e3f0d018c01 [.call 331 [.s 6,.c (.z5 355 [])]] (Le.eq_1 ..)
instance(a):CT (OR a) 335 [eS a] rB:=Fe f335 0x81b80d013f580c8c01 [.lst 1 [.c (.str ⟨#[45,62]⟩),.c (.str ⟨#[60,61]⟩),.c (.str ⟨#[62,61]⟩),.c (.str ⟨#[61,61]⟩),.c (.str ⟨#[33,61]⟩)]] (OR.eq_1 ..)
instance(a):CT (OQ a) 291 [eS a] (λr=>.tp [eI r.1,eI r.2.1,eI r.2.2]):=Fe f291 0x81a27681a2053f5e81a20e5ea230a27c5e055ea2f2a26d3f5e0e5ea2f2a26d3f5e0e5e12308c01 [.call 331 [.s 15,.c (.z5 332 [])],.call 331 [.s 23,.c (.z5 333 [])],.call 336 [.c (.str ⟨#[123,125,40,41,91,93,44,59,58,61,43,45,42,60,62,33,38,124,46,63]⟩),.s 42]] (OQ.eq_1 ..)
instance(a):CT (PY a) 232 [XP a] (rT eS eB):=B0 f232 0xa2a50c0130a55a963081a2117cf2bfbf01e402e4023c013f3f01855a81be3fc3 [.mv (.c (.str ⟨#[]⟩)),.bin (.s) .add (.c (.str ⟨#[34]⟩)) (.s 13),.bin (.s) .add (.s 14) (.c (.str ⟨#[34]⟩)),.bin (.s) .eql (.s 16) (.c (.str ⟨#[]⟩)),.mv (.c (.str ⟨#[]⟩))] (PY.eq_1 ..) (⟨⟩:HJ 12 λ(b:ByteArray)=>[(4,.tv (eS b))])
instance(a):CT (Fc a) 178 [eS a] rB:=Fe f178 0x815e017c03468c01 [] (Fc.eq_1 ..)
instance(a b):CT (OW a b) 225 [GT a,.pt (GT b).cells] rB:=Fe f225 0x81065a9fdb [] (OW.eq_1 ..)
abbrev Q_226(n:Nat):Prop:=∀(t:AC)(a:Int),CT (Ej n t a) 226 [AO t,eI a] (λr=>.AaO 4 (List.map IW r))
theorem yI(n:Nat)(_ih_226:Q_226 n)(t:AC)(a:Int):CT (Ej (n+1) t a) 226 [AO t,eI a] (λr=>.AaO 4 (List.map IW r)):=Fj f226 0x99044fa141df5a1905b30305b3033c191a01386d77df5a04ce044edb [] λh=>by
  unfold Ej at h;have:HJ 14 λ(b:List gt)=>[(5,.xo 4 (List.map IW b))]:=⟨⟩;exact nz
theorem yH:∀n:Nat,Q_226 n:=by
  intro n
  induction n with
  |zero=>exact(λt a=>⟨λ_ h=>d!⟩)
  |succ n b=>exact yI n b
instance(t a):CT (Pa t a) 226 [AO t,eI a] (λr=>.AaO 4 (List.map IW r)):=⟨λr h=>by
  obtain ⟨N,b⟩:=Cl h;exact((yH N) t a).snd r (b N (aN _))⟩
instance(a b):CT (JF a b) 288 [IW a,.pt (IW b).cells] rB:=Fe f288 0x81065a9fdb [] (JF.eq_1 ..)
instance(a):CT (Mk a) 289 [lB a] rI:=B0 f289 0xaac1080004d576810e304530a2b65e815dfdc10800049bb4e08c01 [] (Mk.eq_1 ..) (BA 0 10 9 0)
instance(a b):CT (Iu a b) 227 [IW a,lA b] rI:=B0 f227 0xb48801060106013c01a574d4a7585ce0d481a5e2a5a7f65c55c8d476810e105e81b69fdb [] (Iu.eq_1 ..) (⟨⟩:HJ 40 λ(c:Bool)=>[(6,.tv (eB c))])
instance(a b):CT (OV a b) 176 [AO a,eI b] rI:=B0 f176 0xaa070602b2c8044530eae68cf00706028174d40bf2e001820e0138768174d4a2a501f65ca20e100445015aa2b65a053def03c9eadf9fdb [] (OV.eq_1 ..) (BA 1 7 6 0)
instance(a b):CT (Lh a b) 228 [eI a,.pt (AO b).cells] rB:=Fe f228 0xf8745a96fa [] (Lh.eq_1 ..)
instance(a b):CT (OU a b) 230 [HI a,.pt (HI b).cells] rB:=Fe f230 0x81065a9fdb [] (OU.eq_1 ..)
instance(a b):CT (Ka a b) 231 [eI a,eI b] rB:=Fe f231 0xf80aa596019630a596fa [] (Ka.eq_1 ..)
instance(a b):CT (OT a b) 177 [AO a,eI b] rI:=B0 f177 0x817619013c010ab603da03056eb6d242d4195e0a080fa730080f5c5e810e100745015ca2b65a8110053d074b00c907440778bedb [] (OT.eq_1 ..) (⟨⟩:HJ 25 λ(c:Bool)=>[(25,.tv (eB c))])
instance(a):CT (Ei a) 117 [AO a] (rT eS eI):=H6 f117 0x81bf002e2d2c0104d7d95a6d0e0138074baac907440743fd2e2d2c0104ddb5301d1c1b0104d7d95a6d0e0138ef8103c9eadf30651d1c1b0104dd3276bff874f6e581bf81749f3fc3 [.mv (.c (.str ⟨#[]⟩)),.mv (.c (.str ⟨#[]⟩)),.mv (.c (.str ⟨#[]⟩)),.mv (.c (.str ⟨#[]⟩))] (Ei.eq_1 ..) (BA 1 29 28 0) (BA 3 46 45 0)
instance(a b):CT (Hi a b) 252 [eI a,eI b] rB:=Fe f252 0x81a50196fa [] (Hi.eq_1 ..)
instance(a):CT (Mp a) 251 [eI a] rB:=Fe f251 0x81b68c01 [] (Mp.eq_1 ..)
instance(a b):CT (Nq a b) 254 [CD a,eI b] rB:=Fe f254 0x81b8cfe2b8cf5c739fdb [] (Nq.eq_1 ..)
instance(a b):CT (Mq a b) 253 [CD a,.pt (An b).cells] rB:=Fe f253 0x81b6e56b01db [] (Mq.eq_1 ..)
instance(a):CT (D2 a) 185 [An a] rI:=Fe f185 0xb48e105c55bf5a55cbf60b9fc3 [.call 233 [.s 14,.c (.z5 251 [])]] (D2.eq_1 ..)
instance(a b):CT (Gs a b) 234 [eI a,.pt (AO b).cells] rB:=Fe f234 0x81749fbd [] (Gs.eq_1 ..)
instance(a b):CT (Gt a b) 236 [CD a,.pt (AO b).cells] rB:=Fe f236 0x81745c9fdb [] (Gt.eq_1 ..)
instance(a b c):CT (Ck a b c) 237 [eI a,eI b,eI c] rB:=Fe f237 0x81a50196013002ca [] (Ck.eq_1 ..)
instance(a b):CT (My a b) 273 [eI a,.pt (AO b).cells] rB:=Fe f273 0xf8745a96fa [] (My.eq_1 ..)
instance(a b):CT (I7 a b) 206 [AO a,lI b] rI:=Fe f206 0xb48e10f280017cacdb [] (I7.eq_1 ..)
instance(t a):CT (GQ t a) 200 [AO t,eI a] (rT lA eI):=qf f200 0xf518070115140703d5014d0354044c0e170354044c01140114d907016515140703819514991a01a804c0c8a901ac0440db [] (GQ.eq_1 ..) (BG 0 21 20 0 (hX 7 4 IW)) (⟨⟩:HS 31) (⟨⟩:HX 33 λ(a:gt)(v:List ByteArray)=>gt.mk a.gi a.Low a.vB v)
instance(a b c):CT (JK a b c) 238 [AO a,BP b,El c] (rT IW eB):=Fk f238 0x81efeae6be55ef0446d07401befb5d5ad8a8ef0446d074d89f04c9ed [] [.cell 6 (Y 4),.tmp 7] λr h d e=>by
  unfold JK at h;exact nz
instance(a b):CT (IV a b) 337 [eI a,Rh b] rB:=Fe f337 0x81a5bea5bea5015a589fc301 [] (IV.eq_1 ..)
instance(a b):CT (JL a b) 294 [eI a,FQ b] rI:=Fe f294 0x8176f808900342300890b55e81a55a589fc301 [] (JL.eq_1 ..)
instance(a b):CT (Hf a b) 239 [eI a,lT b] rI:=B0 f239 0xaa1312110004d7c89a584b05c99a0543006513121100049bb4e0f2f496fa [] (Hf.eq_1 ..) (BA 0 19 18 0)
instance(a b):CT (EQ a b) 179 [AO a,BP b] rI:=B0 f179 0xb4a01455c8d242d4085b3c3b3a085b06d53c3b3a085b063c3b3a085b063c014de96ccc14856ccc558ab677026e0ab605d46c026e085eef04497cea9a38ef06c9eae6085b653c3b3a085b06ddcc993fd455cbd242580ba755d0d4558a0e1077327310d855e8325580017cac92 [.mkx 1 [.bool false] (.s 55)] (EQ.eq_1 ..) (BG 0 60 59 0 (hX 8 1 eB))
instance(a b):CT (OI a b) 296 [eI a,.pt (AO b).cells] rB:=Fe f296 0x81749fbd [] (OI.eq_1 ..)
instance(a b):CT (OJ a b) 297 [CD a,.pt (AO b).cells] rB:=Fe f297 0x81745c9fdb [] (OJ.eq_1 ..)
instance(a b):CT (OH a b) 241 [AO a,An b] rB:=Fe f241 0xf8b610beb6109f92 [] (OH.eq_1 ..)
instance(a b):CT (PU a b) 299 [El a,.pt (El b).cells] rB:=Fe f299 0x81a55cf65a9fdb [] (PU.eq_1 ..)
instance(a b c):CT (P2 a b c) 242 [AO a,CE b,eI c] rI:=Fe f242 0xb48e100445015b41da55f4bea5bea5a141da9fa59f0a7401f65ca607c938026efb5d5a6c59daa8cb6c59da5a585a073def06c9eadf5b41066e60b3 [] (P2.eq_1 ..)
instance(a b):CT (OG a b) 180 [AO a,CE b] rI:=B0 f180 0xaa2f2e5b04d7c801d33881fd2f2e5b049b5b41da7681745b41daa20a74d241da58a141b5a141daa2089059daa8e859066e92 [] (OG.eq_1 ..) (BA 1 47 46 0)
instance(a b):CT (IG a b) 351 [lI a,eI b] rI:=B0 f351 0xaa09846905d7f45d053096f28acf965e815dfd098469059b81bd [] (IG.eq_1 ..) (BA 0 9 8 0)
instance(a b):CT (Lc a b) 352 [lI a,eI b] rB:=Fe f352 0x815e017c30bd [] (Lc.eq_1 ..)
instance(a b):CT (Mx a b) 312 [An a,FP b] rI:=B0 f312 0xaa1e1d1c5b05d78ab65b41d65c9fb677d65c5a815d00651e1d1c5b05ddb555c80b5c5c55c8e59f92 [] (Mx.eq_1 ..) (BA 0 30 29 0)
instance(a b):CT (Ha a b) 260 [An a,FP b] rI:=Fe f260 0x8190a8e80192 [] (Ha.eq_1 ..)
instance(a b):CT (Hu a b) 243 [An a,FP b] (λr=>.tp [An r.1,Aw r.2.1,eI r.2.2]):=Fk f243 0x6a023b81a6a602460e5c0e5a38086ad22b2a2908fe08d5f7b5034803476be46e4acc7ca79f4ab57c5c5abbec6bd65c815d086ad2652b2a2908fe08ddb508fe0519181708fe08d5f7b9c4915a0432815d08fe056519181708fe08dd3208c955a6a601064605ee90ace708c992 [] [.cell 4 (Y 2),.cell 5 (Y 2),.tmp 6] λr h c d=>by
  unfold Hu at h;have:=BG 0 25 24 0 λs0:ci=>[(8,.bx [⟨X,lI s0.bq⟩,⟨X,lE s0.ca⟩])];have:=BG 2 43 42 0 λs2:ci=>[(8,.bx [⟨X,lI s2.bq⟩,⟨X,lE s2.ca⟩])];exact nz
instance(a b c):CT (E6 a b c) 244 [An a,An b,Aw c] rI:=H6 f244 0xaa4948476a0306d7f4a75da75a585c5d5c5a55855a5abbbbecec6bd65c6bd65c55cb5c965e815dfd4948476a0306ddb56aa12c2b2a6a0306d785915a915a55cb5a965e815d5804a1652c2b2a6a0306dd3255cb5c0bf6e5e555e855e801ed [] (E6.eq_1 ..) (BA 0 44 43 0) (BA 2 73 72 0)
instance(a):CT (Gi a) 300 [lI a] rI:=Fe f300 0x81152a142914991a8c01 [] (Gi.eq_1 ..)
instance(a b c):CT (E5 a b c) 245 [An a,An b,Aw c] rB:=Fe f245 0xf8745c0ebe0a745a0e5a589038aced [] (E5.eq_1 ..)
instance(a):CT (P1 a) 181 [CE a] rI:=Fe f181 0xb488900d423859daa8e80d423859daa880a6a6024908c9117c380b423859016ec3 [] (P1.eq_1 ..)
instance(a b):CT (Km a b) 246 [lI a,eI b] (rO lI):=B0 f246 0x8202cf84050004d584050004840500043cb3c40102d0308158016584050004a201c001406902 [] (Km.eq_1 ..) (BG 0 8 7 0 (hO 5 lI))
instance(a):CT (LW a) 182 [CE a] (rT lI lI):=Fe f182 0x82820e0b7759da770d420e0b6c59da6c0d6e400140c3 [] (LW.eq_1 ..)
instance(a b c):CT (MC a b c) 247 [eI a,.pt (AO b).cells,.pt (An c).cells] rB:=Fe f247 0x815b41e6915a9f02ca [] (MC.eq_1 ..)
instance(a b):CT (Qp a b) 274 [AO a,eI b] (rO lI):=B0 f274 0x821829140558b3033c0177df5aff19014fa90119cf6558b331ce0140db [] (Qp.eq_1 ..) (⟨⟩:HW 0 λ(c:Int×Fp)=>[(1,.tv (eI c.1)),(5,.xo 1 (List.map eI c.2))])
instance(a b c):CT (M6 a b c) 207 [AO a,eI b,eI c] rB:=Fe f207 0x810e7301ac93b302 [] (M6.eq_1 ..)
instance(a b c d):CT (KH a b c d) 141 [AO a,eI b,eI c,eI d] rB:=Fe f141 0x81b85b410778be3873770778bea8cb5c30a5960ea930ac935b0103 [] (KH.eq_1 ..)
instance(a b c):CT (MD a b c) 248 [eI a,.pt (An b).cells,.pt (AO c).cells] rB:=Fe f248 0x81b65da75a5d5c5a5a38bbec6bd6be02ca [] (MD.eq_1 ..)
instance(a b c d):CT (LX a b c d) 183 [AO a,An b,lI c,lI d] rB:=Fe f183 0xf8b61030b61030605b02 [] (LX.eq_1 ..)
instance(a):CT (E1 a) 340 [AI a] rB:=Fe f340 0x81a5d45874d24274a774773274d87477cc0b6cccde0ac99a046ec3 [] (E1.eq_1 ..)
abbrev Aby(n:Nat):Prop:=∀(c:c9),CT (CX n c) 301 [AI c] rB
abbrev Abx(n:Nat):Prop:=∀(k:c9),CT (CH n k) 342 [AI k] rB
theorem yP(n:Nat)(_ih_301:Aby n)(_ih_342:Abx n)(c:c9):CT (CX (n+1) c) 301 [AI c] rB:=Fj f301 0xf8083f5c30ffe402e4025f5e6a01023c01b8ad58011a090431055f1a09043105816a01023c01b8ad585e6a01023c01b8ad585e058332a20bbec3 [.call 341 [.s 42,.c (.z5 342 [])]] λh=>by
  unfold CX at h;have:HJ 10 λ(a:Bool)=>[(4,.tv (eB a))]:=⟨⟩;exact nz
theorem yT(n:Nat)(_ih_301:Aby n)(_ih_342:Abx n)(k:c9):CT (CH (n+1) k) 342 [AI k] rB:=Fj f342 0x81b6ad01c3 [] λh=>by
  unfold CH at h;exact nz
theorem qr:∀n:Nat,Aby n/\Abx n:=by
  intro n
  induction n with
  |zero=>exact⟨(λc=>⟨λ_ h=>d!⟩),(λk=>⟨λ_ h=>d!⟩)⟩
  |succ n a=>exact⟨yP n a.1 a.2,yT n a.1 a.2⟩
instance(c):CT (Jx c) 301 [AI c] rB:=⟨λr h=>by
  obtain ⟨N,a⟩:=Cl h;exact((qr N).1 c).snd r (a N (aN _))⟩
instance(k):CT (SF k) 342 [AI k] rB:=⟨λr h=>by
  obtain ⟨N,a⟩:=Cl h;exact((qr N).2 k).snd r (a N (aN _))⟩
abbrev Q_302(n:Nat):Prop:=∀(c:c9),CT (DN n c) 302 [AI c] (rT eI eI)
theorem yR(n:Nat)(_ih_302:Q_302 n)(c:c9):CT (DN (n+1) c) 302 [AI c] (rT eI eI):=Fj f302 0xa2306a026a0275855a6a0103d10b6a0106d5302c9630a27cad094b0bc9ad09436a010365d10b6a0106ddb5a230c3 [] λh=>by
  unfold DN at h;have:=BG 0 13 12 0 λs0:Int×Int=>[(4,.tv (eI s0.1)),(5,.tv (eI s0.2))];have:HJ 31 λ(a:Int)=>[(5,.tv (eI a))]:=⟨⟩;exact nz
theorem yQ:∀n:Nat,Q_302 n:=by
  intro n
  induction n with
  |zero=>exact(λc=>⟨λ_ h=>d!⟩)
  |succ n a=>exact yR n a
instance(c):CT (MJ c) 302 [AI c] (rT eI eI):=⟨λr h=>by
  obtain ⟨N,a⟩:=Cl h;exact((yQ N) c).snd r (a N (aN _))⟩
instance(a):CT (IU a) 249 [AI a] rI:=Fe f249 0xb4f4965e817cad55d0ad01c3 [] (IU.eq_1 ..)
instance(a b):CT (H0 a b) 343 [El a,.pt [eI b]] rB:=Fe f343 0xbc036c026edb [] (H0.eq_1 ..)
instance(a b c):CT (Gw a b c) 303 [AO a,BP b,eI c] rI:=B0 f303 0xaa8404033c083d014b05314b0c49837601d010a70065d403840403083d014b0cc9f2c89aac60b3 [] (Gw.eq_1 ..) (⟨⟩:HW 0 λ(d:Int)=>[(8,.tv (.pt [eI d]))])
abbrev Q_250(n:Nat):Prop:=∀(t:AC)(p:d4)(c:c9),CT (Cv n t p c) 250 [AO t,BP p,AI c] rI
theorem yK(n:Nat)(_ih_250:Q_250 n)(t:AC)(p:d4)(c:c9):CT (Cv (n+1) t p c) 250 [AO t,BP p,AI c] rI:=Fj f250 0xaa353433040305d7c8ad9a38094b0bc9ad09430065353433040305ddb56aa16aa13cde9a558890ccc6c655e8ccc6c655c8d49aa885d4d4de0ac99a0442859f93bfc3 [.Abd (.s 1)] λh=>by
  unfold Cv at h;have:=BA 0 53 52 0;exact nz
theorem yJ:∀n:Nat,Q_250 n:=by
  intro n
  induction n with
  |zero=>exact(λt p c=>⟨λ_ h=>d!⟩)
  |succ n a=>exact yK n a
instance(t p c):CT (RC t p c) 250 [AO t,BP p,AI c] rI:=⟨λr h=>by
  obtain ⟨N,a⟩:=Cl h;exact((yJ N) t p c).snd r (a N (aN _))⟩
instance(a b c):CT (ES a b c) 184 [AO a,BP b,AI c] rI:=Fe f184 0x810ead9aa8c8ad55c89aaced [] (ES.eq_1 ..)
instance(a b):CT (MB a b) 118 [AO a,CE b] rI:=Fe f118 0x810ead10429ab5a8d0303859da3882fbd355c8d355c8d3a8c89ab5a8d05a5580017cac92 [] (MB.eq_1 ..)
instance(a):CT (NY a) 317 [eI a] rB:=Fe f317 0x81a5968c01 [] (NY.eq_1 ..)
instance(a b c):CT (Mi a b c) 318 [AO a,F1 b,eI c] rI:=Fe f318 0xb48a070558019630a25d5b4107785c5a5d7707785c5a55d05e91be60b3 [] (Mi.eq_1 ..)
instance(a b):CT (Lg a b) 271 [AO a,F1 b] rI:=H6 f271 0xaa44435b04d7c801f381fd44435b049b5c5b022726255b05d78acf915a585e77df5a55d05e81915b02652726255b05dd3255cb5c0bf6e5e55580017cac92 [] (Lg.eq_1 ..) (BA 0 39 38 0) (BA 2 68 67 0)
instance(a):CT (Hb a) 272 [lI a] (rO lI):=B0 f272 0x821831c108d2d5014de9053014a217e9013165c108d2819594991a30400001 [] (Hb.eq_1 ..) (BG 0 10 9 0 (hX 3 1 eI))
instance(a b):CT (PZ a b) 203 [AO a,F1 b] (rT F1 eI):=Fk f203 0xe43b81a602460e5c0e5a55a60106ee90ace792 [] [.cell 4 (Y 2),.tmp 5] λr h c d=>by
  unfold PZ at h;exact nz
instance(a b):CT (Hw a b) 137 [AO a,F1 b] rI:=Fe f137 0x815ea602497c38ac92 [] (Hw.eq_1 ..)
instance(a b):CT (Is a b) 140 [GT a,.pt [eI b]] rB:=Fe f140 0xbc03bedb [] (Is.eq_1 ..)
instance(a b c):CT (GG a b c) 83 [AO a,F1 b,CE c] rI:=H6 f83 0xaa727170050305d7d05da76c59b55d5c6c59b55a38bbec6b03430065727170050305dd0197b5055b646362050305d78e105a0b3d014b0cc95d055b656463620503059b8ea96c59da6c59b555cb7759b50b770b6e0a746c59b50b6c0b6ea56c106e0a08030f6e085ea5a141b55874d241da745b41da74d241b50b5b41b555c8d3a8e8aced [] (GG.eq_1 ..) (BA 0 100 99 0) (BA 2 114 113 0)
instance c33(g:ci)(f:Int->I1)(d:FuncId)(a:Fq)[j:∀(i:Int),CT (f i) d (eI i::a) rB](e:Int->I1)(b:FuncId)(c:Fq)[k:∀(i:Int),CT (e i) b (eI i::c) rB]:CT (G3 g f e) 33 [An g,.z5 d a,.z5 b c] (rS LE):=Fk f33 0xefea07060229282707060206d529282707060206292827070602063cf70141320348034707460ea7a70e5ca75ae441b94a036ec4010403428f30bb81ec6bd60706026529282707060206ddb507065b04e30d07065b0108d5e30d07065b0108e30d07065b01083cf759b9c4010459b94a026ec40104cc8f30a29107065b0465e30d07065b0108dd320dc90dc993b302 [] [.cell 6 (Y 4)] λr h l m=>by
  unfold G3 at h;have:=BG 0 15 14 0 λs0:CC=>[(7,.bx [⟨X,lI s0.Aak.bq⟩,⟨X,lE s0.Aak.ca⟩,⟨X,lI s0.d6⟩,⟨X,lI s0.d7⟩])];have:=BG 2 41 40 0 λs2:CC=>[(7,.bx [⟨X,lI s2.Aak.bq⟩,⟨X,lE s2.Aak.ca⟩,⟨X,lI s2.d6⟩,⟨X,lI s2.d7⟩])];exact nz
instance(a b c d):CT (H4 a b c d) 85 [eI a,.pt (F1 b).cells,.pt (An c).cells,.pt [eI d]] rB:=Fe f85 0xbc035d915a9f5bb1 [] (H4.eq_1 ..)
instance(a b c d):CT (H5 a b c d) 86 [eI a,.pt (F1 b).cells,.pt (An c).cells,.pt [eI d]] rB:=Fe f86 0xbc035d6cd65cbe5bb1 [] (H5.eq_1 ..)
instance(a b c):CT (Fh a b c) 84 [An a,.pt (F1 b).cells,.pt [eI c]] (rS LE):=Fk f84 0xef0e1010380dc993b302 [] [.cell 4 (Y 4)] λr h d e=>by
  unfold Fh at h;exact nz
instance(a):CT (Hx a) 142 [An a] (rS FP):=Fk f142 0xa6385b0216155b04d5f7016ec40104b5d95b026516155b049b5c5b0103eb5b58d5f7b9c4010432d95b010365eb5b589b5ae7e7c3 [] [.cell 2 (Y 2)] λr h b c=>by
  unfold Hx at h;have:=BG 0 9 8 0 λs0:A3=>[(3,.bx [⟨X,lI s0.bq⟩,⟨X,lI s0.ca⟩])];have:=BG 2 22 21 0 λs2:A3=>[(3,.bx [⟨X,lI s2.bq⟩,⟨X,lI s2.ca⟩])];exact nz
instance(a b c d):CT (Gl a b c d) 87 [CE a,An b,An c,Aw d] (rS CE):=Fk f87 0x8013b194b0a46094638900846380846385a0ec96092 [] [.cell 8 (Y 25)] λr h e f=>by
  unfold Gl at h;exact nz
instance(a b c d):CT (It a b c d) 45 [AO a,F1 b,CE c,eI d] (rT CE eI):=Fk f45 0x81194b90c6c6d30ed108893f3e3d0ed1080608d5f7016ec40e91770d42d404b5815d0ed10889653f3e3d0ed1080608dd03420ed108892928270ed1080608d5f7b9c40e916c0d42a70432815d0ed10889652928270ed1080608ddcce7efef0dc90dc90f3859066e0f3859b55e1055194b010bee0ed3f373c96092 [] [.cell 8 (Y 25),.tmp 9] λr h e f=>by
  unfold It at h;have:=BG 0 41 40 0 λs0:cE=>[(14,.bx [⟨X,lI s0.bq⟩,⟨X,lI s0.ca⟩])];have:=BG 2 63 62 0 λs2:cE=>[(14,.bx [⟨X,lI s2.bq⟩,⟨X,lI s2.ca⟩])];exact nz
instance(a b c):CT (Fg a b c) 15 [AO a,F1 b,CE c] (rT CE eI):=Fk f15 0x81194b6f0ed3f373c9ed [] [.cell 6 (Y 25),.tmp 7] λr h d e=>by
  unfold Fg at h;exact nz
instance(a b c d):CT (Eh a b c d) 46 [AO a,F1 b,CE c,lI d] (λr=>.tp [CE r.1,FP r.2.1,eI r.2.2]):=Fk f46 0xeb023b81a6194b38900c460e5c0e5a38d310e30deb060763626110e30deb89030cd563626110e30deb89030c63626110e30deb89030c3cf7016e4a016ec40104b50348034707460ea75a0e5c5a5ae46e4a016ec40b5c04b58a0e5d5a5c30b601770d42bb81ec6bd610e30deb06076563626110e30deb89030cddb510e30deb89030937363510e30deb89030cd537363510e30deb89030c37363510e30deb89030c3cf7b94ab9c40104b9c40104b94ab9c4e504328a0e915a30b6016c0d42a29110e30deb8903096537363510e30deb89030cdd32e70250e73f0e770d420e6c0d42025008c93f0e5c0e5aa6a608c908c93859da3859b555a6194b0106460bee0ed338ace70ec9936031 [.tl [.w 38,.w 41],.tl [.w 46,.w 50]] [.cell 8 (Y 25),.cell 9 (Y 2),.tmp 10] λr h e f=>by
  unfold Eh at h;have:=BG 0 55 54 0 λs0:ci×cE×A3=>[(14,.bx [⟨X,lI s0.1.bq⟩,⟨X,lE s0.1.ca⟩]),(15,.bx [⟨X,lI s0.2.1.bq⟩,⟨X,lI s0.2.1.ca⟩]),(16,.bx [⟨X,lI s0.2.2.bq⟩,⟨X,lI s0.2.2.ca⟩])];have:=BG 2 99 98 0 λs2:ci×cE×A3=>[(14,.bx [⟨X,lI s2.1.bq⟩,⟨X,lE s2.1.ca⟩]),(15,.bx [⟨X,lI s2.2.1.bq⟩,⟨X,lI s2.2.1.ca⟩]),(16,.bx [⟨X,lI s2.2.2.bq⟩,⟨X,lI s2.2.2.ca⟩])];exact nz
instance(a b c):CT (FB a b c) 17 [AO a,F1 b,CE c] (λr=>.tp [CE r.1,FP r.2.1,eI r.2.2]):=Fk f17 0x81a6194b116f0ea9d338ace70ec9ed [] [.cell 6 (Y 25),.cell 7 (Y 2),.tmp 8] λr h d e=>by
  unfold FB at h;exact nz
instance(a b c):CT (Pk a b c) 186 [AO a,eI b,lI c] rI:=B0 f186 0xaa2322210204d7f4a791965cdcef8104c9eae6fd23222102049bb4e0010b30fb01a8830241df5a55e05a3093b302 [] (Pk.eq_1 ..) (BA 0 35 34 0)
instance(a b):CT (J1 a b) 119 [AO a,Bq b] (rT eI eI):=H6 f119 0xa2003e3d3c5b05d7d9d05da7d85d5cd85aa8d9e05c5abb81ec6b0343fd3e3d3c5b05dd0141325b022827265b05d781306d0e91e238a2915b02652827265b05dd59325581e0d80ba75581e832558180017c383092 [] (J1.eq_1 ..) (BA 0 40 39 0) (BA 2 62 61 0)
instance(a b c):CT (Qn a b c) 72 [AO a,CE b,Bq c] rI:=Fe f72 0x815e017c6ba8c8d3a880017caced [] (Qn.eq_1 ..)
instance(a b):CT (K4 a b) 309 [eI a,.pt (AO b).cells] rB:=Fe f309 0x81749fbd [] (K4.eq_1 ..)
instance(a b):CT (K5 a b) 310 [CD a,.pt (AO b).cells] rB:=Fe f310 0x81745c9fdb [] (K5.eq_1 ..)
instance(a b):CT (IE a b) 258 [AO a,An b] rB:=Fe f258 0xf8b610beb6109f92 [] (IE.eq_1 ..)
instance(a b c):CT (Ht a b c) 189 [AO a,An b,An c] rI:=B0 f189 0xb48a0890ac0890386aa11817166a0306d7e8a608c93802436aa1651817166a03069b02c738a880017caced [] (Ht.eq_1 ..) (BA 0 24 23 0)
end Go.Sf.Sc
