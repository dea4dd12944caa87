/- Contracts of the functions. -/
import Derived.Test.YtpagkickoiafkaaGreatCon0
set_option linter.all false
set_option maxRecDepth 100000
set_option maxHeartbeats 4000000
open Option renaming some->Y
open Bool renaming true->X
namespace Go.Sf.Sc
open Go Go.Sf Go.Proofs.Tryz
instance(a):CT (IW a) 330 [JP a] rB:=Fe f330 0xf8a59630a5968c01 [] (IW.eq_1 ..)
instance iZ(b:ByteArray)(d:Int->K1)(e:FuncId)(a:Fq)[g:∀(c:Int),CT (d c) e (JP c::a) rB]:CT (JZ b d) 331 [eS b,.kL e a] rI:=BJ f331 0x815801ff05ca5f5801ff8a0f1230960c96ca81bd [] (JZ.eq_1 ..) (⟨⟩:HW 0 λ(f:Int)=>[(5,.tv (eI f))])
instance(a):CT (G7 a) 333 [JP a] rB:=Fe f333 0x81a5968c01 [] (G7.eq_1 ..)
instance(a):CT (Nb a) 332 [JP a] rB:=Fe f332 0x81a530b8300e8c01 [] (Nb.eq_1 ..)
instance(a):CT (Iw a) 355 [JP a] rB:=Fe f355 0x81a530a5968c01 [] (Iw.eq_1 ..)
instance(a):CT (Ko a) 334 [eS a] (rT eI eI):=Fe f334 0xa2cf558185f281f412cf960c585e3f0d018c01 [.call 331 [.s 6,.c (.kL 355 [])]] (Ko.eq_1 ..)
instance(a):CT (Na a) 335 [eS a] rB:=Fe f335 0x81b80d013f580c8c01 [.mE 1 [.c (.str ⟨#[45,62]⟩),.c (.str ⟨#[60,61]⟩),.c (.str ⟨#[62,61]⟩),.c (.str ⟨#[61,61]⟩),.c (.str ⟨#[33,61]⟩)]] (Na.eq_1 ..)
instance(a):CT (NZ a) 291 [eS a] (λr=>.tp [eI r.1,eI r.2.1,eI r.2.2]):=Fe f291 0x81a27681a2053f5e81a20e5ea230a27c5e055ea2f2a26d3f5e0e5ea2f2a26d3f5e0e5e12308c01 [.call 331 [.s 15,.c (.kL 332 [])],.call 331 [.s 23,.c (.kL 333 [])],.call 336 [.c (.str ⟨#[123,125,40,41,91,93,44,59,58,61,43,45,42,60,62,33,38,124,46,63]⟩),.s 42]] (NZ.eq_1 ..)
instance(a):CT (Lu a) 232 [QN a] (rT eS eB):=BJ f232 0xa2a50c0130a55a963081a2117cf2bfbf01e402e4023c013f3f01855a81be3fc3 [.mv (.c (.str ⟨#[]⟩)),.bin (.s) .add (.c (.str ⟨#[34]⟩)) (.s 13),.bin (.s) .add (.s 14) (.c (.str ⟨#[34]⟩)),.bin (.s) .eql (.s 16) (.c (.str ⟨#[]⟩)),.mv (.c (.str ⟨#[]⟩))] (Lu.eq_1 ..) (⟨⟩:HJ 12 λ(b:ByteArray)=>[(4,.tv (eS b))])
instance(a):CT (D1 a) 178 [eS a] rB:=Fe f178 0x815e017c03468c01 [] (D1.eq_1 ..)
instance(a b):CT (Ku a b) 225 [Dj a,.pt (Dj b).cells] rB:=Fe f225 0x81065a9fdb [] (Ku.eq_1 ..)
abbrev Q_226(n:Nat):Prop:=∀(t:AE)(a:Int),CT (Ey n t a) 226 [AK t,eI a] (λr=>.lM 4 (List.map Ec r))
theorem cl(n:Nat)(_ih_226:Q_226 n)(t:AE)(a:Int):CT (Ey (n+1) t a) 226 [AK t,eI a] (λr=>.lM 4 (List.map Ec r)):=Fj f226 0x99044fa141df5a1905b30305b3033c191a01386d77df5a04ce044edb [] λh=>by
  unfold Ey at h;have:HJ 14 λ(b:List jy)=>[(5,.xo 4 (List.map Ec b))]:=⟨⟩;exact nz
theorem cj:∀n:Nat,Q_226 n:=by
  intro n
  induction n with
  |zero=>exact(λt a=>⟨λ_ h=>b?⟩)
  |succ n b=>exact cl n b
instance(t a):CT (L3 t a) 226 [AK t,eI a] (λr=>.lM 4 (List.map Ec r)):=⟨λr h=>by
  obtain ⟨N,b⟩:=Bh h;exact((cj N) t a).snd r (b N (bk _))⟩
instance(a b):CT (Gx a b) 288 [Ec a,.pt (Ec b).cells] rB:=Fe f288 0x81065a9fdb [] (Gx.eq_1 ..)
instance(a):CT (L4 a) 289 [lB a] rI:=BJ f289 0xaac1080004d576810e304530a2b65e815dfdc10800049bb4e08c01 [] (L4.eq_1 ..) (Ap 0 10 9 0)
instance(a b):CT (IZ a b) 227 [Ec a,lA b] rI:=BJ f227 0xb48801060106013c01a574d4a7585ce0d481a5e2a5a7f65c55c8d476810e105e81b69fdb [] (IZ.eq_1 ..) (⟨⟩:HJ 40 λ(c:Bool)=>[(6,.tv (eB c))])
instance(a b):CT (N7 a b) 176 [AK a,eI b] rI:=BJ f176 0xaa070602b2c8044530eae68cf00706028174d40bf2e001820e0138768174d4a2a501f65ca20e100445015aa2b65a053def03c9eadf9fdb [] (N7.eq_1 ..) (Ap 1 7 6 0)
instance(a b):CT (Ia a b) 228 [eI a,.pt (AK b).cells] rB:=Fe f228 0xf8745a96fa [] (Ia.eq_1 ..)
instance(a b):CT (Ks a b) 230 [Di a,.pt (Di b).cells] rB:=Fe f230 0x81065a9fdb [] (Ks.eq_1 ..)
instance(a b):CT (HN a b) 231 [eI a,eI b] rB:=Fe f231 0xf80aa596019630a596fa [] (HN.eq_1 ..)
instance(a b):CT (N5 a b) 177 [AK a,eI b] rI:=BJ f177 0x817619013c010ab603da03056eb6d242d4195e0a080fa730080f5c5e810e100745015ca2b65a8110053d074b00c907440778bedb [] (N5.eq_1 ..) (⟨⟩:HJ 25 λ(c:Bool)=>[(25,.tv (eB c))])
instance(a):CT (DF a) 117 [AK a] (rT eS eI):=D4 f117 0x81bf002e2d2c0104d7d95a6d0e0138074baac907440743fd2e2d2c0104ddb5301d1c1b0104d7d95a6d0e0138ef8103c9eadf30651d1c1b0104dd3276bff874f6e581bf81749f3fc3 [.mv (.c (.str ⟨#[]⟩)),.mv (.c (.str ⟨#[]⟩)),.mv (.c (.str ⟨#[]⟩)),.mv (.c (.str ⟨#[]⟩))] (DF.eq_1 ..) (Ap 1 29 28 0) (Ap 3 46 45 0)
instance(a b):CT (Em a b) 252 [eI a,eI b] rB:=Fe f252 0x81a50196fa [] (Em.eq_1 ..)
instance(a):CT (Je a) 251 [eI a] rB:=Fe f251 0x81b68c01 [] (Je.eq_1 ..)
instance(a b):CT (Mp a b) 254 [BS a,eI b] rB:=Fe f254 0x81b8cfe2b8cf5c739fdb [] (Mp.eq_1 ..)
instance(a b):CT (Jf a b) 253 [BS a,.pt (AU b).cells] rB:=Fe f253 0x81b6e56b01db [] (Jf.eq_1 ..)
instance(a):CT (DC a) 185 [AU a] rI:=Fe f185 0xb48e105c55bf5a55cbf60b9fc3 [.call 233 [.s 14,.c (.kL 251 [])]] (DC.eq_1 ..)
instance(a b):CT (Gr a b) 234 [eI a,.pt (AK b).cells] rB:=Fe f234 0x81749fbd [] (Gr.eq_1 ..)
instance(a b):CT (Gs a b) 236 [BS a,.pt (AK b).cells] rB:=Fe f236 0x81745c9fdb [] (Gs.eq_1 ..)
instance(a b c):CT (CC a b c) 237 [eI a,eI b,eI c] rB:=Fe f237 0x81a50196013002ca [] (CC.eq_1 ..)
instance(a b):CT (Js a b) 273 [eI a,.pt (AK b).cells] rB:=Fe f273 0xf8745a96fa [] (Js.eq_1 ..)
instance(a b):CT (G8 a b) 206 [AK a,lI b] rI:=Fe f206 0xb48e10f280017cacdb [] (G8.eq_1 ..)
instance(t a):CT (EY t a) 200 [AK t,eI a] (rT lA eI):=X7 f200 0xf518070115140703d5014d0354044c0e170354044c01140114d907016515140703819514991a01a804c0c8a901ac0440db [] (EY.eq_1 ..) (As 0 21 20 0 (hX 7 4 Ec)) (⟨⟩:HS 31) (⟨⟩:HX 33 λ(a:jy)(v:List ByteArray)=>jy.mk a.jO a.li a.kJ v)
instance(a b c):CT (Ig a b c) 238 [AK a,Av b,Cp c] (rT Ec eB):=Fk f238 0x81efeae6be55ef0446d07401befb5d5ad8a8ef0446d074d89f04c9ed [] [.cell 6 (Y 4),.tmp 7] λr h d e=>by
  unfold Ig at h;exact nz
instance(a b):CT (F3 a b) 337 [eI a,Kz b] rB:=Fe f337 0x81a5bea5bea5015a589fc301 [] (F3.eq_1 ..)
instance(a b):CT (Ih a b) 294 [eI a,DB b] rI:=Fe f294 0x8176f808900342300890b55e81a55a589fc301 [] (Ih.eq_1 ..)
instance(a b):CT (HP a b) 239 [eI a,lT b] rI:=BJ f239 0xaa1312110004d7c89a584b05c99a0543006513121100049bb4e0f2f496fa [] (HP.eq_1 ..) (Ap 0 19 18 0)
instance(a b):CT (DL a b) 179 [AK a,Av b] rI:=BJ f179 0xb4a01455c8d242d4085b3c3b3a085b06d53c3b3a085b063c3b3a085b063c014de96ccc14856ccc558ab677026e0ab605d46c026e085eef04497cea9a38ef06c9eae6085b653c3b3a085b06ddcc993fd455cbd242580ba755d0d4558a0e1077327310d855e8325580017cac92 [.lY 1 [.bool false] (.s 55)] (DL.eq_1 ..) (As 0 60 59 0 (hX 8 1 eB))
instance(a b):CT (Ki a b) 296 [eI a,.pt (AK b).cells] rB:=Fe f296 0x81749fbd [] (Ki.eq_1 ..)
instance(a b):CT (Kj a b) 297 [BS a,.pt (AK b).cells] rB:=Fe f297 0x81745c9fdb [] (Kj.eq_1 ..)
instance(a b):CT (NQ a b) 241 [AK a,AU b] rB:=Fe f241 0xf8b610beb6109f92 [] (NQ.eq_1 ..)
instance(a b):CT (Lt a b) 299 [Cp a,.pt (Cp b).cells] rB:=Fe f299 0x81a55cf65a9fdb [] (Lt.eq_1 ..)
instance(a b c):CT (O0 a b c) 242 [AK a,BY b,eI c] rI:=Fe f242 0xb48e100445015b41da55f4bea5bea5a141da9fa59f0a7401f65ca607c938026efb5d5a6c59daa8cb6c59da5a585a073def06c9eadf5b41066e60b3 [] (O0.eq_1 ..)
instance(a b):CT (NP a b) 180 [AK a,BY b] rI:=BJ f180 0xaa2f2e5b04d7c801d33881fd2f2e5b049b5b41da7681745b41daa20a74d241da58a141b5a141daa2089059daa8e859066e92 [] (NP.eq_1 ..) (Ap 1 47 46 0)
instance(a b):CT (HM a b) 351 [lI a,eI b] rI:=BJ f351 0xaa09846905d7f45d053096f28acf965e815dfd098469059b81bd [] (HM.eq_1 ..) (Ap 0 9 8 0)
instance(a b):CT (IV a b) 352 [lI a,eI b] rB:=Fe f352 0x815e017c30bd [] (IV.eq_1 ..)
instance(a b):CT (Jq a b) 312 [AU a,C1 b] rI:=BJ f312 0xaa1e1d1c5b05d78ab65b41d65c9fb677d65c5a815d00651e1d1c5b05ddb555c80b5c5c55c8e59f92 [] (Jq.eq_1 ..) (Ap 0 30 29 0)
instance(a b):CT (Gn a b) 260 [AU a,C1 b] rI:=Fe f260 0x8190a8e80192 [] (Gn.eq_1 ..)
instance(a b):CT (HV a b) 243 [AU a,C1 b] (λr=>.tp [AU r.1,Aj r.2.1,eI r.2.2]):=Fk f243 0x6a023b81a6a602460e5c0e5a38086ad22b2a2908fe08d5f7b5034803476be46e4acc7ca79f4ab57c5c5abbec6bd65c815d086ad2652b2a2908fe08ddb508fe0519181708fe08d5f7b9c4915a0432815d08fe056519181708fe08dd3208c955a6a601064605ee90ace708c992 [] [.cell 4 (Y 2),.cell 5 (Y 2),.tmp 6] λr h c d=>by
  unfold HV at h;have:=As 0 25 24 0 λs0:ff=>[(8,.bx [⟨X,lI s0.fd⟩,⟨X,lE s0.fq⟩])];have:=As 2 43 42 0 λs2:ff=>[(8,.bx [⟨X,lI s2.fd⟩,⟨X,lE s2.fq⟩])];exact nz
instance(a b c):CT (Do a b c) 244 [AU a,AU b,Aj c] rI:=D4 f244 0xaa4948476a0306d7f4a75da75a585c5d5c5a55855a5abbbbecec6bd65c6bd65c55cb5c965e815dfd4948476a0306ddb56aa12c2b2a6a0306d785915a915a55cb5a965e815d5804a1652c2b2a6a0306dd3255cb5c0bf6e5e555e855e801ed [] (Do.eq_1 ..) (Ap 0 44 43 0) (Ap 2 73 72 0)
instance(a):CT (GB a) 300 [lI a] rI:=Fe f300 0x81152a142914991a8c01 [] (GB.eq_1 ..)
instance(a b c):CT (EK a b c) 245 [AU a,AU b,Aj c] rB:=Fe f245 0xf8745c0ebe0a745a0e5a589038aced [] (EK.eq_1 ..)
instance(a):CT (Oz a) 181 [BY a] rI:=Fe f181 0xb488900d423859daa8e80d423859daa880a6a6024908c9117c380b423859016ec3 [] (Oz.eq_1 ..)
instance(a b):CT (JK a b) 246 [lI a,eI b] (rO lI):=BJ f246 0x8202cf84050004d584050004840500043cb3c40102d0308158016584050004a201c001406902 [] (JK.eq_1 ..) (As 0 8 7 0 (hO 5 lI))
instance(a):CT (Kg a) 182 [BY a] (rT lI lI):=Fe f182 0x82820e0b7759da770d420e0b6c59da6c0d6e400140c3 [] (Kg.eq_1 ..)
instance(a b c):CT (Is a b c) 247 [eI a,.pt (AK b).cells,.pt (AU c).cells] rB:=Fe f247 0x815b41e6915a9f02ca [] (Is.eq_1 ..)
instance(a b):CT (N6 a b) 274 [AK a,eI b] (rO lI):=BJ f274 0x821829140558b3033c0177df5aff19014fa90119cf6558b331ce0140db [] (N6.eq_1 ..) (⟨⟩:HW 0 λ(c:Int×Fp)=>[(1,.tv (eI c.1)),(5,.xo 1 (List.map eI c.2))])
instance(a b c):CT (Kt a b c) 207 [AK a,eI b,eI c] rB:=Fe f207 0x810e7301ac93b302 [] (Kt.eq_1 ..)
instance(a b c d):CT (IY a b c d) 141 [AK a,eI b,eI c,eI d] rB:=Fe f141 0x81b85b410778be3873770778bea8cb5c30a5960ea930ac935b0103 [] (IY.eq_1 ..)
instance(a b c):CT (It a b c) 248 [eI a,.pt (AU b).cells,.pt (AK c).cells] rB:=Fe f248 0x81b65da75a5d5c5a5a38bbec6bd6be02ca [] (It.eq_1 ..)
instance(a b c d):CT (Kh a b c d) 183 [AK a,AU b,lI c,lI d] rB:=Fe f183 0xf8b61030b61030605b02 [] (Kh.eq_1 ..)
instance(a):CT (Dn a) 340 [AG a] rB:=Fe f340 0x81a5d45874d24274a774773274d87477cc0b6cccde0ac99a046ec3 [] (Dn.eq_1 ..)
abbrev nt(n:Nat):Prop:=∀(c:gt),CT (Bw n c) 301 [AG c] rB
abbrev nw(n:Nat):Prop:=∀(k:gt),CT (Bo n k) 342 [AG k] rB
theorem cu(n:Nat)(_ih_301:nt n)(_ih_342:nw n)(c:gt):CT (Bw (n+1) c) 301 [AG c] rB:=Fj f301 0xf8083f5c30ffe402e4025f5e6a01023c01b8ad58011a090431055f1a09043105816a01023c01b8ad585e6a01023c01b8ad585e058332a20bbec3 [.call 341 [.s 42,.c (.kL 342 [])]] λh=>by
  unfold Bw at h;have:HJ 10 λ(a:Bool)=>[(4,.tv (eB a))]:=⟨⟩;exact nz
theorem cy(n:Nat)(_ih_301:nt n)(_ih_342:nw n)(k:gt):CT (Bo (n+1) k) 342 [AG k] rB:=Fj f342 0x81b6ad01c3 [] λh=>by
  unfold Bo at h;exact nz
theorem YE:∀n:Nat,nt n/\nw n:=by
  intro n
  induction n with
  |zero=>exact⟨(λc=>⟨λ_ h=>b?⟩),(λk=>⟨λ_ h=>b?⟩)⟩
  |succ n a=>exact⟨cu n a.1 a.2,cy n a.1 a.2⟩
instance(c):CT (Hv c) 301 [AG c] rB:=⟨λr h=>by
  obtain ⟨N,a⟩:=Bh h;exact((YE N).1 c).snd r (a N (bk _))⟩
instance(k):CT (LN k) 342 [AG k] rB:=⟨λr h=>by
  obtain ⟨N,a⟩:=Bh h;exact((YE N).2 k).snd r (a N (bk _))⟩
abbrev Q_302(n:Nat):Prop:=∀(c:gt),CT (Cc n c) 302 [AG c] (rT eI eI)
theorem cw(n:Nat)(_ih_302:Q_302 n)(c:gt):CT (Cc (n+1) c) 302 [AG c] (rT eI eI):=Fj f302 0xa2306a026a0275855a6a0103d10b6a0106d5302c9630a27cad094b0bc9ad09436a010365d10b6a0106ddb5a230c3 [] λh=>by
  unfold Cc at h;have:=As 0 13 12 0 λs0:Int×Int=>[(4,.tv (eI s0.1)),(5,.tv (eI s0.2))];have:HJ 31 λ(a:Int)=>[(5,.tv (eI a))]:=⟨⟩;exact nz
theorem cv:∀n:Nat,Q_302 n:=by
  intro n
  induction n with
  |zero=>exact(λc=>⟨λ_ h=>b?⟩)
  |succ n a=>exact cw n a
instance(c):CT (Jt c) 302 [AG c] (rT eI eI):=⟨λr h=>by
  obtain ⟨N,a⟩:=Bh h;exact((cv N) c).snd r (a N (bk _))⟩
instance(a):CT (Hu a) 249 [AG a] rI:=Fe f249 0xb4f4965e817cad55d0ad01c3 [] (Hu.eq_1 ..)
instance(a b):CT (Fr a b) 343 [Cp a,.pt [eI b]] rB:=Fe f343 0xbc036c026edb [] (Fr.eq_1 ..)
instance(a b c):CT (Gu a b c) 303 [AK a,Av b,eI c] rI:=BJ f303 0xaa8404033c083d014b05314b0c49837601d010a70065d403840403083d014b0cc9f2c89aac60b3 [] (Gu.eq_1 ..) (⟨⟩:HW 0 λ(d:Int)=>[(8,.tv (.pt [eI d]))])
abbrev Q_250(n:Nat):Prop:=∀(t:AE)(p:hV)(c:gt),CT (CQ n t p c) 250 [AK t,Av p,AG c] rI
theorem cp(n:Nat)(_ih_250:Q_250 n)(t:AE)(p:hV)(c:gt):CT (CQ (n+1) t p c) 250 [AK t,Av p,AG c] rI:=Fj f250 0xaa353433040305d7c8ad9a38094b0bc9ad09430065353433040305ddb56aa16aa13cde9a558890ccc6c655e8ccc6c655c8d49aa885d4d4de0ac99a0442859f93bfc3 [.mG (.s 1)] λh=>by
  unfold CQ at h;have:=Ap 0 53 52 0;exact nz
theorem cm:∀n:Nat,Q_250 n:=by
  intro n
  induction n with
  |zero=>exact(λt p c=>⟨λ_ h=>b?⟩)
  |succ n a=>exact cp n a
instance(t p c):CT (KP t p c) 250 [AK t,Av p,AG c] rI:=⟨λr h=>by
  obtain ⟨N,a⟩:=Bh h;exact((cm N) t p c).snd r (a N (bk _))⟩
instance(a b c):CT (F2 a b c) 184 [AK a,Av b,AG c] rI:=Fe f184 0x810ead9aa8c8ad55c89aaced [] (F2.eq_1 ..)
instance(a b):CT (KC a b) 118 [AK a,BY b] rI:=Fe f118 0x810ead10429ab5a8d0303859da3882fbd355c8d355c8d3a8c89ab5a8d05a5580017cac92 [] (KC.eq_1 ..)
instance(a):CT (LL a) 317 [eI a] rB:=Fe f317 0x81a5968c01 [] (LL.eq_1 ..)
instance(a b c):CT (Lw a b c) 318 [AK a,C3 b,eI c] rI:=Fe f318 0xb48a070558019630a25d5b4107785c5a5d7707785c5a55d05e91be60b3 [] (Lw.eq_1 ..)
instance(a b):CT (Kr a b) 271 [AK a,C3 b] rI:=D4 f271 0xaa44435b04d7c801f381fd44435b049b5c5b022726255b05d78acf915a585e77df5a55d05e81915b02652726255b05dd3255cb5c0bf6e5e55580017cac92 [] (Kr.eq_1 ..) (Ap 0 39 38 0) (Ap 2 68 67 0)
instance(a):CT (Gp a) 272 [lI a] (rO lI):=BJ f272 0x821831c108d2d5014de9053014a217e9013165c108d2819594991a30400001 [] (Gp.eq_1 ..) (As 0 10 9 0 (hX 3 1 eI))
instance(a b):CT (Lv a b) 203 [AK a,C3 b] (rT C3 eI):=Fk f203 0xe43b81a602460e5c0e5a55a60106ee90ace792 [] [.cell 4 (Y 2),.tmp 5] λr h c d=>by
  unfold Lv at h;exact nz
instance(a b):CT (Ha a b) 137 [AK a,C3 b] rI:=Fe f137 0x815ea602497c38ac92 [] (Ha.eq_1 ..)
instance(a b):CT (GY a b) 140 [Dj a,.pt [eI b]] rB:=Fe f140 0xbc03bedb [] (GY.eq_1 ..)
instance(a b c):CT (FO a b c) 83 [AK a,C3 b,BY c] rI:=D4 f83 0xaa727170050305d7d05da76c59b55d5c6c59b55a38bbec6b03430065727170050305dd0197b5055b646362050305d78e105a0b3d014b0cc95d055b656463620503059b8ea96c59da6c59b555cb7759b50b770b6e0a746c59b50b6c0b6ea56c106e0a08030f6e085ea5a141b55874d241da745b41da74d241b50b5b41b555c8d3a8e8aced [] (FO.eq_1 ..) (Ap 0 100 99 0) (Ap 2 114 113 0)
instance jF(g:ff)(e:Int->K1)(a:FuncId)(c:Fq)[j:∀(i:Int),CT (e i) a (eI i::c) rB](f:Int->K1)(b:FuncId)(d:Fq)[k:∀(i:Int),CT (f i) b (eI i::d) rB]:CT (Eg g e f) 33 [AU g,.kL a c,.kL b d] (rS GL):=Fk f33 0xefea07060229282707060206d529282707060206292827070602063cf70141320348034707460ea7a70e5ca75ae441b94a036ec4010403428f30bb81ec6bd60706026529282707060206ddb507065b04e30d07065b0108d5e30d07065b0108e30d07065b01083cf759b9c4010459b94a026ec40104cc8f30a29107065b0465e30d07065b0108dd320dc90dc993b302 [] [.cell 6 (Y 4)] λr h l m=>by
  unfold Eg at h;have:=As 0 15 14 0 λs0:Bb=>[(7,.bx [⟨X,lI s0.kT.fd⟩,⟨X,lE s0.kT.fq⟩,⟨X,lI s0.ji⟩,⟨X,lI s0.jw⟩])];have:=As 2 41 40 0 λs2:Bb=>[(7,.bx [⟨X,lI s2.kT.fd⟩,⟨X,lE s2.kT.fq⟩,⟨X,lI s2.ji⟩,⟨X,lI s2.jw⟩])];exact nz
instance(a b c d):CT (Fu a b c d) 85 [eI a,.pt (C3 b).cells,.pt (AU c).cells,.pt [eI d]] rB:=Fe f85 0xbc035d915a9f5bb1 [] (Fu.eq_1 ..)
instance(a b c d):CT (Fv a b c d) 86 [eI a,.pt (C3 b).cells,.pt (AU c).cells,.pt [eI d]] rB:=Fe f86 0xbc035d6cd65cbe5bb1 [] (Fv.eq_1 ..)
instance(a b c):CT (Eh a b c) 84 [AU a,.pt (C3 b).cells,.pt [eI c]] (rS GL):=Fk f84 0xef0e1010380dc993b302 [] [.cell 4 (Y 4)] λr h d e=>by
  unfold Eh at h;exact nz
instance(a):CT (Hb a) 142 [AU a] (rS C1):=Fk f142 0xa6385b0216155b04d5f7016ec40104b5d95b026516155b049b5c5b0103eb5b58d5f7b9c4010432d95b010365eb5b589b5ae7e7c3 [] [.cell 2 (Y 2)] λr h b c=>by
  unfold Hb at h;have:=As 0 9 8 0 λs0:Az=>[(3,.bx [⟨X,lI s0.fd⟩,⟨X,lI s0.fq⟩])];have:=As 2 22 21 0 λs2:Az=>[(3,.bx [⟨X,lI s2.fd⟩,⟨X,lI s2.fq⟩])];exact nz
instance(a b c d):CT (GF a b c d) 87 [BY a,AU b,AU c,Aj d] (rS BY):=Fk f87 0x8013b194b0a46094638900846380846385a0ec96092 [] [.cell 8 (Y 25)] λr h e f=>by
  unfold GF at h;exact nz
instance(a b c d):CT (IX a b c d) 45 [AK a,C3 b,BY c,eI d] (rT BY eI):=Fk f45 0x81194b90c6c6d30ed108893f3e3d0ed1080608d5f7016ec40e91770d42d404b5815d0ed10889653f3e3d0ed1080608dd03420ed108892928270ed1080608d5f7b9c40e916c0d42a70432815d0ed10889652928270ed1080608ddcce7efef0dc90dc90f3859066e0f3859b55e1055194b010bee0ed3f373c96092 [] [.cell 8 (Y 25),.tmp 9] λr h e f=>by
  unfold IX at h;have:=As 0 41 40 0 λs0:f0=>[(14,.bx [⟨X,lI s0.fd⟩,⟨X,lI s0.fq⟩])];have:=As 2 63 62 0 λs2:f0=>[(14,.bx [⟨X,lI s2.fd⟩,⟨X,lI s2.fq⟩])];exact nz
instance(a b c):CT (Ef a b c) 15 [AK a,C3 b,BY c] (rT BY eI):=Fk f15 0x81194b6f0ed3f373c9ed [] [.cell 6 (Y 25),.tmp 7] λr h d e=>by
  unfold Ef at h;exact nz
instance(a b c d):CT (EX a b c d) 46 [AK a,C3 b,BY c,lI d] (λr=>.tp [BY r.1,C1 r.2.1,eI r.2.2]):=Fk f46 0xeb023b81a6194b38900c460e5c0e5a38d310e30deb060763626110e30deb89030cd563626110e30deb89030c63626110e30deb89030c3cf7016e4a016ec40104b50348034707460ea75a0e5c5a5ae46e4a016ec40b5c04b58a0e5d5a5c30b601770d42bb81ec6bd610e30deb06076563626110e30deb89030cddb510e30deb89030937363510e30deb89030cd537363510e30deb89030c37363510e30deb89030c3cf7b94ab9c40104b9c40104b94ab9c4e504328a0e915a30b6016c0d42a29110e30deb8903096537363510e30deb89030cdd32e70250e73f0e770d420e6c0d42025008c93f0e5c0e5aa6a608c908c93859da3859b555a6194b0106460bee0ed338ace70ec9936031 [.ky [.w 38,.w 41],.ky [.w 46,.w 50]] [.cell 8 (Y 25),.cell 9 (Y 2),.tmp 10] λr h e f=>by
  unfold EX at h;have:=As 0 55 54 0 λs0:ff×f0×Az=>[(14,.bx [⟨X,lI s0.1.fd⟩,⟨X,lE s0.1.fq⟩]),(15,.bx [⟨X,lI s0.2.1.fd⟩,⟨X,lI s0.2.1.fq⟩]),(16,.bx [⟨X,lI s0.2.2.fd⟩,⟨X,lI s0.2.2.fq⟩])];have:=As 2 99 98 0 λs2:ff×f0×Az=>[(14,.bx [⟨X,lI s2.1.fd⟩,⟨X,lE s2.1.fq⟩]),(15,.bx [⟨X,lI s2.2.1.fd⟩,⟨X,lI s2.2.1.fq⟩]),(16,.bx [⟨X,lI s2.2.2.fd⟩,⟨X,lI s2.2.2.fq⟩])];exact nz
instance(a b c):CT (EP a b c) 17 [AK a,C3 b,BY c] (λr=>.tp [BY r.1,C1 r.2.1,eI r.2.2]):=Fk f17 0x81a6194b116f0ea9d338ace70ec9ed [] [.cell 6 (Y 25),.cell 7 (Y 2),.tmp 8] λr h d e=>by
  unfold EP at h;exact nz
instance(a b c):CT (OV a b c) 186 [AK a,eI b,lI c] rI:=BJ f186 0xaa2322210204d7f4a791965cdcef8104c9eae6fd23222102049bb4e0010b30fb01a8830241df5a55e05a3093b302 [] (OV.eq_1 ..) (Ap 0 35 34 0)
instance(a b):CT (Hy a b) 119 [AK a,BC b] (rT eI eI):=D4 f119 0xa2003e3d3c5b05d7d9d05da7d85d5cd85aa8d9e05c5abb81ec6b0343fd3e3d3c5b05dd0141325b022827265b05d781306d0e91e238a2915b02652827265b05dd59325581e0d80ba75581e832558180017c383092 [] (Hy.eq_1 ..) (Ap 0 40 39 0) (Ap 2 62 61 0)
instance(a b c):CT (NX a b c) 72 [AK a,BY b,BC c] rI:=Fe f72 0x815e017c6ba8c8d3a880017caced [] (NX.eq_1 ..)
instance(a b):CT (IQ a b) 309 [eI a,.pt (AK b).cells] rB:=Fe f309 0x81749fbd [] (IQ.eq_1 ..)
instance(a b):CT (IR a b) 310 [BS a,.pt (AK b).cells] rB:=Fe f310 0x81745c9fdb [] (IR.eq_1 ..)
instance(a b):CT (HK a b) 258 [AK a,AU b] rB:=Fe f258 0xf8b610beb6109f92 [] (HK.eq_1 ..)
instance(a b c):CT (GX a b c) 189 [AK a,AU b,AU c] rI:=BJ f189 0xb48a0890ac0890386aa11817166a0306d7e8a608c93802436aa1651817166a03069b02c738a880017caced [] (GX.eq_1 ..) (Ap 0 24 23 0)
end Go.Sf.Sc
