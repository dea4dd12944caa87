/- Contracts of the functions. -/
import Derived.Test.YthgbaecihlidaaaGreatDoorCon0
import Derived.Test.YthgbaecihlidaaaGreatDoorTryzShelf
import Derived.Test.YthgbaecihlidaaaGreatDoorFo
set_option linter.all false
set_option maxRecDepth 100000
set_option maxHeartbeats 4000000
namespace Go.Sf.Sc
open Go Go.Sf Go.Proofs.Tryz
instance zT:CT (OG ) 15 [] (fun r=>.oag [⟨true,lN r.d5⟩,⟨true,lX r.d7⟩]):=Fk f15 0x2503f07473f3f04473f3f04473f3f3f3f04473f15c900 [.bld [.str ⟨#[]⟩,.int .i64 0,.int .i64 0,.list 1 []] [(0,1,.c (.str ⟨#[98,97,108,97,110,99,101]⟩)),(1,1,.c (.int .i64 (-1000))),(2,1,.c (.int .i64 1000))],.bld [.str ⟨#[]⟩,.int .i64 0,.bool false,.list 4 []] [(0,1,.c (.str ⟨#[65,99,99,111,117,110,116]⟩)),(1,1,.c (.int .i64 (-1))),(2,1,.c (.bool true)),(3,1,.s 2)],.bld [.str ⟨#[]⟩,.int .i64 0,.bool false,.list 4 []] [(0,1,.c (.str ⟨#[67,97,115,104]⟩)),(1,1,.c (.int .i64 0))],.lst 1 [.c (.str ⟨#[111,112,101,110]⟩),.c (.str ⟨#[99,108,111,115,101,100]⟩)],.bld [.str ⟨#[]⟩,.int .i64 0,.int .i64 0,.list 1 []] [(0,1,.c (.str ⟨#[115,116,97,116,101]⟩)),(2,1,.c (.int .i64 1)),(3,1,.s 5)],.bld [.str ⟨#[]⟩,.int .i64 0,.bool false,.list 4 []] [(0,1,.c (.str ⟨#[76,111,97,110]⟩)),(1,1,.c (.int .i64 0)),(3,1,.s 7)],.bld [.str ⟨#[]⟩,.int .i64 0,.bool false,.list 4 []] [(0,1,.c (.str ⟨#[80,101,114,115,111,110]⟩)),(1,1,.c (.int .i64 (-1)))],.bld [.str ⟨#[]⟩,.int .i64 0,.int .i64 0,.int .i64 0,.int .i64 0,.int .i64 0,.int .i64 0] [(0,1,.c (.str ⟨#[111,119,110,115]⟩)),(1,1,.c (.int .i64 3)),(2,1,.c (.int .i64 0)),(4,1,.c (.int .i64 (-1))),(5,1,.c (.int .i64 1)),(6,1,.c (.int .i64 1))],.bld [.str ⟨#[]⟩,.int .i64 0,.int .i64 0,.int .i64 0,.int .i64 0,.int .i64 0,.int .i64 0] [(0,1,.c (.str ⟨#[112,97,121,115]⟩)),(1,1,.c (.int .i64 1)),(2,1,.c (.int .i64 1)),(4,1,.c (.int .i64 (-1))),(6,1,.c (.int .i64 (-1)))],.Aaz [.w 10,.w 13]] [.cell 0 (some 2)] fun r h a b=>by
  unfold OG at h;exact nz
instance zV(a:List G8)(b:List G8):CT (MP a b) 18 [(eL 2 Ip) a,(eL 2 Ip) b] (fun r=>.sh (AN r)):=Fk f18 0x963760020a60fd6ec8b2074807471b46adb63f02437401b63f0243303f053004b281cf6002ff8a05ed300a60fd8160fecd65056ec83204480447b10432ff08cd650608cd65063cc8034204471a463f5d0508cd65063cc803420447194605053f055c5d05855c813f0530ba00c91846050505550505ad3f553f053076606506766065063c9637024330850b309616c9174660feff8a78ed017401cd65058115c915c96502 [.Aas (.c (.str ⟨#[65,66,67,68,69,70]⟩)) (some (.s 35)) (some (.s 37)),.cvt .i64 (.s 40),.Aas (.c (.str ⟨#[117,118,119,120,121,122]⟩)) (some (.s 52)) (some (.s 54)),.cvt .i64 (.s 64),.lst 1 [.c (.str ⟨#[111,102,102]⟩),.c (.str ⟨#[111,110]⟩)],.Aas (.c (.str ⟨#[101,102,103,104,105]⟩)) (some (.s 99)) (some (.s 101)),.aad (.s 105) (.c (.int .i64 0)) 1 2,.cvt .i64 (.s 107),.aad (.s 113) (.c (.int .i64 1)) 1 2,.cvt .i64 (.s 115)] [.cell 4 (some 2)] fun r h f g=>by
  unfold MP at h;have:HW 0 fun(e:ej×Int)=>[(5,.bx [⟨true,lN e.1.d5⟩,⟨true,lX e.1.d7⟩]),(6,.tv (eI e.2))]:=⟨⟩;have:HW 3 fun(d:ej×Int)=>[(5,.bx [⟨true,lN d.1.d5⟩,⟨true,lX d.1.d7⟩]),(10,.tv (eI d.2))]:=⟨⟩;exact nz
instance zW(d:Eo)(a:Int)(b:Int):CT (LE d a b) 19 [MC d,eI a,eI b] (fun r=>.sh (MC r)):=Fk f19 0x6013b961c4603452d01dfa1452d01cf55e3939002 [] [.cell 6 (some 2)] fun r h c e=>by
  unfold LE at h;exact nz
instance c88(n:Int)(b:Int)(a:Int):CT (DV n b a) 88 [eI n,eI b,eI a] rB:=Fj f88 0xf801740130026503 [] fun h=>by
  unfold DV at h;exact nz
abbrev Q_87(n:Nat):Prop:=∀(t:ej)(a:Int),CT (F3 n t a) 87 [AN t,eI a] (fun r=>.own (lA r))
theorem uP(n:Nat)(_ih_87:Q_87 n)(t:ej)(a:Int):CT (F3 (n+1) t a) 87 [AN t,eI a] (fun r=>.own (lA r)):=Fj f87 0x8204487341b95504480e84b955370447ff04c085fd40c3 [] fun h=>by
  unfold F3 at h;exact nz
theorem uO:∀n:Nat,Q_87 n:=by
  intro n
  induction n with
  |zero=>exact(fun t a=>⟨fun _ h=>by cases h⟩)
  |succ n b=>exact uP n b
instance c87(t:ej)(a:Int):CT (Nb t a) 87 [AN t,eI a] (fun r=>.own (lA r)):=⟨fun r h=>by
  obtain ⟨N,b⟩:=DU h;exact((uO N) t a).snd r (b N (bk _))⟩
instance xr(t:Eg):CT (OX t) 254 [UZ t] (fun r=>.sh (eS r)):=Fj f254 0x815c363f3f5c85553f9b [.mv (.c (.str ⟨#[]⟩)),.bin (.s) .add (.c (.str ⟨#[34]⟩)) (.s 7),.bin (.s) .add (.s 8) (.c (.str ⟨#[34]⟩))] fun h=>by
  unfold OX at h;exact nz
instance yb(c:Int):CT (J4 c) 298 [Gr c] rB:=Fj f298 0xc47874307874f1 [] fun h=>by
  unfold J4 at h;exact nz
instance yc(c:Int):CT (Hx c) 299 [Gr c] rB:=Fj f299 0xf874f1 [] fun h=>by
  unfold Hx at h;exact nz
instance yd(b:ByteArray)(c:Int)(a:Bool):CT (N4 b c a) 300 [eS b,eI c,eB a] rI:=Fj f300 0x810107690702cb5e0107698a0a0a78120530300e1205303008300e120530740c38300702cb81b86503 [] fun h=>by
  unfold N4 at h;have:HW 0 fun(d:Int)=>[(7,.tv (eI d))]:=⟨⟩;exact nz
instance ye(a:ByteArray)(b:Int):CT (J5 a b) 301 [eS a,eI b] rI:=Fj f301 0x910565bef5740136057012ad71610c387465c29f [] fun h=>by
  unfold J5 at h;have:HW 0 fun(c:Int)=>[(5,.tv (eI c))]:=⟨⟩;exact nz
instance yf:CT (Na ) 302 [] (fun r=>.own (lB r)):=Fj f302 0x823f014000 [.lst 1 [.c (.str ⟨#[45,62]⟩),.c (.str ⟨#[60,61]⟩),.c (.str ⟨#[62,61]⟩),.c (.str ⟨#[61,61]⟩),.c (.str ⟨#[33,61]⟩),.c (.str ⟨#[123]⟩),.c (.str ⟨#[125]⟩),.c (.str ⟨#[40]⟩),.c (.str ⟨#[41]⟩),.c (.str ⟨#[91]⟩),.c (.str ⟨#[93]⟩),.c (.str ⟨#[44]⟩),.c (.str ⟨#[59]⟩),.c (.str ⟨#[58]⟩),.c (.str ⟨#[61]⟩),.c (.str ⟨#[43]⟩),.c (.str ⟨#[45]⟩),.c (.str ⟨#[42]⟩),.c (.str ⟨#[60]⟩),.c (.str ⟨#[62]⟩),.c (.str ⟨#[33]⟩),.c (.str ⟨#[38]⟩),.c (.str ⟨#[124]⟩),.c (.str ⟨#[46]⟩),.c (.str ⟨#[63]⟩)]] fun h=>by
  unfold Na at h;exact nz
instance xt(a:ByteArray)(c:Int):CT (N3 a c) 255 [eS a,eI c] (fun r=>.tp [UZ r.1,eI r.2.1,eI r.2.2]):=Fk f255 0x7fa21d460401da0465056eff04013b7fa20c6f7146ef8a06ef0d050cef30740c380c80300401fada04650581820eb5a265460d05057430b5a21d4685adb5a21decfb8501b5a265460dad3030b5a21d468530b408046506b4080465063c308e5d7f0e0e01308afb0e5d12303017c96502 [] [.cell 4 (some 3),.tmp 5,.tmp 6] fun r h f g=>by
  unfold N3 at h;have:HJ 29 fun(d:Int×Int)=>[(9,.tv (eI d.1)),(10,.tv (eI d.2))]:=⟨⟩;have:HA 0 13 12 0 fun(e:Int)(b:Eg)=>[(4,.bx [⟨false,eI b.o3⟩,⟨false,eS b.AbU⟩,⟨false,eI b.Line⟩]),(13,.tv (eI e))]:=⟨⟩;exact nz
instance w6(t:Eg):CT (NZ t) 204 [UZ t] rB:=Fj f204 0xf8557e780c01745d81a217c911970136bf5de6019b [.bin (.s) .eql (.s 9) (.c (.str ⟨#[]⟩))] fun h=>by
  unfold NZ at h;exact nz
instance ve(a:ByteArray):CT (Ez a) 133 [eS a] rB:=Fj f133 0x810e0046f1 [] fun h=>by
  unfold Ez at h;exact nz
instance xm(l:List ByteArray):CT (Kz l) 253 [lB l] rI:=Fj f253 0x91cc026ecc0204ccbe3686efefcc02613004ccc2dd6f71facc0281ac0bf1 [] fun h=>by
  unfold Kz at h;have:HA 0 3 0 0 fun(b:Int)(_:Unit)=>[(3,.tv (eI b))]:=⟨⟩;have:HA 2 4 3 0 fun(a:Int)(_:Unit)=>[(4,.tv (eI a))]:=⟨⟩;exact nz
instance w4(a:mh):CT (Hf a) 202 [HT a] rI:=Fj f202 0x81f563a89e385cbba83689a95c5777a95c850b73779b [] fun h=>by
  unfold Hf at h;exact nz
instance vc(t:ej)(a:Int):CT (MR t a) 131 [AN t,eI a] rI:=Fj f131 0x91a5026ebbb1d930a50209a5be36866cd9306cd930a502613009a5c2dd6cd971faa5028163a80b018963eda8820ed4ddad5c0590d50590046e3686556cb9550590036130fc900481dd55ba00c9b1b97ec3 [] fun h=>by
  unfold MR at h;have:HA 0 6 1 0 fun(b:Int)(_:Unit)=>[(6,.tv (eI b))]:=⟨⟩;have:HA 2 8 7 0 fun(d:Int)(_:Unit)=>[(8,.tv (eI d))]:=⟨⟩;have:HA 4 9 8 0 fun(c:Int)(_:Unit)=>[(9,.tv (eI c))]:=⟨⟩;exact nz
instance w5(b:Int)(a:Int):CT (JQ b a) 203 [eI b,eI a] rB:=Fj f203 0xc40a0e0174300ede [] fun h=>by
  unfold JQ at h;exact nz
instance vd(t:ej)(a:Int):CT (MQ t a) 132 [AN t,eI a] rI:=Fj f132 0x8189a903b70305770aa9aa4273770aa9015777a9015c816355050202fc90046e3686556c07c60502026130fc900481dd55074b01c90744075fa1c3 [] fun h=>by
  unfold MQ at h;have:HA 0 6 1 0 fun(b:Int)(_:Unit)=>[(6,.tv (eI b))]:=⟨⟩;exact nz
instance c98(t:ej):CT (Em t) 98 [AN t] (fun r=>.tp [eS r.1,eI r.2]):=Fj f98 0x81bf0006b86eb5016c07c6640ed4008ca106b8813004b86eb5016cb955640ed4308c7e04b88136bf8ad038cf36bf850b7e3f9b [.mv (.c (.str ⟨#[]⟩)),.mv (.c (.str ⟨#[]⟩)),.mv (.c (.str ⟨#[]⟩)),.mv (.c (.str ⟨#[]⟩))] fun h=>by
  unfold Em at h;have:HA 0 4 1 0 fun(b:Int)(_:Unit)=>[(4,.tv (eI b))]:=⟨⟩;have:HA 2 6 1 1 fun(a:Int)(_:Unit)=>[(6,.tv (eI a))]:=⟨⟩;exact nz
instance c86(t:ej)(a:Int)(b:Int):CT (JR t a b) 86 [AN t,eI a,eI b] rI:=Fj f86 0x8189a9635530a9637e7d0172e1939002 [] fun h=>by
  unfold JR at h;exact nz
instance c54(t:ej)(a:Int):CT (El t a) 54 [AN t,eI a] (fun r=>.tp [lA r.1,eI r.2]):=Fj f54 0x81f0070109a5be0204480447b1904a037748737747ba02c9b1d9300701fa09a5c2820ed404c03604c070fbab0440c3 [] fun h=>by
  unfold El at h;have:HA 0 9 8 0 fun(c:Int)(b:List mh)=>[(7,.ow (lA b)),(9,.tv (eI c))]:=⟨⟩;exact nz
abbrev Q_89(n:Nat):Prop:=∀(t:ej)(a:Int)(b:Int),CT (FE n t a b) 89 [AN t,eI a,eI b] rB
theorem uR(n:Nat)(_ih_89:Q_89 n)(t:ej)(a:Int)(b:Int):CT (FE (n+1) t a b) 89 [AN t,eI a,eI b] rB:=Fj f89 0xc40a0e0184b9553738740130939002 [] fun h=>by
  unfold FE at h;exact nz
theorem uQ:∀n:Nat,Q_89 n:=by
  intro n
  induction n with
  |zero=>exact(fun t a b=>⟨fun _ h=>by cases h⟩)
  |succ n c=>exact uR n c
instance c89(t:ej)(a:Int)(b:Int):CT (IR t a b) 89 [AN t,eI a,eI b] rB:=⟨fun r h=>by
  obtain ⟨N,c⟩:=DU h;exact((uQ N) t a b).snd r (c N (bk _))⟩
instance vR(t:ej)(g:d6)(a:Int):CT (JT t g a) 120 [AN t,A8 g,eI a] (fun r=>.own (lI r)):=Fj f120 0xf00701a504d66ea504d6a504d63c90d2b88e0180553707018c7ea504d68101c001406290 [] fun h=>by
  unfold JT at h;have:HA 0 8 4 0 fun(b:Int)(c:Fp)=>[(7,.ow (lI c)),(8,.tv (eI b))]:=⟨⟩;exact nz
instance c76(t:ej)(d:Eo)(a:Bool):CT (MY t d a) 76 [AN t,MC d,eB a] (fun r=>.sh (A8 r)):=Fk f76 0x96370906020b09060403056e0b090604036309060403053cc8b20348034705466f6301b6b65fa16f6301b6b6c63004b28a63ed0182820eee07c637370e8407c6373781d0b6b6c6090602ff8a63a178eda10b090604030581090604aab47604d56ec83201d26f63013f807e0432090604aaff8a633078ed7eb47604d581e37604aae50457066ee5045706e50457063c90d2b88a08eeb955307604aa8c7ee50457068101c0e36290 [.cvt .i64 (.s 59),.aad (.s 89) (.c (.int .i64 0)) 1 3,.cvt .i64 (.s 91),.aad (.s 130) (.c (.int .i64 1)) 1 3,.cvt .i64 (.s 132),.aad (.s 143) (.c (.int .i64 2)) 1 3,.cvt .i64 (.s 145)] [.cell 6 (some 2)] fun r h i j=>by
  unfold MY at h;have:HA 0 8 3 0 fun(f:Int)(g:Fp)=>[(7,.ow (lI g)),(8,.tv (eI f))]:=⟨⟩;have:HW 2 fun(b:d6×Int)=>[(9,.bx [⟨true,lI b.1.d5⟩,⟨true,lE b.1.d7⟩]),(10,.tv (eI b.2))]:=⟨⟩;have:HW 4 fun(e:d6×Int)=>[(9,.bx [⟨true,lI e.1.d5⟩,⟨true,lE e.1.d7⟩]),(11,.tv (eI e.2))]:=⟨⟩;exact nz
instance vS(a:Int)(n:Int):CT (E0 a n) 121 [eI a,eI n] rI:=Fj f121 0xa73838309f [] fun h=>by
  unfold E0 at h;exact nz
instance c77(n:Int)(a:Og):CT (MO n a) 77 [eI n,Oz a] (fun r=>.sh (GY r)):=Fk f77 0xd31f46094605b63f011e46307f050eadb63f050eadb63fa7050eb6b6c99b01 [.aad (.s 3) (.c (.int .i64 0)) 1 4,.cvt .i64 (.s 9),.aad (.s 3) (.c (.int .i64 1)) 1 4,.cvt .i64 (.s 15),.aad (.s 3) (.c (.int .i64 2)) 1 4,.cvt .i64 (.s 22),.aad (.s 3) (.c (.int .i64 3)) 1 4,.cvt .i64 (.s 33)] [.cell 4 (some 5)] fun r h b d=>by
  unfold MO at h;exact nz
instance zx(t:ej)(d:H1):CT (MZ t d) 44 [AN t,SC d] (fun r=>.sh (BO r)):=Fk f44 0xd38d60020f60aa6ec8dc054805470eb1b9a8a804dc6002ff8a05ed73770f60aa8160730bcd03056ec8ca04480447b104ca0e0bcdd50e0bcdd53cc85bf94a034285a80e0bcdd50e0bcdd53cc8034205a8024aca1e46a885a86ccaba04c92046094605053f9e05053f5c5c559605c937024363013f7ea218c9d75f9e6073ff8a633078ed57770bcd030581cdaa76e86e76e80ae5a6086e02024802470946300276e8fa0ae5a6088101eb80bd37cdaa8cbd0176e88102c0055009c93f6d323709c99a [.Aaz [.v (.s 19) 0 2,.v (.s 19) 1 2,.z ⟨true,.list 4 []⟩,.z ⟨false,.int .i64 0⟩,.z ⟨true,.list 5 []⟩],.cvt .i64 (.s 75),.cvt .i64 (.s 87),.cvt .i64 (.s 92)] [.cell 4 (some 5)] fun r h g i=>by
  unfold MZ at h;have:HW 0 fun(c:List Ht×Int)=>[(6,.ow ((eL 2 V5) c.1)),(7,.tv (eI c.2))]:=⟨⟩;have:HA 2 10 8 0 fun(f:Int)(e:List Ht)=>[(6,.ow ((eL 2 V5) e)),(10,.tv (eI f))]:=⟨⟩;have:HW 4 fun(b:ed×Int)=>[(5,.bx [⟨false,lI b.1.d6.d5⟩,⟨false,lE b.1.d6.d7⟩,⟨true,lS b.1.ff⟩,⟨false,eI b.1.fq⟩,⟨true,lT b.1.ns⟩]),(11,.tv (eI b.2))]:=⟨⟩;have:HW 6 fun(a:ed×Int)=>[(5,.bx [⟨false,lI a.1.d6.d5⟩,⟨false,lE a.1.d6.d7⟩,⟨true,lS a.1.ff⟩,⟨false,eI a.1.fq⟩,⟨true,lT a.1.ns⟩]),(15,.tv (eI a.2))]:=⟨⟩;exact nz
instance vT(l:ae):CT (IT l) 122 [(eL 1 eB) l] (fun r=>.own (lI r)):=Fj f122 0xf03104ccbe04ccaacc033c90d2b88301433031fa04ccc201c001400001 [] fun h=>by
  unfold IT at h;have:HA 0 4 0 0 fun(b:Int)(a:Fp)=>[(3,.ow (lI a)),(4,.tv (eI b))]:=⟨⟩;exact nz
instance c78(g:d6)(b:ae)(a:ae):CT (K0 g b a) 78 [A8 g,(eL 1 eB) b,(eL 1 eB) a] (fun r=>.oag [⟨true,lI r.d5⟩,⟨true,lI r.d7⟩]):=Fk f78 0x2503f0e012014760203e5d66ee5d6e5d63ce9e9ee03c6148403c61483014330760203fae5d68199014f305607c9939002 [.Aaz [.w 39,.w 41]] [.cell 6 (some 2)] fun r h e f=>by
  unfold K0 at h;have:HA 0 8 2 0 fun(c:Int)(d:ae)=>[(7,.xo 1 (List.map eB d)),(8,.tv (eI c))]:=⟨⟩;exact nz
instance zy(g:d6)(a:Int):CT (MT g a) 45 [A8 g,Hu a] (fun r=>.oag [⟨true,lI r.d5⟩,⟨true,lI r.d7⟩]):=Fk f45 0x2501b181837cd020408cd90066ee9053f3f05ad15143014cd02046115140108cd900681cd0238766090066ee9053f3fad3014cd023861151401766090068199993fdf3fcf07c9c3 [.mkx 1 [.bool false] (.s 11),.mkx 1 [.bool false] (.s 15),.bin (.w) .shr (.s 25) (.s 27),.bin (.w) .and (.s 28) (.c (.int .u64 1)),.bin (.w) .shr (.s 40) (.s 45),.bin (.w) .and (.s 46) (.c (.int .u64 1))] [.cell 4 (some 2)] fun r h e f=>by
  unfold MT at h;have:HW 0 fun(b:ae×Int)=>[(5,.xo 1 (List.map eB b.1)),(7,.tv (eI b.2))]:=⟨⟩;have:HW 2 fun(d:ae×Int)=>[(6,.xo 1 (List.map eB d.1)),(8,.tv (eI d.2))]:=⟨⟩;exact nz
instance vV(n:Int):CT (KY n) 124 [eI n] rB:=Fj f124 0xf874f1 [] fun h=>by
  unfold KY at h;exact nz
instance vW(e:Bc)(a:Int):CT (Nc e a) 125 [CF e,eI a] rB:=Fj f125 0xf80157777857777801a178a10e7ec3 [] fun h=>by
  unfold Nc at h;exact nz
instance c84(g:d6):CT (DI g) 84 [A8 g] rI:=Fj f84 0x9104b86eddcfd7c6008ca104b8813031026edd8055308c7e31028189d0380b7e9b [] fun h=>by
  unfold DI at h;have:HA 0 3 1 0 fun(b:Int)(_:Unit)=>[(3,.tv (eI b))]:=⟨⟩;have:HA 2 4 1 1 fun(a:Int)(_:Unit)=>[(4,.tv (eI a))]:=⟨⟩;exact nz
instance wm(l:Fp)(n:Int):CT (GE l n) 189 [lI l,eI n] rI:=Fj f189 0x910565bef56f053080740189ad80746f718c7465c29f [] fun h=>by
  unfold GE at h;have:HA 0 5 0 0 fun(a:Int)(_:Unit)=>[(5,.tv (eI a))]:=⟨⟩;exact nz
instance wn(l:Fp)(n:Int):CT (N7 l n) 190 [lI l,eI n] rB:=Fj f190 0x910565beac016f718c7465c29f [] fun h=>by
  unfold N7 at h;have:HA 0 5 0 0 fun(a:Int)(_:Unit)=>[(5,.tv (eI a))]:=⟨⟩;exact nz
instance vU(g:d6)(p:Bo):CT (Nd g p) 123 [A8 g,MA p] rI:=Fj f123 0x910757be89a99e7ea95c55a2ead743805c5c008ca10757c2bbdf5cbbcf7e9a [] fun h=>by
  unfold Nd at h;have:HA 0 7 3 1 fun(a:Int)(_:Unit)=>[(7,.tv (eI a))]:=⟨⟩;exact nz
instance c79(g:d6)(p:Bo):CT (JS g p) 79 [A8 g,MA p] rI:=Fj f79 0x816d377de19a [] fun h=>by
  unfold JS at h;exact nz
instance c80(l:Fp)(n:Int):CT (Hz l n) 80 [lI l,eI n] rI:=Fj f80 0x910565bef285016f718c7465c29f [] fun h=>by
  unfold Hz at h;have:HA 0 5 0 0 fun(a:Int)(_:Unit)=>[(5,.tv (eI a))]:=⟨⟩;exact nz
instance z6(g:d6)(p:Bo):CT (HF g p) 46 [A8 g,MA p] (fun r=>.tp [A8 r.1,Bm r.2.1,eI r.2.2]):=Fk f46 0x60023b81969604460148a14701487e47370860aa0a08e86ec8b20348034705460e9e550e5c555504b2a2ead743805c5c0860aa8ca10a08e88108a6050908e86ec83201d26f805555043208a6058c7e0908e881e3369696fe4602ec6dab07c9e39a [] [.cell 4 (some 2),.cell 5 (some 2),.tmp 6] fun r h e f=>by
  unfold HF at h;have:HA 0 9 3 0 fun(c:Int)(a:d6)=>[(8,.bx [⟨true,lI a.d5⟩,⟨true,lE a.d7⟩]),(9,.tv (eI c))]:=⟨⟩;have:HA 2 10 3 1 fun(d:Int)(b:d6)=>[(8,.bx [⟨true,lI b.d5⟩,⟨true,lE b.d7⟩]),(10,.tv (eI d))]:=⟨⟩;exact nz
instance c55(t:ej)(b:Int)(a:Int)(c:Int):CT (He t b a c) 55 [AN t,eI b,eI a,eI c] rB:=Fj f55 0xc40eee075fa1ab0e84075fa13789a9d074fbab9357fe [] fun h=>by
  unfold He at h;exact nz
instance c81(g:d6):CT (E1 g) 81 [A8 g] (fun r=>.oag [⟨true,lI r.d5⟩,⟨true,lE r.d7⟩]):=Fk f81 0x903b0250b6485c034701487e47e39b [.Aaz [.w 6,.w 10]] [.cell 2 (some 2)] fun r h a b=>by
  unfold E1 at h;exact nz
instance c82(t:ej):CT (Ka t) 82 [AN t] (fun r=>.own (lI r)):=Fj f82 0xf0310431be0431aa31033c90d2b888eeb955318c7e0431c201c001409b [] fun h=>by
  unfold Ka at h;have:HA 0 4 1 0 fun(b:Int)(a:Fp)=>[(3,.ow (lI a)),(4,.tv (eI b))]:=⟨⟩;exact nz
instance z7(t:ej)(k:d6)(d:Do):CT (LB t k d) 47 [AN t,A8 k,IK d] (fun r=>.sh (A8 r)):=Fk f47 0x963776020b0af6d56e0b0af6d50b0af6d53cc8b2034803476a04b28e6f9e556f5c555537a2ea0546adb6b65f03b7adb6b65f03b7d0b6b65f03b77602ff8a63a1783078edd5770b0af6d57fcff6aa09e505d56ec83201d26f63013f800305770432f6aaff8a633078ed03057709e505d581826d0250e31b37e3e4 [.cvt .i64 (.s 40),.aad (.s 77) (.c (.int .i64 0)) 1 3,.cvt .i64 (.s 79),.aad (.s 88) (.c (.int .i64 1)) 1 3,.cvt .i64 (.s 90),.aad (.s 97) (.c (.int .i64 2)) 1 3,.cvt .i64 (.s 99)] [.cell 6 (some 2)] fun r h e f=>by
  unfold LB at h;have:HW 0 fun(a:d6×Int)=>[(7,.bx [⟨true,lI a.1.d5⟩,⟨true,lE a.1.d7⟩]),(9,.tv (eI a.2))]:=⟨⟩;have:HW 2 fun(b:d6×Int)=>[(7,.bx [⟨true,lI b.1.d5⟩,⟨true,lE b.1.d7⟩]),(11,.tv (eI b.2))]:=⟨⟩;exact nz
instance c83(b:Int)(a:Int):CT (JF b a) 83 [eI b,eI a] (fun r=>.own (lI r)):=Fj f83 0xf0adfccb6e90d2053002ad6130fccb8101c001406502 [] fun h=>by
  unfold JF at h;have:HA 0 6 1 0 fun(d:Int)(c:Fp)=>[(5,.ow (lI c)),(6,.tv (eI d))]:=⟨⟩;exact nz
instance z8(n:Int)(a:Fp):CT (HE n a) 48 [eI n,(eL 1 Gr) a] (fun r=>.own (lI r)):=Fj f48 0x8218adfccb6ee9e917d1011417d1011401140114a70505303f8074698a63017430fccb81991a30406502 [.cvt .i64 (.s 25)] fun h=>by
  unfold HE at h;have:HW 0 fun(b:Fp×Int)=>[(5,.xo 1 (List.map eI b.1)),(6,.tv (eI b.2))]:=⟨⟩;exact nz
instance c85(l:Fp):CT (FB l) 85 [lI l] rI:=Fj f85 0x910400026e0400026000beacefef040002613060000391fa0400029101cc026e89630180746ff1facc02816501 [] fun h=>by
  unfold FB at h;have:HA 0 3 0 0 fun(a:Int)(_:Unit)=>[(3,.tv (eI a))]:=⟨⟩;have:HA 2 4 0 0 fun(c:Int)(_:Unit)=>[(4,.tv (eI c))]:=⟨⟩;have:HA 4 5 4 0 fun(b:Int)(_:Unit)=>[(5,.tv (eI b))]:=⟨⟩;exact nz
instance c49(g:d6)(m:eb):CT (JG g m) 49 [A8 g,Bm m] (fun r=>.tp [A8 r.1,eI r.2]):=Fk f49 0x819637093e0904020b0904d66e034d034c05466f9e556f5c5555805c1db2a2ead7c60904028ca10b0904d68109045704b404d66ee9805580551d32090457048c7eb404d681025019c927373696b8ec0e5c3696b8ec0e55369602468ad0df38cfcf3696b8ece1e39a [] [.cell 4 (some 2),.tmp 5] fun r h j k=>by
  unfold JG at h;have:HA 0 10 2 0 fun(f:Int)(d:d6)=>[(9,.bx [⟨true,.xl 1 (List.map eI d.d5)⟩,⟨true,.xl 3 (List.map CF d.d7)⟩]),(10,.tv (eI f))]:=⟨⟩;have:HA 2 11 2 1 fun(i:Int)(e:d6)=>[(9,.bx [⟨true,.xl 1 (List.map eI e.d5)⟩,⟨true,.xl 3 (List.map CF e.d7)⟩]),(11,.tv (eI i))]:=⟨⟩;have:HY 106 (fun(a:Int)(b:Int)(c:Int)=>Bc.mk a b c) (eI) (eI) (eI):=⟨⟩;exact nz
instance c50(t:ej)(g:d6)(a:Int)(l:List G9):CT (LD t g a l) 50 [AN t,A8 g,eI a,(eL 3 Fd) l] (fun r=>.own (lS r)):=Fj f50 0xf00901b4e85e01b4e8b4e8b4e83c0204480447b10288010f0eb4a608100f0eb4a6096e010a785c84b974556cd930300f0eb4a608fa100f0eb4a6097fba04c92046094605b6b6437405ad3f0503b643ed01b6b65f30ffb4e8850b30eb805537816355b6b6433009698a637e78ed30b4e88104c00440625702 [.aad (.s 35) (.c (.int .i64 0)) 1 3,.cvt .i64 (.s 37),.aad (.s 59) (.c (.int .i64 1)) 1 3,.cvt .i64 (.s 61),.aad (.s 68) (.c (.int .i64 1)) 1 3,.cvt .i64 (.s 71),.aad (.s 79) (.c (.int .i64 2)) 1 3,.cvt .i64 (.s 81)] fun h=>by
  unfold LD at h;have:HW 0 fun(b:List Bv×Int)=>[(9,.ow (lS b.1)),(10,.tv (eI b.2))]:=⟨⟩;have:HA 2 16 9 0 fun(e:Int)(d:Bool)=>[(15,.tv (eB d)),(16,.tv (eI e))]:=⟨⟩;exact nz
instance zj(n:Int):CT (IN n) 31 [eI n] (fun r=>.own (lI r)):=Fj f31 0xf03104ccbe90d2b831613004ccc201c001400001 [] fun h=>by
  unfold IN at h;have:HA 0 4 0 0 fun(b:Int)(a:Fp)=>[(3,.ow (lI a)),(4,.tv (eI b))]:=⟨⟩;exact nz
instance c9(g:d6):CT (Lf g) 9 [A8 g] (fun r=>.oag [⟨true,lI r.d5⟩,⟨true,lI r.d7⟩]):=Fk f9 0x903b02503f0edf0ecf07c99b [.Aaz [.w 6,.w 10]] [.cell 2 (some 2)] fun r h a b=>by
  unfold Lf at h;exact nz
instance c51(t:ej)(p:ed)(a:QD):CT (J9 t p a) 51 [AN t,BO p,Xt a] (fun r=>.sh (AI r)):=Fk f51 0x94b234609479d094b0ac92246094716462146a837379607c96d32ff094b16467604033cc8b2034803470546adb63fadb63fd0b63f04b2ff094b16468ad0385d057604033cc83201d26355b63f0432a785033f81cf0250e31be00ac9e4 [.aad (.s 5) (.c (.int .i64 0)) 1 4,.aad (.s 5) (.c (.int .i64 1)) 1 4,.cvt .i64 (.s 26),.aad (.s 5) (.c (.int .i64 1)) 1 4,.cvt .i64 (.s 49),.aad (.s 5) (.c (.int .i64 2)) 1 4,.cvt .i64 (.s 56),.aad (.s 5) (.c (.int .i64 3)) 1 4,.cvt .i64 (.s 61)] [.cell 6 (some 9)] fun r h b d=>by
  unfold J9 at h;exact nz
instance c52(a:hO):CT (Ng a) 52 [CP a] (fun r=>.sh (CP r)):=Fk f52 0x903b194b24461646030f4204460148840d774701486c0d774704460148840b774701486c0b774715466d5bb715466d5bb2550cc99b [] [.cell 2 (some 25)] fun r h b c=>by
  unfold Ng at h;exact nz
end Go.Sf.Sc
