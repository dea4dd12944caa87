/- Contracts of the functions. -/
import Derived.Test.YtjgaphkmbjbdkaaGreatCon0
import Derived.Test.YtjgaphkmbjbdkaaGreatTryzShelf
import Derived.Test.YtjgaphkmbjbdkaaGreatTw
set_option linter.all false
set_option maxRecDepth 100000
set_option maxHeartbeats 4000000
namespace Go.Sf.Sc
open Go Go.Sf Go.Proofs.Tryz
instance c10:CT (Pk ) 10 [] (fun r=>.x8 [⟨true,lN r.d3⟩,⟨true,lX r.d4⟩]):=Fk f10 0x2503f07473f3f04473f3f04473f3f3f3f04473f15c900 [.bld [.str ⟨#[]⟩,.int .i64 0,.int .i64 0,.list 1 []] [(0,1,.c (.str ⟨#[98,97,108,97,110,99,101]⟩)),(1,1,.c (.int .i64 (-1000))),(2,1,.c (.int .i64 1000))],.bld [.str ⟨#[]⟩,.int .i64 0,.bool false,.list 4 []] [(0,1,.c (.str ⟨#[65,99,99,111,117,110,116]⟩)),(1,1,.c (.int .i64 (-1))),(2,1,.c (.bool true)),(3,1,.s 2)],.bld [.str ⟨#[]⟩,.int .i64 0,.bool false,.list 4 []] [(0,1,.c (.str ⟨#[67,97,115,104]⟩)),(1,1,.c (.int .i64 0))],.lst 1 [.c (.str ⟨#[111,112,101,110]⟩),.c (.str ⟨#[99,108,111,115,101,100]⟩)],.bld [.str ⟨#[]⟩,.int .i64 0,.int .i64 0,.list 1 []] [(0,1,.c (.str ⟨#[115,116,97,116,101]⟩)),(2,1,.c (.int .i64 1)),(3,1,.s 5)],.bld [.str ⟨#[]⟩,.int .i64 0,.bool false,.list 4 []] [(0,1,.c (.str ⟨#[76,111,97,110]⟩)),(1,1,.c (.int .i64 0)),(3,1,.s 7)],.bld [.str ⟨#[]⟩,.int .i64 0,.bool false,.list 4 []] [(0,1,.c (.str ⟨#[80,101,114,115,111,110]⟩)),(1,1,.c (.int .i64 (-1)))],.bld [.str ⟨#[]⟩,.int .i64 0,.int .i64 0,.int .i64 0,.int .i64 0,.int .i64 0,.int .i64 0] [(0,1,.c (.str ⟨#[111,119,110,115]⟩)),(1,1,.c (.int .i64 3)),(2,1,.c (.int .i64 0)),(4,1,.c (.int .i64 (-1))),(5,1,.c (.int .i64 1)),(6,1,.c (.int .i64 1))],.bld [.str ⟨#[]⟩,.int .i64 0,.int .i64 0,.int .i64 0,.int .i64 0,.int .i64 0,.int .i64 0] [(0,1,.c (.str ⟨#[112,97,121,115]⟩)),(1,1,.c (.int .i64 1)),(2,1,.c (.int .i64 1)),(4,1,.c (.int .i64 (-1))),(6,1,.c (.int .i64 (-1)))],.Aad [.w 10,.w 13]] [.cell 0 (some 2)] fun r h a b=>by
  unfold Pk at h;exact nz
instance yC(g:d5):CT (JZ g) 122 [Ar g] (fun r=>.x8 [⟨true,lI r.d3⟩,⟨true,lE r.d4⟩]):=Fk f122 0xb23b02503f03485a0347014859aa07c99300 [.Aad [.w 6,.w 10]] [.cell 2 (some 2)] fun r h a b=>by
  unfold JZ at h;exact nz
instance c74(a:AF):CT (Jc a) 74 [BO a] (fun r=>.x8 [⟨true,lI r.d5.d3⟩,⟨true,lE r.d5.d4⟩,⟨true,.xn (List.map lI r.ed)⟩]):=Fk f74 0x35003535b02e1f6761fa92122014f9e7e015623a95b02847e01e1f681035016c93f1bc416c99300 [.Aad [.g 7 0 2,.g 7 1 2,.z ⟨true,.xn []⟩]] [.cell 2 (some 3)] fun r h d e=>by
  unfold Jc at h;have:HA 0 4 1 2 fun(c:Int)(b:AF)=>[(3,.bx [⟨true,lI b.d5.d3⟩,⟨true,lE b.d5.d4⟩,⟨true,.xn (List.map lI b.ed)⟩]),(4,.tv (eI c))]:=⟨⟩;exact nz
instance AAI(t:FB):CT (P5 t) 232 [Vi t] (fun r=>.sh (eS r)):=Fj f232 0x815a373f3f5a85593f9300 [.mv (.c (.str ⟨#[]⟩)),.bin (.s) .add (.c (.str ⟨#[34]⟩)) (.s 7),.bin (.s) .add (.s 8) (.c (.str ⟨#[34]⟩))] fun h=>by
  unfold P5 at h;exact nz
instance ABF(c:Int):CT (Lf c) 295 [Vj c] rB:=Fj f295 0x900ab6b60ab6b6d8 [] fun h=>by
  unfold Lf at h;exact nz
instance ABG(c:Int):CT (Iz c) 296 [Vj c] rB:=Fj f296 0x90b6b6d8 [] fun h=>by
  unfold Iz at h;exact nz
instance ABH(b:ByteArray)(c:Int)(a:Bool):CT (Lh b c a) 297 [eS b,eI c,eB a] rI:=Fj f297 0x810107730702d75f0107738a0a0a0a0512b6300e12b63008300e12b630050c55300702d781cb6003 [] fun h=>by
  unfold Lh at h;have:HW 0 fun(d:Int)=>[(7,.tv (eI d))]:=⟨⟩;exact nz
instance ABI(a:ByteArray)(b:Int):CT (Hw a b) 298 [eS a,eI b] rI:=Fj f298 0xa296cf9bb6b137057712057800610c553096ccf7 [] fun h=>by
  unfold Hw at h;have:HW 0 fun(c:Int)=>[(5,.tv (eI c))]:=⟨⟩;exact nz
instance ABJ:CT (O3 ) 299 [] (fun r=>.own (lB r)):=Fj f299 0x823f014000 [.lst 1 [.c (.str ⟨#[45,62]⟩),.c (.str ⟨#[60,61]⟩),.c (.str ⟨#[62,61]⟩),.c (.str ⟨#[61,61]⟩),.c (.str ⟨#[33,61]⟩),.c (.str ⟨#[123]⟩),.c (.str ⟨#[125]⟩),.c (.str ⟨#[40]⟩),.c (.str ⟨#[41]⟩),.c (.str ⟨#[91]⟩),.c (.str ⟨#[93]⟩),.c (.str ⟨#[44]⟩),.c (.str ⟨#[59]⟩),.c (.str ⟨#[58]⟩),.c (.str ⟨#[61]⟩),.c (.str ⟨#[43]⟩),.c (.str ⟨#[45]⟩),.c (.str ⟨#[42]⟩),.c (.str ⟨#[60]⟩),.c (.str ⟨#[62]⟩),.c (.str ⟨#[33]⟩),.c (.str ⟨#[38]⟩),.c (.str ⟨#[124]⟩),.c (.str ⟨#[46]⟩),.c (.str ⟨#[63]⟩)]] fun h=>by
  unfold O3 at h;exact nz
instance AAJ(a:ByteArray)(c:Int):CT (Lg a c) 233 [eS a,eI c] (fun r=>.tp [Vi r.1,eI r.2.1,eI r.2.2]):=Fk f233 0x9da51b460401b704600576ff04013b9da50c5e7846bb8a06bb0d050cbb3030050c550c5e780401d0b704600581820eb9a530460d05b6b6b9a51b4685b1b9a51bf30e308501b9a530460d057830b9a51b468530e908046006e9080460063c308e5d9d0e0e788a0e300e5d12303017c96002 [] [.cell 4 (some 3),.tmp 5,.tmp 6] fun r h f g=>by
  unfold Lg at h;have:HJ 29 fun(d:Int×Int)=>[(9,.tv (eI d.1)),(10,.tv (eI d.2))]:=⟨⟩;have:HA 0 13 12 0 fun(e:Int)(b:FB)=>[(4,.bx [⟨false,eI b.j0⟩,⟨false,eS b.AbB⟩,⟨false,eI b.Line⟩]),(13,.tv (eI e))]:=⟨⟩;exact nz
instance y5(t:FB):CT (Kl t) 170 [Vi t] rB:=Fj f170 0x9005bafc0c78055d81a517c911750137bf5de79a00 [.bin (.s) .eql (.s 9) (.c (.str ⟨#[]⟩))] fun h=>by
  unfold Kl at h;exact nz
instance xj(a:ByteArray):CT (D7 a) 110 [eS a] rB:=Fj f110 0x810e014630d8 [] fun h=>by
  unfold D7 at h;exact nz
instance yh(n:Int)(b:Int)(a:Int):CT (Ds n b a) 152 [eI n,eI b,eI a] rB:=Fj f152 0x9005780578026003 [] fun h=>by
  unfold Ds at h;exact nz
abbrev Q_167(n:Nat):Prop:=∀(t:AC)(a:Int),CT (D8 n t a) 167 [AM t,eI a] (fun r=>.own (lA r))
theorem td(n:Nat)(_ih_167:Q_167 n)(t:AC)(a:Int):CT (D8 (n+1) t a) 167 [AM t,eI a] (fun r=>.own (lA r)):=Fj f167 0x8204488c41ec5904480e7dec59360447ff04c085f6fe30 [] fun h=>by
  unfold D8 at h;exact nz
theorem tZ:∀n:Nat,Q_167 n:=by
  intro n
  induction n with
  |zero=>exact(fun t a=>⟨fun _ h=>by cases h⟩)
  |succ n b=>exact td n b
instance yy(t:AC)(a:Int):CT (Mk t a) 167 [AM t,eI a] (fun r=>.own (lA r)):=⟨fun r h=>by
  obtain ⟨N,b⟩:=Cl h;exact((tZ N) t a).snd r (b N (az _))⟩
instance AAH(l:List ByteArray):CT (I0 l) 231 [lB l] rI:=Fj f231 0xa203a77603a704efcf3786bbbb03a7613004efccf1bb00d003a781b50b30d8 [] fun h=>by
  unfold I0 at h;have:HA 0 3 0 0 fun(b:Int)(_:Unit)=>[(3,.tv (eI b))]:=⟨⟩;have:HA 2 4 3 0 fun(a:Int)(_:Unit)=>[(4,.tv (eI a))]:=⟨⟩;exact nz
instance yz(a:kg):CT (FR a) 168 [HL a] rI:=Fj f168 0x819b0572b47e555ad5b4379ba65a7e01a65a850bb49a00 [] fun h=>by
  unfold FR at h;exact nz
instance xh(t:AC)(a:Int):CT (KA t a) 108 [AM t,eI a] rI:=Fj f108 0xa27c0276d5d404c37c02097ccf37866c04c36c04c37c026130097cccf16c04c300d07c028172b4ee9b723072b4820eacf1b15a05b2030605b204763786596cec5905b20361300605b20481f159044b01c9d4ec59f5 [] fun h=>by
  unfold KA at h;have:HA 0 6 1 0 fun(b:Int)(_:Unit)=>[(6,.tv (eI b))]:=⟨⟩;have:HA 2 8 7 0 fun(d:Int)(_:Unit)=>[(8,.tv (eI d))]:=⟨⟩;have:HA 4 9 8 0 fun(c:Int)(_:Unit)=>[(9,.tv (eI c))]:=⟨⟩;exact nz
instance y4(b:Int)(a:Int):CT (Kn b a) 169 [eI b,eI a] rB:=Fj f169 0x900a0e78b60ee5 [] fun h=>by
  unfold Kn at h;exact nz
instance xi(t:AC)(a:Int):CT (J9 t a) 109 [AM t,eI a] rI:=Fj f109 0x819ba603c60305e6a603adb470a6017e01a6015a8172590502020605b204763786596c07da05020261300605b20481f159074b02c9074407daf5 [] fun h=>by
  unfold J9 at h;have:HA 0 6 1 0 fun(b:Int)(_:Unit)=>[(6,.tv (eI b))]:=⟨⟩;exact nz
instance c66(t:AC):CT (EE t) 66 [AM t] (fun r=>.tp [eS r.1,eI r.2]):=Fj f66 0x81bf0006cb76b9016c07da6a0eac00845a0106cb813004cb76b9016cec596a0eac308459f6cb8137bf8aed55dc37bf85dc013f9300 [.mv (.c (.str ⟨#[]⟩)),.mv (.c (.str ⟨#[]⟩)),.mv (.c (.str ⟨#[]⟩)),.mv (.c (.str ⟨#[]⟩))] fun h=>by
  unfold EE at h;have:HA 0 4 1 0 fun(b:Int)(_:Unit)=>[(4,.tv (eI b))]:=⟨⟩;have:HA 2 6 1 1 fun(a:Int)(_:Unit)=>[(6,.tv (eI a))]:=⟨⟩;exact nz
instance yd(n:Int):CT (ME n) 149 [eI n] rB:=Fj f149 0x90b6b6d8 [] fun h=>by
  unfold ME at h;exact nz
instance yf(e:Bk)(a:Int):CT (O4 e a) 150 [BP e,eI a] rB:=Fj f150 0x90b17efc7e70b15afc5a6559f5 [] fun h=>by
  unfold O4 at h;exact nz
instance c95(g:d5):CT (EF g) 95 [Ar g] rI:=Fj f95 0xa204cb76f1dccdda00845af6cb8130310276f19e59308459013102819bed55dc9a00 [] fun h=>by
  unfold EF at h;have:HA 0 3 1 0 fun(b:Int)(_:Unit)=>[(3,.tv (eI b))]:=⟨⟩;have:HA 2 4 1 1 fun(a:Int)(_:Unit)=>[(4,.tv (eI a))]:=⟨⟩;exact nz
instance yg(t:AC)(a:Int)(b:Int):CT (HV t a b) 151 [AM t,eI a,eI b] rI:=Fj f151 0x819ba6725930a67259019f0175369ab202 [] fun h=>by
  unfold HV at h;exact nz
instance yS(t:AC)(a:Int):CT (Ed t a) 138 [AM t,eI a] (fun r=>.tp [lA r.1,eI r.2]):=Fj f138 0x81f20701097ccf0204480447d4b24a03420148b4aa044b03c9d404c30701d0097ccc820eac04c03704c0770e3036f6fe30 [] fun h=>by
  unfold Ed at h;have:HA 0 9 8 0 fun(c:Int)(b:List kg)=>[(7,.ow (lA b)),(9,.tv (eI c))]:=⟨⟩;exact nz
instance c96(t:AC)(a:Int)(b:Fp):CT (KD t a b) 96 [AM t,eI a,lI b] rI:=Fj f96 0xa2090702cf9b055b4104c35e78057d04c3bb00d0090702ccb5ee0b30e3ac37830241ec59b5dc3093b202 [] fun h=>by
  unfold KD at h;have:HA 0 9 7 0 fun(c:Int)(_:Unit)=>[(9,.tv (eI c))]:=⟨⟩;exact nz
abbrev Q_153(n:Nat):Prop:=∀(t:AC)(a:Int)(b:Int),CT (Df n t a b) 153 [AM t,eI a,eI b] rB
theorem tW(n:Nat)(_ih_153:Q_153 n)(t:AC)(a:Int)(b:Int):CT (Df (n+1) t a b) 153 [AM t,eI a,eI b] rB:=Fj f153 0x900a0e017dec59365530057893b202 [] fun h=>by
  unfold Df at h;exact nz
theorem tV:∀n:Nat,Q_153 n:=by
  intro n
  induction n with
  |zero=>exact(fun t a b=>⟨fun _ h=>by cases h⟩)
  |succ n c=>exact tW n c
instance yi(t:AC)(a:Int)(b:Int):CT (GV t a b) 153 [AM t,eI a,eI b] rB:=⟨fun r h=>by
  obtain ⟨N,c⟩:=Cl h;exact((tV N) t a b).snd r (c N (az _))⟩
instance c97(t:AC)(b:Int)(a:Int)(c:Int):CT (Ih t b a c) 97 [AM t,eI b,eI a,eI c] rB:=Fj f97 0xfb5b4107daac657d07daac9ba6ed30050e30369a5b0103 [] fun h=>by
  unfold Ih at h;exact nz
instance c48(t:AC)(a:AF):CT (FI t a) 48 [AM t,BO a] (fun r=>.tp [eI r.1,eI r.2]):=Fj f48 0x9d000b5bcfb901c85e7ec15e5ac15936b90185e859a5f0cd92e40084e4010b5bcc5b02095bcfb9306a0e9e7e9ec1365b0284c101095bccb9850bc10b7eb9777f32b977017536308d [] fun h=>by
  unfold FI at h;have:HA 0 9 3 0 fun(b:Int)(_:Unit)=>[(9,.tv (eI b))]:=⟨⟩;have:HA 2 11 3 1 fun(c:Int)(_:Unit)=>[(11,.tv (eI c))]:=⟨⟩;exact nz
instance y6(t:AC)(g:d5):CT (Ha t g) 171 [AM t,Ar g] rB:=Fj f171 0xa2065bcf9bed6c03da556c03da00845a01065bcc5b02055bcf9b72599e59559e595b028459555bccde [] fun h=>by
  unfold Ha at h;have:HA 0 5 3 0 fun(a:Int)(_:Unit)=>[(5,.tv (eI a))]:=⟨⟩;have:HA 2 6 3 1 fun(b:Int)(_:Unit)=>[(6,.tv (eI b))]:=⟨⟩;exact nz
instance y7(t:AC)(p:ea)(b:Int)(a:Int):CT (KF t p b a) 172 [AM t,A9 p,eI b,eI a] (fun r=>.tp [HL r.1,eB r.2]):=Fk f172 0x81044bd404c337044b02468a72780ab6055de39ec13637044b02468a72c130b603c95c5b02 [] [.cell 8 (some 4),.tmp 9] fun r h c d=>by
  unfold KF at h;exact nz
instance y8(n:Int):CT (M2 n) 173 [eI n] rB:=Fj f173 0x90b6b6d8 [] fun h=>by
  unfold M2 at h;exact nz
instance ABK(n:Int)(t:gn):CT (JY n t) 300 [eI n,Py t] rI:=Fj f300 0x819b055afc5a70b15955599ad8 [] fun h=>by
  unfold JY at h;exact nz
instance AAK(n:Int)(a:Test):CT (PW n a) 234 [eI n,Dv a] rI:=Fj f234 0x817f0342019f7fb3019b055955599ad8 [] fun h=>by
  unfold PW at h;exact nz
instance y9(n:Int)(l:List Test):CT (Mj n l) 174 [eI n,lT l] rI:=Fj f174 0xa296cfd58905437800d096ccb5ee9bb605e5 [] fun h=>by
  unfold Mj at h;have:HA 0 5 1 0 fun(a:Int)(_:Unit)=>[(5,.tv (eI a))]:=⟨⟩;exact nz
instance zA(p:ea)(a:Int):CT (Lj p a) 175 [A9 p,eI a] rB:=Fj f175 0xa205b2cfb5016c0241ec7e00847e55b2ccf5 [] fun h=>by
  unfold Lj at h;have:HA 0 5 2 2 fun(b:Int)(_:Unit)=>[(5,.tv (eI b))]:=⟨⟩;exact nz
instance xk(t:AC)(p:ea):CT (FK t p) 111 [AM t,A9 p] rI:=Fj f111 0xa20d5b76f155440061b4010d5b81d503adb431085bcf9ba67da9fcb46ca9fc6ca901085d044b0349755a598936044b05c9d4ec7e31847e01085bcc9b7203ad550b7e9b05b455b437887f32369f7f329f017536de [] fun h=>by
  unfold FK at h;have:HA 0 8 3 2 fun(a:Int)(_:Unit)=>[(8,.tv (eI a))]:=⟨⟩;have:HA 2 13 3 3 fun(b:Int)(_:Unit)=>[(13,.tv (eI b))]:=⟨⟩;exact nz
instance ABW(c:d7):CT (Hy c) 312 [AH c] rB:=Fj f312 0x90058c41adfc72030441ad0b5b41ad30d6723174ad726c38ad727da90b6ca99a00 [] fun h=>by
  unfold Hy at h;exact nz
instance AAW(c:d7):CT (Mp c) 246 [AH c] rB:=Fj f246 0x81ff37edd6fba155e8190401035f190401cc05fba155e8d6fba155e8d683329a00 [] fun h=>by
  unfold Mp at h;have:HJ 25 fun(a:Bool)=>[(25,.tv (eB a))]:=⟨⟩;exact nz
abbrev Q_198(n:Nat):Prop:=∀(c:d7),CT (C6 n c) 198 [AH c] rB
theorem tq(n:Nat)(_ih_198:Q_198 n)(c:d7):CT (C6 (n+1) c) 198 [AH c] rB:=Fj f198 0xa2310276f1fada00845a01310281f1a19a00 [] fun h=>by
  unfold C6 at h;have:HA 0 3 1 1 fun(a:Int)(_:Unit)=>[(3,.tv (eI a))]:=⟨⟩;exact nz
theorem tj:∀n:Nat,Q_198 n:=by
  intro n
  induction n with
  |zero=>exact(fun c=>⟨fun _ h=>by cases h⟩)
  |succ n a=>exact tq n a
instance za(c:d7):CT (MI c) 198 [AH c] rB:=⟨fun r h=>by
  obtain ⟨N,a⟩:=Cl h;exact((tj N) c).snd r (a N (az _))⟩
abbrev Q_199(n:Nat):Prop:=∀(c:d7),CT (DO n c) 199 [AH c] (fun r=>.tp [eI r.1,eI r.2])
theorem tw(n:Nat)(_ih_199:Q_199 n)(c:d7):CT (DO (n+1) c) 199 [AH c] (fun r=>.tp [eI r.1,eI r.2]):=Fj f199 0x9d30710271025f0185597101030671f676302c30b69d75fada710103845a010671f6819d309300 [] fun h=>by
  unfold DO at h;have:HA 0 6 1 1 fun(b:Int)(a:Int×Int)=>[(4,.tv (eI a.1)),(5,.tv (eI a.2)),(6,.tv (eI b))]:=⟨⟩;have:HJ 33 fun(d:Int)=>[(5,.tv (eI d))]:=⟨⟩;exact nz
theorem tu:∀n:Nat,Q_199 n:=by
  intro n
  induction n with
  |zero=>exact(fun c=>⟨fun _ h=>by cases h⟩)
  |succ n a=>exact tw n a
instance zb(c:d7):CT (M3 c) 199 [AH c] (fun r=>.tp [eI r.1,eI r.2]):=⟨fun r h=>by
  obtain ⟨N,a⟩:=Cl h;exact((tu N) c).snd r (a N (az _))⟩
instance ya(c:d7):CT (I7 c) 146 [AH c] rI:=Fj f146 0x819bb6055d8175a1f1a19a00 [] fun h=>by
  unfold I7 at h;exact nz
instance xt(l:Fp):CT (E6 l) 114 [lI l] rB:=Fj f114 0xa203a77603a704efcfb5bbbb03a7613004ef03a2d003a7816001 [] fun h=>by
  unfold E6 at h;have:HA 0 3 0 0 fun(b:Int)(_:Unit)=>[(3,.tv (eI b))]:=⟨⟩;have:HA 2 4 3 0 fun(a:Int)(_:Unit)=>[(4,.tv (eI a))]:=⟨⟩;exact nz
instance yD(a:d5)(b:d5)(m:d6):CT (GK a b m) 123 [Ar a,Ar b,Ao m] rI:=Fj f123 0xa20aca04769b057e5e7e59555a5e5a59b5baa5a5f0f0cd439e5a5acdda9bed9e5a559e5a00845a70ca0481718c09ca0476b59e595e9eba9b72599e59559e59718c84590109ca04819bede855dcdc9f7f9f7f9a8d [] fun h=>by
  unfold GK at h;have:HA 0 9 3 0 fun(c:Int)(_:Unit)=>[(9,.tv (eI c))]:=⟨⟩;have:HA 2 10 3 1 fun(d:Int)(_:Unit)=>[(10,.tv (eI d))]:=⟨⟩;exact nz
instance c75(a:d5)(b:d5)(m:d6):CT (FT a b m) 75 [Ar a,Ar b,Ao m] rB:=Fj f75 0xfb5a700e59557fbe9a8d [] fun h=>by
  unfold FT at h;exact nz
instance AAX(p:ea)(a:Int):CT (OA p a) 247 [A9 p,eI a] rB:=Fj f247 0xa205b2cfb5016c0241ec7e00847e55b2ccf5 [] fun h=>by
  unfold OA at h;have:HA 0 5 2 2 fun(b:Int)(_:Unit)=>[(5,.tv (eI b))]:=⟨⟩;exact nz
instance zc(t:AC)(a:Int)(q:ea):CT (I8 t a q) 200 [AM t,eI a,A9 q] rI:=Fj f200 0xa27c05cf3701c855440061b4017c05cc01d58936b501b4015c30 [] fun h=>by
  unfold I8 at h;have:HA 0 8 5 3 fun(b:Int)(_:Unit)=>[(8,.tv (eI b))]:=⟨⟩;exact nz
abbrev Q_147(n:Nat):Prop:=∀(t:AC)(p:ea)(c:d7),CT (Dk n t p c) 147 [AM t,A9 p,AH c] rI
theorem tU(n:Nat)(_ih_147:Q_147 n)(t:AC)(p:ea)(c:d7):CT (Dk (n+1) t p c) 147 [AM t,A9 p,AH c] rI:=Fj f147 0xa20a0705030476d5fada893600845a70070503048107058c07058c3cb889ad37887fa93638adc49f7fa93638adc4d589adb4368559b809c9899a8d [] fun h=>by
  unfold Dk at h;have:HA 0 10 5 1 fun(a:Int)(_:Unit)=>[(10,.tv (eI a))]:=⟨⟩;exact nz
theorem tT:∀n:Nat,Q_147 n:=by
  intro n
  induction n with
  |zero=>exact(fun t p c=>⟨fun _ h=>by cases h⟩)
  |succ n a=>exact tU n a
instance yb(t:AC)(p:ea)(c:d7):CT (Si t p c) 147 [AM t,A9 p,AH c] rI:=⟨fun r h=>by
  obtain ⟨N,a⟩:=Cl h;exact((tT N) t p c).snd r (a N (az _))⟩
instance c91(t:AC)(p:ea)(c:d7):CT (Hd t p c) 91 [AM t,A9 p,AH c] rI:=Fj f91 0x810ea18936d5a1d589369a8d [] fun h=>by
  unfold Hd at h;exact nz
instance zB(t:AC)(p:ea)(a:Int):CT (KG t p a) 176 [AM t,A9 p,eI a] rI:=Fj f176 0xa20a07040204769b055a7dec7e55596cec7e0061300a07040204819b057da9fc7da9fcb46ca9fc6ca97072015a555a01e35e59c1369b72c1595559044b05c9d4ec7e015cb2 [] fun h=>by
  unfold KG at h;have:HA 0 10 2 0 fun(b:Int)(_:Unit)=>[(10,.tv (eI b))]:=⟨⟩;exact nz
instance xm(t:AC)(a:eg):CT (I9 t a) 112 [AM t,Bz a] rI:=Fj f112 0xa2065bcfd55544c63600845b41c601065bccb50b5b41c69b72030441c6558c41b38c41c637887f38c6369f7f38c6de [] fun h=>by
  unfold I9 at h;have:HA 0 6 3 8 fun(b:Int)(_:Unit)=>[(6,.tv (eI b))]:=⟨⟩;exact nz
instance ABL(l:Fp)(n:Int):CT (Gm l n) 301 [lI l,eI n] rI:=Fj f301 0xa296cf9b055eb65e78b19bb15e7805bb00d096ccf7 [] fun h=>by
  unfold Gm at h;have:HA 0 5 0 0 fun(a:Int)(_:Unit)=>[(5,.tv (eI a))]:=⟨⟩;exact nz
instance ABM(l:Fp)(n:Int):CT (PX l n) 302 [lI l,eI n] rB:=Fj f302 0xa296cfb501bb00d096ccf7 [] fun h=>by
  unfold PX at h;have:HA 0 5 0 0 fun(a:Int)(_:Unit)=>[(5,.tv (eI a))]:=⟨⟩;exact nz
instance AAL(g:d5)(p:At):CT (O5 g p) 235 [Ar g,Ej p] rI:=Fj f235 0xa2075bcf9ba67e5901a65a59a5f0cd439e5a5a00845a01075bccd5e85ad50bbade [] fun h=>by
  unfold O5 at h;have:HA 0 7 3 1 fun(a:Int)(_:Unit)=>[(7,.tv (eI a))]:=⟨⟩;exact nz
instance zC(g:d5)(p:At):CT (I1 g p) 177 [Ar g,Ej p] rI:=Fj f177 0x817f369f7fde [] fun h=>by
  unfold I1 at h;exact nz
instance AAM(l:Fp)(n:Int):CT (I2 l n) 236 [lI l,eI n] rI:=Fj f236 0xa296cf37018501bb00d096ccf7 [] fun h=>by
  unfold I2 at h;have:HA 0 5 0 0 fun(a:Int)(_:Unit)=>[(5,.tv (eI a))]:=⟨⟩;exact nz
instance zD(g:d5)(p:At):CT (IH g p) 178 [Ar g,Ej p] (fun r=>.tp [Ar r.1,Ao r.2.1,eI r.2.2]):=Fk f178 0x71023b818080044601485aaa014859aa3608ca040a08715b0676014ab30348034707460e7e590e5aba04b3a5f0cd439e5a5a08ca04845a7008715b068108715b050908715b0676014a3201d95e9eba043208715b058459010908715b068107c9378080604603f37f3660c907c98d [] [.cell 4 (some 2),.cell 5 (some 2),.tmp 6] fun r h e f=>by
  unfold IH at h;have:HA 0 9 3 0 fun(c:Int)(a:d5)=>[(8,.bx [⟨true,lI a.d3⟩,⟨true,lE a.d4⟩]),(9,.tv (eI c))]:=⟨⟩;have:HA 2 10 3 1 fun(d:Int)(b:d5)=>[(8,.bx [⟨true,lI b.d3⟩,⟨true,lE b.d4⟩]),(10,.tv (eI d))]:=⟨⟩;exact nz
instance xr(a:eg):CT (OC a) 113 [Bz a] rI:=Fj f113 0x817f0d423638c636018080004907c91175360b423638b39f7f0b423638b39a00 [] fun h=>by
  unfold OC at h;exact nz
instance AAN(l:Fp)(n:Int):CT (RP l n) 237 [lI l,eI n] rB:=Fj f237 0xa296cfb501bb00d096ccf7 [] fun h=>by
  unfold RP at h;have:HA 0 5 0 0 fun(a:Int)(_:Unit)=>[(5,.tv (eI a))]:=⟨⟩;exact nz
instance zE(n:Int)(l:Fp):CT (MJ n l) 179 [eI n,lI l] (fun r=>.own (lI r)):=Fj f179 0xf2b1ea76eaea3cb2d9cbc830b16130ea81e201406002 [] fun h=>by
  unfold MJ at h;have:HA 0 6 0 0 fun(b:Int)(a:Fp)=>[(5,.ow (lI a)),(6,.tv (eI b))]:=⟨⟩;exact nz
instance xu(a:eg):CT (Kc a) 115 [Bz a] (fun r=>.tp [lI r.1,lI r.2]):=Fj f115 0x82820e7d0d420b3174c60e6c0d420b6c38c6014001fe00 [] fun h=>by
  unfold Kc at h;exact nz
instance xw(t:AC)(g:d5)(b:Fp)(a:Fp):CT (Hz t g b a) 116 [AM t,Ar g,lI b,lI a] rB:=Fj f116 0xa20aca0476f15e7e595e5aba36a5f0cd43bb5a00d00aca0481718c09715b05763783024104435ebbba718cd009715b0581015c5b02 [] fun h=>by
  unfold Hz at h;have:HA 0 9 2 0 fun(c:Int)(_:Unit)=>[(9,.tv (eI c))]:=⟨⟩;have:HA 2 10 3 0 fun(d:Int)(_:Unit)=>[(10,.tv (eI d))]:=⟨⟩;exact nz
end Go.Sf.Sc
