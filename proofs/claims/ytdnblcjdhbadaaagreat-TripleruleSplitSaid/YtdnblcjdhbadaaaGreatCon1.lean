/- Contracts of the functions. -/
import Derived.Test.YtdnblcjdhbadaaaGreatCon0
import Derived.Test.YtdnblcjdhbadaaaGreatTryzShelf
import Derived.Test.YtdnblcjdhbadaaaGreatTw
set_option linter.all false
set_option maxRecDepth 100000
set_option maxHeartbeats 4000000
namespace Go.Sf.Sc
open Go Go.Sf Go.Proofs.Tryz
instance AAp(c:Int):Ct prog (KN c) 346 [U9 c] (fun r=>.sh (eB r)):=Fj f346 0xf59f91319f918d01 [] [.tmp 2] (h:=fun r h a b=>by
  unfold KN at h;exact nz)
instance AAq(b:ByteArray)(e:Int->K1)(c:FuncId)(a:Fq)[g:∀(d:Int),Ct prog (e d) c (U9 d::a) (fun r=>.sh (eB r))]:Ct prog (KP b e) 347 [eS b,.clo c a] (fun r=>.sh (eI r)):=Fj f347 0x815801ff05c6605801ff8a0f1231910c91c681bb [] [.tmp 4] (h:=fun r h i j=>by
  unfold KP at h;have:HW 0 fun(f:Int)=>[(5,.tv (eI f))]:=⟨⟩;exact nz)
instance AAs(c:Int):Ct prog (Jg c) 349 [U9 c] (fun r=>.sh (eB r)):=Fj f349 0x819f918d01 [] [.tmp 2] (h:=fun r h a b=>by
  unfold Jg at h;exact nz)
instance AAr(c:Int):Ct prog (M7 c) 348 [U9 c] (fun r=>.sh (eB r)):=Fj f348 0x819f31b7310e8d01 [] [.tmp 2] (h:=fun r h a b=>by
  unfold M7 at h;exact nz)
instance ABB(c:Int):Ct prog (Kr c) 372 [U9 c] (fun r=>.sh (eB r)):=Fj f372 0x819f319f918d01 [] [.tmp 2] (h:=fun r h a b=>by
  unfold Kr at h;exact nz)
instance AAt(a:ByteArray):Ct prog (KO a) 350 [eS a] (fun r=>.tp [eI r.1,eI r.2]):=Fj f350 0xa8da5581850155818a0512da910c585f3f0d018d01 [.call 347 [.s 6,.c (.clo 372 [])]] [.tmp 2,.tmp 3] (h:=fun r h b d=>by
  unfold KO at h;exact nz)
instance AAu(a:ByteArray):Ct prog (M6 a) 351 [eS a] (fun r=>.sh (eB r)):=Fj f351 0x81b70d013f580c8d01 [.lst 1 [.c (.str ⟨#[45,62]⟩),.c (.str ⟨#[60,61]⟩),.c (.str ⟨#[62,61]⟩),.c (.str ⟨#[61,61]⟩),.c (.str ⟨#[33,61]⟩)]] [.tmp 2] (h:=fun r h b d=>by
  unfold M6 at h;exact nz)
instance AAB(a:ByteArray):Ct prog (M5 a) 300 [eS a] (fun r=>.tp [eI r.1,eI r.2.1,eI r.2.2]):=Fj f300 0x81a87481a8053f5f81a80e5fa831a8bc5f055fa80155a86d3f5f0e5fa80155a86d3f5f0e5f12318d01 [.call 347 [.s 15,.c (.clo 348 [])],.call 347 [.s 23,.c (.clo 349 [])],.call 352 [.c (.str ⟨#[123,125,40,41,91,93,44,59,58,61,43,45,42,60,62,33,38,124,46,63]⟩),.s 42]] [.tmp 2,.tmp 3,.tmp 4] (h:=fun r h b d=>by
  unfold M5 at h;exact nz)
instance yy(t:EO):Ct prog (N4 t) 240 [U8 t] (fun r=>.tp [eS r.1,eB r.2]):=Fj f240 0xa89f0c01319f59913181a8117ca555bfbf01e302e3023c013f3f01855981b43fc8 [.mv (.c (.str ⟨#[]⟩)),.bin (.s) .add (.c (.str ⟨#[34]⟩)) (.s 13),.bin (.s) .add (.s 14) (.c (.str ⟨#[34]⟩)),.bin (.s) .eql (.s 16) (.c (.str ⟨#[]⟩)),.mv (.c (.str ⟨#[]⟩))] [.tmp 2,.tmp 3] (h:=fun r h b d=>by
  unfold N4 at h;have:HJ 12 fun(a:ByteArray)=>[(4,.tv (eS a))]:=⟨⟩;exact nz)
instance xf(a:ByteArray):Ct prog (El a) 172 [eS a] (fun r=>.sh (eB r)):=Fj f172 0x815f01bc03468d01 [] [.tmp 2] (h:=fun r h b c=>by
  unfold El at h;exact nz)
instance yq(m:B6)(a:B6):Ct prog (NB m a) 233 [Dp m,.pt (Dp a).cells] (fun r=>.sh (eB r)):=Fj f233 0x81065992de [] [.tmp 3] (h:=fun r h b c=>by
  unfold NB at h;exact nz)
abbrev Q_234(n:Nat):Prop:=∀(t:AC)(a:Int),Ct prog (D2 n t a) 234 [AO t,eI a] (fun r=>.AaR 4 (List.map GB r))
theorem r6(n:Nat)(_ih_234:Q_234 n)(t:AC)(a:Int):Ct prog (D2 (n+1) t a) 234 [AO t,eI a] (fun r=>.AaR 4 (List.map GB r)):=Fj f234 0x99044fa141e1591905bd0305bd033c191a01386d77e15904ce044ede [] [.tmp 4] (h:=fun r h c d=>by
  unfold D2 at h;have:HJ 14 fun(b:List mo)=>[(5,.xo 4 (List.map GB b))]:=⟨⟩;exact nz)
theorem rz:∀n:Nat,Q_234 n:=by
  intro n
  induction n with
  |zero=>exact(fun t a=>⟨fun _ h=>by cases h⟩)
  |succ n b=>exact r6 n b
instance yr(t:AC)(a:Int):Ct prog (N6 t a) 234 [AO t,eI a] (fun r=>.AaR 4 (List.map GB r)):=⟨fun r h=>by
  obtain ⟨N,b⟩:=CZ h;exact((rz N) t a).snd r (b N (az _))⟩
instance z7(y:mo)(a:mo):Ct prog (IB y a) 297 [GB y,.pt (GB a).cells] (fun r=>.sh (eB r)):=Fj f297 0x81065992de [] [.tmp 3] (h:=fun r h b c=>by
  unfold IB at h;exact nz)
instance z8(l:List ByteArray):Ct prog (LS l) 298 [lB l] (fun r=>.sh (eI r)):=Fj f298 0xa6db0004d574810e314531a8d05ffc6965db000497b5ec8d01 [] [.tmp 2] (h:=fun r h b c=>by
  unfold LS at h;have:HA 0 10 9 0 fun(a:Int)(_:Unit)=>[(10,.tv (eI a))]:=⟨⟩;exact nz)
instance yt(b:mo)(a:List mo):Ct prog (Hp b a) 235 [GB b,lA a] (fun r=>.sh (eI r)):=Fj f235 0xb58801060106013c019f78d7a2585cecd7819fe99fa2f85c55d4d774810e105f81d092de [] [.tmp 4] (h:=fun r h d e=>by
  unfold Hp at h;have:HJ 40 fun(c:Bool)=>[(6,.tv (eB c))]:=⟨⟩;exact nz)
instance xd(t:AC)(a:Int):Ct prog (NA t a) 170 [AO t,eI a] (fun r=>.sh (eI r)):=Fj f170 0xa67602acd4044531f6f48d8c3176028178d70b0155ec0182a538748178d7a89f01f85ca80e1004450159a8d059053df303c9f6e192de [] [.tmp 4] (h:=fun r h c d=>by
  unfold NA at h;have:HA 1 7 6 0 fun(b:Int)(_:Unit)=>[(7,.tv (eI b))]:=⟨⟩;exact nz)
instance yu(n:Int)(a:AC):Ct prog (KS n a) 236 [eI n,.pt (AO a).cells] (fun r=>.sh (eB r)):=Fj f236 0xf578599101bb [] [.tmp 3] (h:=fun r h b c=>by
  unfold KS at h;exact nz)
instance yw(y:CY)(a:CY):Ct prog (M9 y a) 238 [EG y,.pt (EG a).cells] (fun r=>.sh (eB r)):=Fj f238 0x81065992de [] [.tmp 3] (h:=fun r h b c=>by
  unfold M9 at h;exact nz)
instance yx(b:Int)(a:Int):Ct prog (JT b a) 239 [eI b,eI a] (fun r=>.sh (eB r)):=Fj f239 0xf50a9f910191319f9101bb [] [.tmp 4] (h:=fun r h c d=>by
  unfold JT at h;exact nz)
instance xe(t:AC)(a:Int):Ct prog (M8 t a) 171 [AO t,eI a] (fun r=>.sh (eI r)):=Fj f171 0x817419013c010ad003cd03056ad0d242d7195f0a080fa231080f5c5f810e100745015ca8d0598110053d074b00c907440780b4de [] [.tmp 4] (h:=fun r h c d=>by
  unfold M8 at h;have:HJ 25 fun(b:Bool)=>[(25,.tv (eB b))]:=⟨⟩;exact nz)
instance wc(t:AC):Ct prog (D1 t) 117 [AO t] (fun r=>.tp [eS r.1,eI r.2]):=Fj f117 0x81bf002e2d2c0104d6d9596da538074ba6c90744074369652e2d2c0104e0aa311d1c1b0104d6d9596da538f38103c9f6e131651d1c1b0104e03274bff578f8e581bf8178923fc8 [.mv (.c (.str ⟨#[]⟩)),.mv (.c (.str ⟨#[]⟩)),.mv (.c (.str ⟨#[]⟩)),.mv (.c (.str ⟨#[]⟩))] [.tmp 2,.tmp 3] (h:=fun r h d e=>by
  unfold D1 at h;have:HA 1 29 28 0 fun(a:Int)(_:Unit)=>[(29,.tv (eI a))]:=⟨⟩;have:HA 3 46 45 0 fun(b:Int)(_:Unit)=>[(46,.tv (eI b))]:=⟨⟩;exact nz)
instance zO(n:Int)(a:Int):Ct prog (GY n a) 260 [eI n,eI a] (fun r=>.sh (eB r)):=Fj f260 0x819f019101bb [] [.tmp 4] (h:=fun r h b c=>by
  unfold GY at h;exact nz)
instance zN(t:Int):Ct prog (LX t) 259 [eI t] (fun r=>.sh (eB r)):=Fj f259 0x81d08d01 [] [.tmp 2] (h:=fun r h a b=>by
  unfold LX at h;exact nz)
instance zR(e:BY)(a:Int):Ct prog (MU e a) 262 [B1 e,eI a] (fun r=>.sh (eB r)):=Fj f262 0x81b7dae9b7dab40e92de [] [.tmp 4] (h:=fun r h b c=>by
  unfold MU at h;exact nz)
instance zQ(e:BY)(a:d6):Ct prog (LY e a) 261 [B1 e,.pt (Am a).cells] (fun r=>.sh (eB r)):=Fj f261 0x81d0e56e01de [] [.tmp 3] (h:=fun r h b c=>by
  unfold LY at h;exact nz)
instance xr(g:d6):Ct prog (DX g) 179 [Am g] (fun r=>.sh (eI r)):=Fj f179 0xb58e105c55bf5955d3f80b92c8 [.call 241 [.s 14,.c (.clo 259 [])]] [.tmp 2] (h:=fun r h a b=>by
  unfold DX at h;exact nz)
instance y4(n:Int)(a:AC):Ct prog (Fv n a) 242 [eI n,.pt (AO a).cells] (fun r=>.sh (eB r)):=Fj f242 0x817892bb [] [.tmp 3] (h:=fun r h b c=>by
  unfold Fv at h;exact nz)
instance y6(a:BY)(b:AC):Ct prog (Fw a b) 244 [B1 a,.pt (AO b).cells] (fun r=>.sh (eB r)):=Fj f244 0x81785c92de [] [.tmp 3] (h:=fun r h c d=>by
  unfold Fw at h;exact nz)
instance y7(n:Int)(b:Int)(a:Int):Ct prog (CT n b a) 245 [eI n,eI b,eI a] (fun r=>.sh (eB r)):=Fj f245 0x819f0191013102c6 [] [.tmp 6] (h:=fun r h c d=>by
  unfold CT at h;exact nz)
instance zy(a:Int)(b:AC):Ct prog (Lg a b) 294 [eI a,.pt (AO b).cells] (fun r=>.sh (eB r)):=Fj f294 0xf578599101bb [] [.tmp 3] (h:=fun r h c d=>by
  unfold Lg at h;exact nz)
instance yk(t:AC)(l:Fp):Ct prog (H5 t l) 227 [AO t,lI l] (fun r=>.sh (eI r)):=Fj f227 0xb58e10015589017c6f01de [] [.tmp 4] (h:=fun r h a b=>by
  unfold H5 at h;exact nz)
instance yF(t:AC)(a:Int):Ct prog (FK t a) 194 [AO t,eI a] (fun r=>.tp [lA r.1,eI r.2]):=Fj f194 0x818218070115140703d5014d0354044c0e170354044c01140114d907016515140703819514991a01a904c089a54701b60440de [] [.tmp 4,.tmp 5] (h:=fun r h d e=>by
  unfold FK at h;have:HA 0 21 20 0 fun(b:Int)(c:List mo)=>[(7,.xo 4 (List.map GB c)),(21,.tv (eI b))]:=⟨⟩;have:HS 31:=⟨⟩;have:HX 33 fun(a:mo)(v:List ByteArray)=>mo.mk a.og a.Low a.Aao v:=⟨⟩;exact nz)
instance y8(t:AC)(p:ec)(a:CI):Ct prog (IF t p a) 246 [AO t,BG p,D4 a] (fun r=>.tp [GB r.1,eB r.2]):=Fj f246 0x81f3f6f4b455f30446cf7801b482bc5d59eaa9f30446cf78ea9204c9f2 [] [.cell 6 (some 4),.tmp 7] (h:=fun r h b c=>by
  unfold IF at h;exact nz)
instance AAv(n:Int)(t:j4):Ct prog (HO n t) 353 [eI n,Om t] (fun r=>.sh (eB r)):=Fj f353 0x819fb49fb49f01595892c801 [] [.tmp 4] (h:=fun r h a b=>by
  unfold HO at h;exact nz)
instance AAE(n:Int)(a:Test):Ct prog (IG n a) 303 [eI n,Ee a] (fun r=>.sh (eI r)):=Fj f303 0x8174f5086f034231086faa5f819f595892c801 [] [.tmp 4] (h:=fun r h b c=>by
  unfold IG at h;exact nz)
instance y9(n:Int)(l:List Test):Ct prog (GX n l) 247 [eI n,lT l] (fun r=>.sh (eI r)):=Fj f247 0xa61312110004d6d49a584b05c99a05430065131211000497b5ec01558a059101bb [] [.tmp 4] (h:=fun r h b c=>by
  unfold GX at h;have:HA 0 19 18 0 fun(a:Int)(_:Unit)=>[(19,.tv (eI a))]:=⟨⟩;exact nz)
instance xg(t:AC)(p:ec):Ct prog (Dl t p) 173 [AO t,BG p] (fun r=>.sh (eI r)):=Fj f173 0xb5a01455d4d242d7085b3c3b3a085b06d53c3b3a085b063c3b3a085b063c014df96cc414856cc4558ad077026a0ad005d76c026a085ff30449bcf69a38f306c9f6f4085b653c3b3a085b06e0c4993fd755d3d242580ba255cfd7558a0e1077b30e10ea55ef325589017c6f0190 [.mkx 1 [.bool false] (.s 55)] [.tmp 4] (h:=fun r h c d=>by
  unfold Dl at h;have:HA 0 60 59 0 fun(a:Int)(b:a5)=>[(8,.xo 1 (List.map eB b)),(60,.tv (eI a))]:=⟨⟩;exact nz)
instance AAG(n:Int)(a:AC):Ct prog (Mv n a) 305 [eI n,.pt (AO a).cells] (fun r=>.sh (eB r)):=Fj f305 0x817892bb [] [.tmp 3] (h:=fun r h b c=>by
  unfold Mv at h;exact nz)
instance AAH(a:BY)(b:AC):Ct prog (Mw a b) 306 [B1 a,.pt (AO b).cells] (fun r=>.sh (eB r)):=Fj f306 0x81785c92de [] [.tmp 3] (h:=fun r h c d=>by
  unfold Mw at h;exact nz)
instance zB(t:AC)(g:d6):Ct prog (Mu t g) 249 [AO t,Am g] (fun r=>.sh (eB r)):=Fj f249 0xf5d010b4d0109290 [] [.tmp 4] (h:=fun r h a b=>by
  unfold Mu at h;exact nz)
instance AAJ(y:CI)(a:CI):Ct prog (Nz y a) 308 [D4 y,.pt (D4 a).cells] (fun r=>.sh (eB r)):=Fj f308 0x819f5cf85992de [] [.tmp 3] (h:=fun r h b c=>by
  unfold Nz at h;exact nz)
instance zC(t:AC)(b:em)(a:Int):Ct prog (OR t b a) 250 [AO t,Bq b,eI a] (fun r=>.sh (eI r)):=Fj f250 0xb58e100445015b41cd558a05b49fb49fa141cd929f920a7801f85ca707c938026a82bc5d59fdcda9d3fdcd595859073df306c9f6e15b41066a5ebd [] [.tmp 6] (h:=fun r h c d=>by
  unfold OR at h;exact nz)
instance xh(t:AC)(a:em):Ct prog (Mt t a) 174 [AO t,Bq a] (fun r=>.sh (eI r)):=Fj f174 0xa62f2e5b04d689a5cb388169652f2e5b04975b41cd7481785b41cda80a78d241cd58a141aaa141cda8086f5acda9ef5a066a90 [] [.tmp 4] (h:=fun r h c d=>by
  unfold Mt at h;have:HA 1 47 46 0 fun(b:Int)(_:Unit)=>[(47,.tv (eI b))]:=⟨⟩;exact nz)
instance AA6(l:Fp)(n:Int):Ct prog (G8 l n) 367 [lI l,eI n] (fun r=>.sh (eI r)):=Fj f367 0xa69b076905d68a055d05319101558ada915ffc69659b0769059781bb [] [.tmp 4] (h:=fun r h b c=>by
  unfold G8 at h;have:HA 0 9 8 0 fun(a:Int)(_:Unit)=>[(9,.tv (eI a))]:=⟨⟩;exact nz)
instance AA7(l:Fp)(n:Int):Ct prog (KM l n) 368 [lI l,eI n] (fun r=>.sh (eB r)):=Fj f368 0x815f01bc31bb [] [.tmp 4] (h:=fun r h a b=>by
  unfold KM at h;exact nz)
instance AAT(g:d6)(p:Ak):Ct prog (Lf g p) 321 [Am g,Da p] (fun r=>.sh (eI r)):=Fj f321 0xa61e1d1c5b05d68ad05b4103dc92d07703dc59fc00651e1d1c5b05e0aa55d40b5c5c55d4e59290 [] [.tmp 4] (h:=fun r h b c=>by
  unfold Lf at h;have:HA 0 30 29 0 fun(a:Int)(_:Unit)=>[(30,.tv (eI a))]:=⟨⟩;exact nz)
instance zW(g:d6)(p:Ak):Ct prog (GU g p) 268 [Am g,Da p] (fun r=>.sh (eI r)):=Fj f268 0x816fa9ef0190 [] [.tmp 4] (h:=fun r h a b=>by
  unfold GU at h;exact nz)
instance zD(g:d6)(p:Ak):Ct prog (Gk g p) 251 [Am g,Da p] (fun r=>.tp [Am r.1,As r.2.1,eI r.2.2]):=Fj f251 0x6b023b81a7a702460e5c0e5938086bd22b2a2908e208d5e6aa034803476ee36a4ac4bca2924aaabc5c59b9fbdcfc086bd2652b2a2908e208e0aa08e20519181708e208d5e6b3bee40432fc08e2056519181708e208e03208c955a7a701064605f06fb6df08c990 [] [.cell 4 (some 2),.cell 5 (some 2),.tmp 6] (h:=fun r h e f=>by
  unfold Gk at h;have:HA 0 25 24 0 fun(d:Int)(b:d6)=>[(8,.bx [⟨true,lI b.d4⟩,⟨true,lE b.d5⟩]),(25,.tv (eI d))]:=⟨⟩;have:HA 2 43 42 0 fun(c:Int)(a:d6)=>[(8,.bx [⟨true,lI a.d4⟩,⟨true,lE a.d5⟩]),(43,.tv (eI c))]:=⟨⟩;exact nz)
instance zE(a:d6)(b:d6)(m:d7):Ct prog (EK a b m) 252 [Am a,Am b,As m] (fun r=>.sh (eI r)):=Fj f252 0xa64948476b0306d68a05a25da259585c5d5c5955855959b9b9eefbdcd8dc55d35c915ffc69654948476b0306e0aa6ba12c2b2a6b0306d685e4e455d359915ffc5804a1652c2b2a6b0306e03255d35c0bf8e5e555ef55ef01f2 [] [.tmp 6] (h:=fun r h e f=>by
  unfold EK at h;have:HA 0 44 43 0 fun(d:Int)(_:Unit)=>[(44,.tv (eI d))]:=⟨⟩;have:HA 2 73 72 0 fun(c:Int)(_:Unit)=>[(73,.tv (eI c))]:=⟨⟩;exact nz)
instance AAK(l:Fp):Ct prog (Fd l) 309 [lI l] (fun r=>.sh (eI r)):=Fj f309 0x81152a142914991a8d01 [] [.tmp 2] (h:=fun r h a b=>by
  unfold Fd at h;exact nz)
instance zF(a:d6)(b:d6)(m:d7):Ct prog (EJ a b m) 253 [Am a,Am b,As m] (fun r=>.sh (eB r)):=Fj f253 0xf5785c0eb40a78590e59586f38b6f2 [] [.tmp 6] (h:=fun r h c d=>by
  unfold EJ at h;exact nz)
instance xi(a:em):Ct prog (OQ a) 175 [Bq a] (fun r=>.sh (eI r)):=Fj f175 0xb5886ff7f1cda9eff7f1cda989a7a7024908c9117c6f0b42f1016ac8 [] [.tmp 2] (h:=fun r h b c=>by
  unfold OQ at h;exact nz)
instance zH(l:Fp)(n:Int):Ct prog (Je l n) 254 [lI l,eI n] (fun r=>.own (lI r)):=Fj f254 0x8202dad1050004d5d1050004d10500043cbdbe0102cf3181580165d1050004a801c001406902 [] [.tmp 4] (h:=fun r h c d=>by
  unfold Je at h;have:HA 0 8 7 0 fun(a:Int)(b:Fp)=>[(5,.ow (lI b)),(8,.tv (eI a))]:=⟨⟩;exact nz)
instance xj(a:em):Ct prog (KJ a) 176 [Bq a] (fun r=>.tp [lI r.1,lI r.2]):=Fj f176 0x82820e0b775acd77f70e0bfdcd6c0d6a400140c8 [] [.tmp 2,.tmp 3] (h:=fun r h b c=>by
  unfold KJ at h;exact nz)
instance zI(a:Int)(b:AC)(c:d6):Ct prog (Km a b c) 255 [eI a,.pt (AO b).cells,.pt (Am c).cells] (fun r=>.sh (eB r)):=Fj f255 0x815b41f4e49202c6 [] [.tmp 4] (h:=fun r h d e=>by
  unfold Km at h;exact nz)
instance z1(t:AC)(a:Int):Ct prog (PB t a) 295 [AO t,eI a] (fun r=>.own (lI r)):=Fj f295 0x821829140558bd033c0177e159ff19014fb10119da6558bd30ce0140de [] [.tmp 4] (h:=fun r h c d=>by
  unfold PB at h;have:HW 0 fun(b:Int×Fp)=>[(1,.tv (eI b.1)),(5,.xo 1 (List.map eI b.2))]:=⟨⟩;exact nz)
instance yl(t:AC)(a:Int)(b:Int):Ct prog (Lr t a b) 228 [AO t,eI a,eI b] (fun r=>.sh (eB r)):=Fj f228 0x81a5a5b693bd02 [] [.tmp 6] (h:=fun r h c d=>by
  unfold Lr at h;exact nz)
instance xX(t:AC)(b:Int)(a:Int)(c:Int):Ct prog (JB t b a c) 164 [AO t,eI b,eI a,eI c] (fun r=>.sh (eB r)):=Fj f164 0x81b75b410780b4b60e770780b4a9d35c319f91a54731b6935b0103 [] [.tmp 8] (h:=fun r h d e=>by
  unfold JB at h;exact nz)
instance zJ(a:Int)(b:d6)(c:AC):Ct prog (Kn a b c) 256 [eI a,.pt (Am b).cells,.pt (AO c).cells] (fun r=>.sh (eB r)):=Fj f256 0x81d05da2595d5c595938b9fb80b402c6 [] [.tmp 4] (h:=fun r h d e=>by
  unfold Kn at h;exact nz)
instance xk(t:AC)(g:d6)(b:Fp)(a:Fp):Ct prog (KK t g b a) 177 [AO t,Am g,lI b,lI a] (fun r=>.sh (eB r)):=Fj f177 0xf5d01031d010315e5b02 [] [.tmp 8] (h:=fun r h c d=>by
  unfold KK at h;exact nz)
instance AAx(c:ea):Ct prog (EE c) 356 [AH c] (fun r=>.sh (eB r)):=Fj f356 0x819fd75878d24278a278773278ea7877c40b6cc4dd0ac99a046ac8 [] [.tmp 2] (h:=fun r h a b=>by
  unfold EE at h;exact nz)
abbrev AbK(n:Nat):Prop:=∀(c:ea),Ct prog (CF n c) 310 [AH c] (fun r=>.sh (eB r))
abbrev AbO(n:Nat):Prop:=∀(k:ea),Ct prog (B4 n k) 358 [AH k] (fun r=>.sh (eB r))
theorem sC(n:Nat)(_ih_310:AbK n)(_ih_358:AbO n)(c:ea):Ct prog (CF (n+1) c) 310 [AH c] (fun r=>.sh (eB r)):=Fj f310 0xf5083f5c31ffe302e302605f6b01023c01b7b258011a09043005601a09043005816b01023c01b7b2585f6b01023c01b7b2585f058332a80bb4c8 [.call 357 [.s 42,.c (.clo 358 [])]] [.tmp 2] (h:=fun r h b d=>by
  unfold CF at h;have:HJ 10 fun(a:Bool)=>[(4,.tv (eB a))]:=⟨⟩;exact nz)
theorem sJ(n:Nat)(_ih_310:AbK n)(_ih_358:AbO n)(k:ea):Ct prog (B4 (n+1) k) 358 [AH k] (fun r=>.sh (eB r)):=Fj f358 0x81d0b201c8 [] [.tmp 2] (h:=fun r h a b=>by
  unfold B4 at h;exact nz)
theorem kW:∀n:Nat,AbK n/\AbO n:=by
  intro n
  induction n with
  |zero=>exact⟨(fun c=>⟨fun _ h=>by cases h⟩),(fun k=>⟨fun _ h=>by cases h⟩)⟩
  |succ n a=>exact⟨sC n a.1 a.2,sJ n a.1 a.2⟩
instance AAL(c:ea):Ct prog (It c) 310 [AH c] (fun r=>.sh (eB r)):=⟨fun r h=>by
  obtain ⟨N,a⟩:=CZ h;exact((kW N).1 c).snd r (a N (az _))⟩
instance AAz(k:ea):Ct prog (QZ k) 358 [AH k] (fun r=>.sh (eB r)):=⟨fun r h=>by
  obtain ⟨N,a⟩:=CZ h;exact((kW N).2 k).snd r (a N (az _))⟩
abbrev Q_311(n:Nat):Prop:=∀(c:ea),Ct prog (C0 n c) 311 [AH c] (fun r=>.tp [eI r.1,eI r.2])
theorem sF(n:Nat)(_ih_311:Q_311 n)(c:ea):Ct prog (C0 (n+1) c) 311 [AH c] (fun r=>.tp [eI r.1,eI r.2]):=Fj f311 0xa8316b026b027585596b0103ba0b6b0106d5312c9131a8bcb2094b0bc9b209436b010365ba0b6b0106e0aaa831c8 [] [.tmp 2,.tmp 3] (h:=fun r h e f=>by
  unfold C0 at h;have:HA 0 13 12 0 fun(b:Int)(a:Int×Int)=>[(4,.tv (eI a.1)),(5,.tv (eI a.2)),(13,.tv (eI b))]:=⟨⟩;have:HJ 31 fun(d:Int)=>[(5,.tv (eI d))]:=⟨⟩;exact nz)
theorem sE:∀n:Nat,Q_311 n:=by
  intro n
  induction n with
  |zero=>exact(fun c=>⟨fun _ h=>by cases h⟩)
  |succ n a=>exact sF n a
instance AAM(c:ea):Ct prog (Kv c) 311 [AH c] (fun r=>.tp [eI r.1,eI r.2]):=⟨fun r h=>by
  obtain ⟨N,a⟩:=CZ h;exact((sE N) c).snd r (a N (az _))⟩
instance zK(c:ea):Ct prog (HN c) 257 [AH c] (fun r=>.sh (eI r)):=Fj f257 0xb58a05915f81bcb255cfb201c8 [] [.tmp 2] (h:=fun r h a b=>by
  unfold HN at h;exact nz)
instance AA0(a:CI)(b:Int):Ct prog (Gu a b) 359 [D4 a,.pt [eI b]] (fun r=>.sh (eB r)):=Fj f359 0xb8036c026ade [] [.tmp 3] (h:=fun r h c d=>by
  unfold Gu at h;exact nz)
instance AAN(t:AC)(q:ec)(a:Int):Ct prog (F1 t q a) 312 [AO t,BG q,eI a] (fun r=>.sh (eI r)):=Fj f312 0xa6d104033c083d014b05304b0c49837401cf10a20065d703d10403083d014b0cc90155d49ab65ebd [] [.tmp 6] (h:=fun r h c d=>by
  unfold F1 at h;have:HW 0 fun(b:Int)=>[(8,.tv (.pt [eI b]))]:=⟨⟩;exact nz)
abbrev Q_258(n:Nat):Prop:=∀(t:AC)(p:ec)(c:ea),Ct prog (CU n t p c) 258 [AO t,BG p,AH c] (fun r=>.sh (eI r))
theorem r8(n:Nat)(_ih_258:Q_258 n)(t:AC)(p:ec)(c:ea):Ct prog (CU (n+1) t p c) 258 [AO t,BG p,AH c] (fun r=>.sh (eI r)):=Fj f258 0xa6353433040305d6d4b29a38094b0bc9b209430065353433040305e0aa6ba16ba13cdd9a55886fc4ebeb55efc4ebeb55d4d79aa985d7d7dd0ac99a0442859293bfc8 [.Abt (.s 1)] [.tmp 6] (h:=fun r h b d=>by
  unfold CU at h;have:HA 0 53 52 0 fun(a:Int)(_:Unit)=>[(53,.tv (eI a))]:=⟨⟩;exact nz)
theorem r7:∀n:Nat,Q_258 n:=by
  intro n
  induction n with
  |zero=>exact(fun t p c=>⟨fun _ h=>by cases h⟩)
  |succ n a=>exact r8 n a
instance zL(t:AC)(p:ec)(c:ea):Ct prog (Pa t p c) 258 [AO t,BG p,AH c] (fun r=>.sh (eI r)):=⟨fun r h=>by
  obtain ⟨N,a⟩:=CZ h;exact((r7 N) t p c).snd r (a N (az _))⟩
instance xm(t:AC)(p:ec)(c:ea):Ct prog (Do t p c) 178 [AO t,BG p,AH c] (fun r=>.sh (eI r)):=Fj f178 0x810eb29aa9d4b255d49ab6f2 [] [.tmp 6] (h:=fun r h a b=>by
  unfold Do at h;exact nz)
instance wd(t:AC)(a:em):Ct prog (Kl t a) 118 [AO t,Bq a] (fun r=>.sh (eI r)):=Fj f118 0x810eb210429aaaa9cf31f1cd388282bccb55d4cb55d4cba9d49aaaa9cf595589017c6f0190 [] [.tmp 4] (h:=fun r h b c=>by
  unfold Kl at h;exact nz)
instance AAl(n:Int):Ct prog (ME n) 341 [eI n] (fun r=>.sh (eB r)):=Fj f341 0x819f918d01 [] [.tmp 2] (h:=fun r h a b=>by
  unfold ME at h;exact nz)
instance AAm(t:AC)(a:Ao)(b:Int):Ct prog (LQ t a b) 342 [AO t,C2 a,eI b] (fun r=>.sh (eI r)):=Fj f342 0xb58a070558019131a85d5b4107dc595d7707dc5955cf5f84b45ebd [] [.tmp 6] (h:=fun r h c d=>by
  unfold LQ at h;exact nz)
instance zw(t:AC)(a:Ao):Ct prog (KQ t a) 292 [AO t,C2 a] (fun r=>.sh (eI r)):=Fj f292 0xa644435b04d689a5383881696544435b04975c5b022726255b05d68adae4585f77e15955cf5f81845b02652726255b05e03255d35c0bf8e5e55589017c6f0190 [] [.tmp 4] (h:=fun r h d e=>by
  unfold KQ at h;have:HA 0 39 38 0 fun(c:Int)(_:Unit)=>[(39,.tv (eI c))]:=⟨⟩;have:HA 2 68 67 0 fun(b:Int)(_:Unit)=>[(68,.tv (eI b))]:=⟨⟩;exact nz)
instance zx(l:Fp):Ct prog (GV l) 293 [lI l] (fun r=>.own (lI r)):=Fj f293 0x821830dbd2d5014df9053114a817f9013065dbd2819594991a31400001 [] [.tmp 2] (h:=fun r h c d=>by
  unfold GV at h;have:HA 0 10 9 0 fun(b:Int)(a:Fp)=>[(3,.xo 1 (List.map eI a)),(10,.tv (eI b))]:=⟨⟩;exact nz)
instance yi(t:AC)(a:Ao):Ct prog (N5 t a) 224 [AO t,C2 a] (fun r=>.tp [C2 r.1,eI r.2]):=Fj f224 0xe33b81a702460e5c0e5955a70106f06fb6df90 [] [.cell 4 (some 2),.tmp 5] (h:=fun r h b c=>by
  unfold N5 at h;exact nz)
instance xT(t:AC)(a:Ao):Ct prog (Gn t a) 160 [AO t,C2 a] (fun r=>.sh (eI r)):=Fj f160 0x815fa702497c6fb690 [] [.tmp 4] (h:=fun r h b c=>by
  unfold Gn at h;exact nz)
instance xW(n:B6)(a:Int):Ct prog (Hn n a) 163 [Dp n,.pt [eI a]] (fun r=>.sh (eB r)):=Fj f163 0xb803b4de [] [.tmp 3] (h:=fun r h b c=>by
  unfold Hn at h;exact nz)
instance wP(t:AC)(b:Ao)(a:em):Ct prog (FC t b a) 105 [AO t,C2 b,Bq a] (fun r=>.sh (eI r)):=Fj f105 0xa6727170050305d6cf5da2fdaa5d5cfdaa5938b9fb430065727170050305e00196aa055b646362050305d68e10590b3d014b0cc95d055b65646362050305978eb1fdcdfdaa55d3775aaa0b770b6a0a78fdaa0b6c0b6a9f6c106a0a08030f6a085f9fa141aa5878d241cd785b41cd78d241aa0b5b41aa55d4cba9efb6f2 [] [.tmp 6] (h:=fun r h e f=>by
  unfold FC at h;have:HA 0 100 99 0 fun(d:Int)(_:Unit)=>[(100,.tv (eI d))]:=⟨⟩;have:HA 2 114 113 0 fun(c:Int)(_:Unit)=>[(114,.tv (eI c))]:=⟨⟩;exact nz)
instance c29(g:d6)(e:Int->K1)(d:FuncId)(a:Fq)[n:∀(i:Int),Ct prog (e i) d (eI i::a) (fun r=>.sh (eB r))](f:Int->K1)(b:FuncId)(c:Fq)[o:∀(i:Int),Ct prog (f i) b (eI i::c) (fun r=>.sh (eB r))]:Ct prog (F8 g e f) 29 [Am g,.clo d a,.clo b c] (fun r=>.sh (J1 r)):=Fj f29 0xf3f67602292827760206d52928277602062928277602063ce60141320348034707460ea2a20e5ca259e341b34a036abe010403428f31b981fb80760265292827760206e0aa765b040f0e0d765b0108d50f0e0d765b01080f0e0d765b01083ce65ab3be01045ab34a026abe0104c48f31a884765b04650f0e0d765b0108e0320dc90dc993bd02 [] [.cell 6 (some 4)] (h:=fun r h p q=>by
  unfold F8 at h;have:HA 0 15 14 0 fun(m:Int)(k:Bz)=>[(7,.bx [⟨true,lI k.AaH.d4⟩,⟨true,lE k.AaH.d5⟩,⟨true,lI k.ej⟩,⟨true,lI k.fd⟩]),(15,.tv (eI m))]:=⟨⟩;have:HA 2 41 40 0 fun(l:Int)(j:Bz)=>[(7,.bx [⟨true,lI j.AaH.d4⟩,⟨true,lE j.AaH.d5⟩,⟨true,lI j.ej⟩,⟨true,lI j.fd⟩]),(41,.tv (eI l))]:=⟨⟩;exact nz)
instance wR(a:Int)(b:Ao)(d:d6)(c:Int):Ct prog (Gv a b d c) 107 [eI a,.pt (C2 b).cells,.pt (Am d).cells,.pt [eI c]] (fun r=>.sh (eB r)):=Fj f107 0xb8035de4925bad [] [.tmp 5] (h:=fun r h e f=>by
  unfold Gv at h;exact nz)
instance wT(a:Int)(b:Ao)(d:d6)(c:Int):Ct prog (Gw a b d c) 108 [eI a,.pt (C2 b).cells,.pt (Am d).cells,.pt [eI c]] (fun r=>.sh (eB r)):=Fj f108 0xb8035d6c03dcb45bad [] [.tmp 5] (h:=fun r h e f=>by
  unfold Gw at h;exact nz)
instance wQ(g:d6)(a:Ao)(b:Int):Ct prog (Er g a b) 106 [Am g,.pt (C2 a).cells,.pt [eI b]] (fun r=>.sh (J1 r)):=Fj f106 0xf30e1010380dc993bd02 [] [.cell 4 (some 4)] (h:=fun r h c d=>by
  unfold Er at h;exact nz)
instance xY(g:d6):Ct prog (Gp g) 165 [Am g] (fun r=>.sh (Da r)):=Fj f165 0xa7385b0216155b04d5e6016abe0104aad95b026516155b04975c5b01039b5b58d5e6b3be010432d95b0103659b5b589759dfdfc8 [] [.cell 2 (some 2)] (h:=fun r h e f=>by
  unfold Gp at h;have:HA 0 9 8 0 fun(d:Int)(b:Ak)=>[(3,.bx [⟨true,lI b.d4⟩,⟨true,lI b.d5⟩]),(9,.tv (eI d))]:=⟨⟩;have:HA 2 22 21 0 fun(c:Int)(a:Ak)=>[(3,.bx [⟨true,lI a.d4⟩,⟨true,lI a.d5⟩]),(22,.tv (eI c))]:=⟨⟩;exact nz)
instance wU(d:em)(c:d6)(a:d6)(b:d7):Ct prog (Fg d c a b) 109 [Bq d,Am c,Am a,As b] (fun r=>.sh (Bq r)):=Fj f109 0x8013b194b0a460946386f084638084638590ec95e90 [] [.cell 8 (some 25)] (h:=fun r h e f=>by
  unfold Fg at h;exact nz)
instance c61(t:AC)(c:Ao)(b:em)(a:Int):Ct prog (Ho t c b a) 61 [AO t,C2 c,Bq b,eI a] (fun r=>.tp [Bq r.1,eI r.2]):=Fj f61 0x81194b6febebcb0eba08c33f3e3d0eba080608d5e6016abe0e8477f7d704aafc0eba08c3653f3e3d0eba080608e003420eba08c32928270eba080608d5e6b3be0e846cf7a20432fc0eba08c3652928270eba080608e0c4dff3f30dc90dc90ff1066a0ff1aa5f1055194b010bf00ecb38b60ec95e90 [] [.cell 8 (some 25),.tmp 9] (h:=fun r h i j=>by
  unfold Ho at h;have:HA 0 41 40 0 fun(g:Int)(e:d7)=>[(14,.bx [⟨true,lI e.d4⟩,⟨true,lI e.d5⟩]),(41,.tv (eI g))]:=⟨⟩;have:HA 2 63 62 0 fun(f:Int)(d:d7)=>[(14,.bx [⟨true,lI d.d4⟩,⟨true,lI d.d5⟩]),(63,.tv (eI f))]:=⟨⟩;exact nz)
instance c20(t:AC)(a:Ao)(b:em):Ct prog (Ep t a b) 20 [AO t,C2 a,Bq b] (fun r=>.tp [Bq r.1,eI r.2]):=Fj f20 0x81194b730ecb38b60ec9f2 [] [.cell 6 (some 25),.tmp 7] (h:=fun r h c d=>by
  unfold Ep at h;exact nz)
instance c62(t:AC)(e:Ao)(d:em)(a:Fp):Ct prog (D0 t e d a) 62 [AO t,C2 e,Bq d,lI a] (fun r=>.tp [Bq r.1,Da r.2.1,eI r.2.2]):=Fj f62 0x9b023b81a7194b386f0c460e5c0e5938cb100f0e0d9b0607636261100f0e0d9bc3030cd5636261100f0e0d9bc3030c636261100f0e0d9bc3030c3ce6016a4a016abe0104aa0348034707460ea2590e5c5959e36a4a016abe0b5c04aa8a0e5d595c3108a577f7b981fb80100f0e0d9b060765636261100f0e0d9bc3030ce0aa100f0e0d9bc30309373635100f0e0d9bc3030cd5373635100f0e0d9bc3030c373635100f0e0d9bc3030c3ce6b34ab3be0104b3be0104b34ab3bee504328a0ee43108a56cf7a884100f0e0d9bc3030965373635100f0e0d9bc3030ce032df0250df3f0e77f70e6cf7025008c93f0e5c0e59a7a708c908c9f1cdf1aa55a7194b0106460bf00ecb38b6df0ec9935e30 [.Aaj [.w 38,.w 41],.Aaj [.w 46,.w 50]] [.cell 8 (some 25),.cell 9 (some 2),.tmp 10] (h:=fun r h i j=>by
  unfold D0 at h;have:HA 0 55 54 0 fun(g:Int)(c:d6×d7×Ak)=>[(14,.bx [⟨true,lI c.1.d4⟩,⟨true,lE c.1.d5⟩]),(15,.bx [⟨true,lI c.2.1.d4⟩,⟨true,lI c.2.1.d5⟩]),(16,.bx [⟨true,lI c.2.2.d4⟩,⟨true,lI c.2.2.d5⟩]),(55,.tv (eI g))]:=⟨⟩;have:HA 2 99 98 0 fun(f:Int)(b:d6×d7×Ak)=>[(14,.bx [⟨true,lI b.1.d4⟩,⟨true,lE b.1.d5⟩]),(15,.bx [⟨true,lI b.2.1.d4⟩,⟨true,lI b.2.1.d5⟩]),(16,.bx [⟨true,lI b.2.2.d4⟩,⟨true,lI b.2.2.d5⟩]),(99,.tv (eI f))]:=⟨⟩;exact nz)
instance c22(t:AC)(a:Ao)(b:em):Ct prog (EN t a b) 22 [AO t,C2 a,Bq b] (fun r=>.tp [Bq r.1,Da r.2.1,eI r.2.2]):=Fj f22 0x81a7194b1173a547cb38b6df0ec9f2 [] [.cell 6 (some 25),.cell 7 (some 2),.tmp 8] (h:=fun r h c d=>by
  unfold EN at h;exact nz)
instance xt(t:AC)(a:Int)(b:Fp):Ct prog (OE t a b) 180 [AO t,eI a,lI b] (fun r=>.sh (eI r)):=Fj f180 0xa62322210204d68a05a284915ce8f38104c9f6f46965232221020497b5ec010b31827ca5a9830241e1595585e53193bd02 [] [.tmp 6] (h:=fun r h d e=>by
  unfold OE at h;have:HA 0 35 34 0 fun(c:Int)(_:Unit)=>[(35,.tv (eI c))]:=⟨⟩;exact nz)
instance we(t:AC)(a:AG):Ct prog (Ix t a) 119 [AO t,CD a] (fun r=>.tp [eI r.1,eI r.2]):=Fj f119 0x81a63e3d3c5b05d6d9cf5da2ea5d5cea59a9d9ec5c59b981fb4369653e3d3c5b05e00141325b022827265b05d681316d0e84e938a8845b02652827265b05e05a325581ecea0ba25581ef32558189017c6f3190 [] [.tmp 4,.tmp 5] (h:=fun r h d e=>by
  unfold Ix at h;have:HA 0 40 39 0 fun(c:Int)(_:Unit)=>[(40,.tv (eI c))]:=⟨⟩;have:HA 2 62 61 0 fun(b:Int)(_:Unit)=>[(62,.tv (eI b))]:=⟨⟩;exact nz)
instance c65(t:AC)(b:em)(a:AG):Ct prog (O9 t b a) 65 [AO t,Bq b,CD a] (fun r=>.sh (eI r)):=Fj f65 0x815f01bc6ea9d4cba989017c6f01f2 [] [.tmp 6] (h:=fun r h c d=>by
  unfold O9 at h;exact nz)
instance AAQ(n:Int)(a:AC):Ct prog (Jt n a) 318 [eI n,.pt (AO a).cells] (fun r=>.sh (eB r)):=Fj f318 0x817892bb [] [.tmp 3] (h:=fun r h b c=>by
  unfold Jt at h;exact nz)
instance AAR(a:BY)(b:AC):Ct prog (Ju a b) 319 [B1 a,.pt (AO b).cells] (fun r=>.sh (eB r)):=Fj f319 0x81785c92de [] [.tmp 3] (h:=fun r h c d=>by
  unfold Ju at h;exact nz)
instance zU(t:AC)(g:d6):Ct prog (G6 t g) 266 [AO t,Am g] (fun r=>.sh (eB r)):=Fj f266 0xf5d010b4d0109290 [] [.tmp 4] (h:=fun r h a b=>by
  unfold G6 at h;exact nz)
instance xx(t:AC)(p:d6)(g:d6):Ct prog (Gi t p g) 183 [AO t,Am p,Am g] (fun r=>.sh (eI r)):=Fj f183 0xb58a086fb6086f386ba11817166b0306d6efa708c93802436ba1651817166b03069702c738a989017c6f01f2 [] [.tmp 6] (h:=fun r h b c=>by
  unfold Gi at h;have:HA 0 24 23 0 fun(a:Int)(_:Unit)=>[(24,.tv (eI a))]:=⟨⟩;exact nz)
instance AAS(t:AC)(a:Int):Ct prog (LR t a) 320 [AO t,eI a] (fun r=>.tp [lI r.1,eI r.2]):=Fj f320 0x81820207011312070258d5131207025813120702583cbdbe01028e3138d907016513120702589792c05501c089a54701383140de [] [.tmp 4,.tmp 5] (h:=fun r h d e=>by
  unfold LR at h;have:HA 0 19 18 0 fun(b:Int)(c:Fp)=>[(7,.ow (lI c)),(19,.tv (eI b))]:=⟨⟩;exact nz)
instance zV(t:AC):Ct prog (IU t) 267 [AO t] (fun r=>.own ((eL 1 (eL 1 eB)) r)):=Fj f267 0x820230ba3004d5bdbe1802ba0530051c1b1aba053008d5014df90114fcba053005651c1b1aba05300897d9827ca538993fe5d93065ba30049792c00140c8 [.mkx 1 [.bool false] (.s 18)] [.tmp 2] (h:=fun r h e f=>by
  unfold IU at h;have:HA 0 13 12 0 fun(b:Int)(d:List a5)=>[(3,.ow ((eL 1 (eL 1 eB)) d)),(13,.tv (eI b))]:=⟨⟩;have:HA 2 28 27 0 fun(a:Int)(c:a5)=>[(5,.xo 1 (List.map eB c)),(28,.tv (eI a))]:=⟨⟩;exact nz)
instance xy(t:AC)(p:d6)(g:d6)(m:d7):Ct prog (IV t p g m) 184 [AO t,Am p,Am g,As m] (fun r=>.sh (eI r)):=Fj f184 0xa6474645ed06d68a05a25da259585c5d5c5955855959b9b9eefbdcd8dc55d35c915ffc6965474645ed06e0aaed0325242309ed07d6885de45d849255d359915f8184ed036525242309ed07e032826f55d35c0bf8e50b925e90 [] [.tmp 8] (h:=fun r h c d=>by
  unfold IV at h;have:HA 0 37 36 0 fun(b:Int)(_:Unit)=>[(37,.tv (eI b))]:=⟨⟩;have:HA 2 71 70 0 fun(a:Int)(_:Unit)=>[(71,.tv (eI a))]:=⟨⟩;exact nz)
theorem vH(l:Fp)(r:Bool)(h:Gh l=some r):AQ prog 263 [lI l] (.sh (eB r)):=by
  unfold Gh at h;rw[<-kN]at h;split at h
  · rename_i a
    cases h;exact aI l a
  .cases h
instance ABY(l:Fp):Ct Go.Proofs.Tryz.prog (Gh l) 263 [lI l] (fun r=>.sh (eB r)):=⟨vH l⟩
instance xu(t:AC)(p:d6)(g:d6)(m:d7)(a:Bool):Ct prog (Gf t p g m a) 181 [AO t,Am p,Am g,As m,eB a] (fun r=>.sh (eI r)):=Fj f181 0xb58ab7b40e593155ef3838a9ef38b65e5ee3 [] [.tmp 10] (h:=fun r h b c=>by
  unfold Gf at h;exact nz)
instance zS(t:AC)(p:ec)(a:AG):Ct prog (HI t p a) 264 [AO t,BG p,CD a] (fun r=>.sh (eI r)):=Fj f264 0x815f01bc6ea9d49ab6f2 [] [.tmp 6] (h:=fun r h b c=>by
  unfold HI at h;exact nz)
instance AAO(a:j4)(b:Fp):Ct prog (Dm a b) 316 [Om a,lI b] (fun r=>.sh (eI r)):=Fj f316 0xb85c5d92555c8592de [] [.tmp 4] (h:=fun r h c d=>by
  unfold Dm at h;exact nz)
instance AA2(a:Int)(b:Int):Ct prog (Fa a b) 363 [eI a,eI b] (fun r=>.tp [eI r.1,Jh r.2]):=Fj f363 0xa8583f583f013f5f817c283f013f31bb [.cvt .u64 (.s 9),.cvt .u64 (.s 11),.bin (.w) .shr (.s 16) (.c (.int .u64 63)),.bin (.w) .shr (.s 18) (.c (.int .u64 63)),.cvt .i64 (.s 21)] [.tmp 4,.tmp 5] (h:=fun r h d e=>by
  unfold Fa at h;exact nz)
instance AA1(t:j4)(a:Fp):Ct prog (EF t a) 362 [Om t,.pt [lI a]] (fun r=>.tp [eI r.1,Jh r.2.1,eB r.2.2]):=Fj f362 0x81a831a8bc5c5d59037481a80a780359585981a831a8bc5cb89231de [] [.tmp 3,.tmp 4,.tmp 5] (h:=fun r h b c=>by
  unfold EF at h;exact nz)
instance AAP(a:Test)(b:Fp):Ct prog (E5 a b) 317 [Ee a,lI b] (fun r=>.sh (eB r)):=Fj f317 0xf59f91929f915981a5470e310e31558a0831085fa8117c0f3803425fa8117c0f38aa5f100190 [] [.tmp 4] (h:=fun r h c d=>by
  unfold E5 at h;exact nz)
instance zT(p:ec)(a:AG)(m:d7):Ct prog (HK p a m) 265 [BG p,CD a,As m] (fun r=>.tp [lI r.1,eI r.2]):=Fj f265 0x81821808f94b4a0804d601c08820149add05c99a05430801654c4b4a0804e00442085b1918179b6b0308d601c08501201438c41918170c0b9b6b030a1918170c0b9b6b030a3c014df9014df90577c4311401148a0817f90114585f6cc4fc5c5d5d5959a2f306c9f6f4085b651918179b6b0308e0c499993fd73fd73140f2 [.mkx 1 [.int .i64 0] (.s 17),.mkx 1 [.bool false] (.s 20)] [.tmp 6,.tmp 7] (h:=fun r h e f=>by
  unfold HK at h;have:HA 0 25 24 0 fun(d:Int)(b:Fp×a5)=>[(8,.xo 1 (List.map eI b.1)),(9,.xo 1 (List.map eB b.2)),(25,.tv (eI d))]:=⟨⟩;have:HA 2 76 75 0 fun(c:Int)(_:Unit)=>[(76,.tv (eI c))]:=⟨⟩;exact nz)
instance xw(t:AC)(p:ec)(a:AG)(m:d7):Ct prog (FY t p a m) 182 [AO t,BG p,CD a,As m] (fun r=>.tp [lI r.1,eI r.2]):=Fj f182 0x8182736f6e9a5501c0efebeba901c0d46e9a3831405e90 [] [.tmp 8,.tmp 9] (h:=fun r h b c=>by
  unfold FY at h;exact nz)
instance wg(t:AC)(b:em)(a:AG)(m:AJ):Ct prog (M2 t b a m) 120 [AO t,Bq b,CD a,Bg m] (fun r=>.sh (eI r)):=Fj f120 0xb5cfe95589827c6f326e9aaaa9850e030f42ebebf1aab65e90 [] [.tmp 8] (h:=fun r h c d=>by
  unfold M2 at h;exact nz)
instance wj(t:AC)(p:d6)(g:d6)(m:d7):Ct prog (Hl t p g m) 121 [AO t,Am p,Am g,As m] (fun r=>.tp [Am r.1,eI r.2]):=Fj f121 0x81a7380c08022726250c080606d5e6b3bee40432fc0c0802652726250c080606e032025008c93f0e5c55a758f06f3838a9a758f06f38b608c95e90 [.Aaj [.z ⟨true,.list 1 []⟩,.w 34]] [.cell 8 (some 2),.tmp 9] (h:=fun r h c d=>by
  unfold Hl at h;have:HA 0 39 38 0 fun(b:Int)(a:d6)=>[(12,.bx [⟨true,lI a.d4⟩,⟨true,lE a.d5⟩]),(39,.tv (eI b))]:=⟨⟩;exact nz)
instance xz(a:Bm):Ct prog (EP a) 185 [HP a] (fun r=>.sh (eI r)):=Fj f185 0x816f0442eb55efcd38c438b3c8 [] [.tmp 2] (h:=fun r h b c=>by
  unfold EP at h;exact nz)
instance zX(a:Fp)(b:Fp):Ct prog (E3 a b) 269 [lI a,lI b] (fun r=>.own ((eL 2 P2) r)):=Fj f269 0x8202da0a09056905d50a090569050a09ed6907c10a09ed69070a09ed69073c02024802470e4631028a0a08a53108a591e8e80a090569058c310a09ed6907b85f5801650a09056905970102c002406902 [] [.tmp 4] (h:=fun r h g i=>by
  unfold E3 at h;have:HA 0 10 9 0 fun(d:Int)(f:List Fk)=>[(5,.ow ((eL 2 P2) f)),(10,.tv (eI d))]:=⟨⟩;have:HA 2 7 0 0 fun(c:Int)(e:List Fk)=>[(5,.ow ((eL 2 P2) e)),(7,.tv (eI c))]:=⟨⟩;exact nz)
instance yA(a:Bm):Ct prog (DK a) 186 [HP a] (fun r=>.tp [(eL 2 P2) r.1,(eL 2 P2) r.2]):=Fj f186 0x82820e77044277cd0e6c04426ccd02400240c8 [] [.tmp 2,.tmp 3] (h:=fun r h b c=>by
  unfold DK at h;exact nz)
instance zY(a:Bm):Ct prog (Cz a) 270 [HP a] (fun r=>.own (lI r)):=Fj f270 0x820230db3005d5db3005db30053cbdbe010288a56c0442a8843065db3005e05a066ac00140c8 [] [.tmp 2] (h:=fun r h d e=>by
  unfold Cz at h;have:HA 0 10 9 0 fun(c:Int)(b:Fp)=>[(3,.ow (lI b)),(10,.tv (eI c))]:=⟨⟩;exact nz)
instance yB(a:Bm):Ct prog (Cu a) 187 [HP a] (fun r=>.own (lI r)):=Fj f187 0x8202e3ba0b043006d5ba0b043006ba0b0430063cbdbe01028ab7a2310e5c3108a577cdb981fb80e365ba0b043006e00141026ac0820e08440140c8 [] [.tmp 2] (h:=fun r h d e=>by
  unfold Cu at h;have:HA 0 13 12 0 fun(c:Int)(b:Fp)=>[(4,.ow (lI b)),(13,.tv (eI c))]:=⟨⟩;exact nz)
instance yC(n:Int)(a:Fp)(b:Fp):Ct prog (FZ n a b) 188 [eI n,lI a,lI b] (fun r=>.own (lI r)):=Fj f188 0x82020a01201f1e0a04d5201f1e0a04201f1e0a043cbdbe0102885f81840a0165201f1e0a04979801c0070111100f070205d511100f07020511100f0702053c014df90114cf31a88407016511100f0702059781993f314002c6 [.mkx 1 [.bool false] (.s 13)] [.tmp 6] (h:=fun r h g i=>by
  unfold FZ at h;have:HA 0 17 16 0 fun(d:Int)(f:a5)=>[(7,.xo 1 (List.map eB f)),(17,.tv (eI d))]:=⟨⟩;have:HA 2 32 31 0 fun(c:Int)(e:Fp)=>[(10,.ow (lI e)),(32,.tv (eI c))]:=⟨⟩;exact nz)
instance wk(l:d6)(g:d6)(a:Ak)(m:d7):Ct prog (JI l g a m) 122 [Am l,Am g,Da a,As m] (fun r=>.tp [Da r.1,eI r.2]):=Fj f122 0x8013b81a702460e5c5c0b5c0e5959e574a7064681780e084481a70646b878010b018282bc084455a70106f00e0844084b10c90f46383838b6df5e90 [] [.cell 8 (some 2),.tmp 9] (h:=fun r h b c=>by
  unfold JI at h;exact nz)
instance zZ(t:AC)(p:ec)(c:ea)(b:AG)(m:AJ)(a:Bool):Ct prog (HM t p c b m a) 271 [AO t,BG p,AH c,CD b,Bg m,eB a] (fun r=>.sh (eI r)):=Fj f271 0xb5cfe95589827c6f326e9aa989a5ebebeba98901bc6ea9d4b29ab6935e5eda [] [.tmp 12] (h:=fun r h d e=>by
  unfold HM at h;exact nz)
instance ABE(n:Int)(b:Fp)(a:Fp):Ct prog (E4 n b a) 380 [eI n,lI b,lI a] (fun r=>.own (lI r)):=Fj f380 0x821807010f0e0d070205d5014df9843114a8840701650f0e0d0702059781991a3147014002c6 [] [.tmp 6] (h:=fun r h e f=>by
  unfold E4 at h;have:HA 0 15 14 0 fun(c:Int)(d:Fp)=>[(7,.xo 1 (List.map eI d)),(15,.tv (eI c))]:=⟨⟩;exact nz)
instance ABJ(k:Int)(a:Int):Ct prog (Le k a) 401 [eI k,.pt [eI a]] (fun r=>.sh (eB r)):=Fj f401 0x819f305801bb [] [.tmp 3] (h:=fun r h b c=>by
  unfold Le at h;exact nz)
instance ABH(l:Fp)(n:Int):Ct prog (Jf l n) 394 [lI l,eI n] (fun r=>.sh (eI r)):=Fj f394 0xb58e1031c801 [] [.tmp 4] (h:=fun r h a b=>by
  unfold Jf at h;exact nz)
instance ABM(l:Fp)(a:Int):Ct prog (Gg l a) 405 [lI l,eI a] (fun r=>.sh (eI r)):=Fj f405 0x81e8559c01bb [] [.tmp 4] (h:=fun r h b c=>by
  unfold Gg at h;exact nz)
instance ABO(f:AL)(b:Int)(k:Int):Ct prog (DO f b k) 407 [.pt (Qj f).cells,eI b,eI k] (fun r=>.sh (eB r)):=Fj f407 0x813f07465da2030996015d5c0309960159d88077029601558ada915fa577059601b9fb80775a5a3102c6 [.bin (.a [0,0,0]) .eql (.s 38) (.s 57)] [.tmp 6] (h:=fun r h c d=>by
  unfold DO at h;exact nz)
instance ABN(f:AL):Ct prog (B5 f) 406 [.pt (Qj f).cells] (fun r=>.sh (eB r)):=Fj f406 0xa6141312fa0560141312fa05141312fa0581880114131206fa0626251413120604fa09d5ff14131206fa06018e0131d914131206fa066526251413120604fa09977702965fff141312fa0585012ca25cb981fb436965141312fa05e001965a5f780309968d01 [] [.tmp 2] (h:=fun r h d e=>by
  unfold B5 at h;have:HA 0 20 19 0 fun(b:Int)(_:Unit)=>[(20,.tv (eI b))]:=⟨⟩;have:HA 2 38 37 0 fun(a:Int)(c:Bool)=>[(6,.tv (eB c)),(38,.tv (eI a))]:=⟨⟩;exact nz)
noncomputable def Xx:PC:=PC.of Vs f404.body (xq bT 0xff00013ce60b96024802470246201d0acc201d09cc040bcc320001a4a306000460a4a3060004a4a30600043c1f0a960151011e0acc320052321f0a96014fb1011e0acc32ffa4a30600048a0a20011d0a96b3030796b30820313281690165a4a3060004977702cc81151d0acc8178775a5a32151d0acc00013f3e3d020005603f3e3d0200053f3e3d0200053c1f09960151011e09cc323f3e3d0200053f3e3d0200053c005232a0321f0996014fb1011e09cc32ff3f3e3d0200058a0a20011d0996b3030796b30a08845d84fd5a32d296b39f01915fa56c05cca85d6901653f3e3d020005e05a02cc81151d09cc8178fd5a32151d09cc005f050308cc0b030bcc0001) []
theorem sV:CK f404 Xx []:=by decide +kernel
theorem s7:PC.x6 Xx=true/\PC.x9 0 Xx=true:=by decide +kernel
abbrev Q_404(n:Nat):Prop:=∀(f:AL),Ct prog (BD n f) 404 [.undef] (fun r=>.bo (Cg f) (Cg r) 0 [])
theorem sL(n:Nat)(_ih_404:Q_404 n)(f:AL):Ct prog (BD (n+1) f) 404 [.undef] (fun r=>.bo (Cg f) (Cg r) 0 []):=kR sV s7 fun r h i g j=>by
  unfold Xx;unfold f404;unfold BD at h;have:HA 1 63 62 0 fun(c:Int)(b:AL)=>[(0,.bx (Cg b)),(63,.tv (eI c))]:=⟨⟩;have:HA 3 164 163 0 fun(e:Int)(d:AL)=>[(0,.bx (Cg d)),(164,.tv (eI e))]:=⟨⟩;have:HJ 28 fun(a:AL)=>[(0,.bx (Cg a))]:=⟨⟩;exact nz
theorem sK:∀n:Nat,Q_404 n:=by
  intro n
  induction n with
  |zero=>exact(fun f=>⟨fun _ h=>by cases h⟩)
  |succ n a=>exact sL n a
instance ABL(f:AL):Ct prog (IE f) 404 [.undef] (fun r=>.bo (Cg f) (Cg r) 0 []):=⟨fun r h=>by
  obtain ⟨N,a⟩:=CZ h;exact((sK N) f).snd r (a N (az _))⟩
theorem sU:CK f402 (Rq [Ac 6 0,Ac 7 1,Ac 8 2,Ac 9 3,⟨some 12,.Abk 2,none⟩] [4,5,6,7,8,9]<|Sq (Dr [13,14,15,16,17,18,19,20,21] [Ad 14 7 2,Ad 15 8 2,Ad 16 6 2,⟨some 17,.call 267 [.s 16],none⟩,Ad 18 9 2,Aa 19 4,Aa 20 5,⟨some 21,.bld [.list 1 [],.list 3 [],.list 1 [],.list 3 [],.list 1 [],.list 1 [],.list 1 [],.bool false,.int .i64 0,.nil,.nil,.nil] [(0,2,.s 14),(2,2,.s 15),(4,1,.s 17),(5,2,.s 18),(7,1,.s 19),(8,1,.s 20)],none⟩,⟨some 22,.Abg [none,none,none,none,none,none,none,none,none,some ⟨true,.xl 1 []⟩,some ⟨true,.xl 1 []⟩,some ⟨true,.list 2 []⟩] (.s 21),none⟩,⟨some 13,.bad 22 0,none⟩] [13,22])<|Rq [Ae 23 13 0,⟨some 24,.Aaw 404 [.s 23] 0,none⟩] [13,22]<|Rq [Ae 25 13 0,Ae 26 25 0,Ae 27 26 11,⟨some 28,.ld (.s 27),none⟩,Ab 12 28] [12]<|.ret) [.tmp 12]:=by decide +kernel
instance ABK(t:AC)(p:d6)(g:d6)(b:d7)(a:Bool)(c:Int):Ct prog (KL t p g b a c) 402 [AO t,Am p,Am g,As b,eB a,eI c] (fun r=>.sh ((eL 2 As) r)):=Fi sU fun r h d e=>by
  unfold KL at h;exact au
instance ABI(t:AC)(p:d6)(g:d6)(b:d7)(a:Bool):Ct prog (O4 t p g b a) 395 [AO t,Am p,Am g,As b,eB a] (fun r=>.tp [(eL 2 As) r.1,eI r.2]):=Fj f395 0x8182015502c0ec0182a5383838b602405e5ee3 [] [.tmp 10,.tmp 11] (h:=fun r h c d=>by
  unfold O4 at h;exact nz)
instance ABF(t:AC)(p:d6)(g:d6)(b:d7)(a:Bool):Ct prog (JQ t p g b a) 381 [AO t,Am p,Am g,As b,eB a] (fun r=>.tp [(eL 2 As) r.1,eI r.2]):=Fj f381 0x818273a5383838a902c0d40b5c5c5502c0d4e5595502c0d35c0bf8e5e55502c0ef38b602405e5ee3 [] [.tmp 10,.tmp 11] (h:=fun r h c d=>by
  unfold JQ at h;exact nz)
instance zb(a:j4)(b:Fp):Ct prog (ED a b) 276 [Om a,lI b] (fun r=>.tp [eI r.1,eI r.2]):=Fj f276 0xa8a5a981cf78015931de [] [.tmp 4,.tmp 5] (h:=fun r h c d=>by
  unfold ED at h;exact nz)
instance ABG(b:A3)(q:ec)(m:d7)(a:Fp):Ct prog (DP b q m a) 382 [CG b,BG q,As m,lI a] (fun r=>.tp [lI r.1,eB r.2]):=Fj f382 0x8182180a016867660a04d601c08820149add05c99a05430a01656867660a04e004429f022c2b2a0b0a066b08d601c08ada915f817c201438c42c2b2a0f0e0b0a066b0a2c2b2a0f0e0b0a066b0a3c014df9014df90577c4311401148a0817f90114585f6cc4fc5c5d5d59595b41c4f306c9f6f49f02652c2b2a0b0a066b08e0c40b0a066b0522210b0a066b07d5014df90114d90b0a066b056522210b0a066b079701993fd7993f7801d71a013140935e30 [.Aba 1 22 (.int .i64 0) (.s 27),.mkx 1 [.bool false] (.s 30)] [.tmp 8,.tmp 9] (h:=fun r h i j=>by
  unfold DP at h;have:HA 0 34 33 0 fun(e:Int)(f:a5)=>[(11,.xo 1 (List.map eB f)),(34,.tv (eI e))]:=⟨⟩;have:HA 2 44 43 0 fun(d:Int)(c:Fp×a5)=>[(10,.xo 1 (List.map eI c.1)),(11,.xo 1 (List.map eB c.2)),(44,.tv (eI d))]:=⟨⟩;have:HA 4 104 103 0 fun(g:Int)(_:Unit)=>[(104,.tv (eI g))]:=⟨⟩;exact nz)
instance AA8(a:A3)(c:ea)(m:AJ):Ct prog (Cv a c m) 369 [CG a,AH c,Bg m] (fun r=>.tp [(eL 3 Bg) r.1,eI r.2]):=Fj f369 0x8182020c013b3a390c6b0307d53b3a390c6b03073b3a390c6b03073c02034803471146013802a882bca2389a04420644a7df3802430c01653b3a390c6b0307978103c05503c08982bc03054238f1c438eba7df02460e773277c40b5c0eea6cc4e5a708c9f1046a0340f2 [] [.tmp 6,.tmp 7] (h:=fun r h e f=>by
  unfold Cv at h;have:HA 0 59 58 0 fun(b:Int)(d:List AJ)=>[(12,.ow ((eL 3 Bg) d)),(59,.tv (eI b))]:=⟨⟩;exact nz)
abbrev AbQ(n:Nat):Prop:=∀(a:A3)(c:ea)(m:AJ),Ct prog (BH n a c m) 272 [CG a,AH c,Bg m] (fun r=>.tp [Du r.1,eI r.2])
abbrev AbM(n:Nat):Prop:=∀(a:A3)(c:ea)(m:AJ),Ct prog (Bt n a c m) 322 [CG a,AH c,Bg m] (fun r=>.tp [Du r.1,eI r.2])
theorem r9(n:Nat)(_ih_272:AbQ n)(_ih_322:AbM n)(b:A3)(c:ea)(m:AJ):Ct prog (BH (n+1) b c m) 272 [CG b,AH c,Bg m] (fun r=>.tp [Du r.1,eI r.2]):=Fj f272 0xb84b124674dd730e6eb20644b8b84b124606014b4a49c30306d6dd011246850155dd134605479a89dd11c9bc6eb20644094b810bc9b209800601654b4a49c30306e0aab8b84b9a0a06022f2e2d0ac30307d5e60442054805479a04044255dd0112f0dd11c9bc6eb20644094b0bc9b209430a0602652f2e2d0ac30307e0aa11c9b8b84b01124674dd1246b8b84b1246b8a8dd1149bc6eb209435c0644b883b311c9f2 [] [.cell 6 (some 5),.tmp 7] (h:=fun r h g i=>by
  unfold BH at h;have:HA 2 47 46 0 fun(e:Int)(a:A0×A0)=>[(6,.bx [⟨false,eI a.1.Aar⟩,⟨true,lI a.1.kp.d7.d4⟩,⟨true,lI a.1.kp.d7.d5⟩,⟨true,lI a.1.kp.gn⟩,⟨true,Gz a.1.gp⟩]),(10,.bx [⟨false,eI a.2.Aar⟩,⟨true,lI a.2.kp.d7.d4⟩,⟨true,lI a.2.kp.d7.d5⟩,⟨true,lI a.2.kp.gn⟩,⟨true,Gz a.2.gp⟩]),(47,.tv (eI e))]:=⟨⟩;have:HA 4 75 74 0 fun(f:Int)(d:A0)=>[(6,.bx [⟨false,eI d.Aar⟩,⟨true,lI d.kp.d7.d4⟩,⟨true,lI d.kp.d7.d5⟩,⟨true,lI d.kp.gn⟩,⟨true,Gz d.gp⟩]),(75,.tv (eI f))]:=⟨⟩;exact nz)
theorem sG(n:Nat)(_ih_272:AbQ n)(_ih_322:AbM n)(a:A3)(c:ea)(m:AJ):Ct prog (Bt (n+1) a c m) 322 [CG a,AH c,Bg m] (fun r=>.tp [Du r.1,eI r.2]):=Fj f322 0xb84b124606011b1a1906040306d6dd011246850155dd144605479a6e6ddd11c9bc6eb209435c0644b912c9d8430601651b1a190604030697b5dd0112f082bc6eb206440111c9f2 [] [.cell 6 (some 5),.tmp 7] (h:=fun r h e f=>by
  unfold Bt at h;have:HA 0 27 26 0 fun(d:Int)(b:A0)=>[(6,.bx [⟨false,eI b.Aar⟩,⟨true,lI b.kp.d7.d4⟩,⟨true,lI b.kp.d7.d5⟩,⟨true,lI b.kp.gn⟩,⟨true,Gz b.gp⟩]),(27,.tv (eI d))]:=⟨⟩;exact nz)
theorem kV:∀n:Nat,AbQ n/\AbM n:=by
  intro n
  induction n with
  |zero=>exact⟨(fun b c m=>⟨fun _ h=>by cases h⟩),(fun b c m=>⟨fun _ h=>by cases h⟩)⟩
  |succ n a=>exact⟨r9 n a.1 a.2,sG n a.1 a.2⟩
instance za(a:A3)(c:ea)(m:AJ):Ct prog (F9 a c m) 272 [CG a,AH c,Bg m] (fun r=>.tp [Du r.1,eI r.2]):=⟨fun r h=>by
  obtain ⟨N,b⟩:=CZ h;exact((kV N).1 a c m).snd r (b N (az _))⟩
instance AAU(a:A3)(c:ea)(m:AJ):Ct prog (OX a c m) 322 [CG a,AH c,Bg m] (fun r=>.tp [Du r.1,eI r.2]):=⟨fun r h=>by
  obtain ⟨N,b⟩:=CZ h;exact((kV N).2 a c m).snd r (b N (az _))⟩
instance yD(t:AC)(p:ec)(c:ea)(b:AG)(m:AJ)(a:Bool):Ct prog (Fy t p c b m a) 189 [AO t,BG p,AH c,CD b,Bg m,eB a] (fun r=>.tp [Du r.1,eI r.2]):=Fj f189 0xb84b730e6eb21546016ea9dd0112f0a56e6eb29ab611c9935e5eda [] [.cell 12 (some 5),.tmp 13] (h:=fun r h d e=>by
  unfold Fy at h;exact nz)
instance wn(t:AC)(p:ec)(c:ea)(b:AG)(m:AJ)(a:Bool):Ct prog (E2 t p c b m a) 123 [AO t,BG p,AH c,CD b,Bg m,eB a] (fun r=>.tp [eB r.1,eI r.2]):=Fj f123 0xa8580155816ddd11497ca56e6eb29a3831935e5eda [] [.tmp 12,.tmp 13] (h:=fun r h d e=>by
  unfold E2 at h;exact nz)
instance wo(m:AJ):Ct prog (IZ m) 124 [Bg m] (fun r=>.sh (Bg r)):=Fj f124 0xbd3bb911460ea202460e77320eea12c9c8 [] [.cell 2 (some 3)] (h:=fun r h a b=>by
  unfold IZ at h;exact nz)
instance wq(a:AG):Ct prog (JR a) 125 [CD a] (fun r=>.sh (CD r)):=Fj f125 0xb96e5b021312115b05d5e6026abe0148314704c4825d5b02651312115b05e0c4035013c93f3f0e77320eea13c9c8 [.Aaj [.w 9,.w 13],.Aaj [.g 14 0 2,.g 14 1 2,.z ⟨true,.list 1 []⟩]] [.cell 2 (some 3)] (h:=fun r h d e=>by
  unfold JR at h;have:HA 0 19 18 0 fun(c:Int)(b:AG)=>[(3,.bx [⟨true,lI b.d6.d4⟩,⟨true,lE b.d6.d5⟩,⟨true,(eL 1 lI) b.hT⟩]),(19,.tv (eI c))]:=⟨⟩;exact nz)
instance wt(n:Int)(l:Fp):Ct prog (Kq n l) 126 [eI n,lI l] (fun r=>.own (lI r)):=Fj f126 0x8218dabada04d5014df93114ba76da06ba76da063c01885f81bc3181580165bada04819514993f31406902 [.mkx 1 [.int .i64 0] (.s 9)] [.tmp 4] (h:=fun r h c d=>by
  unfold Kq at h;have:HA 0 13 12 0 fun(a:Int)(b:Fp)=>[(5,.xo 1 (List.map eI b)),(13,.tv (eI a))]:=⟨⟩;exact nz)
instance wu(b:Int)(e:Fp)(d:Fp)(a:Fp)(c:Fp)(n:Int):Ct prog (FV b e d a c n) 127 [eI b,lI e,lI d,lI a,lI c,eI n] (fun r=>.own (lI r)):=Fj f127 0x82180d012b2a0d6bd52b2a0d6b2b2a0d6b60314df931148517f90114d90d01652b2a0d6b8195140d05021615140d6b3008d5014df95d5d84313114a8840d0502651615140d6b30089781991a31470140e26906 [] [.tmp 12] (h:=fun r h k l=>by
  unfold FV at h;have:HA 0 22 21 0 fun(i:Int)(j:Fp)=>[(13,.xo 1 (List.map eI j)),(22,.tv (eI i))]:=⟨⟩;have:HA 2 43 42 0 fun(g:Int)(f:Int×Fp)=>[(5,.tv (eI f.1)),(13,.xo 1 (List.map eI f.2)),(43,.tv (eI g))]:=⟨⟩;exact nz)
instance yE(t:AC)(a:Int):Ct prog (M1 t a) 192 [AO t,eI a] (fun r=>.own (lI r)):=Fj f192 0x820207011312110704d5bdbe5c02f304c9f6f40701651312110704978182b101827ca5b640de [] [.tmp 4] (h:=fun r h d e=>by
  unfold M1 at h;have:HA 0 19 18 0 fun(b:Int)(c:Fp)=>[(7,.ow (lI c)),(19,.tv (eI b))]:=⟨⟩;exact nz)
noncomputable def Xt:PC:=PC.of Vs f128.body (xq bT 0x31b0afae0104d5b0afae0104b0afae01043ce601961f960348034707465da26c24cc5d5c6c24cc59e3961fcc32ec775a1fcc847724ccb981fb803165b0afae0104e0aa0701027b7a79073006d57b7a790730067b7a790730063c1f02411f9621221a01382302411fccb34a5a5a1f9601be01045a5a1fcc32ecfd1fcc846c24cca884070102657b7a79073006e0320730b94a49763007d5e601961f960348034707465da26c22cc5d5c6c22cc59e3961fcc32b9fb807732fc073003654b4a49763007e0aaed30051e1d1ced3008d51f02411f962122014f84e9562302411fccb34a5a5a1f9601be84ea045a5a1fcc32fced3005651e1d1ced3008e032a7b908c913c9f106965a326e1ccc5e31) []
theorem sO:CK f128 Xt []:=by decide +kernel
theorem su:PC.x6 Xt=true/\PC.x9 1 Xt=true:=by decide +kernel
instance wv(t:AC)(a:Ai)(d:Ak):Ct prog (Ko t a d) 128 [AO t,.undef,Da d] (fun r=>.bo (DC a) (DC r) 1 []):=kR sO su fun r h m l n=>by
  unfold Xt;unfold f128;unfold Ko at h;have:HA 0 30 29 0 fun(c:Int)(g:Ai)=>[(1,.bx (DC g)),(30,.tv (eI c))]:=⟨⟩;have:HA 2 75 74 0 fun(b:Int)(e:Ai)=>[(1,.bx (DC e)),(75,.tv (eI b))]:=⟨⟩;have:HA 4 123 122 0 fun(j:Int)(i:Ai)=>[(1,.bx (DC i)),(123,.tv (eI j))]:=⟨⟩;have:HA 6 176 175 0 fun(f:Int)(k:Ai)=>[(1,.bx (DC k)),(176,.tv (eI f))]:=⟨⟩;exact nz
theorem sR:CK f193 (.seq (.region [⟨some 1,.Abh (.s 0),none⟩,
    ⟨some 2,.mv (.c .undef),none⟩,
    ⟨some 3,.mv (.c (.int .i64 0)),none⟩] [1])
 (.seq (.region [⟨some 12,.mkm,none⟩,
    ⟨some 4,.mvm 12,none⟩] [1,4,12])
 (.seq (.seq (.region [⟨some 13,.bad 1 0,none⟩,
    ⟨some 14,.fad (.s 13) 6,none⟩,
    ⟨some 15,.fad (.s 14) 2,none⟩,
    ⟨some 16,.ld (.s 15),none⟩,
    ⟨some 17,.len (.s 16),none⟩,
    ⟨some 18,.mv (.c (.int .i64 0)),none⟩] [1,4,12,16,17,18])
 (.block 0 (.loop [1,4,12,16,17,18] (.seq (.region [⟨some 19,.bin (.i) .lss (.s 18) (.s 17),none⟩] [1,4,12,16,17,18,19])
 (.seq (.cond (.s 19) (.skip [1,4,12,16,17,18])
 (.exit 0 [4,12]))
 (.seq (.block 1 (.seq (.region [⟨some 20,.iad (.s 16) (.s 18) 4,none⟩,
    ⟨some 21,.lda (.s 20) 4,none⟩,
    ⟨some 6,.alc [⟨false,.int .i64 0⟩,⟨false,.int .i64 0⟩,⟨false,.int .i64 0⟩,⟨false,.int .i64 0⟩],none⟩,
    ⟨none,.stb 4 6 (.s 21),none⟩] [1,4,6,12,16,17,18])
 (.seq (.region [⟨some 23,.bad 6 2,none⟩,
    ⟨some 24,.lda (.s 23) 2,none⟩,
    ⟨some 25,.bad 1 25,none⟩,
    ⟨some 26,.fad (.s 25) 2,none⟩,
    ⟨some 27,.ld (.s 26),none⟩,
    ⟨some 28,.call 276 [.s 24,.s 27],none⟩,
    ⟨some 22,.mv (.s 28),none⟩,
    ⟨some 29,.ext (.s 22) 0,none⟩,
    ⟨some 30,.ext (.s 22) 1,none⟩,
    ⟨some 7,.mv (.s 29),none⟩,
    ⟨some 8,.mv (.s 30),none⟩] [1,4,6,7,8,12,16,17,18])
 (.seq (.seq (.region [⟨some 31,.mv (.s 8),none⟩,
    ⟨some 32,.bin (.i) .neq (.s 31) (.c (.int .i64 0)),none⟩] [1,4,6,7,8,12,16,17,18,32])
 (.cond (.s 32) (.seq (.region [⟨some 33,.mv (.s 8),none⟩,
    ⟨some 2,.mv (.c .undef),none⟩,
    ⟨some 3,.mv (.s 33),none⟩] [2,3,12])
 .ret)
 (.skip [1,4,6,7,12,16,17,18])))
 (.seq (.draw [9,34,35,36,37,38,39,40,41,42,43] [⟨some 34,.bad 1 36,none⟩,
    ⟨some 35,.fad (.s 34) 0,none⟩,
    ⟨some 36,.ld (.s 35),none⟩,
    ⟨some 37,.bad 6 0,none⟩,
    ⟨some 38,.ld (.s 37),none⟩,
    ⟨some 39,.iad (.s 36) (.s 38) 1,none⟩,
    ⟨some 40,.ld (.s 39),none⟩,
    ⟨some 41,.bad 6 1,none⟩,
    ⟨some 42,.ld (.s 41),none⟩,
    ⟨some 43,.bld [.int .i64 0,.int .i64 0] [(0,1,.s 40),(1,1,.s 42)],none⟩,
    ⟨some 9,.alc [⟨false,.int .i64 0⟩,⟨false,.int .i64 0⟩],none⟩,
    ⟨none,.stb 2 9 (.s 43),none⟩] [1,4,7,9,12,16,17,18])
 (.seq (.seq (.region [⟨some 45,.mv (.s 4),none⟩,
    ⟨some 46,.lda (.s 9) 2,none⟩,
    ⟨some 47,.mlk 12 (.s 45) (.s 46),none⟩,
    ⟨some 44,.mv (.s 47),none⟩,
    ⟨some 48,.ext (.s 44) 0,none⟩,
    ⟨some 49,.ext (.s 44) 1,none⟩,
    ⟨some 10,.mv (.s 48),none⟩,
    ⟨some 11,.mv (.s 49),none⟩] [1,4,7,9,10,11,12,16,17,18])
 (.seq (.region [⟨some 50,.mv (.s 11),none⟩,
    ⟨some 51,.mv (.s 50),none⟩,
    ⟨some 52,.mv (.s 10),some (51,true)⟩,
    ⟨some 53,.mv (.s 7),some (51,true)⟩,
    ⟨some 54,.bin (.i) .neq (.s 52) (.s 53),some (51,true)⟩,
    ⟨some 55,.pick (.s 51) (.s 54) (.c (.bool false)),none⟩] [1,4,7,9,12,16,17,18,55])
 (.cond (.s 55) (.seq (.region [⟨some 2,.mv (.c .undef),none⟩,
    ⟨some 3,.mv (.c (.int .i64 11)),none⟩] [2,3,12])
 .ret)
 (.skip [1,4,7,9,12,16,17,18]))))
 (.region [⟨some 56,.mv (.s 4),none⟩,
    ⟨some 57,.lda (.s 9) 2,none⟩,
    ⟨some 58,.mv (.s 7),none⟩,
    ⟨none,.mup 12 (.s 56) (.s 57) (.s 58),none⟩] [1,4,12,16,17,18])))))))
 (.region [⟨some 59,.bin (.i) .add (.s 18) (.c (.int .i64 1)),none⟩,
    ⟨some 18,.mv (.s 59),none⟩] [1,4,12,16,17,18])))))))
 (.seq (.region [⟨some 60,.mv (.s 4),none⟩,
    ⟨some 2,.mv (.s 60),none⟩,
    ⟨some 3,.mv (.c (.int .i64 0)),none⟩] [2,3,12])
 .ret)))) [.tmp 2,.tmp 3]:=by decide +kernel
instance ABW(s:Ai):Ct Go.Proofs.Tryz.prog (G7 s) 193 [aY s] MY:=wD sR fun r h d e=>by
  unfold G7 at h;have K:∀b:Nat,HA 0 18 17 0 fun(c:Int)(a:BJ)=>[(12,.mx (.mp b a)),(18,.tv (eI c))]:=fun _=>⟨⟩;have:uo 12:=⟨⟩;exact au
theorem Wi(t:AC)(s:Ai)(V:List Fp)(p:(Int×Int)×Int)(a:BJ)(r:B0 (List Fp) Unit)(h:P4 t s V p=some r):WP (AQ Go.Proofs.Tryz.prog) (.block 1 (.seq (.region [⟨some 25,.men 22,none⟩,
    ⟨some 26,.ext (.s 25) 0,none⟩,
    ⟨some 27,.ext (.s 25) 1,none⟩,
    ⟨some 7,.alc [⟨false,.int .i64 0⟩,⟨false,.int .i64 0⟩],none⟩,
    ⟨none,.stb 2 7 (.s 26),none⟩,
    ⟨some 8,.mv (.s 27),none⟩] [1,2,7,8,22])
 (.seq (.draw [9,10,28,29,30,31,32,33,34,35,36,37,38,39,40,41,42] [⟨some 29,.lda (.s 2) 2,none⟩,
    ⟨some 30,.bad 1 0,none⟩,
    ⟨some 31,.fad (.s 30) 0,none⟩,
    ⟨some 32,.fad (.s 31) 31,none⟩,
    ⟨some 33,.fad (.s 32) 0,none⟩,
    ⟨some 34,.fad (.s 33) 0,none⟩,
    ⟨some 35,.ld (.s 34),none⟩,
    ⟨some 36,.bad 7 0,none⟩,
    ⟨some 37,.ld (.s 36),none⟩,
    ⟨some 38,.iad (.s 35) (.s 37) 1,none⟩,
    ⟨some 39,.ld (.s 38),none⟩,
    ⟨some 40,.call 194 [.s 29,.s 39],none⟩,
    ⟨some 28,.mv (.s 40),none⟩,
    ⟨some 41,.ext (.s 28) 0,none⟩,
    ⟨some 42,.ext (.s 28) 1,none⟩,
    ⟨some 9,.mv (.s 41),none⟩,
    ⟨some 10,.mv (.s 42),none⟩] [1,2,7,8,9,22])
 (.seq (.seq (.region [⟨some 43,.mv (.s 8),none⟩,
    ⟨some 44,.mv (.s 9),none⟩,
    ⟨some 45,.bad 7 1,none⟩,
    ⟨some 46,.ld (.s 45),none⟩,
    ⟨some 47,.iad (.s 44) (.s 46) 4,none⟩,
    ⟨some 48,.fad (.s 47) 1,none⟩,
    ⟨some 49,.ld (.s 48),none⟩,
    ⟨some 50,.bin (.i) .lss (.s 43) (.s 49),none⟩,
    ⟨some 51,.mv (.s 50),none⟩,
    ⟨some 52,.mv (.s 8),some (51,false)⟩,
    ⟨some 53,.mv (.s 9),some (51,false)⟩,
    ⟨some 54,.bad 7 1,some (51,false)⟩,
    ⟨some 55,.ld (.s 54),some (51,false)⟩,
    ⟨some 56,.iad (.s 53) (.s 55) 4,some (51,false)⟩,
    ⟨some 57,.fad (.s 56) 2,some (51,false)⟩,
    ⟨some 58,.ld (.s 57),some (51,false)⟩,
    ⟨some 59,.bin (.i) .gtr (.s 52) (.s 58),some (51,false)⟩,
    ⟨some 60,.pick (.s 51) (.c (.bool true)) (.s 59),none⟩] [1,2,7,8,22,60])
 (.cond (.s 60) (.seq (.region [⟨some 4,.mv (.c (.int .i64 6)),none⟩] [1,4])
 .ret)
 (.skip [1,2,7,8,22])))
 (.draw [61,62,63,64,65,66,67,68,69,70,71,72,73] [⟨some 61,.bad 1 0,none⟩,
    ⟨some 62,.fad (.s 61) 0,none⟩,
    ⟨some 63,.fad (.s 62) 31,none⟩,
    ⟨some 64,.fad (.s 63) 2,none⟩,
    ⟨some 65,.lan (.s 64),none⟩,
    ⟨some 66,.bad 7 0,none⟩,
    ⟨some 67,.ld (.s 66),none⟩,
    ⟨some 68,.nia (.s 65) (.s 67),none⟩,
    ⟨some 69,.nld (.s 68),none⟩,
    ⟨some 70,.bad 7 1,none⟩,
    ⟨some 71,.ld (.s 70),none⟩,
    ⟨some 72,.mv (.s 8),none⟩,
    ⟨some 73,.nia (.s 69) (.s 71),none⟩,
    ⟨none,.nst (.s 73) (.s 72),none⟩] [1,2,22]))))) ⟨fun e=>∃b,r=.next b/\Rn (e.hV [1,2,22]) [(1,.bx (DC (Mz s b))),(2,.tv (.pt (AO t).cells)),(22,.mx (.mi (some p) a))],fun _ _=>False,fun e=>∃v,r=.ret v/\Rn e [(1,.bx (DC (Mz s V))),(4,.tv (eI 6))]⟩ [(1,.bx (DC (Mz s V))),(2,.tv (.pt (AO t).cells)),(22,.mx (.mi (some p) a))]:=by
  unfold P4 at h;exact au
noncomputable def Xu:PC:=(.seq (.region [⟨some 2,.Abh (.s 0),none⟩,
    ⟨some 4,.mv (.c (.int .i64 0)),none⟩] [1,2])
 (.seq (.region [⟨some 12,.bad 1 0,none⟩,
    ⟨some 13,.fad (.s 12) 0,none⟩,
    ⟨some 14,.lda (.s 13) 38,none⟩,
    ⟨some 15,.AaN 193 [.s 14],none⟩,
    ⟨some 11,.mvm 15,none⟩,
    ⟨some 16,.ext (.s 11) 0,none⟩,
    ⟨some 17,.ext (.s 11) 1,none⟩,
    ⟨some 5,.mv (.s 16),none⟩,
    ⟨some 6,.mv (.s 17),none⟩] [1,2,5,6,15])
 (.seq (.seq (.region [⟨some 18,.mv (.s 6),none⟩,
    ⟨some 19,.bin (.i) .neq (.s 18) (.c (.int .i64 0)),none⟩] [1,2,5,6,15,19])
 (.cond (.s 19) (.seq (.region [⟨some 20,.mv (.s 6),none⟩,
    ⟨some 4,.mv (.s 20),none⟩] [1,4])
 .ret)
 (.skip [1,2,5,15])))
 (.seq (.seq (.region [⟨some 21,.mv (.s 5),none⟩,
    ⟨some 22,.ws 15 (.s 21),none⟩] [1,2,22])
 (.block 0 (.loop [1,2,22] (.seq (.region [⟨some 23,.mnx 22,none⟩,
    ⟨some 24,.ext (.s 23) 0,none⟩] [1,2,22,24])
 (.seq (.cond (.s 24) (.skip [1,2,22])
 (.exit 0 [1]))
 (.block 1 (.seq (.region [⟨some 25,.men 22,none⟩,
    ⟨some 26,.ext (.s 25) 0,none⟩,
    ⟨some 27,.ext (.s 25) 1,none⟩,
    ⟨some 7,.alc [⟨false,.int .i64 0⟩,⟨false,.int .i64 0⟩],none⟩,
    ⟨none,.stb 2 7 (.s 26),none⟩,
    ⟨some 8,.mv (.s 27),none⟩] [1,2,7,8,22])
 (.seq (.draw [9,10,28,29,30,31,32,33,34,35,36,37,38,39,40,41,42] [⟨some 29,.lda (.s 2) 2,none⟩,
    ⟨some 30,.bad 1 0,none⟩,
    ⟨some 31,.fad (.s 30) 0,none⟩,
    ⟨some 32,.fad (.s 31) 31,none⟩,
    ⟨some 33,.fad (.s 32) 0,none⟩,
    ⟨some 34,.fad (.s 33) 0,none⟩,
    ⟨some 35,.ld (.s 34),none⟩,
    ⟨some 36,.bad 7 0,none⟩,
    ⟨some 37,.ld (.s 36),none⟩,
    ⟨some 38,.iad (.s 35) (.s 37) 1,none⟩,
    ⟨some 39,.ld (.s 38),none⟩,
    ⟨some 40,.call 194 [.s 29,.s 39],none⟩,
    ⟨some 28,.mv (.s 40),none⟩,
    ⟨some 41,.ext (.s 28) 0,none⟩,
    ⟨some 42,.ext (.s 28) 1,none⟩,
    ⟨some 9,.mv (.s 41),none⟩,
    ⟨some 10,.mv (.s 42),none⟩] [1,2,7,8,9,22])
 (.seq (.seq (.region [⟨some 43,.mv (.s 8),none⟩,
    ⟨some 44,.mv (.s 9),none⟩,
    ⟨some 45,.bad 7 1,none⟩,
    ⟨some 46,.ld (.s 45),none⟩,
    ⟨some 47,.iad (.s 44) (.s 46) 4,none⟩,
    ⟨some 48,.fad (.s 47) 1,none⟩,
    ⟨some 49,.ld (.s 48),none⟩,
    ⟨some 50,.bin (.i) .lss (.s 43) (.s 49),none⟩,
    ⟨some 51,.mv (.s 50),none⟩,
    ⟨some 52,.mv (.s 8),some (51,false)⟩,
    ⟨some 53,.mv (.s 9),some (51,false)⟩,
    ⟨some 54,.bad 7 1,some (51,false)⟩,
    ⟨some 55,.ld (.s 54),some (51,false)⟩,
    ⟨some 56,.iad (.s 53) (.s 55) 4,some (51,false)⟩,
    ⟨some 57,.fad (.s 56) 2,some (51,false)⟩,
    ⟨some 58,.ld (.s 57),some (51,false)⟩,
    ⟨some 59,.bin (.i) .gtr (.s 52) (.s 58),some (51,false)⟩,
    ⟨some 60,.pick (.s 51) (.c (.bool true)) (.s 59),none⟩] [1,2,7,8,22,60])
 (.cond (.s 60) (.seq (.region [⟨some 4,.mv (.c (.int .i64 6)),none⟩] [1,4])
 .ret)
 (.skip [1,2,7,8,22])))
 (.draw [61,62,63,64,65,66,67,68,69,70,71,72,73] [⟨some 61,.bad 1 0,none⟩,
    ⟨some 62,.fad (.s 61) 0,none⟩,
    ⟨some 63,.fad (.s 62) 31,none⟩,
    ⟨some 64,.fad (.s 63) 2,none⟩,
    ⟨some 65,.lan (.s 64),none⟩,
    ⟨some 66,.bad 7 0,none⟩,
    ⟨some 67,.ld (.s 66),none⟩,
    ⟨some 68,.nia (.s 65) (.s 67),none⟩,
    ⟨some 69,.nld (.s 68),none⟩,
    ⟨some 70,.bad 7 1,none⟩,
    ⟨some 71,.ld (.s 70),none⟩,
    ⟨some 72,.mv (.s 8),none⟩,
    ⟨some 73,.nia (.s 69) (.s 71),none⟩,
    ⟨none,.nst (.s 73) (.s 72),none⟩] [1,2,22]))))))))))
 (.seq (.region [⟨some 4,.mv (.c (.int .i64 0)),none⟩] [1,4])
 .ret)))))
theorem sP:CK f129 Xu [.tmp 4]:=by decide +kernel
theorem sv:PC.x6 Xu=true/\PC.x9 1 Xu=true:=by decide +kernel
variable{t:AC}{s:Ai}
theorem cQ{p:(Int×Int)×Int}{b:Bool}(h:P5 t s p=some b){V:List Fp}(a:KT V s.q0.hT):
    (b=true->P4 t s V p=some (.next (CN V p)))/\(b=false->P4 t s V p=some (.ret ())):=by
  unfold P5 P4 at h;unfold P4;obtain⟨c,d,h⟩:=bind_some h;obtain⟨q,f,d⟩:=bind_some d;obtain⟨r,g,d⟩:=bind_some d;obtain⟨u,i,d⟩:=bind_some d;obtain⟨j,k,d⟩:=bind_some d;simp only[f,g,i,Option.bind_some]at *;rw[k,Option.bind_some];cases j with
  |true=>
    simp only[if_true,o4]at d|-;subst d;simp only[o4]at h;subst h;exact⟨fun e=>(by cases e),fun _=>trivial⟩
  |false=>
    simp only[Bool.false_eq_true,if_false]at d|-;obtain⟨v,l,d⟩:=bind_some d;obtain⟨w,m,d⟩:=bind_some d;cases d;simp only[o4]at h;subst h;obtain⟨x,x',n,o⟩:=a.idx l m;refine⟨fun _=>?_,fun e=>(by cases e)⟩;rw[n,Option.bind_some,o,Option.bind_some,YY n o]
theorem eQ{a:BJ}{c:Bool}(f:a.Dis)(k:RU (P5 t s) a=some c){L y:AB->Prop}{x:Nat->AB->Prop}{d:AB->Prop}
    (g:c=true->y [(1,.bx (DC (Mz s (a.foldl CN s.q0.hT))))])(m:c=false->∀V,d [(1,.bx (DC (Mz s V))),(4,.tv (eI 6))]):
    WP (AQ Go.Proofs.Tryz.prog) (.loop [1,2,22] (.seq (.region [⟨some 23,.mnx 22,none⟩,
    ⟨some 24,.ext (.s 23) 0,none⟩] [1,2,22,24])
 (.seq (.cond (.s 24) (.skip [1,2,22])
 (.exit 0 [1]))
 (.block 1 (.seq (.region [⟨some 25,.men 22,none⟩,
    ⟨some 26,.ext (.s 25) 0,none⟩,
    ⟨some 27,.ext (.s 25) 1,none⟩,
    ⟨some 7,.alc [⟨false,.int .i64 0⟩,⟨false,.int .i64 0⟩],none⟩,
    ⟨none,.stb 2 7 (.s 26),none⟩,
    ⟨some 8,.mv (.s 27),none⟩] [1,2,7,8,22])
 (.seq (.draw [9,10,28,29,30,31,32,33,34,35,36,37,38,39,40,41,42] [⟨some 29,.lda (.s 2) 2,none⟩,
    ⟨some 30,.bad 1 0,none⟩,
    ⟨some 31,.fad (.s 30) 0,none⟩,
    ⟨some 32,.fad (.s 31) 31,none⟩,
    ⟨some 33,.fad (.s 32) 0,none⟩,
    ⟨some 34,.fad (.s 33) 0,none⟩,
    ⟨some 35,.ld (.s 34),none⟩,
    ⟨some 36,.bad 7 0,none⟩,
    ⟨some 37,.ld (.s 36),none⟩,
    ⟨some 38,.iad (.s 35) (.s 37) 1,none⟩,
    ⟨some 39,.ld (.s 38),none⟩,
    ⟨some 40,.call 194 [.s 29,.s 39],none⟩,
    ⟨some 28,.mv (.s 40),none⟩,
    ⟨some 41,.ext (.s 28) 0,none⟩,
    ⟨some 42,.ext (.s 28) 1,none⟩,
    ⟨some 9,.mv (.s 41),none⟩,
    ⟨some 10,.mv (.s 42),none⟩] [1,2,7,8,9,22])
 (.seq (.seq (.region [⟨some 43,.mv (.s 8),none⟩,
    ⟨some 44,.mv (.s 9),none⟩,
    ⟨some 45,.bad 7 1,none⟩,
    ⟨some 46,.ld (.s 45),none⟩,
    ⟨some 47,.iad (.s 44) (.s 46) 4,none⟩,
    ⟨some 48,.fad (.s 47) 1,none⟩,
    ⟨some 49,.ld (.s 48),none⟩,
    ⟨some 50,.bin (.i) .lss (.s 43) (.s 49),none⟩,
    ⟨some 51,.mv (.s 50),none⟩,
    ⟨some 52,.mv (.s 8),some (51,false)⟩,
    ⟨some 53,.mv (.s 9),some (51,false)⟩,
    ⟨some 54,.bad 7 1,some (51,false)⟩,
    ⟨some 55,.ld (.s 54),some (51,false)⟩,
    ⟨some 56,.iad (.s 53) (.s 55) 4,some (51,false)⟩,
    ⟨some 57,.fad (.s 56) 2,some (51,false)⟩,
    ⟨some 58,.ld (.s 57),some (51,false)⟩,
    ⟨some 59,.bin (.i) .gtr (.s 52) (.s 58),some (51,false)⟩,
    ⟨some 60,.pick (.s 51) (.c (.bool true)) (.s 59),none⟩] [1,2,7,8,22,60])
 (.cond (.s 60) (.seq (.region [⟨some 4,.mv (.c (.int .i64 6)),none⟩] [1,4])
 .ret)
 (.skip [1,2,7,8,22])))
 (.draw [61,62,63,64,65,66,67,68,69,70,71,72,73] [⟨some 61,.bad 1 0,none⟩,
    ⟨some 62,.fad (.s 61) 0,none⟩,
    ⟨some 63,.fad (.s 62) 31,none⟩,
    ⟨some 64,.fad (.s 63) 2,none⟩,
    ⟨some 65,.lan (.s 64),none⟩,
    ⟨some 66,.bad 7 0,none⟩,
    ⟨some 67,.ld (.s 66),none⟩,
    ⟨some 68,.nia (.s 65) (.s 67),none⟩,
    ⟨some 69,.nld (.s 68),none⟩,
    ⟨some 70,.bad 7 1,none⟩,
    ⟨some 71,.ld (.s 70),none⟩,
    ⟨some 72,.mv (.s 8),none⟩,
    ⟨some 73,.nia (.s 69) (.s 71),none⟩,
    ⟨none,.nst (.s 73) (.s 72),none⟩] [1,2,22])))))))) ⟨L,fun j e=>if j=0 then y e else x j e,d⟩ [(1,.bx (DC s)),(2,.tv (.pt (AO t).cells)),(22,.mx (.mi none a))]:=by
  obtain ⟨m1,Q⟩:=VZ k;refine⟨nj _ (σ:=List Fp×Option ((Int×Int)×Int)×BJ) (fun σ=>[(1,.bx (DC (Mz s σ.1))),(2,.tv (.pt (AO t).cells)),(22,.mx (.mi σ.2.1 σ.2.2))])
    (fun σ=>KT σ.1 s.q0.hT/\(∀l,σ.2.2.Perm l->l.foldl CN σ.1=a.foldl CN s.q0.hT)/\(∀p∈σ.2.2,p∈a)/\(c=false->∃p∈σ.2.2,P5 t s p=some false))
    (fun σ=>σ.2.2.length) (s.q0.hT,none,a) rfl ⟨rfl,fun l z=>VB f z _,fun p o=>o,Q⟩ ?_⟩
  rintro ⟨V,last,r⟩ ⟨H,I,J,K⟩ U;refine WP.out (?_:WP _ _ _ _);apply Ji;apply Oh;refine uO rfl (by decide) (fun e=>?_) (fun p n o=>?_)
  · simp only at e
    subst e;have O:c=true:=by
      cases c with
      |true=>rfl|false=>obtain⟨p,o,_⟩:=K rfl;cases o
    have P:V=a.foldl CN s.q0.hT:=I [] (List.Perm.refl _);apply Rm;exact rfl;exact rfl;apply MI;(focus (repeat(first|exact HU|(apply Jp;exact rfl)|(apply Jm;exact rfl)|(apply Jn;exact rfl)|(apply Jq;exact rfl)|(apply Jo;exact rfl))));intro B;apply Ji;apply Qd;exact rfl;exact rfl;apply dw;(focus (repeat(first|exact HU|(apply Jp;exact rfl)|(apply Jm;exact rfl)|(apply Jn;exact rfl)|(apply Jq;exact rfl)|(apply Jo;exact rfl))));show(if(0:Nat)=0 then y [(1,.bx (DC (Mz s V)))]else x 0 [(1,.bx (DC (Mz s V)))]);rw[a6 rfl,P];exact g O
  · apply Rm;exact rfl;exact rfl
    apply MI;(focus (repeat(first|exact HU|(apply Jp;exact rfl)|(apply Jm;exact rfl)|(apply Jn;exact rfl)|(apply Jq;exact rfl)|(apply Jo;exact rfl))));intro B;apply Ji;apply Qe;exact rfl;exact rfl;apply YB;(focus (repeat(first|exact HU|(apply Jp;exact rfl)|(apply Jm;exact rfl)|(apply Jn;exact rfl)|(apply Jq;exact rfl)|(apply Jo;exact rfl))));intro N;have C:p∈r:=o.mem_iff.2 (by simp);obtain⟨b,G,D⟩:=m1 p (J p C);obtain⟨R,S⟩:=cQ G H;cases b with
    |true=>
      refine ⟨PC.pr _ _ _ _ (Wi t s V p n _ (R rfl)).out _ (fun e he=>?_) (fun _ _ h=>h.elim) (fun e he=>?_)⟩
      · obtain⟨T,w,E⟩:=he
        cases w;refine⟨(CN V p,some p,n),E.out,⟨(Wh V p).trans H,fun l z=>?_,fun q A=>J q (o.mem_iff.2 (by simp[A])),fun M=>?_⟩,?_⟩
        .exact I (p::l) (o.trans (z.cons p))
        · obtain⟨q,A,u⟩:=K M
          rcases List.mem_cons.1 (o.mem_iff.1 A)with rfl|F
          .rw[G]at u;cases u
          .exact⟨q,F,u⟩
        · have:=o.length_eq
          simp only[ca]at this;show n.length<r.length;omega
      · obtain⟨v,w,_⟩:=he
        cases w
    |false=>
      refine ⟨PC.pr _ _ _ _ (Wi t s V p n _ (S rfl)).out _ (fun e he=>?_) (fun _ _ h=>h.elim) (fun e he=>?_)⟩
      · obtain⟨T,w,_⟩:=he
        cases w
      · obtain⟨v,_,E⟩:=he
        rw [E.out];exact m (by cases c with|false=>rfl|true=>exact absurd (D rfl) (by simp)) V
instance ABT(t:AC)(s:Ai):Ct Go.Proofs.Tryz.prog (OU t s) 129 [AO t,.undef] (fun r=>.bo (DC s) (if(!decide (r.1=0))=true then(DC r.2).set 33 ⟨false,.undef⟩else DC r.2) 1 [eI r.1]):=vC sP sv fun r h u k=>by
  unfold Xu;unfold OU at h;obtain⟨a,p,h⟩:=bind_some h;have d:=(inferInstance:Ct Go.Proofs.Tryz.prog (G7 s) 193 [aY s] MY).snd a p;apply Ji;apply Oh;apply fx;exact rfl;exact rfl;apply Oe;exact rfl;apply MI;(focus (repeat(first|exact HU|(apply Jp;exact rfl)|(apply Jm;exact rfl)|(apply Jn;exact rfl)|(apply Jq;exact rfl)|(apply Jo;exact rfl))));intro l;apply Ji;apply Oh
  first|(apply k8;exact rfl)|(apply fw;exact rfl)
  first|(apply k9;exact rfl)|(apply fz;exact rfl;exact rfl)
  apply X3;exact rfl;exact rfl;exact rfl;by_cases he:a.2=0
  · have e:MY a=.mpr a.1 [.int .i64 a.2]:=a6 he
    rw [e]at d;rw[ae (by simp[he])]at h;split at h
    · rename_i hd
      have hd:BJ.Dis a.1:=(show List.Pairwise (fun x y:(Int×Int)×Int=>x.1≠y.1) a.1 from of_decide_eq_true hd);obtain⟨c,q,h⟩:=bind_some h;refine jQ rfl d (fun b=>?_);apply gB;exact rfl;apply Rm;exact rfl;exact rfl;apply Rm;exact rfl;exact rfl;apply Oe;exact rfl;apply Oe;exact rfl;apply MI;(focus (repeat(first|exact HU|(apply Jp;exact rfl)|(apply Jm;exact rfl)|(apply Jn;exact rfl)|(apply Jq;exact rfl)|(apply Jo;exact rfl))));intro g;apply Ji;apply Ji;apply Oh;apply Oe;exact rfl;apply dP;exact rfl;exact rfl;apply MI;(focus (repeat(first|exact HU|(apply Jp;exact rfl)|(apply Jm;exact rfl)|(apply Jn;exact rfl)|(apply Jq;exact rfl)|(apply Jo;exact rfl))));intro i;apply Qd;exact rfl;simp[he];apply YB;(focus (repeat(first|exact HU|(apply Jp;exact rfl)|(apply Jm;exact rfl)|(apply Jn;exact rfl)|(apply Jq;exact rfl)|(apply Jo;exact rfl))));intro j;apply Ji;apply Ji;apply Oh;apply Oe;exact rfl;apply lG;exact rfl;exact rfl;decide;apply MI;(focus (repeat(first|exact HU|(apply Jp;exact rfl)|(apply Jm;exact rfl)|(apply Jn;exact rfl)|(apply Jq;exact rfl)|(apply Jo;exact rfl))));intro m;apply aM;refine eQ hd q (fun f=>?_) (fun f V=>?_)
      · intro n
        apply Ji;apply Oh;apply Oe;exact rfl;apply MI;(focus (repeat(first|exact HU|(apply Jp;exact rfl)|(apply Jm;exact rfl)|(apply Jn;exact rfl)|(apply Jq;exact rfl)|(apply Jo;exact rfl))));intro o;apply cG;rw[a6 f]at h;cases h;exact⟨_,Wk.refl _,rfl,rfl⟩
      · rw[ae (by simp[f])]at h
        cases h;refine⟨_,?_,rfl,rfl⟩;exact Wk.set (DC (Mz s V)) 33
    .cases h
  · have e:MY a=.tp [.undef,.int .i64 a.2]:=ae he
    rw [e]at d;rw[a6 (by simp[he])]at h;refine jP rfl d ?_;apply gA;exact rfl;apply Rm;exact rfl;exact rfl;apply Rm;exact rfl;exact rfl;apply Oe;exact rfl;apply Oe;exact rfl;apply MI;(focus (repeat(first|exact HU|(apply Jp;exact rfl)|(apply Jm;exact rfl)|(apply Jn;exact rfl)|(apply Jq;exact rfl)|(apply Jo;exact rfl))));intro g;apply Ji;apply Ji;apply Oh;apply Oe;exact rfl;apply dP;exact rfl;exact rfl;apply MI;(focus (repeat(first|exact HU|(apply Jp;exact rfl)|(apply Jm;exact rfl)|(apply Jn;exact rfl)|(apply Jq;exact rfl)|(apply Jo;exact rfl))));intro i;apply Qe;exact rfl;simp[he];apply Ji;apply Oh;apply Oe;exact rfl;apply Oe;exact rfl;apply MI;(focus (repeat(first|exact HU|(apply Jp;exact rfl)|(apply Jm;exact rfl)|(apply Jn;exact rfl)|(apply Jq;exact rfl)|(apply Jo;exact rfl))));intro j;apply cG;cases h;simp only[he,decide_false,Bool.not_false,if_true];exact⟨_,Wk.set (DC s) 33,rfl,rfl⟩
instance c66(t:AC)(b:em)(a:AG)(m:AJ):Ct prog (O8 t b a m) 66 [AO t,Bq b,CD a,Bg m] (fun r=>.tp [C1 r.1,eI r.2]):=Fj f66 0x81ca26440f3e55ca1646d3775a1f42580bfd1f4255ca0116f00152b6523838024a244202460e0b5c772242773277f7770b420b775acd0ee56c2242ea6cf76c0b420bfdcd024a224202460e5c0b77320e590bea3f15c917460e6e0e6ecb55ca1646880155ca011646853181bc030f426e6eb210429aaaa9ca0116468531a7df7c6f32380b42eba9ca0116f0a708c97c6f32ebf1aaa9ca0116f00e6e6ecbb614c95e90 [.stq 38 [none,none,none,none,none,none,none,none,none,none,none,none,none,none,none,none,none,none,none,none,none,none,none,none,none,none,none,none,none,none,none,some ⟨true,.list 1 []⟩,some ⟨true,.list 3 []⟩,some ⟨true,.xn []⟩,none,none,none,none] (.s 15) (.s 82)] [.cell 8 (some 38),.tmp 9] (h:=fun r h c d=>by
  unfold O8 at h;exact nz)
instance c33(t:AC)(b:em)(a:AG)(m:AJ):Ct prog (I7 t b a m) 33 [AO t,Bq b,CD a,Bg m] (fun r=>.tp [C1 r.1,eI r.2]):=Fj f33 0x81ca730e6e6ecba9ca0116f00e6ecbb614c95e90 [] [.cell 8 (some 38),.tmp 9] (h:=fun r h c d=>by
  unfold I7 at h;exact nz)
instance wb(a:d7)(b:d7):Ct prog (D6 a b) 116 [As a,As b] (fun r=>.sh (eB r)):=Fj f116 0x81b75cb40e599290 [] [.tmp 4] (h:=fun r h c d=>by
  unfold D6 at h;exact nz)
instance ym(a:d6)(b:d6):Ct prog (Oo a b) 229 [Am a,Am b] (fun r=>.sh (eB r)):=Fj f229 0x81b75cb40e599290 [] [.tmp 4] (h:=fun r h c d=>by
  unfold Oo at h;exact nz)
instance xZ(a:ec)(b:ec):Ct prog (FA a b) 166 [BG a,BG b] (fun r=>.sh (eB r)):=Fj f166 0x81b7d242d26ab7a2e99fd7a16a6f3238b390 [] [.tmp 4] (h:=fun r h c d=>by
  unfold FA at h;exact nz)
abbrev Q_167(n:Nat):Prop:=∀(a:ea)(b:ea),Ct prog (DL n a b) 167 [AH a,AH b] (fun r=>.sh (eB r))
theorem rn(n:Nat)(_ih_167:Q_167 n)(a:ea)(b:ea):Ct prog (DL (n+1) a b) 167 [AH a,AH b] (fun r=>.sh (eB r)):=Fj f167 0xf53f5cb4b7d242d26a0ea2a2558ad0773277b30ad0ea6cb39fd7a16a0a086fc438c4585959dddd0ac90ac99a04429a046a90 [.call 232 [.s 65,.s 67,.c (.clo 167 [])]] [.tmp 4] (h:=fun r h d e=>by
  unfold DL at h;exact nz)
theorem rm:∀n:Nat,Q_167 n:=by
  intro n
  induction n with
  |zero=>exact(fun a b=>⟨fun _ h=>by cases h⟩)
  |succ n c=>exact rn n c
instance xa(a:ea)(b:ea):Ct prog (NG a b) 167 [AH a,AH b] (fun r=>.sh (eB r)):=⟨fun r h=>by
  obtain ⟨N,c⟩:=CZ h;exact((rm N) a b).snd r (c N (az _))⟩
instance wY(a:em)(b:em):Ct prog (OP a b) 113 [Bq a,Bq b] (fun r=>.sh (eB r)):=Fj f113 0x81b7b21042b2106a0a6ff7380d6ab7770b42770b6ab76c0b426c0b6ab79acd9a066ab79aaa9a016a0a07030f42030f6a06599290 [] [.tmp 4] (h:=fun r h c d=>by
  unfold OP at h;exact nz)
instance wZ(a:AJ)(b:AJ):Ct prog (Ia a b) 114 [Bg a,Bg b] (fun r=>.sh (eB r)):=Fj f114 0x81b7a2e96f3238b390 [] [.tmp 4] (h:=fun r h c d=>by
  unfold Ia at h;exact nz)
instance wa(a:AG)(b:AG):Ct prog (Ly a b) 115 [CD a,CD b] (fun r=>.sh (eB r)):=Fj f115 0xf53fa2e9b7773277b30eea6cb390 [.call 169 [.s 23,.s 25,.c (.clo 23 [])]] [.tmp 4] (h:=fun r h d e=>by
  unfold Ly at h;exact nz)
instance c64(a:Ai)(b:Ai):Ct prog (OT a b) 64 [C1 a,C1 b] (fun r=>.sh (eB r)):=Fj f64 0xf56f244238246a0a6f224238226ab76e1f426e1f6ab76e1c426e1c6ab76e19426e196a0ecb32cbb390 [] [.tmp 4] (h:=fun r h c d=>by
  unfold OT at h;exact nz)
instance c27(t:AC)(a:Ai):Ct prog (M0 t a) 27 [AO t,C1 a] (fun r=>.sh (eB r)):=Fj f27 0x81b726442644585fca14c9bc6e19426e1c42cb32b690 [] [.tmp 4] (h:=fun r h b c=>by
  unfold M0 at h;exact nz)
instance c30(a:Int)(b:Ao)(c:d6):Ct prog (I9 a b c) 30 [eI a,.pt (C2 b).cells,.pt (Am c).cells] (fun r=>.sh (eB r)):=Fj f30 0xb85de49202c6 [] [.tmp 4] (h:=fun r h d e=>by
  unfold I9 at h;exact nz)
instance c31(a:Int)(b:Ao)(c:d6):Ct prog (JA a b c) 31 [eI a,.pt (C2 b).cells,.pt (Am c).cells] (fun r=>.sh (eB r)):=Fj f31 0xb85d6c03dcb402c6 [] [.tmp 4] (h:=fun r h d e=>by
  unfold JA at h;exact nz)
instance c28(g:d6)(a:Ao):Ct prog (FW g a) 28 [Am g,.pt (C2 a).cells] (fun r=>.sh (J1 r)):=Fj f28 0xf30e1010380dc9de [] [.cell 3 (some 4)] (h:=fun r h b c=>by
  unfold FW at h;exact nz)
instance c32(l:Fp)(a:Fp):Ct prog (DF l a) 32 [lI l,lI a] (fun r=>.own (lI r)):=Fj f32 0x8202dadb050005d5bdbee802fcda65db05000597d9c001406902 [] [.tmp 4] (h:=fun r h d e=>by
  unfold DF at h;have:HA 0 10 9 0 fun(b:Int)(c:Fp)=>[(5,.ow (lI c)),(10,.tv (eI b))]:=⟨⟩;exact nz)
instance c8(t:AC)(a:Ao)(d:Ai):Ct prog (Gm t a d) 8 [AO t,C2 a,C1 d] (fun r=>.tp [C1 r.1,C1 r.2.1,eI r.2.2]):=Fj f8 0x76023b81caca2644264455caca01164616f0ca14c9bc6e6e1f42cb381311107603069e9d9c1311100e76030ad5e60141b3be5da5d7772442e34132fc131110760306659e9d9c1311100e76030a9701c50b775aaa77f71311100e097603087f7e7d1311100e0976030bd5e65ab3be5da5a26c2442045a32fc1311100e09760308657f7e7d1311100e0976030b9701c50bfdaa6cf7035012c93f3f0e775a19427722420efd19426c224255caca01164616468531a7194b02490ec911bccb38a9caca01164616468531ca14c9bc6e6e1c42cb38b912c9184602460ed7775a19420ea2fd1942f3f30dc90dc90ff1066a0ff1aa5f1055caca16461646cf2644a9caca01164616f0194b0ec9bccb3838194b0ec9cbb314c914c9f2 [.Aaj [.w 106,.w 114],.Aaj [.g 115 0 2,.g 115 1 2,.z ⟨true,.list 1 []⟩]] [.cell 6 (some 38),.cell 7 (some 38),.tmp 8] (h:=fun r h i j=>by
  unfold Gm at h;have:HA 0 127 126 0 fun(f:Int)(c:AJ)=>[(19,.bx [⟨true,lI c.d7.d4⟩,⟨true,lI c.d7.d5⟩,⟨true,lI c.gn⟩]),(127,.tv (eI f))]:=⟨⟩;have:HA 2 158 157 0 fun(e:Int)(b:AJ)=>[(19,.bx [⟨true,lI b.d7.d4⟩,⟨true,lI b.d7.d5⟩,⟨true,lI b.gn⟩]),(158,.tv (eI e))]:=⟨⟩;exact nz)
end Go.Sf.Sc
