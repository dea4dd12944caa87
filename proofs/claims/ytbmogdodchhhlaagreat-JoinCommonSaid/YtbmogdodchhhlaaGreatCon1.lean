/- Contracts of the functions. -/
import Derived.Test.YtbmogdodchhhlaaGreatCon0
import Derived.Test.YtbmogdodchhhlaaGreatTryzShelf
import Derived.Test.YtbmogdodchhhlaaGreatTw
set_option linter.all false
set_option maxRecDepth 100000
set_option maxHeartbeats 4000000
namespace Go.Sf.Sc
open Go Go.Sf Go.Proofs.Tryz
instance px(a:AF)(b:AF):Ct prog (DO a b) 17 [BH a,BH b] (fun r=>.sh (eB r)):=Fj f17 0xf93fa6edb8f2f26acccc0196 [.call 31 [.s 23,.s 25,.c (.sR 15 [])]] [.tmp 4] (h:=fun r h d e=>by
  unfold DO at h;exact nz)
instance c6(a:AT)(b:AT):Ct prog (CT a b) 6 [Bp a,Bp b] (fun r=>.tp [Dw r.1,eI r.2]):=Fj f6 0x817e36080402585708e806b6585708e806585708e806f44a0176defbcfc38d7d2242558d7d2242cd08040261585708e8068c75e8053d3c75e807b63d3c75e8073d3c75e807f44a3201defb32c38d6c2242558d6c2242cd75e805613d3c75e8078c00c937e346c3f37d227680f37d227680f36c227680f36c2276a1621c42621c428c0b31711c420b6c381c425ec996 [] [.cell 4 (some 2),.tmp 5] (h:=fun r h g i=>by
  unfold CT at h;have:HA 0 61 60 0 fun(f:Int)(c:At)=>[(8,.bx [⟨true,lI c.ff⟩,⟨true,lI c.gt⟩]),(61,.tv (eI f))]:=⟨⟩;have:HA 2 88 87 0 fun(e:Int)(d:At)=>[(8,.bx [⟨true,lI d.ff⟩,⟨true,lI d.gt⟩]),(88,.tv (eI e))]:=⟨⟩;exact nz)
instance ol(c:Int):Ct prog (Jw c) 322 [Pp c] (fun r=>.sh (eB r)):=Fj f322 0xf980a93080a930e2 [] [.tmp 2] (h:=fun r h a b=>by
  unfold Jw at h;exact nz)
instance om(b:ByteArray)(c:Int->K1)(d:FuncId)(a:Fq)[g:∀(e:Int),Ct prog (c e) d (Pp e::a) (fun r=>.sh (eB r))]:Ct prog (GN b c) 323 [eS b,.sR d a] (fun r=>.sh (eI r)):=Fj f323 0x815501ff05bb605501ff8a0f1230a90ca9bb81f6 [] [.tmp 4] (h:=fun r h i j=>by
  unfold GN at h;have:HW 0 fun(f:Int)=>[(5,.tv (eI f))]:=⟨⟩;exact nz)
instance ot(c:Int):Ct prog (Iq c) 325 [Pp c] (fun r=>.sh (eB r)):=Fj f325 0x8180a930e2 [] [.tmp 2] (h:=fun r h a b=>by
  unfold Iq at h;exact nz)
instance oo(c:Int):Ct prog (NZ c) 324 [Pp c] (fun r=>.sh (eB r)):=Fj f324 0x818030b8300e30e2 [] [.tmp 2] (h:=fun r h a b=>by
  unfold NZ at h;exact nz)
instance pF(c:Int):Ct prog (KF c) 346 [Pp c] (fun r=>.sh (eB r)):=Fj f346 0x81803080a930e2 [] [.tmp 2] (h:=fun r h a b=>by
  unfold KF at h;exact nz)
instance ou(a:ByteArray):Ct prog (GJ a) 326 [eS a] (fun r=>.tp [eI r.1,eI r.2]):=Fj f326 0x8c05d98185d981c3120577050c555b3f0d77e2 [.call 323 [.s 6,.c (.sR 346 [])]] [.tmp 2,.tmp 3] (h:=fun r h b d=>by
  unfold GJ at h;exact nz)
instance ov(a:ByteArray):Ct prog (NY a) 327 [eS a] (fun r=>.sh (eB r)):=Fj f327 0x81b80d013f550c30e2 [.uS 1 [.c (.str ⟨#[45,62]⟩),.c (.str ⟨#[60,61]⟩),.c (.str ⟨#[62,61]⟩),.c (.str ⟨#[61,61]⟩),.c (.str ⟨#[33,61]⟩)]] [.tmp 2] (h:=fun r h b d=>by
  unfold NY at h;exact nz)
instance oI(a:ByteArray):Ct prog (IS a) 294 [eS a] (fun r=>.tp [eI r.1,eI r.2.1,eI r.2.2]):=Fj f294 0x818c73818c053f5b818c0e5b8c308c725b055b8cd98c653f5b0e5b8cd98c653f5b0e5b123030e2 [.call 323 [.s 15,.c (.sR 324 [])],.call 323 [.s 23,.c (.sR 325 [])],.call 328 [.c (.str ⟨#[123,125,40,41,91,93,44,59,58,61,43,45,42,60,62,33,38,124,46,63]⟩),.s 42]] [.tmp 2,.tmp 3,.tmp 4] (h:=fun r h b d=>by
  unfold IS at h;exact nz)
instance m9(t:Db):Ct prog (HI t) 235 [Po t] (fun r=>.tp [eS r.1,eB r.2]):=Fj f235 0x8c800c778059a930818c1172d9bfbffbd704d7f43f3f01855981bc3fba [.mv (.c (.str ⟨#[]⟩)),.bin (.s) .add (.c (.str ⟨#[34]⟩)) (.s 13),.bin (.s) .add (.s 14) (.c (.str ⟨#[34]⟩)),.bin (.s) .eql (.s 16) (.c (.str ⟨#[]⟩)),.mv (.c (.str ⟨#[]⟩))] [.tmp 2,.tmp 3] (h:=fun r h b d=>by
  unfold HI at h;have:HJ 12 fun(a:ByteArray)=>[(4,.tv (eS a))]:=⟨⟩;exact nz)
instance ly(a:ByteArray):Ct prog (DG a) 176 [eS a] (fun r=>.sh (eB r)):=Fj f176 0x815b0172094630e2 [] [.tmp 2] (h:=fun r h b c=>by
  unfold DG at h;exact nz)
instance mt(m:Bn)(a:Bn):Ct prog (Lv m a) 228 [FT m,.pt (FT a).cells] (fun r=>.sh (eB r)):=Fj f228 0x8106599ddc [] [.tmp 3] (h:=fun r h b c=>by
  unfold Lv at h;exact nz)
abbrev Q_229(n:Nat):Prop:=∀(t:AB)(a:Int),Ct prog (Dk n t a) 229 [AO t,eI a] (fun r=>.tL 4 (List.map Fw r))
theorem ez(n:Nat)(_ih_229:Q_229 n)(t:AB)(a:Int):Ct prog (Dk (n+1) t a) 229 [AO t,eI a] (fun r=>.tL 4 (List.map Fw r)):=Fj f229 0x99044f9041049b591905b10305b1033c191aeb657d049b5904ce044edc [] [.tmp 4] (h:=fun r h c d=>by
  unfold Dk at h;have:HJ 14 fun(b:List ri)=>[(5,.xo 4 (List.map Fw b))]:=⟨⟩;exact nz)
theorem ey:∀n:Nat,Q_229 n:=by
  intro n
  induction n with
  |zero=>exact(fun t a=>⟨fun _ h=>by cases h⟩)
  |succ n b=>exact ez n b
instance mu(t:AB)(a:Int):Ct prog (Ir t a) 229 [AO t,eI a] (fun r=>.tL 4 (List.map Fw r)):=⟨fun r h=>by
  obtain ⟨N,b⟩:=CO h;exact((ey N) t a).snd r (b N (bk _))⟩
instance oF(y:ri)(a:ri):Ct prog (Ih y a) 291 [Fw y,.pt (Fw a).cells] (fun r=>.sh (eB r)):=Fj f291 0x8106599ddc [] [.tmp 3] (h:=fun r h b c=>by
  unfold Ih at h;exact nz)
instance oG(l:List ByteArray):Ct prog (HL l) 292 [lB l] (fun r=>.sh (eI r)):=Fj f292 0x9ee5080004b673810e3045308ca15b815cefe50800047facc130e2 [] [.tmp 2] (h:=fun r h b c=>by
  unfold HL at h;have:HA 0 10 9 0 fun(a:Int)(_:Unit)=>[(10,.tv (eI a))]:=⟨⟩;exact nz)
instance mw(b:ri)(a:List ri):Ct prog (EU b a) 230 [Fw b,lA a] (fun r=>.sh (eI r)):=Fj f230 0xac880106010601f48078d5a6555ac1d58180ed80a65a555a3789d573810e105b81a19ddc [] [.tmp 4] (h:=fun r h d e=>by
  unfold EU at h;have:HJ 40 fun(c:Bool)=>[(6,.tv (eB c))]:=⟨⟩;exact nz)
instance lv(t:AB)(a:Int):Ct prog (IV t a) 174 [AO t,eI a] (fun r=>.sh (eI r)):=Fj f174 0x9e070602ad89044530facbe7300706028178d50bd9c101820eeb738178d58c80015a555a8c0e10044501598ca159053d044b05c9fa9b9ddc [] [.tmp 4] (h:=fun r h c d=>by
  unfold IV at h;have:HA 1 7 6 0 fun(b:Int)(_:Unit)=>[(7,.tv (eI b))]:=⟨⟩;exact nz)
instance my(n:Int)(a:AB):Ct prog (Jx n a) 231 [eI n,.pt (AO a).cells] (fun r=>.sh (eB r)):=Fj f231 0xf97859a9df [] [.tmp 3] (h:=fun r h b c=>by
  unfold Jx at h;exact nz)
instance m7(y:Bv)(a:Bv):Ct prog (Lu y a) 233 [FR y,.pt (FR a).cells] (fun r=>.sh (eB r)):=Fj f233 0x8106599ddc [] [.tmp 3] (h:=fun r h b c=>by
  unfold Lu at h;exact nz)
instance m8(b:Int)(a:Int):Ct prog (I0 b a) 234 [eI b,eI a] (fun r=>.sh (eB r)):=Fj f234 0xf90a80a977053080a9df [] [.tmp 4] (h:=fun r h c d=>by
  unfold I0 at h;exact nz)
instance lw(t:AB)(a:Int):Ct prog (IT t a) 175 [AO t,eI a] (fun r=>.sh (eI r)):=Fj f175 0x81731901f40aa103d8030576a103d1d5195b0a080fa630080f5a5b810e100745015a8ca1598110053d074b06c90744079bbcdc [] [.tmp 4] (h:=fun r h c d=>by
  unfold IT at h;have:HJ 25 fun(b:Bool)=>[(25,.tv (eB b))]:=⟨⟩;exact nz)
instance ki(t:AB):Ct prog (Cw t) 127 [AO t] (fun r=>.tp [eS r.1,eI r.2]):=Fj f127 0x81bf002e2d2cfbc5cd59650eeb074b8106c907440743ef2e2d2cfbd0cf301d1c1bfbc5cd59650eeb044bd6c9fa4377611d1c1bfbd03273bff9785a55f781bf81789d3fba [.mv (.c (.str ⟨#[]⟩)),.mv (.c (.str ⟨#[]⟩)),.mv (.c (.str ⟨#[]⟩)),.mv (.c (.str ⟨#[]⟩))] [.tmp 2,.tmp 3] (h:=fun r h d e=>by
  unfold Cw at h;have:HA 1 29 28 0 fun(a:Int)(_:Unit)=>[(29,.tv (eI a))]:=⟨⟩;have:HA 3 46 45 0 fun(b:Int)(_:Unit)=>[(46,.tv (eI b))]:=⟨⟩;exact nz)
instance mE(n:Int)(a:Int):Ct prog (F7 n a) 188 [eI n,eI a] (fun r=>.sh (eB r)):=Fj f188 0x81807705df [] [.tmp 4] (h:=fun r h b c=>by
  unfold F7 at h;exact nz)
instance mC(t:Int):Ct prog (Kn t) 187 [eI t] (fun r=>.sh (eB r)):=Fj f187 0x81a130e2 [] [.tmp 2] (h:=fun r h a b=>by
  unfold Kn at h;exact nz)
instance mH(e:Bh)(a:Int):Ct prog (M9 e a) 191 [BN e,eI a] (fun r=>.sh (eB r)):=Fj f191 0x81b80501edb805015a6a9ddc [] [.tmp 4] (h:=fun r h b c=>by
  unfold M9 at h;exact nz)
instance mG(e:Bh)(a:fq):Ct prog (Ko e a) 190 [BN e,.pt (Am a).cells] (fun r=>.sh (eB r)):=Fj f190 0x81a1f76201dc [] [.tmp 3] (h:=fun r h b c=>by
  unfold Ko at h;exact nz)
instance ku(g:fq):Ct prog (Cf g) 133 [Am g] (fun r=>.sh (eI r)):=Fj f133 0xac8e105a37bf5937ca5a550b9dba [.call 52 [.s 14,.c (.sR 187 [])]] [.tmp 2] (h:=fun r h a b=>by
  unfold Cf at h;exact nz)
instance nA(n:Int)(a:AB):Ct prog (Ia n a) 236 [eI n,.pt (AO a).cells] (fun r=>.sh (eB r)):=Fj f236 0x817859df [] [.tmp 3] (h:=fun r h b c=>by
  unfold Ia at h;exact nz)
instance nB(a:Bh)(b:AB):Ct prog (Ib a b) 237 [BN a,.pt (AO b).cells] (fun r=>.sh (eB r)):=Fj f237 0x81785a9ddc [] [.tmp 3] (h:=fun r h c d=>by
  unfold Ib at h;exact nz)
instance nC(n:Int)(b:Int)(a:Int):Ct prog (Cr n b a) 238 [eI n,eI b,eI a] (fun r=>.sh (eB r)):=Fj f238 0x818077057702bb [] [.tmp 6] (h:=fun r h c d=>by
  unfold Cr at h;exact nz)
instance oV(a:Int)(b:AB):Ct prog (Kz a b) 305 [eI a,.pt (AO b).cells] (fun r=>.sh (eB r)):=Fj f305 0xf97859a9df [] [.tmp 3] (h:=fun r h c d=>by
  unfold Kz at h;exact nz)
instance nQ(t:AB)(l:Fp):Ct prog (Es t l) 252 [AO t,lI l] (fun r=>.sh (eI r)):=Fj f252 0xac8e10d9740172b2dc [] [.tmp 4] (h:=fun r h a b=>by
  unfold Es at h;exact nz)
instance mq(t:AB)(a:Int):Ct prog (DZ t a) 224 [AO t,eI a] (fun r=>.tp [lA r.1,eI r.2]):=Fj f224 0xe918070115140703b6014d0354044c0e170354044cf8f8cd07db15140703819514991a018404c089aa01b20440dc [] [.tmp 4,.tmp 5] (h:=fun r h d e=>by
  unfold DZ at h;have:HA 0 21 20 0 fun(c:Int)(b:List ri)=>[(7,.xo 4 (List.map Fw b)),(21,.tv (eI c))]:=⟨⟩;have:HS 31:=⟨⟩;have:HX 33 fun(a:ri)(v:List ByteArray)=>ri.mk a.sb a.uk a.tl v:=⟨⟩;exact nz)
instance nD(t:AB)(p:j0)(a:Bw):Ct prog (Et t p a) 239 [AO t,BI p,DI a] (fun r=>.tp [Fw r.1,eB r.2]):=Fj f239 0x81044bfa43bc37044b0a46be7801bcda5c59cc84044b0a46be78cc9d07c9fd [] [.cell 6 (some 4),.tmp 7] (h:=fun r h b c=>by
  unfold Et at h;exact nz)
instance ox(n:Int)(t:rg):Ct prog (HZ n t) 329 [eI n,K8 t] (fun r=>.sh (eB r)):=Fj f329 0x8180bc80bc800159559dba01 [] [.tmp 4] (h:=fun r h a b=>by
  unfold HZ at h;exact nz)
instance oJ(n:Int)(a:Test):Ct prog (J4 n a) 295 [eI n,Dh a] (fun r=>.sh (eI r)):=Fj f295 0x8173f9a136034230a1b2425b818059559dba01 [] [.tmp 4] (h:=fun r h b c=>by
  unfold J4 at h;exact nz)
instance nE(n:Int)(l:List Test):Ct prog (I3 n l) 240 [eI n,lT l] (fun r=>.sh (eI r)):=Fj f240 0x9ed3110004c5899f554b0cc99f05430061d31100047facc1d9c3a9df [] [.tmp 4] (h:=fun r h b c=>by
  unfold I3 at h;have:HA 0 19 18 0 fun(a:Int)(_:Unit)=>[(19,.tv (eI a))]:=⟨⟩;exact nz)
instance lz(t:AB)(p:j0):Ct prog (Cj t p) 177 [AO t,BI p] (fun r=>.sh (eI r)):=Fj f177 0xaca014378903d1d5085d3c3b3a085d06b63c3b3a085d063c3b3a085d06f4f56cb514856cb5378aa17d02760aa105d56c0276085b044b074972e49f36044b08c9fa43085d613c3b3a085d06d0b5993fd537ca03d1550ba637bed5378a0e10f26a10cc3789b737740172b296 [.uv 1 [.bool false] (.s 55)] [.tmp 4] (h:=fun r h c d=>by
  unfold Cj at h;have:HA 0 60 59 0 fun(b:Int)(a:a5)=>[(8,.xo 1 (List.map eB a)),(60,.tv (eI b))]:=⟨⟩;exact nz)
instance oL(n:Int)(a:AB):Ct prog (Ln n a) 297 [eI n,.pt (AO a).cells] (fun r=>.sh (eB r)):=Fj f297 0x817859df [] [.tmp 3] (h:=fun r h b c=>by
  unfold Ln at h;exact nz)
instance oM(a:Bh)(b:AB):Ct prog (Lp a b) 298 [BN a,.pt (AO b).cells] (fun r=>.sh (eB r)):=Fj f298 0x81785a9ddc [] [.tmp 3] (h:=fun r h c d=>by
  unfold Lp at h;exact nz)
instance nG(t:AB)(g:fq):Ct prog (IN t g) 242 [AO t,Am g] (fun r=>.sh (eB r)):=Fj f242 0xf9a110bca1109d96 [] [.tmp 4] (h:=fun r h a b=>by
  unfold IN at h;exact nz)
instance oQ(y:Bw)(a:Bw):Ct prog (MZ y a) 300 [DI y,.pt (DI a).cells] (fun r=>.sh (eB r)):=Fj f300 0x81805a5a55599ddc [] [.tmp 3] (h:=fun r h b c=>by
  unfold MZ at h;exact nz)
instance nH(t:AB)(a:o4)(b:Int):Ct prog (JJ t a b) 243 [AO t,CH a,eI b] (fun r=>.sh (eI r)):=Fj f243 0xac8e100445015d41d837c3bc80bc809041d89d809d0a78015a555a7e12c9360276da5c596c38d884ca6c38d8595559073d044b08c9fa9b5d4106765fb1 [] [.tmp 6] (h:=fun r h c d=>by
  unfold JJ at h;exact nz)
instance l3(t:AB)(a:o4):Ct prog (IM t a) 178 [AO t,CH a] (fun r=>.sh (eI r)):=Fj f178 0x9e2f2e5d04c58901e13681ef2f2e5d047f5d41d87381785d41d88c0a78030441d8559041cf9041d88ca1f1d88489f1067696 [] [.tmp 4] (h:=fun r h c d=>by
  unfold IM at h;have:HA 1 47 46 0 fun(b:Int)(_:Unit)=>[(47,.tv (eI b))]:=⟨⟩;exact nz)
instance pA(l:Fp)(n:Int):Ct prog (Iz l n) 342 [lI l,eI n] (fun r=>.sh (eI r)):=Fj f342 0x9e09755e05c5c35c0530a9d9c377055b815cef09755e057f81f6 [] [.tmp 4] (h:=fun r h b c=>by
  unfold Iz at h;have:HA 0 9 8 0 fun(a:Int)(_:Unit)=>[(9,.tv (eI a))]:=⟨⟩;exact nz)
instance pB(l:Fp)(n:Int):Ct prog (Jv l n) 343 [lI l,eI n] (fun r=>.sh (eB r)):=Fj f343 0x815b017230f6 [] [.tmp 4] (h:=fun r h a b=>by
  unfold Jv at h;exact nz)
instance oe(g:fq)(p:At):Ct prog (Ky g p) 318 [Am g,Dw p] (fun r=>.sh (eI r)):=Fj f318 0x9e1e1d1c5d05c58aa15d41039b5a9da17d039b5a59815c00611e1d1c5d05d0cf37890b5a5a3789f79d96 [] [.tmp 4] (h:=fun r h b c=>by
  unfold Ky at h;have:HA 0 30 29 0 fun(a:Int)(_:Unit)=>[(30,.tv (eI a))]:=⟨⟩;exact nz)
instance ny(g:fq)(p:At):Ct prog (D8 g p) 280 [Am g,Dw p] (fun r=>.sh (eI r)):=Fj f280 0x810e368489b296 [] [.tmp 4] (h:=fun r h a b=>by
  unfold D8 at h;exact nz)
instance nI(g:fq)(p:At):Ct prog (D7 g p) 244 [Am g,Dw p] (fun r=>.tp [Am r.1,An r.2.1,eI r.2.2]):=Fj f244 0x70023b817e7e0d460e5a0e593608c4042b2a2908705d08b6014acf03480347620401764ab572a69d4acf725a59a2fc9b5a815c08c404612b2a2908705d08d0cf08705d0519181708705d08b6014a3201de8d590432815c08705d056119181708705d08d03203c9377e7e5e460bee0ea55ec903c996 [] [.cell 4 (some 2),.cell 5 (some 2),.tmp 6] (h:=fun r h e f=>by
  unfold D7 at h;have:HA 0 25 24 0 fun(d:Int)(a:fq)=>[(8,.bx [⟨true,lI a.ff⟩,⟨true,lE a.gt⟩]),(25,.tv (eI d))]:=⟨⟩;have:HA 2 43 42 0 fun(c:Int)(b:fq)=>[(8,.bx [⟨true,lI b.ff⟩,⟨true,lE b.gt⟩]),(43,.tv (eI c))]:=⟨⟩;exact nz)
instance nJ(a:fq)(b:fq)(m:hT):Ct prog (Cz a b m) 245 [Am a,Am b,An m] (fun r=>.sh (eI r)):=Fj f245 0x9e494847c406c5c3a65ca659555a5c5a593785eaa2a2e6fc9b5abd9b5a37ca5aa95b815cef494847c406d0cf70902c2b2ac406c5858d598d5937ca59a95b815c550490612c2b2ac406d03237ca5a0b5a55f7f737898489b2fd [] [.tmp 6] (h:=fun r h e f=>by
  unfold Cz at h;have:HA 0 44 43 0 fun(d:Int)(_:Unit)=>[(44,.tv (eI d))]:=⟨⟩;have:HA 2 73 72 0 fun(c:Int)(_:Unit)=>[(73,.tv (eI c))]:=⟨⟩;exact nz)
instance oR(l:Fp):Ct prog (Hh l) 301 [lI l] (fun r=>.sh (eI r)):=Fj f301 0x81152a142914991a30e2 [] [.tmp 2] (h:=fun r h a b=>by
  unfold Hh at h;exact nz)
instance nK(a:fq)(b:fq)(m:hT):Ct prog (Cv a b m) 246 [Am a,Am b,An m] (fun r=>.sh (eB r)):=Fj f246 0xf9785a0ebc0a78590e59550e36a501fd [] [.tmp 6] (h:=fun r h c d=>by
  unfold Cv at h;exact nz)
instance l4(a:o4):Ct prog (JI a) 179 [CH a] (fun r=>.sh (eI r)):=Fj f179 0xacbe360d42f1d88489360d42f1d884747ee34903c91172360b42f10176ba [] [.tmp 2] (h:=fun r h b c=>by
  unfold JI at h;exact nz)
instance nL(l:Fp)(n:Int):Ct prog (KY l n) 247 [lI l,eI n] (fun r=>.own (lI r)):=Fj f247 0x8202050175050004b675050004750500043cb1ded7be308155db750500048c01c001405e02 [] [.tmp 4] (h:=fun r h c d=>by
  unfold KY at h;have:HA 0 8 7 0 fun(b:Int)(a:Fp)=>[(5,.ow (lI a)),(8,.tv (eI b))]:=⟨⟩;exact nz)
instance l5(a:o4):Ct prog (Ll a) 180 [CH a] (fun r=>.tp [lI r.1,lI r.2]):=Fj f180 0x82820e0b3171d87d0d420e0b6c38d86c0d76400140ba [] [.tmp 2,.tmp 3] (h:=fun r h b c=>by
  unfold Ll at h;exact nz)
instance nM(a:Int)(b:AB)(c:fq):Ct prog (KC a b c) 248 [eI a,.pt (AO b).cells,.pt (Am c).cells] (fun r=>.sh (eB r)):=Fj f248 0x815d4104438d599d02bb [] [.tmp 4] (h:=fun r h d e=>by
  unfold KC at h;exact nz)
instance oW(t:AB)(a:Int):Ct prog (IU t a) 306 [AO t,eI a] (fun r=>.own (lI r)):=Fj f306 0x821829140555b103f47d049b59ff19014faa011905db55b131ce0140dc [] [.tmp 4] (h:=fun r h c d=>by
  unfold IU at h;have:HW 0 fun(b:Int×Fp)=>[(1,.tv (eI b.1)),(5,.xo 1 (List.map eI b.2))]:=⟨⟩;exact nz)
instance nR(t:AB)(a:Int)(b:Int):Ct prog (Hy t a b) 253 [AO t,eI a,eI b] (fun r=>.sh (eB r)):=Fj f253 0x810e6a01b293b102 [] [.tmp 6] (h:=fun r h c d=>by
  unfold Hy at h;exact nz)
instance l9(t:AB)(b:Int)(a:Int)(c:Int):Ct prog (Gr t b a c) 184 [AO t,eI b,eI a,eI c] (fun r=>.sh (eB r)):=Fj f184 0x81b85d41079bbc366a7d079bbc84ca5a3080a90eaa30b2935d0103 [] [.tmp 8] (h:=fun r h d e=>by
  unfold Gr at h;exact nz)
instance nN(a:Int)(b:fq)(c:AB):Ct prog (E1 a b c) 249 [eI a,.pt (Am b).cells,.pt (AO c).cells] (fun r=>.sh (eB r)):=Fj f249 0x81a15ca6595c5aea36a2fc9bbc02bb [] [.tmp 4] (h:=fun r h d e=>by
  unfold E1 at h;exact nz)
instance l6(t:AB)(g:fq)(a:Fp)(b:Fp):Ct prog (GG t g a b) 181 [AO t,Am g,lI a,lI b] (fun r=>.sh (eB r)):=Fj f181 0xf9a11030a110305f5d02 [] [.tmp 8] (h:=fun r h c d=>by
  unfold GG at h;exact nz)
instance oz(c:hV):Ct prog (Eu c) 332 [AL c] (fun r=>.sh (eB r)):=Fj f332 0x8180d5557803d178a678f278cc787db50b6cb5b40ac99f0476ba [] [.tmp 2] (h:=fun r h a b=>by
  unfold Eu at h;exact nz)
abbrev vH(n:Nat):Prop:=∀(c:hV),Ct prog (BO n c) 302 [AL c] (fun r=>.sh (eB r))
abbrev vE(n:Nat):Prop:=∀(k:hV),Ct prog (BU n k) 334 [AL k] (fun r=>.sh (eB r))
theorem fC(n:Nat)(_ih_302:vH n)(_ih_334:vE n)(c:hV):Ct prog (BO (n+1) c) 302 [AL c] (fun r=>.sh (eB r)):=Fj f302 0xf9083f5a30ff04d704d7605b70d7f4b8a855011a09043105601a090431058170d7f4b8a8555b70d7f4b8a8555b0583328c0bbcba [.call 333 [.s 42,.c (.sR 334 [])]] [.tmp 2] (h:=fun r h b d=>by
  unfold BO at h;have:HJ 10 fun(a:Bool)=>[(4,.tv (eB a))]:=⟨⟩;exact nz)
theorem fI(n:Nat)(_ih_302:vH n)(_ih_334:vE n)(k:hV):Ct prog (BU (n+1) k) 334 [AL k] (fun r=>.sh (eB r)):=Fj f334 0x81a1a801ba [] [.tmp 2] (h:=fun r h a b=>by
  unfold BU at h;exact nz)
theorem Yy:∀n:Nat,vH n/\vE n:=by
  intro n
  induction n with
  |zero=>exact⟨(fun c=>⟨fun _ h=>by cases h⟩),(fun k=>⟨fun _ h=>by cases h⟩)⟩
  |succ n a=>exact⟨fC n a.1 a.2,fI n a.1 a.2⟩
instance oS(c:hV):Ct prog (Eg c) 302 [AL c] (fun r=>.sh (eB r)):=⟨fun r h=>by
  obtain ⟨N,a⟩:=CO h;exact((Yy N).1 c).snd r (a N (bk _))⟩
instance o5(k:hV):Ct prog (MN k) 334 [AL k] (fun r=>.sh (eB r)):=⟨fun r h=>by
  obtain ⟨N,a⟩:=CO h;exact((Yy N).2 k).snd r (a N (bk _))⟩
abbrev Q_303(n:Nat):Prop:=∀(c:hV),Ct prog (CC n c) 303 [AL c] (fun r=>.tp [eI r.1,eI r.2])
theorem fE(n:Nat)(_ih_303:Q_303 n)(c:hV):Ct prog (CC (n+1) c) 303 [AL c] (fun r=>.tp [eI r.1,eI r.2]):=Fj f303 0x8c30700270027c8559700103b30b700106b6302ca9308c72a8094b13c9a8094370010361b30b700106d0cf8c30ba [] [.tmp 2,.tmp 3] (h:=fun r h e f=>by
  unfold CC at h;have:HA 0 13 12 0 fun(d:Int)(a:Int×Int)=>[(4,.tv (eI a.1)),(5,.tv (eI a.2)),(13,.tv (eI d))]:=⟨⟩;have:HJ 31 fun(b:Int)=>[(5,.tv (eI b))]:=⟨⟩;exact nz)
theorem fD:∀n:Nat,Q_303 n:=by
  intro n
  induction n with
  |zero=>exact(fun c=>⟨fun _ h=>by cases h⟩)
  |succ n a=>exact fE n a
instance oT(c:hV):Ct prog (Fv c) 303 [AL c] (fun r=>.tp [eI r.1,eI r.2]):=⟨fun r h=>by
  obtain ⟨N,a⟩:=CO h;exact((fD N) c).snd r (a N (bk _))⟩
instance nO(c:hV):Ct prog (EO c) 250 [AL c] (fun r=>.sh (eI r)):=Fj f250 0xacc3a95b8172a837bea801ba [] [.tmp 2] (h:=fun r h a b=>by
  unfold EO at h;exact nz)
instance o6(a:Bw)(b:Int):Ct prog (HO a b) 335 [DI a,.pt [eI b]] (fun r=>.sh (eB r)):=Fj f335 0xd6036c0276dc [] [.tmp 3] (h:=fun r h c d=>by
  unfold HO at h;exact nz)
instance oU(t:AB)(q:j0)(a:Int):Ct prog (Dn t q a) 304 [AO t,BI q,eI a] (fun r=>.sh (eI r)):=Fj f304 0x9e7504033c083d014b05314b1449837301be10a60061d503750403083d014b14c9d9899fb25fb1 [] [.tmp 6] (h:=fun r h c d=>by
  unfold Dn at h;have:HW 0 fun(b:Int)=>[(8,.tv (.pt [eI b]))]:=⟨⟩;exact nz)
abbrev Q_251(n:Nat):Prop:=∀(t:AB)(p:j0)(c:hV),Ct prog (B4 n t p c) 251 [AO t,BI p,AL c] (fun r=>.sh (eI r))
theorem fA(n:Nat)(_ih_251:Q_251 n)(t:AB)(p:j0)(c:hV):Ct prog (B4 (n+1) t p c) 251 [AO t,BI p,AL c] (fun r=>.sh (eI r)):=Fj f251 0x9e353433040305c589a89f36094b13c9a809430061353433040305d0cf709070903cb49f37be36b5b7b7378936b5b7b73789d59f8485d5d5b40ac99fd1859d93bfba [.uJ (.s 1)] [.tmp 6] (h:=fun r h b d=>by
  unfold B4 at h;have:HA 0 53 52 0 fun(a:Int)(_:Unit)=>[(53,.tv (eI a))]:=⟨⟩;exact nz)
theorem e8:∀n:Nat,Q_251 n:=by
  intro n
  induction n with
  |zero=>exact(fun t p c=>⟨fun _ h=>by cases h⟩)
  |succ n a=>exact fA n a
instance nP(t:AB)(p:j0)(c:hV):Ct prog (GW t p c) 251 [AO t,BI p,AL c] (fun r=>.sh (eI r)):=⟨fun r h=>by
  obtain ⟨N,a⟩:=CO h;exact((e8 N) t p c).snd r (a N (bk _))⟩
instance l7(t:AB)(p:j0)(c:hV):Ct prog (Dg t p c) 182 [AO t,BI p,AL c] (fun r=>.sh (eI r)):=Fj f182 0x810ea89f8489a837899fb2fd [] [.tmp 6] (h:=fun r h a b=>by
  unfold Dg at h;exact nz)
instance kj(t:AB)(a:o4):Ct prog (Gi t a) 128 [AO t,CH a] (fun r=>.sh (eI r)):=Fj f128 0x810ea810429fcf84be30f1d83682dae13789e13789e184899fcf84be5937740172b296 [] [.tmp 4] (h:=fun r h b c=>by
  unfold Gi at h;exact nz)
instance l8(t:AB)(a:Int)(b:Fp):Ct prog (I7 t a b) 183 [AO t,eI a,lI b] (fun r=>.sh (eI r)):=Fj f183 0x9e2322210204c5c3a65c77055ab9044b8107c9fa43ef23222102047facc1f330da0184830241049b5937c1593093b102 [] [.tmp 6] (h:=fun r h d e=>by
  unfold I7 at h;have:HA 0 35 34 0 fun(c:Int)(_:Unit)=>[(35,.tv (eI c))]:=⟨⟩;exact nz)
instance kl(t:AB)(a:AF):Ct prog (Eh t a) 129 [AO t,BH a] (fun r=>.tp [eI r.1,eI r.2]):=Fj f129 0x8c003e3d3c5d05c5cdbe5ca6cc5c5acc5984cdc15a59a281fc43ef3e3d3c5d05d00141325d022827265d05c58130650e8ded368c8d5d02612827265d05d038323781c1cc0ba6378189b73781740172363096 [] [.tmp 4,.tmp 5] (h:=fun r h d e=>by
  unfold Eh at h;have:HA 0 40 39 0 fun(c:Int)(_:Unit)=>[(40,.tv (eI c))]:=⟨⟩;have:HA 2 62 61 0 fun(b:Int)(_:Unit)=>[(62,.tv (eI b))]:=⟨⟩;exact nz)
instance rN(t:AB)(a:List o4)(b:AF):Ct prog (D0 t a b) 85 [AO t,(eL 25 CH) a,BH b] (fun r=>.sh (eI r)):=Fj f85 0x815b01726236055d1b1a19050305c589e136194b02c9e11943055d611b1a190503057facc1d9740172b25f30 [] [.tmp 6] (h:=fun r h d e=>by
  unfold D0 at h;have:HA 0 27 26 0 fun(c:Int)(_:Unit)=>[(27,.tv (eI c))]:=⟨⟩;exact nz)
instance kY(t:AB)(a:o4)(b:AF):Ct prog (Gq t a b) 119 [AO t,CH a,BH b] (fun r=>.sh (eI r)):=Fj f119 0x815b0172628489e184740172b2fd [] [.tmp 6] (h:=fun r h c d=>by
  unfold Gq at h;exact nz)
instance oY(n:Int)(a:AB):Ct prog (Jr n a) 308 [eI n,.pt (AO a).cells] (fun r=>.sh (eB r)):=Fj f308 0x817859df [] [.tmp 3] (h:=fun r h b c=>by
  unfold Jr at h;exact nz)
instance oZ(a:Bh)(b:AB):Ct prog (Js a b) 309 [BN a,.pt (AO b).cells] (fun r=>.sh (eB r)):=Fj f309 0x81785a9ddc [] [.tmp 3] (h:=fun r h c d=>by
  unfold Js at h;exact nz)
instance np(t:AB)(g:fq):Ct prog (Ea t g) 271 [AO t,Am g] (fun r=>.sh (eB r)):=Fj f271 0xf9a110bca1109d96 [] [.tmp 4] (h:=fun r h a b=>by
  unfold Ea at h;exact nz)
instance mZ(t:AB)(p:fq)(g:fq):Ct prog (Dj t p g) 209 [AO t,Am p,Am g] (fun r=>.sh (eI r)):=Fj f209 0xac8aa1a501a1a57090181716c406c589367e03c9360243709061181716c4067f02c73684740172b2fd [] [.tmp 6] (h:=fun r h b c=>by
  unfold Dj at h;have:HA 0 24 23 0 fun(a:Int)(_:Unit)=>[(24,.tv (eI a))]:=⟨⟩;exact nz)
instance od(t:AB)(a:Int):Ct prog (HK t a) 317 [AO t,eI a] (fun r=>.tp [lI r.1,eI r.2]):=Fj f317 0xe9020701d3070255b6d3070255d30702553cb1ded78e3036cd07dbd30702557f9dc03701c089aaeb3040dc [] [.tmp 4,.tmp 5] (h:=fun r h d e=>by
  unfold HK at h;have:HA 0 19 18 0 fun(c:Int)(b:Fp)=>[(7,.ow (lI b)),(19,.tv (eI c))]:=⟨⟩;exact nz)
instance nx(t:AB):Ct prog (E7 t) 279 [AO t] (fun r=>.own ((eL 1 (eL 1 eB)) r)):=Fj f279 0x820231b33104b6b1de1802b30531051c1b1ab3053108b601f5f8815cb3053105611c1b1ab30531087fcddaeb993ff7cd3161b331047f9dc00140ba [.uv 1 [.bool false] (.s 18)] [.tmp 2] (h:=fun r h e f=>by
  unfold E7 at h;have:HA 0 13 12 0 fun(c:Int)(a:List a5)=>[(3,.ow ((eL 1 (eL 1 eB)) a)),(13,.tv (eI c))]:=⟨⟩;have:HA 2 28 27 0 fun(b:Int)(d:a5)=>[(5,.xo 1 (List.map eB d)),(28,.tv (eI b))]:=⟨⟩;exact nz)
instance mf(t:AB)(p:fq)(g:fq)(m:hT):Ct prog (E8 t p g m) 215 [AO t,Am p,Am g,An m] (fun r=>.sh (eI r)):=Fj f215 0x9e474645fe06c5c3a65ca659555a5c5a593785eaa2a2e6fc9b5abd9b5a37ca5aa95b815cef474645fe06d0cffe0325242309fe07c5885c8d595c8d9d37ca59a95b818dfe036125242309fe07d032820e84ca5a0b5a55f70b9d5f96 [] [.tmp 8] (h:=fun r h c d=>by
  unfold E8 at h;have:HA 0 37 36 0 fun(b:Int)(_:Unit)=>[(37,.tv (eI b))]:=⟨⟩;have:HA 2 71 70 0 fun(a:Int)(_:Unit)=>[(71,.tv (eI a))]:=⟨⟩;exact nz)
theorem jA(l:Fp)(r:Bool)(h:Hx l=some r):AJ prog 278 [lI l] (.sh (eB r)):=by
  unfold Hx at h;rw[<-Yo]at h;split at h
  · rename_i a
    cases h;exact Te l a
  .cases h
instance pU(l:Fp):Ct Go.Proofs.Tryz.prog (Hx l) 278 [lI l] (fun r=>.sh (eB r)):=⟨jA l⟩
instance md(t:AB)(p:fq)(g:fq)(m:hT)(a:Bool):Ct prog (EH t p g m a) 213 [AO t,Am p,Am g,An m,eB a] (fun r=>.sh (eI r)):=Fj f213 0xac8ab85a6a5930378936a5848936a5015f5f0401 [] [.tmp 10] (h:=fun r h b c=>by
  unfold EH at h;exact nz)
instance lc(t:AB)(p:j0)(a:AF):Ct prog (De t p a) 159 [AO t,BI p,BH a] (fun r=>.sh (eI r)):=Fj f159 0x815b01726284899fb2fd [] [.tmp 6] (h:=fun r h b c=>by
  unfold De at h;exact nz)
instance mb(a:rg)(b:Fp):Ct prog (FP a b) 211 [K8 a,lI b] (fun r=>.sh (eI r)):=Fj f211 0xd65a5c9d375a859ddc [] [.tmp 4] (h:=fun r h c d=>by
  unfold FP at h;exact nz)
instance nt(a:Int)(b:Int):Ct prog (Ha a b) 274 [eI a,eI b] (fun r=>.tp [eI r.1,HP r.2]):=Fj f274 0x8c553f553f013f5b816b01283f013f30f6 [.vp .u64 (.s 9),.vp .u64 (.s 11),.bin (.w) .shr (.s 16) (.c (.int .u64 63)),.bin (.w) .shr (.s 18) (.c (.int .u64 63)),.vp .i64 (.s 21)] [.tmp 4,.tmp 5] (h:=fun r h d e=>by
  unfold Ha at h;exact nz)
instance ns(t:rg)(a:Fp):Ct prog (FQ t a) 273 [K8 t,.pt [lI a]] (fun r=>.tp [eI r.1,HP r.2.1,eB r.2.2]):=Fj f273 0x818c308c725a5c590373818c0a7803595559818c308c725ad65977dc [] [.tmp 3,.tmp 4,.tmp 5] (h:=fun r h b c=>by
  unfold FQ at h;exact nz)
instance mc(a:Test)(b:Fp):Ct prog (GZ a b) 212 [Dh a,lI b] (fun r=>.sh (eB r)):=Fj f212 0xf980a99d80a959810eaa0e300e30378a0830085b8c116b010f3603425b8c116b010fb2425b100196 [] [.tmp 4] (h:=fun r h c d=>by
  unfold GZ at h;exact nz)
instance lg(p:j0)(a:AF)(m:hT):Ct prog (HU p a m) 161 [BI p,BH a,An m] (fun r=>.tp [lI r.1,eI r.2]):=Fj f161 0xe91808d44b4a0804c501c08820149fb40cc99f054308db4c4b4a0804d0d1085d1918170908c408c501c08501201436b51918170c0b0908c40a1918170c0b0908c40af4f501f5057db53014f88a0817d4f8555b6cb5815c5a5c5ceaa6044b08c9fa43085d611918170908c408d0b599993fd53fd53040fd [.uv 1 [.int .i64 0] (.s 17),.uv 1 [.bool false] (.s 20)] [.tmp 6,.tmp 7] (h:=fun r h e f=>by
  unfold HU at h;have:HA 0 25 24 0 fun(d:Int)(b:Fp×a5)=>[(8,.xo 1 (List.map eI b.1)),(9,.xo 1 (List.map eB b.2)),(25,.tv (eI d))]:=⟨⟩;have:HA 2 76 75 0 fun(c:Int)(_:Unit)=>[(76,.tv (eI c))]:=⟨⟩;exact nz)
instance me(t:AB)(p:j0)(a:AF)(m:hT):Ct prog (Dd t p a m) 214 [AO t,BI p,BH a,An m] (fun r=>.tp [lI r.1,eI r.2]):=Fj f214 0xe96b0e36629f3701c089a532b78401c089629f3630405f96 [] [.tmp 8,.tmp 9] (h:=fun r h b c=>by
  unfold Dd at h;exact nz)
instance lh(t:AB)(a:o4)(b:AF)(m:AM):Ct prog (GI t a b m) 162 [AO t,CH a,BH b,BC m] (fun r=>.sh (eI r)):=Fj f162 0xacbeed3774dab7629fcf84850e030f42b7b7f1cfb25f96 [] [.tmp 8] (h:=fun r h c d=>by
  unfold GI at h;exact nz)
instance li(t:AB)(p:fq)(g:fq)(m:hT):Ct prog (ES t p g m) 163 [AO t,Am p,Am g,An m] (fun r=>.tp [Am r.1,eI r.2]):=Fj f163 0x817e360c08022726250c080606b6014a3201de8d590432815c0c0802612726250c080606d032025003c93f0e5a377ef3ee0e36a5847ef3ee0e36a50103c95f96 [.sZ [.z ⟨true,.list 1 []⟩,.w 34]] [.cell 8 (some 2),.tmp 9] (h:=fun r h c d=>by
  unfold ES at h;have:HA 0 39 38 0 fun(b:Int)(a:fq)=>[(12,.bx [⟨true,lI a.ff⟩,⟨true,lE a.gt⟩]),(39,.tv (eI b))]:=⟨⟩;exact nz)
instance mg(a:Bb):Ct prog (CG a) 216 [FU a] (fun r=>.sh (eI r)):=Fj f216 0x810e36d1b7378936d836b5b701ba [] [.tmp 2] (h:=fun r h b c=>by
  unfold CG at h;exact nz)
instance n7(a:Fp)(b:Fp):Ct prog (GV a b) 281 [lI a,lI b] (fun r=>.own ((eL 2 L4) r)):=Fj f281 0x82020501e5055e05b6e5055e05e5fe5e07c8e5fe5e07e5fe5e073c0202480247054630028a0aa177a17705b9b9e5055e059130e5fe5e07d65b55dbe5055e057fd7c002405e02 [] [.tmp 4] (h:=fun r h g i=>by
  unfold GV at h;have:HA 0 10 9 0 fun(f:Int)(c:List I2)=>[(5,.ow ((eL 2 L4) c)),(10,.tv (eI f))]:=⟨⟩;have:HA 2 7 0 0 fun(e:Int)(d:List I2)=>[(5,.ow ((eL 2 L4) d)),(7,.tv (eI e))]:=⟨⟩;exact nz)
instance mh(a:Bb):Ct prog (Dc a) 217 [FU a] (fun r=>.tp [(eL 2 L4) r.1,(eL 2 L4) r.2]):=Fj f217 0x82820e7dd17dd80e6cd16cd802400240ba [] [.tmp 2,.tmp 3] (h:=fun r h b c=>by
  unfold Dc at h;exact nz)
instance n8(a:Bb):Ct prog (EC a) 282 [FU a] (fun r=>.own (lI r)):=Fj f282 0x820231e5083105b6e5083105e50831053cb1ded7be016cd18c8d3161e5083105d0380676c00140ba [] [.tmp 2] (h:=fun r h d e=>by
  unfold EC at h;have:HA 0 10 9 0 fun(c:Int)(b:Fp)=>[(3,.ow (lI b)),(10,.tv (eI c))]:=⟨⟩;exact nz)
instance mj(a:Bb):Ct prog (Dy a) 218 [FU a] (fun r=>.own (lI r)):=Fj f218 0x82020401b30b043106b6b30b043106b30b0431063cb1ded78ab8a6300e5a30a1017dd8a281fc9b04dbb30b043106d001410276c0820e08440140ba [] [.tmp 2] (h:=fun r h d e=>by
  unfold Dy at h;have:HA 0 13 12 0 fun(c:Int)(b:Fp)=>[(4,.ow (lI b)),(13,.tv (eI c))]:=⟨⟩;exact nz)
instance ml(n:Int)(a:Fp)(b:Fp):Ct prog (HV n a b) 219 [eI n,lI a,lI b] (fun r=>.own (lI r)):=Fj f219 0x82020a01201f1e0a04b6201f1e0a04201f1e0a043cb1ded7885b818d0adb201f1e0a047f9801c0070111100f070205b611100f07020511100f070205f4f5f8be308c8d07db11100f0702057f81993f304002bb [.uv 1 [.bool false] (.s 13)] [.tmp 6] (h:=fun r h g i=>by
  unfold HV at h;have:HA 0 17 16 0 fun(f:Int)(c:a5)=>[(7,.xo 1 (List.map eB c)),(17,.tv (eI f))]:=⟨⟩;have:HA 2 32 31 0 fun(e:Int)(d:Fp)=>[(10,.ow (lI d)),(32,.tv (eI e))]:=⟨⟩;exact nz)
instance lj(l:fq)(g:fq)(a:At)(m:hT):Ct prog (FE l g a m) 164 [Am l,Am g,Dw a,An m] (fun r=>.tp [Dw r.1,eI r.2]):=Fj f164 0x8013b817e0d460e5a5a0b5a0eeaf773e34681780e084481e346d678f30182da0844377e5eee0e0844084b15c91846a5a55ec95f96 [] [.cell 8 (some 2),.tmp 9] (h:=fun r h b c=>by
  unfold FE at h;exact nz)
instance n9(t:AB)(p:j0)(c:hV)(b:AF)(m:AM)(a:Bool):Ct prog (EN t p c b m a) 283 [AO t,BI p,AL c,BH b,BC m,eB a] (fun r=>.sh (eI r)):=Fj f283 0xacbeed3774dab7629f848901b7b7b784740172628489a89fb2935f5f0501 [] [.tmp 12] (h:=fun r h d e=>by
  unfold EN at h;exact nz)
instance pH(n:Int)(b:Fp)(a:Fp):Ct prog (GX n b a) 352 [eI n,lI b,lI a] (fun r=>.own (lI r)):=Fj f352 0x821807010f0e0d070205b601f55c77148c8d07db0f0e0d0702057f81991a3047014002bb [] [.tmp 6] (h:=fun r h e f=>by
  unfold GX at h;have:HA 0 15 14 0 fun(d:Int)(c:Fp)=>[(7,.xo 1 (List.map eI c)),(15,.tv (eI d))]:=⟨⟩;exact nz)
theorem fU:CK f337 (.seq (.region [⟨some 4,.mv (.c (.int .i64 0)),none⟩] [0,1])
 (.seq (.seq (.region [⟨some 5,.mv (.s 0),none⟩,
    ⟨some 6,.vn (.s 5),none⟩] [0,1,6])
  (.cond (.s 6) (.seq (.region [⟨some 4,.mv (.c (.int .i64 (-1))),none⟩] [4])
   (.ret))
  (.skip [0,1])))
 (.seq (.region [⟨some 7,.mv (.s 0),none⟩,
    ⟨some 8,.mv (.s 1),none⟩,
    ⟨some 9,.ur (.s 7) (.s 8) 1,none⟩,
    ⟨some 10,.ld (.s 9),none⟩,
    ⟨some 4,.mv (.s 10),none⟩] [4])
 (.ret)))) [.tmp 4]:=by decide +kernel
instance o7(l:Option Fp)(i:Int):Ct Go.Proofs.Tryz.prog (Lq l i) 337 [(eO 1 eI) l,eI i] (fun r=>.sh (eI r)):=Fi fU fun r h a b=>by
  cases l with
  |none=>replace h:some (-1)=some r:=h;exact au|some l=>replace h:((Uw l).bind fun _=>(idx l i).bind fun x=>some x)=some r:=h;exact au
instance o9(f:AV)(b:Int)(k:Int):Ct prog (EM f b k) 339 [.pt (Mi f).cells,eI b,eI k] (fun r=>.sh (eB r)):=Fj f339 0x813f0c465ca6030971015c5a0309710159bd9b7d0271d9c377055b0e017d057101a2fc9b3171383002bb [.bin (.a [0,0,0]) .eql (.s 38) (.s 57)] [.tmp 6] (h:=fun r h c d=>by
  unfold EM at h;exact nz)
instance o8(f:AV):Ct prog (Ee f) 338 [.pt (Mi f).cells] (fun r=>.sh (eB r)):=Fj f338 0x9e14d3ec056014d3ec0514d3ec058188f8d306ec06262514d30604ec09b6ff14d306ec06018e77cd14d306ec0661262514d30604ec097f7d02715bff14d3ec0585012ca65aa281fc43ef14d3ec05d00171385b7803097130e2 [] [.tmp 2] (h:=fun r h d e=>by
  unfold Ee at h;have:HA 0 20 19 0 fun(b:Int)(_:Unit)=>[(20,.tv (eI b))]:=⟨⟩;have:HA 2 38 37 0 fun(a:Int)(c:Bool)=>[(6,.tv (eB c)),(38,.tv (eI a))]:=⟨⟩;exact nz)
noncomputable def R9:PC:=PC.of OM f310.body (xq bT 0xffe2f44a0b71024802470d46201d0a97201d0997040b9732e2a4a306000460a4a3060004a4a30600043c1f0a710151011e0a97320052321f0a71014faa011e0a9732ffa4a30600048a0a20011d0a97010307970108203032815edba4a30600047f7d029781151d0a97817831713832151d0a97e23f3e3d020005603f3e3d0200053f3e3d0200053c1f09710151011e0997323f3e3d0200053f3e3d0200053c005232a0321f0971014faa011e099732ff3f3e3d0200058a0a20011d099701030797010a088d5c8d6c383832030497018077055b0e016c05978c5c5edb3f3e3d020005d038029781151d099781786c383832151d0997005b050308970b030b97e2) []
theorem fT:CK f310 R9 []:=by decide +kernel
theorem fw:PC.sz R9=true/\PC.sB 0 R9=true:=by decide +kernel
abbrev Q_310(n:Nat):Prop:=∀(f:AV),Ct prog (BX n f) 310 [.undef] (fun r=>.bo (CB f) (CB r) 0 [])
theorem fG(n:Nat)(_ih_310:Q_310 n)(f:AV):Ct prog (BX (n+1) f) 310 [.undef] (fun r=>.bo (CB f) (CB r) 0 []):=Th fT fw fun r h i g j=>by
  unfold R9;unfold f310;unfold BX at h;have:HA 1 63 62 0 fun(d:Int)(a:AV)=>[(0,.bx (CB a)),(63,.tv (eI d))]:=⟨⟩;have:HA 3 164 163 0 fun(e:Int)(c:AV)=>[(0,.bx (CB c)),(164,.tv (eI e))]:=⟨⟩;have:HJ 28 fun(b:AV)=>[(0,.bx (CB b))]:=⟨⟩;exact nz
theorem fF:∀n:Nat,Q_310 n:=by
  intro n
  induction n with
  |zero=>exact(fun f=>⟨fun _ h=>by cases h⟩)
  |succ n a=>exact fG n a
instance oa(f:AV):Ct prog (EL f) 310 [.undef] (fun r=>.bo (CB f) (CB r) 0 []):=⟨fun r h=>by
  obtain ⟨N,a⟩:=CO h;exact((fF N) f).snd r (a N (bk _))⟩
theorem fS:CK f272 (Rq [Af 6 0,Af 7 1,Af 8 2,Af 9 3,⟨some 12,.uq 2,none⟩] [4,5,6,7,8,9]<|Sq (Dr [13,14,15,16,17,18,19,20,21] [Ag 14 7 2,Ag 15 8 2,Ag 16 6 2,⟨some 17,.call 279 [.s 16],none⟩,Ag 18 9 2,Aa 19 4,Aa 20 5,⟨some 21,.uy [.list 1 [],.list 3 [],.list 1 [],.list 3 [],.list 1 [],.nil,.nil,.bool false,.int .i64 0,.nil,.nil,.nil] [(0,2,.s 14),(2,2,.s 15),(4,1,.s 17),(5,2,.s 18),(7,1,.s 19),(8,1,.s 20)],none⟩,⟨some 22,.uc [none,none,none,none,none,none,none,none,none,some ⟨true,.xl 1 []⟩,some ⟨true,.xl 1 []⟩,some ⟨true,.list 2 []⟩] (.s 21),none⟩,⟨some 13,.bad 22 0,none⟩] [13,22])<|Rq [Ah 23 13 0,⟨some 24,.tg 310 [.s 23] 0,none⟩] [13,22]<|Rq [Ah 25 13 0,Ah 26 25 0,Ah 27 26 11,Ac 28 27,Ab 12 28] [12]<|.ret) [.tmp 12]:=by decide +kernel
instance nq(t:AB)(p:fq)(g:fq)(b:J2)(a:Bool)(c:Int):Ct prog (GH t p g b a c) 272 [AO t,Am p,Am g,Y2 b,eB a,eI c] (fun r=>.sh ((eL 2 An) r)):=Fi fS fun r h d e=>by
  unfold GH at h;exact au
instance ma(t:AB)(p:fq)(g:fq)(b:J2)(a:Bool):Ct prog (Gl t p g b a) 210 [AO t,Am p,Am g,Y2 b,eB a] (fun r=>.tp [(eL 2 An) r.1,eI r.2]):=Fj f210 0xe9d902c0c101820e01a5a5d7405f5f0401 [] [.tmp 10,.tmp 11] (h:=fun r h c d=>by
  unfold Gl at h;exact nz)
instance pL(k:Int)(a:Int):Ct prog (Kw k a) 372 [eI k,.pt [eI a]] (fun r=>.sh (eB r)):=Fj f372 0x818003a9df [] [.tmp 3] (h:=fun r h b c=>by
  unfold Kw at h;exact nz)
instance pK(l:Fp)(n:Int):Ct prog (Fm l n) 366 [lI l,eI n] (fun r=>.sh (eI r)):=Fj f366 0xac8e1030ba01 [] [.tmp 4] (h:=fun r h a b=>by
  unfold Fm at h;exact nz)
instance pI(t:AB)(p:fq)(g:fq)(b:hT)(a:Bool):Ct prog (FL t p g b a) 353 [AO t,Am p,Am g,An b,eB a] (fun r=>.tp [(eL 2 An) r.1,eI r.2]):=Fj f353 0xe96b0eeba58402c0890b5a5a3702c0890bea3702c0ca5a0b5a55f7f73702c08936a5d7405f5f0401 [] [.tmp 10,.tmp 11] (h:=fun r h c d=>by
  unfold FL at h;exact nz)
instance oB(a:rg)(b:Fp):Ct prog (F5 a b) 287 [K8 a,lI b] (fun r=>.tp [eI r.1,eI r.2]):=Fj f287 0x8c0e018481be78015930dc [] [.tmp 4,.tmp 5] (h:=fun r h c d=>by
  unfold F5 at h;exact nz)
instance pJ(b:Ax)(q:j0)(m:hT)(a:Fp):Ct prog (E3 b q m a) 354 [Bs b,BI q,An m,lI a] (fun r=>.tp [lI r.1,eB r.2]):=Fj f354 0xe9180a016867660a04c501c08820149fb40cc99f05430adb6867660a04d0d180022c2b2ac6067008c501c0c377055b816b01201436b52c2b2a0f0ec606700a2c2b2a0f0ec606700af4f501f5057db53014f88a0817d4f8555b6cb5815c5a5c5cea5d41b5044b08c9fa438002612c2b2ac6067008d0b5c60670052221c6067007b601f5f8cdc6067005612221c60670077f01993fd5993f7801d51a7740935f31 [.ue 1 22 (.int .i64 0) (.s 27),.uv 1 [.bool false] (.s 30)] [.tmp 8,.tmp 9] (h:=fun r h i j=>by
  unfold E3 at h;have:HA 0 34 33 0 fun(g:Int)(d:a5)=>[(11,.xo 1 (List.map eB d)),(34,.tv (eI g))]:=⟨⟩;have:HA 2 44 43 0 fun(f:Int)(c:Fp×a5)=>[(10,.xo 1 (List.map eI c.1)),(11,.xo 1 (List.map eB c.2)),(44,.tv (eI f))]:=⟨⟩;have:HA 4 104 103 0 fun(e:Int)(_:Unit)=>[(104,.tv (eI e))]:=⟨⟩;exact nz)
instance pC(a:Ax)(c:hV)(m:AM):Ct prog (By a c m) 344 [Bs a,AL c,BC m] (fun r=>.tp [(eL 3 BC) r.1,eI r.2]):=Fj f344 0xe9020c013b3a390cc407b63b3a390cc4073b3a390cc4073c02034803470f46eb028cdaa6369fd10644e3c93602430cdb3b3a390cc4077f8103c03703c074da030542a538b5a532e3c90d460ef27db50b5a0ecc6cb5f77e03c9f104760340fd [] [.tmp 6,.tmp 7] (h:=fun r h e f=>by
  unfold By at h;have:HA 0 59 58 0 fun(d:Int)(b:List AM)=>[(12,.ow ((eL 3 BC) b)),(59,.tv (eI d))]:=⟨⟩;exact nz)
abbrev vF(n:Nat):Prop:=∀(a:Ax)(c:hV)(m:AM),Ct prog (Av n a c m) 284 [Bs a,AL c,BC m] (fun r=>.tp [DA r.1,eI r.2])
abbrev vD(n:Nat):Prop:=∀(a:Ax)(c:hV)(m:AM),Ct prog (BG n a c m) 319 [Bs a,AL c,BC m] (fun r=>.tp [DA r.1,eI r.2])
theorem fB(n:Nat)(_ih_284:vF n)(_ih_319:vD n)(d:Ax)(c:hV)(m:AM):Ct prog (Av (n+1) d c m) 284 [Bs d,AL c,BC m] (fun r=>.tp [DA r.1,eI r.2]):=Fj f284 0x81b4104673b46b0e62a80644d681b4104606014b4a49920306c5b401104685d9b4114605479f74b40df062a80644094b8113c9a8099b06db4b4a49920306d0cfd681b49f0a06022f2e2d0a920307b6014ad1054805479f04d137b40110eeb40df062a80644094b13c9a809430a0602612f2e2d0a920307d0cf0dc9d681b401104673b41046d681b41046d68cb40d497262a809435a0644d68332010dc9fd [] [.cell 6 (some 5),.tmp 7] (h:=fun r h g i=>by
  unfold Av at h;have:HA 2 47 46 0 fun(f:Int)(a:BE×BE)=>[(6,.bx [⟨false,eI a.1.ta⟩,⟨true,lI a.1.ru.hT.ff⟩,⟨true,lI a.1.ru.hT.gt⟩,⟨true,lI a.1.ru.q0⟩,⟨true,FG a.1.rq⟩]),(10,.bx [⟨false,eI a.2.ta⟩,⟨true,lI a.2.ru.hT.ff⟩,⟨true,lI a.2.ru.hT.gt⟩,⟨true,lI a.2.ru.q0⟩,⟨true,FG a.2.rq⟩]),(47,.tv (eI f))]:=⟨⟩;have:HA 4 75 74 0 fun(e:Int)(b:BE)=>[(6,.bx [⟨false,eI b.ta⟩,⟨true,lI b.ru.hT.ff⟩,⟨true,lI b.ru.hT.gt⟩,⟨true,lI b.ru.q0⟩,⟨true,FG b.rq⟩]),(75,.tv (eI e))]:=⟨⟩;exact nz)
theorem fH(n:Nat)(_ih_284:vF n)(_ih_319:vD n)(b:Ax)(c:hV)(m:AM):Ct prog (BG (n+1) b c m) 319 [Bs b,AL c,BC m] (fun r=>.tp [DA r.1,eI r.2]):=Fj f319 0x81b4104606011b1a1906040306c5b401104685d9b4124605479f6265b40df062a809435a0644a216c9bd4306db1b1a19060403067facb40110eeda62a80644010dc9fd [] [.cell 6 (some 5),.tmp 7] (h:=fun r h e f=>by
  unfold BG at h;have:HA 0 27 26 0 fun(d:Int)(a:BE)=>[(6,.bx [⟨false,eI a.ta⟩,⟨true,lI a.ru.hT.ff⟩,⟨true,lI a.ru.hT.gt⟩,⟨true,lI a.ru.q0⟩,⟨true,FG a.rq⟩]),(27,.tv (eI d))]:=⟨⟩;exact nz)
theorem Yx:∀n:Nat,vF n/\vD n:=by
  intro n
  induction n with
  |zero=>exact⟨(fun b c m=>⟨fun _ h=>by cases h⟩),(fun b c m=>⟨fun _ h=>by cases h⟩)⟩
  |succ n a=>exact⟨fB n a.1 a.2,fH n a.1 a.2⟩
instance oA(a:Ax)(c:hV)(m:AM):Ct prog (DR a c m) 284 [Bs a,AL c,BC m] (fun r=>.tp [DA r.1,eI r.2]):=⟨fun r h=>by
  obtain ⟨N,b⟩:=CO h;exact((Yx N).1 a c m).snd r (b N (bk _))⟩
instance oh(a:Ax)(c:hV)(m:AM):Ct prog (Kl a c m) 319 [Bs a,AL c,BC m] (fun r=>.tp [DA r.1,eI r.2]):=⟨fun r h=>by
  obtain ⟨N,b⟩:=CO h;exact((Yx N).2 a c m).snd r (b N (bk _))⟩
instance mn(t:AB)(p:j0)(c:hV)(b:AF)(m:AM)(a:Bool):Ct prog (Dm t p c b m a) 220 [AO t,BI p,AL c,BH b,BC m,eB a] (fun r=>.tp [DA r.1,eI r.2]):=Fj f220 0x81b46b0e62a81a46016284b40110ee0e016262a89fb20dc9935f5f0501 [] [.cell 12 (some 5),.tmp 13] (h:=fun r h d e=>by
  unfold Dm at h;exact nz)
end Go.Sf.Sc
