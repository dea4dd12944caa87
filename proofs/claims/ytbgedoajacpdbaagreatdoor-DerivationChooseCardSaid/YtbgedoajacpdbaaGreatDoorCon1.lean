/- Contracts of the functions. -/
import Derived.Test.YtbgedoajacpdbaaGreatDoorCon0
import Derived.Test.YtbgedoajacpdbaaGreatDoorTryzShelf
import Derived.Test.YtbgedoajacpdbaaGreatDoorFo
set_option linter.all false
set_option maxRecDepth 100000
set_option maxHeartbeats 4000000
namespace Go.Sf.Sc
open Go Go.Sf Go.Proofs.Tryz
instance yo(c:Int):Ct prog (KC c) 332 [UD c] (fun r=>.sh (eB r)):=Fj f332 0xa10aa7a70aa7a7ca [] [.tmp 2] (h:=fun r h a b=>by
  unfold KC at h;exact nz)
instance yp(b:ByteArray)(d:Int->K1)(e:FuncId)(a:Fq)[g:∀(c:Int),Ct prog (d c) e (UD c::a) (fun r=>.sh (eB r))]:Ct prog (Ge b d) 333 [eS b,.clo e a] (fun r=>.sh (eI r)):=Fj f333 0x81386dd860386d8a0f123030050c30d881e4 [] [.tmp 4] (h:=fun r h i j=>by
  unfold Ge at h;have:HW 0 fun(f:Int)=>[(5,.tv (eI f))]:=⟨⟩;exact nz)
instance yr(c:Int):Ct prog (JW c) 335 [UD c] (fun r=>.sh (eB r)):=Fj f335 0xa1a7a7ca [] [.tmp 2] (h:=fun r h a b=>by
  unfold JW at h;exact nz)
instance yq(c:Int):Ct prog (Md c) 334 [UD c] (fun r=>.sh (eB r)):=Fj f334 0xa1a70a0e300e30ca [] [.tmp 2] (h:=fun r h a b=>by
  unfold Md at h;exact nz)
instance zZ(c:Int):Ct prog (KW c) 386 [UD c] (fun r=>.sh (eB r)):=Fj f386 0xa1a70aa7a7ca [] [.tmp 2] (h:=fun r h a b=>by
  unfold KW at h;exact nz)
instance yt(a:ByteArray):Ct prog (Fx a) 336 [eS a] (fun r=>.tp [eI r.1,eI r.2]):=Fj f336 0x8cbaf985d0818a051205f30c385d3f0d72ca [.call 333 [.s 6,.c (.clo 386 [])]] [.tmp 2,.tmp 3] (h:=fun r h b d=>by
  unfold Fx at h;exact nz)
instance yu(a:ByteArray):Ct prog (Mc a) 337 [eS a] (fun r=>.sh (eB r)):=Fj f337 0xa10e0d013f380c30ca [.lst 1 [.c (.str ⟨#[45,62]⟩),.c (.str ⟨#[60,61]⟩),.c (.str ⟨#[62,61]⟩),.c (.str ⟨#[61,61]⟩),.c (.str ⟨#[33,61]⟩)]] [.tmp 2] (h:=fun r h b d=>by
  unfold Mc at h;exact nz)
instance xt(a:ByteArray):Ct prog (Hq a) 275 [eS a] (fun r=>.tp [eI r.1,eI r.2.1,eI r.2.2]):=Fj f275 0x818cfff98c053f5d818c0e5d8c308c715d055d8cd08c643f5d0e5d8cd08c643f5d0e5d123030ca [.call 333 [.s 15,.c (.clo 334 [])],.call 333 [.s 23,.c (.clo 335 [])],.call 338 [.c (.str ⟨#[123,125,40,41,91,93,44,59,58,61,43,45,42,60,62,33,38,124,46,63]⟩),.s 42]] [.tmp 2,.tmp 3,.tmp 4] (h:=fun r h b d=>by
  unfold Hq at h;exact nz)
instance wj(t:EL):Ct prog (H5 t) 204 [UC t] (fun r=>.tp [eS r.1,eB r.2]):=Fj f204 0x8c0a050c720a055530a7818c1171d0bfbfe9aa04aa3c013f3f018555815c013f9300 [.mv (.c (.str ⟨#[]⟩)),.bin (.s) .add (.c (.str ⟨#[34]⟩)) (.s 13),.bin (.s) .add (.s 14) (.c (.str ⟨#[34]⟩)),.bin (.s) .eql (.s 16) (.c (.str ⟨#[]⟩)),.mv (.c (.str ⟨#[]⟩))] [.tmp 2,.tmp 3] (h:=fun r h b d=>by
  unfold H5 at h;have:HJ 12 fun(a:ByteArray)=>[(4,.tv (eS a))]:=⟨⟩;exact nz)
instance vS(a:ByteArray):Ct prog (DB a) 136 [eS a] (fun r=>.sh (eB r)):=Fj f136 0x815df2004630ca [] [.tmp 2] (h:=fun r h b c=>by
  unfold DB at h;exact nz)
instance wZ(m:B0)(a:B0):Ct prog (Mf m a) 197 [Eb m,.pt (Eb a).cells] (fun r=>.sh (eB r)):=Fj f197 0x8106d5de [] [.tmp 3] (h:=fun r h b c=>by
  unfold Mf at h;exact nz)
abbrev Q_198(n:Nat):Prop:=∀(t:AC)(a:Int),Ct prog (C0 n t a) 198 [AP t,eI a] (fun r=>.AaZ 4 (List.map GK r))
theorem qT(n:Nat)(_ih_198:Q_198 n)(t:AC)(a:Int):Ct prog (C0 (n+1) t a) 198 [AP t,eI a] (fun r=>.AaZ 4 (List.map GK r)):=Fj f198 0x99044f7e41df551905b70305b7033c191abb647ddf5504ce044e9330 [] [.tmp 4] (h:=fun r h c d=>by
  unfold C0 at h;have:HJ 14 fun(b:List kl)=>[(5,.xo 4 (List.map GK b))]:=⟨⟩;exact nz)
theorem qS:∀n:Nat,Q_198 n:=by
  intro n
  induction n with
  |zero=>exact(fun t a=>⟨fun _ h=>by cases h⟩)
  |succ n b=>exact qT n b
instance wa(t:AC)(a:Int):Ct prog (JX t a) 198 [AP t,eI a] (fun r=>.AaZ 4 (List.map GK r)):=⟨fun r h=>by
  obtain ⟨N,b⟩:=Ck h;exact((qS N) t a).snd r (b N (bk _))⟩
instance xk(y:kl)(a:kl):Ct prog (IE y a) 272 [GK y,.pt (GK a).cells] (fun r=>.sh (eB r)):=Fj f272 0x8106d5de [] [.tmp 3] (h:=fun r h b c=>by
  unfold IE at h;exact nz)
instance xm(l:List ByteArray):Ct prog (Gg l) 273 [lB l] (fun r=>.sh (eI r)):=Fj f273 0x9abd08000489fff90e3045308c925d815f6362bd0800048dc3d230ca [] [.tmp 2] (h:=fun r h b c=>by
  unfold Gg at h;have:HA 0 10 9 0 fun(a:Int)(_:Unit)=>[(10,.tv (eI a))]:=⟨⟩;exact nz)
instance wb(b:kl)(a:List kl):Ct prog (D9 b a) 199 [GK b,lA a] (fun r=>.sh (eI r)):=Fj f199 0xc38801060106013cfe6cac76385cd2aca10576fe765c385cfaacfff90e105d819255de [] [.tmp 4] (h:=fun r h d e=>by
  unfold D9 at h;have:HJ 40 fun(c:Bool)=>[(6,.tv (eB c))]:=⟨⟩;exact nz)
instance vQ(t:AC)(a:Int):Ct prog (Hs t a) 134 [AP t,eI a] (fun r=>.sh (eI r)):=Fj f134 0x9ac602a978044530c5ee00bcc602816cac0bd0d201820ebbfff96cac8c0aba5c385c8c0e10044501558c9255053dcb00c9c5df55de [] [.tmp 4] (h:=fun r h c d=>by
  unfold Hs at h;have:HA 1 7 6 0 fun(b:Int)(_:Unit)=>[(7,.tv (eI b))]:=⟨⟩;exact nz)
instance wc(n:Int)(a:AC):Ct prog (KD n a) 200 [eI n,.pt (AP a).cells] (fun r=>.sh (eB r)):=Fj f200 0xa16c553005dd [] [.tmp 3] (h:=fun r h b c=>by
  unfold KD at h;exact nz)
instance we(y:B9)(a:B9):Ct prog (Me y a) 202 [FC y,.pt (FC a).cells] (fun r=>.sh (eB r)):=Fj f202 0x8106d5de [] [.tmp 3] (h:=fun r h b c=>by
  unfold Me at h;exact nz)
instance wg(b:Int)(a:Int):Ct prog (JI b a) 203 [eI b,eI a] (fun r=>.sh (eB r)):=Fj f203 0xa10a0aa70572a70aa705dd [] [.tmp 4] (h:=fun r h c d=>by
  unfold JI at h;exact nz)
instance vR(t:AC)(a:Int):Ct prog (Hr t a) 135 [AP t,eI a] (fun r=>.sh (eI r)):=Fj f135 0x81ff3719013c779203b8030542019203b9ac195d0a080f7630080f5c5d810e100745015c8c92558110053d074b01c9074407ccde [] [.tmp 4] (h:=fun r h c d=>by
  unfold Hr at h;have:HJ 25 fun(b:Bool)=>[(25,.tv (eB b))]:=⟨⟩;exact nz)
instance c89(t:AC):Ct prog (C2 t) 89 [AP t] (fun r=>.tp [eS r.1,eI r.2]):=Fj f89 0x81bf002e2d2ce9dbdc55640ebb074bdcc90744074363622e2d2ce9d3b4301d1c1be9dbdc55640ebbcb9ac9c5b372621d1c1be9d332ff37bfa1da38c181bf816c55013f9300 [.mv (.c (.str ⟨#[]⟩)),.mv (.c (.str ⟨#[]⟩)),.mv (.c (.str ⟨#[]⟩)),.mv (.c (.str ⟨#[]⟩))] [.tmp 2,.tmp 3] (h:=fun r h d e=>by
  unfold C2 at h;have:HA 1 29 28 0 fun(b:Int)(_:Unit)=>[(29,.tv (eI b))]:=⟨⟩;have:HA 3 46 45 0 fun(a:Int)(_:Unit)=>[(46,.tv (eI a))]:=⟨⟩;exact nz)
instance vz(n:Int)(a:Int):Ct prog (Gp n a) 166 [eI n,eI a] (fun r=>.sh (eB r)):=Fj f166 0xa105f3dd [] [.tmp 4] (h:=fun r h b c=>by
  unfold Gp at h;exact nz)
instance vw(t:Int):Ct prog (K7 t) 165 [eI t] (fun r=>.sh (eB r)):=Fj f165 0x819230ca [] [.tmp 2] (h:=fun r h a b=>by
  unfold K7 at h;exact nz)
instance wA(e:Bj)(a:Int):Ct prog (L8 e a) 169 [Bs e,eI a] (fun r=>.sh (eB r)):=Fj f169 0xa10eba76770eba5c6955de [] [.tmp 4] (h:=fun r h b c=>by
  unfold L8 at h;exact nz)
instance v8(e:Bj)(a:d5):Ct prog (K8 e a) 168 [Bs e,.pt (Ak a).cells] (fun r=>.sh (eB r)):=Fj f168 0x8192c165de [] [.tmp 3] (h:=fun r h b c=>by
  unfold K8 at h;exact nz)
instance u0(g:d5):Ct prog (CU g) 107 [Ak g] (fun r=>.sh (eI r)):=Fj f107 0xc38e105c37bf5591da38c1f4 [.call 129 [.s 14,.c (.clo 165 [])]] [.tmp 2] (h:=fun r h a b=>by
  unfold CU at h;exact nz)
instance xV(a:Int)(b:AC):Ct prog (LG a b) 251 [eI a,.pt (AP b).cells] (fun r=>.sh (eB r)):=Fj f251 0xa16c553005dd [] [.tmp 3] (h:=fun r h c d=>by
  unfold LG at h;exact nz)
instance wC(t:AC)(l:Fp):Ct prog (Et t l) 171 [AP t,lI l] (fun r=>.sh (eI r)):=Fj f171 0xc38e10d06ff236de [] [.tmp 4] (h:=fun r h a b=>by
  unfold Et at h;exact nz)
instance wB(t:AC)(a:Int):Ct prog (Dn t a) 170 [AP t,eI a] (fun r=>.tp [lA r.1,eI r.2]):=Fj f170 0xe01807011514070389014d0354044c0e170354044c01140114dc07e515140703819514991a017c04c078b2bbe9eb30 [] [.tmp 4,.tmp 5] (h:=fun r h d e=>by
  unfold Dn at h;have:HA 0 21 20 0 fun(b:Int)(c:List kl)=>[(7,.xo 4 (List.map GK c)),(21,.tv (eI b))]:=⟨⟩;have:HS 31:=⟨⟩;have:HX 33 fun(a:kl)(v:List ByteArray)=>kl.mk a.o4 a.Low a.AaD v:=⟨⟩;exact nz)
instance u7(t:AC)(a:Int)(b:Fp):Ct prog (Ie t a b) 108 [AP t,eI a,lI b] (fun r=>.sh (eI r)):=Fj f108 0x9a2322210204899105765ff35cb6cb8102c9c5b3636223222102048dc3d2010b30d4017c830241df553785c1309302aa [] [.tmp 6] (h:=fun r h d e=>by
  unfold Ie at h;have:HA 0 35 34 0 fun(c:Int)(_:Unit)=>[(35,.tv (eI c))]:=⟨⟩;exact nz)
instance xW(t:AC)(a:Int):Ct prog (I4 t a) 252 [AP t,eI a] (fun r=>.own (lI r)):=Fj f252 0x821829140538b7033c017ddf55ff19014fb20119ba6238b731ce01eb30 [] [.tmp 4] (h:=fun r h c d=>by
  unfold I4 at h;have:HW 0 fun(b:Int×Fp)=>[(1,.tv (eI b.1)),(5,.xo 1 (List.map eI b.2))]:=⟨⟩;exact nz)
instance wD(t:AC)(a:Int)(b:Int):Ct prog (H7 t a b) 172 [AP t,eI a,eI b] (fun r=>.sh (eB r)):=Fj f172 0x810e69bb7f02aa [] [.tmp 6] (h:=fun r h c d=>by
  unfold H7 at h;exact nz)
instance u9(t:AC)(b:Int)(a:Int)(c:Int):Ct prog (GU t b a c) 109 [AP t,eI b,eI a,eI c] (fun r=>.sh (eB r)):=Fj f109 0xa10e5e4107ccbb697d07cc017c8ada300aa7050eb230367f5ee1 [] [.tmp 8] (h:=fun r h d e=>by
  unfold GU at h;exact nz)
instance c68(t:AC)(a:AG):Ct prog (E1 t a) 68 [AP t,BX a] (fun r=>.tp [eI r.1,eI r.2]):=Fj f68 0x8c003e3d3c5e05dbdcb15f76cd5f5ccd557cdcd25c559f81e2c84363623e3d3c5e05d30141325e022827265e05db8130640ea276bb8ca25e02622827265e05d35b32f9d2cd0b76f978adf96ff236309b [] [.tmp 4,.tmp 5] (h:=fun r h d e=>by
  unfold E1 at h;have:HA 0 40 39 0 fun(b:Int)(_:Unit)=>[(40,.tv (eI b))]:=⟨⟩;have:HA 2 62 61 0 fun(c:Int)(_:Unit)=>[(62,.tv (eI c))]:=⟨⟩;exact nz)
instance wk(n:Int)(a:AC):Ct prog (GA n a) 205 [eI n,.pt (AP a).cells] (fun r=>.sh (eB r)):=Fj f205 0x816c55dd [] [.tmp 3] (h:=fun r h b c=>by
  unfold GA at h;exact nz)
instance wl(a:Bj)(b:AC):Ct prog (GB a b) 206 [Bs a,.pt (AP b).cells] (fun r=>.sh (eB r)):=Fj f206 0x81da55de [] [.tmp 3] (h:=fun r h c d=>by
  unfold GB at h;exact nz)
instance wm(n:Int)(b:Int)(a:Int):Ct prog (CO n b a) 207 [eI n,eI b,eI a] (fun r=>.sh (eB r)):=Fj f207 0xa105f372026303 [] [.tmp 6] (h:=fun r h c d=>by
  unfold CO at h;exact nz)
instance wn(t:AC)(p:ec)(a:CT):Ct prog (EY t p a) 208 [AP t,A7 p,FZ a] (fun r=>.tp [GK r.1,eB r.2]):=Fj f208 0x81cbc5b35cd0cb0146b16c015c01d45f55cd7ccb0146b16ccd55aac9939b [] [.cell 6 (some 4),.tmp 7] (h:=fun r h b c=>by
  unfold EY at h;exact nz)
instance yv(n:Int)(t:j0):Ct prog (HU n t) 339 [eI n,OF t] (fun r=>.sh (eB r)):=Fj f339 0xa1055cfe5c77baed557fca [] [.tmp 4] (h:=fun r h a b=>by
  unfold HU at h;exact nz)
instance xu(n:Int)(a:Test):Ct prog (IK n a) 276 [eI n,GM a] (fun r=>.sh (eI r)):=Fj f276 0x81ff37a192360342309236b45da105ed557fca [] [.tmp 4] (h:=fun r h b c=>by
  unfold IK at h;exact nz)
instance wo(n:Int)(l:List Test):Ct prog (Gn n l) 209 [eI n,lT l] (fun r=>.sh (eI r)):=Fj f209 0x9afd110004db7880384b04c98005430062fd1100048dc3d20191a705dd [] [.tmp 4] (h:=fun r h b c=>by
  unfold Gn at h;have:HA 0 19 18 0 fun(a:Int)(_:Unit)=>[(19,.tv (eI a))]:=⟨⟩;exact nz)
instance vT(t:AC)(p:ec):Ct prog (Cc t p) 137 [AP t,A7 p] (fun r=>.sh (eI r)):=Fj f137 0xc3a014fa03b9ac085e3c3b3a085e06893c3b3a085e063c3b3a085e063cf66e9e14856e9e91927d9e779205ac6e9e01085dcb024971c58036cb05c9c5b3085e623c3b3a085e06d39e993fac916c03b9380b7637b1ac910e10fc6910cdfaad376ff236019b [.mkx 1 [.bool false] (.s 55)] [.tmp 4] (h:=fun r h c d=>by
  unfold Cc at h;have:HA 0 60 59 0 fun(a:Int)(b:a6)=>[(8,.xo 1 (List.map eB b)),(60,.tv (eI a))]:=⟨⟩;exact nz)
instance xx(n:Int)(a:AC):Ct prog (MY n a) 278 [eI n,.pt (AP a).cells] (fun r=>.sh (eB r)):=Fj f278 0x816c55dd [] [.tmp 3] (h:=fun r h b c=>by
  unfold MY at h;exact nz)
instance xy(a:Bj)(b:AC):Ct prog (MZ a b) 279 [Bs a,.pt (AP b).cells] (fun r=>.sh (eB r)):=Fj f279 0x81da55de [] [.tmp 3] (h:=fun r h c d=>by
  unfold MZ at h;exact nz)
instance ws(t:AC)(g:d5):Ct prog (Hn t g) 211 [AP t,Ak g] (fun r=>.sh (eB r)):=Fj f211 0xa192105c01921055019b [] [.tmp 4] (h:=fun r h a b=>by
  unfold Hn at h;exact nz)
instance yA(y:CT)(a:CT):Ct prog (NU y a) 281 [FZ y,.pt (FZ a).cells] (fun r=>.sh (eB r)):=Fj f281 0xa1055c5c38d5de [] [.tmp 3] (h:=fun r h b c=>by
  unfold NU at h;exact nz)
instance wt(t:AC)(a:gt)(b:Int):Ct prog (Ik t a b) 212 [AP t,B1 a,eI b] (fun r=>.sh (eI r)):=Fj f212 0xc38e100445015e41b891055cfe5cfe7e41b855fe55776c015c385c9d06c9369e01d45f556e5bb87c8a6c6e5bb8ed55073dcb05c9c5df5e41b80161b7 [] [.tmp 6] (h:=fun r h c d=>by
  unfold Ik at h;exact nz)
instance vU(t:AC)(a:gt):Ct prog (Hm t a) 138 [AP t,B1 a] (fun r=>.sh (eI r)):=Fj f138 0x9a2f2e5e04db7801d1368163622f2e5e048d5e41b8fff96c5e41b88c0a6c030441b8387e41b47e41b88c92e7b8ece7b8019b [] [.tmp 4] (h:=fun r h c d=>by
  unfold Hm at h;have:HA 1 47 46 0 fun(b:Int)(_:Unit)=>[(47,.tv (eI b))]:=⟨⟩;exact nz)
instance wE(a:d5)(b:d5)(m:d6):Ct prog (Cx a b m) 173 [Ak a,Ak b,Ao m] (fun r=>.sh (eI r)):=Fj f173 0x9a494847be06899105765f76ed5c5f5c553785d59f9fe2e2c8ccc8cc91da30055d815f6362494847be06d3b46a7e2c2b2abe06db85a255a255916c5530055d815f38047e622c2b2abe06d33291dae638c1c1faec367f9b [] [.tmp 6] (h:=fun r h e f=>by
  unfold Cx at h;have:HA 0 44 43 0 fun(c:Int)(_:Unit)=>[(44,.tv (eI c))]:=⟨⟩;have:HA 2 73 72 0 fun(d:Int)(_:Unit)=>[(73,.tv (eI d))]:=⟨⟩;exact nz)
instance wF(l:Fp):Ct prog (F4 l) 174 [lI l] (fun r=>.sh (eI r)):=Fj f174 0x81152a142914991a30ca [] [.tmp 2] (h:=fun r h a b=>by
  unfold F4 at h;exact nz)
instance vA(a:d5)(b:d5)(m:d6):Ct prog (Cg a b m) 110 [Ak a,Ak b,Ao m] (fun r=>.sh (eB r)):=Fj f110 0xa1da0e5c776c550eed0e36967f9b [] [.tmp 6] (h:=fun r h c d=>by
  unfold Cg at h;exact nz)
instance za(l:Fp)(n:Int):Ct prog (HK l n) 388 [lI l,eI n] (fun r=>.sh (eI r)):=Fj f388 0x9a097363058991055fa730ba9105f35d815f6362097363058d81e4 [] [.tmp 4] (h:=fun r h b c=>by
  unfold HK at h;have:HA 0 9 8 0 fun(a:Int)(_:Unit)=>[(9,.tv (eI a))]:=⟨⟩;exact nz)
instance zb(l:Fp)(n:Int):Ct prog (KB l n) 389 [lI l,eI n] (fun r=>.sh (eB r)):=Fj f389 0x815df230e4 [] [.tmp 4] (h:=fun r h a b=>by
  unfold KB at h;exact nz)
instance yx(g:d5)(p:BA):Ct prog (LF g p) 341 [Ak g,GL p] (fun r=>.sh (eI r)):=Fj f341 0x9a1e1d1c5e058991925e4103cc5501927d03cc55815f00621e1d1c5e05d3b4fae65cfac155019b [] [.tmp 4] (h:=fun r h b c=>by
  unfold LF at h;have:HA 0 30 29 0 fun(a:Int)(_:Unit)=>[(30,.tv (eI a))]:=⟨⟩;exact nz)
instance yB(g:d5)(p:BA):Ct prog (Du g p) 282 [Ak g,GL p] (fun r=>.sh (eI r)):=Fj f282 0x810e36ec36019b [] [.tmp 4] (h:=fun r h a b=>by
  unfold Du at h;exact nz)
instance wu(g:d5)(p:BA):Ct prog (Dj g p) 213 [Ak g,GL p] (fun r=>.tp [Ak r.1,Ao r.2.1,eI r.2.2]):=Fj f213 0x6a023b819d9d04460e5c0e553608be042b2a29086a5e0889fbb4034803476504b4fb9e717655fbb4715c559fe2c8cc815f08be04622b2a29086a5e08d3b4086a5e05191817086a5e0889fb3201e3a2550432815f086a5e0562191817086a5e08d33207c9379d9de14602d90e9601f107c99b [] [.cell 4 (some 2),.cell 5 (some 2),.tmp 6] (h:=fun r h e f=>by
  unfold Dj at h;have:HA 0 25 24 0 fun(c:Int)(b:d5)=>[(8,.bx [⟨true,lI b.d3⟩,⟨true,lE b.d4⟩]),(25,.tv (eI c))]:=⟨⟩;have:HA 2 43 42 0 fun(d:Int)(a:d5)=>[(8,.bx [⟨true,lI a.d3⟩,⟨true,lE a.d4⟩]),(43,.tv (eI d))]:=⟨⟩;exact nz)
instance vV(a:gt):Ct prog (Ij a) 139 [B1 a] (fun r=>.sh (eI r)):=Fj f139 0xc3b1360d42e7b8ec360d42e7b87c6f9d9d084907c91171360b42e7b4f4 [] [.tmp 2] (h:=fun r h b c=>by
  unfold Ij at h;exact nz)
instance wv(l:Fp)(n:Int):Ct prog (JV l n) 214 [lI l,eI n] (fun r=>.own (lI r)):=Fj f214 0x8202ba730500048973050004730500043cb7e3aab1308138e5730500048cf701406302 [] [.tmp 4] (h:=fun r h c d=>by
  unfold JV at h;have:HA 0 8 7 0 fun(a:Int)(b:Fp)=>[(5,.ow (lI b)),(8,.tv (eI a))]:=⟨⟩;exact nz)
instance vW(a:gt):Ct prog (J9 a) 140 [B1 a] (fun r=>.tp [lI r.1,lI r.2]):=Fj f140 0x82820e0b3174b87d0d420e0b6e5bb86e0d42014001eb00 [] [.tmp 2,.tmp 3] (h:=fun r h b c=>by
  unfold J9 at h;exact nz)
instance ww(a:Int)(c:AC)(b:d5):Ct prog (KU a c b) 215 [eI a,.pt (AP c).cells,.pt (Ak b).cells] (fun r=>.sh (eB r)):=Fj f215 0x815e41b3a2d5aa6303 [] [.tmp 4] (h:=fun r h d e=>by
  unfold KU at h;exact nz)
instance wx(a:Int)(c:d5)(b:AC):Ct prog (FW a c b) 216 [eI a,.pt (Ak c).cells,.pt (AP b).cells] (fun r=>.sh (eB r)):=Fj f216 0x81925f76555f5cd5369fe2c8ccaa6303 [] [.tmp 4] (h:=fun r h d e=>by
  unfold FW at h;exact nz)
instance vX(t:AC)(g:d5)(b:Fp)(a:Fp):Ct prog (Fv t g b a) 141 [AP t,Ak g,lI b,lI a] (fun r=>.sh (eB r)):=Fj f141 0xa1921030921030615e02 [] [.tmp 8] (h:=fun r h c d=>by
  unfold Fv at h;exact nz)
instance yy(c:d7):Ct prog (EZ c) 344 [AK c] (fun r=>.sh (eB r)):=Fj f344 0xa105ac386c03b96c766cfc6ccd6c7d9e0b6e9ec409c980b9f4 [] [.tmp 2] (h:=fun r h a b=>by
  unfold EZ at h;exact nz)
abbrev AbX(n:Nat):Prop:=∀(c:d7),Ct prog (BI n c) 284 [AK c] (fun r=>.sh (eB r))
abbrev Ab0(n:Nat):Prop:=∀(k:d7),Ct prog (BS n k) 346 [AK k] (fun r=>.sh (eB r))
theorem qe(n:Nat)(_ih_284:AbX n)(_ih_346:Ab0 n)(c:d7):Ct prog (BI (n+1) c) 284 [AK c] (fun r=>.sh (eB r)):=Fj f284 0xa1083f5c30ff04aa04aa605d6aaa3c770ea538011a09043105601a09043105816aaa3c770ea5385d6aaa3c770ea5385d0583328ce6f4 [.call 345 [.s 42,.c (.clo 346 [])]] [.tmp 2] (h:=fun r h b d=>by
  unfold BI at h;have:HJ 10 fun(a:Bool)=>[(4,.tv (eB a))]:=⟨⟩;exact nz)
theorem qp(n:Nat)(_ih_284:AbX n)(_ih_346:Ab0 n)(k:d7):Ct prog (BS (n+1) k) 346 [AK k] (fun r=>.sh (eB r)):=Fj f346 0x8192a5f4 [] [.tmp 2] (h:=fun r h a b=>by
  unfold BS at h;exact nz)
theorem il:∀n:Nat,AbX n/\Ab0 n:=by
  intro n
  induction n with
  |zero=>exact⟨(fun c=>⟨fun _ h=>by cases h⟩),(fun k=>⟨fun _ h=>by cases h⟩)⟩
  |succ n a=>exact⟨qe n a.1 a.2,qp n a.1 a.2⟩
instance yC(c:d7):Ct prog (E0 c) 284 [AK c] (fun r=>.sh (eB r)):=⟨fun r h=>by
  obtain ⟨N,a⟩:=Ck h;exact((il N).1 c).snd r (a N (bk _))⟩
instance y4(k:d7):Ct prog (Pd k) 346 [AK k] (fun r=>.sh (eB r)):=⟨fun r h=>by
  obtain ⟨N,a⟩:=Ck h;exact((il N).2 k).snd r (a N (bk _))⟩
abbrev Q_285(n:Nat):Prop:=∀(c:d7),Ct prog (CA n c) 285 [AK c] (fun r=>.tp [eI r.1,eI r.2])
theorem qh(n:Nat)(_ih_285:Q_285 n)(c:d7):Ct prog (CA (n+1) c) 285 [AK c] (fun r=>.tp [eI r.1,eI r.2]):=Fj f285 0x8c306a026a02600185556ae1cf0b6a010689302c30a78c71a5094b0ac9a509436ae162cf0b6a0106d3b48c309300 [] [.tmp 2,.tmp 3] (h:=fun r h e f=>by
  unfold CA at h;have:HA 0 13 12 0 fun(b:Int)(a:Int×Int)=>[(4,.tv (eI a.1)),(5,.tv (eI a.2)),(13,.tv (eI b))]:=⟨⟩;have:HJ 31 fun(d:Int)=>[(5,.tv (eI d))]:=⟨⟩;exact nz)
theorem qf:∀n:Nat,Q_285 n:=by
  intro n
  induction n with
  |zero=>exact(fun c=>⟨fun _ h=>by cases h⟩)
  |succ n a=>exact qh n a
instance yD(c:d7):Ct prog (GE c) 285 [AK c] (fun r=>.tp [eI r.1,eI r.2]):=⟨fun r h=>by
  obtain ⟨N,a⟩:=Ck h;exact((qf N) c).snd r (a N (bk _))⟩
instance wy(c:d7):Ct prog (D3 c) 217 [AK c] (fun r=>.sh (eI r)):=Fj f217 0xf8a7055d8171a537b1a5f4 [] [.tmp 2] (h:=fun r h a b=>by
  unfold D3 at h;exact nz)
instance y5(a:CT)(b:Int):Ct prog (G6 a b) 347 [FZ a,.pt [eI b]] (fun r=>.sh (eB r)):=Fj f347 0xa8036e9ede [] [.tmp 3] (h:=fun r h c d=>by
  unfold G6 at h;exact nz)
instance yE(t:AC)(q:ec)(a:Int):Ct prog (DI t q a) 286 [AP t,A7 q,eI a] (fun r=>.sh (eI r)):=Fj f286 0x9a7304033c083d014b05314b0b4983ff3701b110760062ac03730403083d014b0bc9d07880360161b7 [] [.tmp 6] (h:=fun r h c d=>by
  unfold DI at h;have:HW 0 fun(b:Int)=>[(8,.tv (.pt [eI b]))]:=⟨⟩;exact nz)
abbrev Q_218(n:Nat):Prop:=∀(t:AC)(p:ec)(c:d7),Ct prog (Bw n t p c) 218 [AP t,A7 p,AK c] (fun r=>.sh (eI r))
theorem qV(n:Nat)(_ih_218:Q_218 n)(t:AC)(p:ec)(c:d7):Ct prog (Bw (n+1) t p c) 218 [AP t,A7 p,AK c] (fun r=>.sh (eI r)):=Fj f218 0x9a353433040305db78a58036094b0ac9a509430062353433040305d3b46a7e6a7e3cc48037b1369eadadfa369eadadfaac807c85acacc409c980b985557fbf9300 [.Abu (.s 1)] [.tmp 6] (h:=fun r h b d=>by
  unfold Bw at h;have:HA 0 53 52 0 fun(a:Int)(_:Unit)=>[(53,.tv (eI a))]:=⟨⟩;exact nz)
theorem qU:∀n:Nat,Q_218 n:=by
  intro n
  induction n with
  |zero=>exact(fun t p c=>⟨fun _ h=>by cases h⟩)
  |succ n a=>exact qV n a
instance wz(t:AC)(p:ec)(c:d7):Ct prog (Iu t p c) 218 [AP t,A7 p,AK c] (fun r=>.sh (eI r)):=⟨fun r h=>by
  obtain ⟨N,a⟩:=Ck h;exact((qU N) t p c).snd r (a N (bk _))⟩
instance vY(t:AC)(p:ec)(c:d7):Ct prog (Ce t p c) 142 [AP t,A7 p,AK c] (fun r=>.sh (eI r)):=Fj f142 0x810ea580eca5fa80367f9b [] [.tmp 6] (h:=fun r h a b=>by
  unfold Ce at h;exact nz)
instance c90(t:AC)(a:gt):Ct prog (GO t a) 90 [AP t,B1 a] (fun r=>.sh (eI r)):=Fj f90 0x810ea5104280b47cb130e7b83682d4d1fad1fad1ec80b47cb155376ff236019b [] [.tmp 4] (h:=fun r h b c=>by
  unfold GO at h;exact nz)
instance c49(t:AC)(a:List gt)(b:AG):Ct prog (C6 t a b) 49 [AP t,(eL 25 B1) a,BX b] (fun r=>.sh (eI r)):=Fj f49 0x815df26536055e1b1a19050305db78d136194b0cc9d11943055e621b1a190503058dc3d2d06ff236016130 [] [.tmp 6] (h:=fun r h d e=>by
  unfold C6 at h;have:HA 0 27 26 0 fun(c:Int)(_:Unit)=>[(27,.tv (eI c))]:=⟨⟩;exact nz)
instance vZ(t:AC)(b:gt)(a:AG):Ct prog (Fg t b a) 143 [AP t,B1 b,BX a] (fun r=>.sh (eI r)):=Fj f143 0x815df265ecd17c6ff2367f9b [] [.tmp 6] (h:=fun r h c d=>by
  unfold Fg at h;exact nz)
instance zf(n:Int)(a:AC):Ct prog (Jl n a) 392 [eI n,.pt (AP a).cells] (fun r=>.sh (eB r)):=Fj f392 0x816c55dd [] [.tmp 3] (h:=fun r h b c=>by
  unfold Jl at h;exact nz)
instance zg(a:Bj)(b:AC):Ct prog (Jm a b) 393 [Bs a,.pt (AP b).cells] (fun r=>.sh (eB r)):=Fj f393 0x81da55de [] [.tmp 3] (h:=fun r h c d=>by
  unfold Jm at h;exact nz)
instance y6(t:AC)(g:d5):Ct prog (ER t g) 348 [AP t,Ak g] (fun r=>.sh (eB r)):=Fj f348 0xa192105c01921055019b [] [.tmp 4] (h:=fun r h a b=>by
  unfold ER at h;exact nz)
instance yF(t:AC)(p:d5)(g:d5):Ct prog (Di t p g) 287 [AP t,Ak p,Ak g] (fun r=>.sh (eI r)):=Fj f287 0xf892960192966a7e181716be06db78369d07c93602436a7e62181716be068d02c7367c6ff2367f9b [] [.tmp 6] (h:=fun r h b c=>by
  unfold Di at h;have:HA 0 24 23 0 fun(a:Int)(_:Unit)=>[(24,.tv (eI a))]:=⟨⟩;exact nz)
instance zj(t:AC)(a:Int):Ct prog (Gf t a) 399 [AP t,eI a] (fun r=>.tp [lI r.1,eI r.2]):=Fj f399 0xe0020701fd07023889fd070238fd0702383cb7e3aa8e3036dc07e5fd0702388d55f737f778b2bb30eb30 [] [.tmp 4,.tmp 5] (h:=fun r h d e=>by
  unfold Gf at h;have:HA 0 19 18 0 fun(b:Int)(c:Fp)=>[(7,.ow (lI c)),(19,.tv (eI b))]:=⟨⟩;exact nz)
instance zE(t:AC):Ct prog (E3 t) 356 [AP t] (fun r=>.own ((eL 1 (eL 1 eB)) r)):=Fj f356 0x820231cf310489b7e31802cf0531051c1b1acf05310889f60114815fcf053105621c1b1acf0531088ddcd4bb993fc1dc3162cf31048d55f701eb00 [.mkx 1 [.bool false] (.s 18)] [.tmp 2] (h:=fun r h e f=>by
  unfold E3 at h;have:HA 0 13 12 0 fun(b:Int)(d:List a6)=>[(3,.ow ((eL 1 (eL 1 eB)) d)),(13,.tv (eI b))]:=⟨⟩;have:HA 2 28 27 0 fun(a:Int)(c:a6)=>[(5,.xo 1 (List.map eB c)),(28,.tv (eI a))]:=⟨⟩;exact nz)
instance yL(t:AC)(p:d5)(g:d5)(m:d6):Ct prog (E4 t p g m) 293 [AP t,Ak p,Ak g,Ao m] (fun r=>.sh (eI r)):=Fj f293 0x9a474645c60506899105765f76ed5c5f5c553785d59f9fe2e2c8ccc8cc91da30055d815f6362474645c60506d3b4c6050325242309c60507db885fa2555fa25501916c5530055d81a2c605036225242309c60507d332820e7c8adae638c1c101619b [] [.tmp 8] (h:=fun r h c d=>by
  unfold E4 at h;have:HA 0 37 36 0 fun(a:Int)(_:Unit)=>[(37,.tv (eI a))]:=⟨⟩;have:HA 2 71 70 0 fun(b:Int)(_:Unit)=>[(71,.tv (eI b))]:=⟨⟩;exact nz)
theorem uH(l:Fp)(r:Bool)(h:Gy l=some r):AN prog 355 [lI l] (.sh (eB r)):=by
  unfold Gy at h;rw[<-iX]at h;split at h
  · rename_i a
    cases h;exact Y7 l a
  .cases h
instance AAS(l:Fp):Ct Go.Proofs.Tryz.prog (Gy l) 355 [lI l] (fun r=>.sh (eB r)):=⟨uH l⟩
instance yJ(t:AC)(p:d5)(g:d5)(m:d6)(a:Bool):Ct prog (EJ t p g m a) 291 [AP t,Ak p,Ak g,Ao m,eB a] (fun r=>.sh (eI r)):=Fj f291 0xf80a0e5c695530fa3696ec36960161610401 [] [.tmp 10] (h:=fun r h b c=>by
  unfold EJ at h;exact nz)
instance w3(t:AC)(p:ec)(a:AG):Ct prog (DQ t p a) 219 [AP t,A7 p,BX a] (fun r=>.sh (eI r)):=Fj f219 0x815df265ec80367f9b [] [.tmp 6] (h:=fun r h b c=>by
  unfold DQ at h;exact nz)
instance yH(a:j0)(b:Fp):Ct prog (D0 a b) 289 [OF a,lI b] (fun r=>.sh (eI r)):=Fj f289 0xa85c5f55d05c8555de [] [.tmp 4] (h:=fun r h c d=>by
  unfold D0 at h;exact nz)
instance y9(a:Int)(b:Int):Ct prog (F3 a b) 351 [eI a,eI b] (fun r=>.tp [eI r.1,JY r.2]):=Fj f351 0x8c383f383f013f5d816b01283f013f30e4 [.cvt .u64 (.s 9),.cvt .u64 (.s 11),.bin (.w) .shr (.s 16) (.c (.int .u64 63)),.bin (.w) .shr (.s 18) (.c (.int .u64 63)),.cvt .i64 (.s 21)] [.tmp 4,.tmp 5] (h:=fun r h d e=>by
  unfold F3 at h;exact nz)
instance y8(t:j0)(a:Fp):Ct prog (Ea t a) 350 [OF t,.pt [lI a]] (fun r=>.tp [eI r.1,JY r.2.1,eB r.2.2]):=Fj f350 0x818c308c715c5f5503fff98c0a6c03ed55818c308c715ca855729330 [] [.tmp 3,.tmp 4,.tmp 5] (h:=fun r h b c=>by
  unfold Ea at h;exact nz)
instance yI(a:Test)(b:Fp):Ct prog (FR a b) 290 [GM a,lI b] (fun r=>.sh (eB r)):=Fj f290 0xa10aa7055577a70555810eb20e300e30910830085d8c116b010f3603425d8c116b010f36b45d10019b [] [.tmp 4] (h:=fun r h c d=>by
  unfold FR at h;exact nz)
instance w5(p:ec)(a:AG)(m:d6):Ct prog (Ey p a m) 221 [A7 p,BX a,Ao m] (fun r=>.tp [lI r.1,eI r.2]):=Fj f221 0xe01808d64b4a0804dbf788201480c404c980054308e54c4b4a0804d3b9085e1918170908be08dbf785012014369e1918170c0b0908be0a1918170c0b0908be0a3cf6f6057d9e301401148a0817d60114385d6e9e815f5c5f5fd576cb05c9c5b3085e621918170908be08d39e99993fac3fac30eb9b [.mkx 1 [.int .i64 0] (.s 17),.mkx 1 [.bool false] (.s 20)] [.tmp 6,.tmp 7] (h:=fun r h e f=>by
  unfold Ey at h;have:HA 0 25 24 0 fun(c:Int)(b:Fp×a6)=>[(8,.xo 1 (List.map eI b.1)),(9,.xo 1 (List.map eB b.2)),(25,.tv (eI c))]:=⟨⟩;have:HA 2 76 75 0 fun(d:Int)(_:Unit)=>[(76,.tv (eI d))]:=⟨⟩;exact nz)
instance yK(t:AC)(p:ec)(a:AG)(m:d6):Ct prog (DP t p a m) 292 [AP t,A7 p,BX a,Ao m] (fun r=>.tp [lI r.1,eI r.2]):=Fj f292 0xe06b0e36658037f7789632ad7cf7786580363040619b [] [.tmp 8,.tmp 9] (h:=fun r h b c=>by
  unfold DP at h;exact nz)
instance w6(t:AC)(b:gt)(a:AG)(m:AL):Ct prog (Gz t b a m) 222 [AP t,B1 b,BX a,BU m] (fun r=>.sh (eI r)):=Fj f222 0xc3b176d06fd4ad6580b47c850e030f42adade7b43601619b [] [.tmp 8] (h:=fun r h c d=>by
  unfold Gz at h;exact nz)
instance w7(t:AC)(p:d5)(g:d5)(m:d6):Ct prog (D6 t p g m) 223 [AP t,Ak p,Ak g,Ao m] (fun r=>.tp [Ak r.1,eI r.2]):=Fj f223 0x819d360c08022726250c08060689fb3201e3a2550432815f0c0802622726250c080606d332025007c93f0e5c379daad90e36967c9daad90e36960107c9619b [.Aaz [.z ⟨true,.list 1 []⟩,.w 34]] [.cell 8 (some 2),.tmp 9] (h:=fun r h c d=>by
  unfold D6 at h;have:HA 0 39 38 0 fun(b:Int)(a:d5)=>[(12,.bx [⟨true,lI a.d3⟩,⟨true,lE a.d4⟩]),(39,.tv (eI b))]:=⟨⟩;exact nz)
instance yM(a:Bc):Ct prog (CJ a) 294 [HV a] (fun r=>.sh (eI r)):=Fj f294 0x810e36b9adfa36b8369eadf4 [] [.tmp 2] (h:=fun r h b c=>by
  unfold CJ at h;exact nz)
instance zF(a:Fp)(b:Fp):Ct prog (FO a b) 357 [lI a,lI b] (fun r=>.own ((eL 2 PD) r)):=Fj f357 0x8202057709900589bd9005bdc6900770bdc69007bdc690073c0202480247054630028a0a927292f3b6b6bd9005bcbdc69007a85d38e5bd90058daac002406302 [] [.tmp 4] (h:=fun r h g i=>by
  unfold FO at h;have:HA 0 10 9 0 fun(c:Int)(f:List F7)=>[(5,.ow ((eL 2 PD) f)),(10,.tv (eI c))]:=⟨⟩;have:HA 2 7 0 0 fun(d:Int)(e:List F7)=>[(5,.ow ((eL 2 PD) e)),(7,.tv (eI d))]:=⟨⟩;exact nz)
instance yN(a:Bc):Ct prog (DN a) 295 [HV a] (fun r=>.tp [(eL 2 PD) r.1,(eL 2 PD) r.2]):=Fj f295 0x82820e7db97db80e6eb96eb8024002eb00 [] [.tmp 2,.tmp 3] (h:=fun r h b c=>by
  unfold DN at h;exact nz)
instance zH(a:Bc):Ct prog (C4 a) 358 [HV a] (fun r=>.own (lI r)):=Fj f358 0x820231bd08310589bd083105bd0831053cb7e3aab1016eb98ca23162bd083105d35bb8f701eb00 [] [.tmp 2] (h:=fun r h d e=>by
  unfold C4 at h;have:HA 0 10 9 0 fun(b:Int)(c:Fp)=>[(3,.ow (lI c)),(10,.tv (eI b))]:=⟨⟩;exact nz)
instance yO(a:Bc):Ct prog (Cv a) 296 [HV a] (fun r=>.own (lI r)):=Fj f296 0x82020401cf0b04310689cf0b043106cf0b0431063cb7e3aa8a0a0e76300e5c3092017db89f81e2c88404e5cf0b043106d301419ef7820e084401eb00 [] [.tmp 2] (h:=fun r h d e=>by
  unfold Cv at h;have:HA 0 13 12 0 fun(b:Int)(c:Fp)=>[(4,.ow (lI c)),(13,.tv (eI b))]:=⟨⟩;exact nz)
instance yP(n:Int)(a:Fp)(b:Fp):Ct prog (F2 n a b) 297 [eI n,lI a,lI b] (fun r=>.own (lI r)):=Fj f297 0x82020a01201f1e0a0489201f1e0a04201f1e0a043cb7e3aa885d815f77e5201f1e0a048d98f7070111100f0702058911100f07020511100f0702053cf60114b1308ca207e511100f0702058d81993f3040026303 [.mkx 1 [.bool false] (.s 13)] [.tmp 6] (h:=fun r h g i=>by
  unfold F2 at h;have:HA 0 17 16 0 fun(c:Int)(f:a6)=>[(7,.xo 1 (List.map eB f)),(17,.tv (eI c))]:=⟨⟩;have:HA 2 32 31 0 fun(d:Int)(e:Fp)=>[(10,.ow (lI e)),(32,.tv (eI d))]:=⟨⟩;exact nz)
instance w8(l:d5)(g:d5)(a:BA)(m:d6):Ct prog (FB l g a m) 224 [Ak l,Ak g,GL a,Ao m] (fun r=>.tp [GL r.1,eI r.2]):=Fj f224 0x8013b819d04460e5c5ce60ed5c1ff379d0346816c0e0844819d0346a86c010b0182d40844379de1d90e0844084b0dc90646969601f1619b [] [.cell 8 (some 2),.tmp 9] (h:=fun r h b c=>by
  unfold FB at h;exact nz)
instance zI(t:AC)(p:ec)(c:d7)(b:AG)(m:AL)(a:Bool):Ct prog (D2 t p c b m a) 359 [AP t,A7 p,AK c,BX b,BU m,eB a] (fun r=>.sh (eI r)):=Fj f359 0xc3b176d06fd4ad6580ec01adadad7c6ff265eca580367f6161ba [] [.tmp 12] (h:=fun r h d e=>by
  unfold D2 at h;exact nz)
instance AAB(n:Int)(b:Fp)(a:Fp):Ct prog (FP n b a) 428 [eI n,lI b,lI a] (fun r=>.own (lI r)):=Fj f428 0x821807010f0e0d07020589f65f72148ca207e50f0e0d0702058d81991a30470140026303 [] [.tmp 6] (h:=fun r h e f=>by
  unfold FP at h;have:HA 0 15 14 0 fun(c:Int)(d:Fp)=>[(7,.xo 1 (List.map eI d)),(15,.tv (eI c))]:=⟨⟩;exact nz)
theorem rJ:CK f420 (.seq (.region [⟨some 4,.mv (.c (.int .i64 0)),none⟩] [0,1])
 (.seq (.seq (.region [⟨some 5,.mv (.s 0),none⟩,
    ⟨some 6,.isn (.s 5),none⟩] [0,1,6])
  (.cond (.s 6) (.seq (.region [⟨some 4,.mv (.c (.int .i64 (-1))),none⟩] [4])
   (.ret))
  (.skip [0,1])))
 (.seq (.region [⟨some 7,.mv (.s 0),none⟩,
    ⟨some 8,.mv (.s 1),none⟩,
    ⟨some 9,.iad (.s 7) (.s 8) 1,none⟩,
    ⟨some 10,.ld (.s 9),none⟩,
    ⟨some 4,.mv (.s 10),none⟩] [4])
 (.ret)))) [.tmp 4]:=by decide +kernel
instance z6(l:Option Fp)(i:Int):Ct Go.Proofs.Tryz.prog (KA l i) 420 [(eO 1 eI) l,eI i] (fun r=>.sh (eI r)):=Fi rJ fun r h a b=>by
  cases l with
  |none=>replace h:some (-1)=some r:=h;exact au|some l=>replace h:((TX l).bind fun _=>(idx l i).bind fun x=>some x)=some r:=h;exact au
instance z8(f:AH)(b:Int)(k:Int):Ct prog (DX f b k) 422 [.pt (P0 f).cells,eI b,eI k] (fun r=>.sh (eB r)):=Fj f422 0x813f07465f76030974015f5c0309740155c8847d0274019105f35d0e017d0574019fe2c88431745b30026303 [.bin (.a [0,0,0]) .eql (.s 38) (.s 57)] [.tmp 6] (h:=fun r h c d=>by
  unfold DX at h;exact nz)
instance z7(f:AH):Ct prog (B2 f) 421 [.pt (P0 f).cells] (fun r=>.sh (eB r)):=Fj f421 0x9a14fd0300056014fd03000514fd03000581880114fd06030006262514fd060403000989ff14fd06030006018e72dc14fd0603000662262514fd06040300098d7d02745dff14fd03000585012c765c9f81e2c843636214fd030005d301745b5d6c03097430ca [] [.tmp 2] (h:=fun r h d e=>by
  unfold B2 at h;have:HA 0 20 19 0 fun(b:Int)(_:Unit)=>[(20,.tv (eI b))]:=⟨⟩;have:HA 2 38 37 0 fun(a:Int)(c:Bool)=>[(6,.tv (eB c)),(38,.tv (eI a))]:=⟨⟩;exact nz)
noncomputable def Wm:PC:=PC.of Uw f394.body (xq bT 0xffca3cfb0b74024802470446201d0aa6201d09a6040ba632caa4a306000460a4a3060004a4a30600043c1f0a740151011e0aa6320052321f0a74014fb2011e0aa632ffa4a30600048a0a20011d0aa6e107a601082030328163e5a4a30600048d7d02a681151d0aa6816c31745b32151d0aa6ca3f3e3d020005603f3e3d0200053f3e3d0200053c1f09740151011e09a6323f3e3d0200053f3e3d0200053c005232a0321f0974014fb2011e09a632ff3f3e3d0200058a0a20011d09a6e107a67708a25fa26e5b5b320304a6fef35d0e016e05a68c5f63e53f3e3d020005d35b02a681151d09a6816c6e5b5b32151d09a6005d050308a60b030ba6ca) []
theorem rH:CK f394 Wm []:=by decide +kernel
theorem rg:PC.Aae Wm=true/\PC.Aaf 0 Wm=true:=by decide +kernel
abbrev Q_394(n:Nat):Prop:=∀(f:AH),Ct prog (Av n f) 394 [.undef] (fun r=>.bo (Cd f) (Cd r) 0 [])
theorem qw(n:Nat)(_ih_394:Q_394 n)(f:AH):Ct prog (Av (n+1) f) 394 [.undef] (fun r=>.bo (Cd f) (Cd r) 0 []):=ib rH rg fun r h i g j=>by
  unfold Wm;unfold f394;unfold Av at h;have:HA 1 63 62 0 fun(e:Int)(d:AH)=>[(0,.bx (Cd d)),(63,.tv (eI e))]:=⟨⟩;have:HA 3 164 163 0 fun(a:Int)(b:AH)=>[(0,.bx (Cd b)),(164,.tv (eI a))]:=⟨⟩;have:HJ 28 fun(c:AH)=>[(0,.bx (Cd c))]:=⟨⟩;exact nz
theorem qv:∀n:Nat,Q_394 n:=by
  intro n
  induction n with
  |zero=>exact(fun f=>⟨fun _ h=>by cases h⟩)
  |succ n a=>exact qw n a
instance zh(f:AH):Ct prog (EW f) 394 [.undef] (fun r=>.bo (Cd f) (Cd r) 0 []):=⟨fun r h=>by
  obtain ⟨N,a⟩:=Ck h;exact((qv N) f).snd r (a N (bk _))⟩
theorem rF:CK f349 (Rq [Aa 6 0,Aa 7 1,Aa 8 2,Aa 9 3,⟨some 12,.Aby 2,none⟩] [4,5,6,7,8,9]<|Sq (Dr [13,14,15,16,17,18,19,20,21] [Ab 14 7 2,Ab 15 8 2,Ab 16 6 2,⟨some 17,.call 356 [.s 16],none⟩,Ab 18 9 2,⟨some 19,.mv (.s 4),none⟩,⟨some 20,.mv (.s 5),none⟩,⟨some 21,.bld [.list 1 [],.list 3 [],.list 1 [],.list 3 [],.list 1 [],.nil,.nil,.bool false,.int .i64 0,.nil,.nil,.nil] [(0,2,.s 14),(2,2,.s 15),(4,1,.s 17),(5,2,.s 18),(7,1,.s 19),(8,1,.s 20)],none⟩,⟨some 22,.Abt [none,none,none,none,none,none,none,none,none,some ⟨true,.xl 1 []⟩,some ⟨true,.xl 1 []⟩,some ⟨true,.list 2 []⟩] (.s 21),none⟩,⟨some 13,.bad 22 0,none⟩] [13,22])<|Rq [Ac 23 13 0,⟨some 24,.AaE 394 [.s 23] 0,none⟩] [13,22]<|Rq [Ac 25 13 0,Ac 26 25 0,Ac 27 26 11,⟨some 28,.ld (.s 27),none⟩,⟨some 12,.tk 28,none⟩] [12]<|.ret) [.tmp 12]:=by decide +kernel
instance y7(t:AC)(p:d5)(g:d5)(b:Ka)(a:Bool)(c:Int):Ct prog (EK t p g b a c) 349 [AP t,Ak p,Ak g,iu b,eB a,eI c] (fun r=>.sh ((eL 2 Ao) r)):=Fi rF fun r h d e=>by
  unfold EK at h;exact au
instance yG(t:AC)(p:d5)(g:d5)(b:Ka)(a:Bool):Ct prog (GQ t p g b a) 288 [AP t,Ak p,Ak g,iu b,eB a] (fun r=>.tp [(eL 2 Ao) r.1,eI r.2]):=Fj f288 0xe0d002c0d201820e019696aa4061610401 [] [.tmp 10,.tmp 11] (h:=fun r h c d=>by
  unfold GQ at h;exact nz)
instance AAF(k:Int)(a:Int):Ct prog (LD k a) 432 [eI k,.pt [eI a]] (fun r=>.sh (eB r)):=Fj f432 0xa105033005dd [] [.tmp 3] (h:=fun r h b c=>by
  unfold LD at h;exact nz)
instance AAE(l:Fp)(n:Int):Ct prog (Fe l n) 431 [lI l,eI n] (fun r=>.sh (eI r)):=Fj f431 0xc38e103093ca [] [.tmp 4] (h:=fun r h a b=>by
  unfold Fe at h;exact nz)
instance AAC(t:AC)(p:d5)(g:d5)(b:d6)(a:Bool):Ct prog (FI t p g b a) 429 [AP t,Ak p,Ak g,Ao b,eB a] (fun r=>.tp [(eL 2 Ao) r.1,eI r.2]):=Fj f429 0xe06b0ebb967c02c078e65c3702c078c1553702c08adae638c1c13702c0783696aa4061610401 [] [.tmp 10,.tmp 11] (h:=fun r h c d=>by
  unfold FI at h;exact nz)
instance zK(a:j0)(b:Fp):Ct prog (EX a b) 362 [OF a,lI b] (fun r=>.tp [eI r.1,eI r.2]):=Fj f362 0x8c0e017c81b16c0155309330 [] [.tmp 4,.tmp 5] (h:=fun r h c d=>by
  unfold EX at h;exact nz)
instance AAD(b:An)(q:ec)(m:d6)(a:Fp):Ct prog (Dc b q m a) 430 [CF b,A7 q,Ao m,lI a] (fun r=>.tp [lI r.1,eB r.2]):=Fj f430 0xe0180a016867660a04dbf788201480c404c98005430ae56867660a04d3b90a05022c2b2aef066a08dbf78a05f35d816b012014369e2c2b2a0f0eef066a0a2c2b2a0f0eef066a0a3cf6f6057d9e301401148a0817d60114385d6e9e815f5c5f5fd55e419ecb05c9c5b30a0502622c2b2aef066a08d39eef066a052221ef066a0789f60114dcef066a05622221ef066a078d01993fac993f6c01ac1a72eb6131 [.Abj 1 22 (.int .i64 0) (.s 27),.mkx 1 [.bool false] (.s 30)] [.tmp 8,.tmp 9] (h:=fun r h i j=>by
  unfold Dc at h;have:HA 0 34 33 0 fun(d:Int)(f:a6)=>[(11,.xo 1 (List.map eB f)),(34,.tv (eI d))]:=⟨⟩;have:HA 2 44 43 0 fun(e:Int)(c:Fp×a6)=>[(10,.xo 1 (List.map eI c.1)),(11,.xo 1 (List.map eB c.2)),(44,.tv (eI e))]:=⟨⟩;have:HA 4 104 103 0 fun(g:Int)(_:Unit)=>[(104,.tv (eI g))]:=⟨⟩;exact nz)
instance AAA(a:An)(c:d7)(m:AL):Ct prog (Bl a c m) 425 [CF a,AK c,BU m] (fun r=>.tp [(eL 3 BU) r.1,eI r.2]):=Fj f425 0xe0020c013b3a390cbe07893b3a390cbe073b3a390cbe073c02034803470946bb028cd4763680b906449df13602430ce53b3a390cbe078d8103c03703c06fd4030542965b9e96329df104460efc7d9ee60ecd6e9ec19d07c9e7b9e1eb9b [] [.tmp 6,.tmp 7] (h:=fun r h e f=>by
  unfold Bl at h;have:HA 0 59 58 0 fun(b:Int)(d:List AL)=>[(12,.ow ((eL 3 BU) d)),(59,.tv (eI b))]:=⟨⟩;exact nz)
abbrev Ab2(n:Nat):Prop:=∀(a:An)(c:d7)(m:AL),Ct prog (Ai n a c m) 360 [CF a,AK c,BU m] (fun r=>.tp [ED r.1,eI r.2])
abbrev Ab1(n:Nat):Prop:=∀(a:An)(c:d7)(m:AL),Ct prog (BF n a c m) 400 [CF a,AK c,BU m] (fun r=>.tp [ED r.1,eI r.2])
theorem qr(n:Nat)(_ih_360:Ab2 n)(_ih_400:Ab1 n)(b:An)(c:d7)(m:AL):Ct prog (Ai (n+1) b c m) 360 [CF b,AK c,BU m] (fun r=>.tp [ED r.1,eI r.2]):=Fj f360 0xa84b0a46ff37c46b0e65a50644a8a84b0a4606014b4a4906050306dbc4774685d0c40b460547806fc40ec97165a50644094ba1c9a5098406e54b4a4906050306d3b4a8a84b800a06022f2e2d0a0605030789fbb9054805478004b937c477d9c40ec97165a50644094b0ac9a509430a0602622f2e2d0a06050307d3b40ec9a8a84b7746ff37c40a46a8a84b0a46a88cc40e497165a509435c0644a8833269c9939b [] [.cell 6 (some 5),.tmp 7] (h:=fun r h g i=>by
  unfold Ai at h;have:HA 2 47 46 0 fun(e:Int)(a:Ay×Ay)=>[(6,.bx [⟨false,eI a.1.AaB⟩,⟨true,lI a.1.og.d6.d3⟩,⟨true,lI a.1.og.d6.d4⟩,⟨true,lI a.1.og.hT⟩,⟨true,G9 a.1.gp⟩]),(10,.bx [⟨false,eI a.2.AaB⟩,⟨true,lI a.2.og.d6.d3⟩,⟨true,lI a.2.og.d6.d4⟩,⟨true,lI a.2.og.hT⟩,⟨true,G9 a.2.gp⟩]),(47,.tv (eI e))]:=⟨⟩;have:HA 4 75 74 0 fun(f:Int)(d:Ay)=>[(6,.bx [⟨false,eI d.AaB⟩,⟨true,lI d.og.d6.d3⟩,⟨true,lI d.og.d6.d4⟩,⟨true,lI d.og.hT⟩,⟨true,G9 d.gp⟩]),(75,.tv (eI f))]:=⟨⟩;exact nz)
theorem qx(n:Nat)(_ih_360:Ab2 n)(_ih_400:Ab1 n)(a:An)(c:d7)(m:AL):Ct prog (BF (n+1) a c m) 400 [CF a,AK c,BU m] (fun r=>.tp [ED r.1,eI r.2]):=Fj f400 0xa84b0a4606011b1a1906040306dbc4774685d0c40c460547806564c40ec97165a509435c06449f0fc9c84306e51b1a19060403068dc3c477d9d465a5064469c9939b [] [.cell 6 (some 5),.tmp 7] (h:=fun r h e f=>by
  unfold BF at h;have:HA 0 27 26 0 fun(d:Int)(b:Ay)=>[(6,.bx [⟨false,eI b.AaB⟩,⟨true,lI b.og.d6.d3⟩,⟨true,lI b.og.d6.d4⟩,⟨true,lI b.og.hT⟩,⟨true,G9 b.gp⟩]),(27,.tv (eI d))]:=⟨⟩;exact nz)
theorem im:∀n:Nat,Ab2 n/\Ab1 n:=by
  intro n
  induction n with
  |zero=>exact⟨(fun b c m=>⟨fun _ h=>by cases h⟩),(fun b c m=>⟨fun _ h=>by cases h⟩)⟩
  |succ n a=>exact⟨qr n a.1 a.2,qx n a.1 a.2⟩
instance zJ(a:An)(c:d7)(m:AL):Ct prog (DO a c m) 360 [CF a,AK c,BU m] (fun r=>.tp [ED r.1,eI r.2]):=⟨fun r h=>by
  obtain ⟨N,b⟩:=Ck h;exact((im N).1 a c m).snd r (b N (bk _))⟩
instance zk(a:An)(c:d7)(m:AL):Ct prog (Ny a c m) 400 [CF a,AK c,BU m] (fun r=>.tp [ED r.1,eI r.2]):=⟨fun r h=>by
  obtain ⟨N,b⟩:=Ck h;exact((im N).2 a c m).snd r (b N (bk _))⟩
instance yQ(t:AC)(p:ec)(c:d7)(b:AG)(m:AL)(a:Bool):Ct prog (DH t p c b m a) 298 [AP t,A7 p,AK c,BX b,BU m,eB a] (fun r=>.tp [ED r.1,eI r.2]):=Fj f298 0xa84b6b0e65a50d4601657cc477d90e016565a5803669c9936161ba [] [.cell 12 (some 5),.tmp 13] (h:=fun r h d e=>by
  unfold DH at h;exact nz)
instance w9(t:AC)(p:ec)(c:d7)(b:AG)(m:AL)(a:Bool):Ct prog (Cp t p c b m a) 225 [AP t,A7 p,AK c,BX b,BU m,eB a] (fun r=>.tp [eB r.1,eI r.2]):=Fj f225 0x8c38d08164c40e4971016565a5803630936161ba [] [.tmp 12,.tmp 13] (h:=fun r h d e=>by
  unfold Cp at h;exact nz)
instance xA(m:AL):Ct prog (IZ m) 226 [BU m] (fun r=>.sh (BU r)):=Fj f226 0xb73b9f09460e7604460efc0ecd0fc99300 [] [.cell 2 (some 3)] (h:=fun r h a b=>by
  unfold IZ at h;exact nz)
instance xB(a:AG):Ct prog (JG a) 227 [BX a] (fun r=>.sh (BX r)):=Fj f227 0x9f655e02fd115e0589fb9e01e301483047049e825f5e0262fd115e05d39e035010c93f3f0efc0ecd10c99300 [.Aaz [.w 9,.w 13],.Aaz [.g 14 0 2,.g 14 1 2,.z ⟨true,.list 1 []⟩]] [.cell 2 (some 3)] (h:=fun r h d e=>by
  unfold JG at h;have:HA 0 19 18 0 fun(c:Int)(b:AG)=>[(3,.bx [⟨true,lI b.d5.d3⟩,⟨true,lE b.d5.d4⟩,⟨true,(eL 1 lI) b.gn⟩]),(19,.tv (eI c))]:=⟨⟩;exact nz)
instance xC(n:Int)(l:Fp):Ct prog (KV n l) 228 [eI n,lI l] (fun r=>.own (lI r)):=Fj f228 0x8218bacfba0489f63014cfc6ba06cfc6ba063c01885d8171308138e5cfba04819514993f30406302 [.mkx 1 [.int .i64 0] (.s 9)] [.tmp 4] (h:=fun r h c d=>by
  unfold KV at h;have:HA 0 13 12 0 fun(a:Int)(b:Fp)=>[(5,.xo 1 (List.map eI b)),(13,.tv (eI a))]:=⟨⟩;exact nz)
instance xD(c:Int)(e:Fp)(d:Fp)(a:Fp)(b:Fp)(n:Int):Ct prog (Fw c e d a b n) 229 [eI c,lI e,lI d,lI a,lI b,eI n] (fun r=>.own (lI r)):=Fj f229 0x82180d012b2a0d6a892b2a0d6a2b2a0d6a6030ea30148517d60114dc0de52b2a0d6a8195140d05021615140d6a310889f65f5f5f7230148ca20d0502621615140d6a31088d81991a304701406a5e6306 [] [.tmp 12] (h:=fun r h k l=>by
  unfold Fw at h;have:HA 0 22 21 0 fun(g:Int)(j:Fp)=>[(13,.xo 1 (List.map eI j)),(22,.tv (eI g))]:=⟨⟩;have:HA 2 43 42 0 fun(i:Int)(f:Int×Fp)=>[(5,.tv (eI f.1)),(13,.xo 1 (List.map eI f.2)),(43,.tv (eI i))]:=⟨⟩;exact nz)
instance yR(t:AC)(a:Int):Ct prog (Hp t a) 300 [AP t,eI a] (fun r=>.own (lI r)):=Fj f300 0x82020701fd11070489b7e35c02cb02c9c5b307e5fd1107048de0b201d4bb01eb30 [] [.tmp 4] (h:=fun r h d e=>by
  unfold Hp at h;have:HA 0 19 18 0 fun(b:Int)(c:Fp)=>[(7,.ow (lI c)),(19,.tv (eI b))]:=⟨⟩;exact nz)
noncomputable def Wi:PC:=PC.of Uw f230.body (xq bT 0x30b0afaee989b0afaee9b0afaee93cfb01741f740348034707465f766e24a65f5c6e24a6550401741fa632d231741fa6a27d24a69f81e2c8437262b0afaee9d3b407aa7b7a79073106897b7a790731067b7a790731063c1f02411f7421221abb2302411fa632fb5b5b1f7401e3e95b5b1fa632d26e5b1fa6a26e24a68ca207aa627b7a79073106d33207319f4a49c6310789fb01741f740348034707465f766e22a65f5c6e22a6550401741fa6329fe2c884fc815f073103624b4a49c63107d3b4c60531051e1d1cc6053108891f02411f742122014fa27601562302411fa632fb5b5b1f7401e3a2cd045b5b1fa632815fc6053105621e1d1cc6053108d3329d9f07c910c9e706745b32651ca66130) []
theorem rC:CK f230 Wi []:=by decide +kernel
theorem rc:PC.Aae Wi=true/\PC.Aaf 1 Wi=true:=by decide +kernel
instance xE(t:AC)(a:A2)(d:BA):Ct prog (GT t a d) 230 [AP t,.undef,GL d] (fun r=>.bo (DD a) (DD r) 1 []):=ib rC rc fun r h m l n=>by
  unfold Wi;unfold f230;unfold GT at h;have:HA 0 30 29 0 fun(b:Int)(i:A2)=>[(1,.bx (DD i)),(30,.tv (eI b))]:=⟨⟩;have:HA 2 75 74 0 fun(c:Int)(e:A2)=>[(1,.bx (DD e)),(75,.tv (eI c))]:=⟨⟩;have:HA 4 123 122 0 fun(k:Int)(j:A2)=>[(1,.bx (DD j)),(123,.tv (eI k))]:=⟨⟩;have:HA 6 176 175 0 fun(f:Int)(g:A2)=>[(1,.bx (DD g)),(176,.tv (eI f))]:=⟨⟩;exact nz
theorem rE:CK f301 (.seq (.region [⟨some 1,.Abs (.s 0),none⟩,
    ⟨some 2,.mv (.c .undef),none⟩,
    ⟨some 3,.mv (.c (.int .i64 0)),none⟩] [1])
 (.seq (.region [⟨some 12,.mkm,none⟩,
    ⟨some 4,.mvm 12,none⟩] [1,4,12])
 (.seq (.seq (.region [⟨some 13,.bad 1 0,none⟩,
    ⟨some 14,.fad (.s 13) 6,none⟩,
    ⟨some 15,.fad (.s 14) 2,none⟩,
    ⟨some 16,.ld (.s 15),none⟩,
    ⟨some 17,.len (.s 16),none⟩,
    ⟨some 18,.mv (.c (.int .i64 0)),none⟩] [1,4,12,16,17,18])
 (.block 0 (.loop [1,4,12,16,17,18] (.seq (.region [⟨some 19,.bin (.i) .lss (.s 18) (.s 17),none⟩] [1,4,12,16,17,18,19])
 (.seq (.cond (.s 19) (.skip [1,4,12,16,17,18])
 (.exit 0 [4,12]))
 (.seq (.block 1 (.seq (.region [⟨some 20,.iad (.s 16) (.s 18) 4,none⟩,
    ⟨some 21,.lda (.s 20) 4,none⟩,
    ⟨some 6,.alc [⟨false,.int .i64 0⟩,⟨false,.int .i64 0⟩,⟨false,.int .i64 0⟩,⟨false,.int .i64 0⟩],none⟩,
    ⟨none,.stb 4 6 (.s 21),none⟩] [1,4,6,12,16,17,18])
 (.seq (.region [⟨some 23,.bad 6 2,none⟩,
    ⟨some 24,.lda (.s 23) 2,none⟩,
    ⟨some 25,.bad 1 25,none⟩,
    ⟨some 26,.fad (.s 25) 2,none⟩,
    ⟨some 27,.ld (.s 26),none⟩,
    ⟨some 28,.call 362 [.s 24,.s 27],none⟩,
    ⟨some 22,.mv (.s 28),none⟩,
    ⟨some 29,.ext (.s 22) 0,none⟩,
    ⟨some 30,.ext (.s 22) 1,none⟩,
    ⟨some 7,.mv (.s 29),none⟩,
    ⟨some 8,.mv (.s 30),none⟩] [1,4,6,7,8,12,16,17,18])
 (.seq (.seq (.region [⟨some 31,.mv (.s 8),none⟩,
    ⟨some 32,.bin (.i) .neq (.s 31) (.c (.int .i64 0)),none⟩] [1,4,6,7,8,12,16,17,18,32])
 (.cond (.s 32) (.seq (.region [⟨some 33,.mv (.s 8),none⟩,
    ⟨some 2,.mv (.c .undef),none⟩,
    ⟨some 3,.mv (.s 33),none⟩] [2,3,12])
 .ret)
 (.skip [1,4,6,7,12,16,17,18])))
 (.seq (.draw [9,34,35,36,37,38,39,40,41,42,43] [⟨some 34,.bad 1 36,none⟩,
    ⟨some 35,.fad (.s 34) 0,none⟩,
    ⟨some 36,.ld (.s 35),none⟩,
    ⟨some 37,.bad 6 0,none⟩,
    ⟨some 38,.ld (.s 37),none⟩,
    ⟨some 39,.iad (.s 36) (.s 38) 1,none⟩,
    ⟨some 40,.ld (.s 39),none⟩,
    ⟨some 41,.bad 6 1,none⟩,
    ⟨some 42,.ld (.s 41),none⟩,
    ⟨some 43,.bld [.int .i64 0,.int .i64 0] [(0,1,.s 40),(1,1,.s 42)],none⟩,
    ⟨some 9,.alc [⟨false,.int .i64 0⟩,⟨false,.int .i64 0⟩],none⟩,
    ⟨none,.stb 2 9 (.s 43),none⟩] [1,4,7,9,12,16,17,18])
 (.seq (.seq (.region [⟨some 45,.mv (.s 4),none⟩,
    ⟨some 46,.lda (.s 9) 2,none⟩,
    ⟨some 47,.mlk 12 (.s 45) (.s 46),none⟩,
    ⟨some 44,.mv (.s 47),none⟩,
    ⟨some 48,.ext (.s 44) 0,none⟩,
    ⟨some 49,.ext (.s 44) 1,none⟩,
    ⟨some 10,.mv (.s 48),none⟩,
    ⟨some 11,.mv (.s 49),none⟩] [1,4,7,9,10,11,12,16,17,18])
 (.seq (.region [⟨some 50,.mv (.s 11),none⟩,
    ⟨some 51,.mv (.s 50),none⟩,
    ⟨some 52,.mv (.s 10),some (51,true)⟩,
    ⟨some 53,.mv (.s 7),some (51,true)⟩,
    ⟨some 54,.bin (.i) .neq (.s 52) (.s 53),some (51,true)⟩,
    ⟨some 55,.pick (.s 51) (.s 54) (.c (.bool false)),none⟩] [1,4,7,9,12,16,17,18,55])
 (.cond (.s 55) (.seq (.region [⟨some 2,.mv (.c .undef),none⟩,
    ⟨some 3,.mv (.c (.int .i64 11)),none⟩] [2,3,12])
 .ret)
 (.skip [1,4,7,9,12,16,17,18]))))
 (.region [⟨some 56,.mv (.s 4),none⟩,
    ⟨some 57,.lda (.s 9) 2,none⟩,
    ⟨some 58,.mv (.s 7),none⟩,
    ⟨none,.mup 12 (.s 56) (.s 57) (.s 58),none⟩] [1,4,12,16,17,18])))))))
 (.region [⟨some 59,.bin (.i) .add (.s 18) (.c (.int .i64 1)),none⟩,
    ⟨some 18,.mv (.s 59),none⟩] [1,4,12,16,17,18])))))))
 (.seq (.region [⟨some 60,.mv (.s 4),none⟩,
    ⟨some 2,.mv (.s 60),none⟩,
    ⟨some 3,.mv (.c (.int .i64 0)),none⟩] [2,3,12])
 .ret)))) [.tmp 2,.tmp 3]:=by decide +kernel
instance AAP(s:A2):Ct Go.Proofs.Tryz.prog (HI s) 301 [ZL s] MC:=uj rE fun r h d e=>by
  unfold HI at h;have K:∀b:Nat,HA 0 18 17 0 fun(a:Int)(c:BD)=>[(12,.mx (.mp b c)),(18,.tv (eI a))]:=fun _=>⟨⟩;have:tY 12:=⟨⟩;exact au
theorem Vb(t:AC)(s:A2)(V:List Fp)(p:(Int×Int)×Int)(a:BD)(r:Bk (List Fp) Unit)(h:L6 t s V p=some r):WP (AN Go.Proofs.Tryz.prog) (.block 1 (.seq (.region [⟨some 25,.men 22,none⟩,
    ⟨some 26,.ext (.s 25) 0,none⟩,
    ⟨some 27,.ext (.s 25) 1,none⟩,
    ⟨some 7,.alc [⟨false,.int .i64 0⟩,⟨false,.int .i64 0⟩],none⟩,
    ⟨none,.stb 2 7 (.s 26),none⟩,
    ⟨some 8,.mv (.s 27),none⟩] [1,2,7,8,22])
 (.seq (.draw [9,10,28,29,30,31,32,33,34,35,36,37,38,39,40,41,42] [⟨some 29,.lda (.s 2) 2,none⟩,
    ⟨some 30,.bad 1 0,none⟩,
    ⟨some 31,.fad (.s 30) 0,none⟩,
    ⟨some 32,.fad (.s 31) 31,none⟩,
    ⟨some 33,.fad (.s 32) 0,none⟩,
    ⟨some 34,.fad (.s 33) 0,none⟩,
    ⟨some 35,.ld (.s 34),none⟩,
    ⟨some 36,.bad 7 0,none⟩,
    ⟨some 37,.ld (.s 36),none⟩,
    ⟨some 38,.iad (.s 35) (.s 37) 1,none⟩,
    ⟨some 39,.ld (.s 38),none⟩,
    ⟨some 40,.call 170 [.s 29,.s 39],none⟩,
    ⟨some 28,.mv (.s 40),none⟩,
    ⟨some 41,.ext (.s 28) 0,none⟩,
    ⟨some 42,.ext (.s 28) 1,none⟩,
    ⟨some 9,.mv (.s 41),none⟩,
    ⟨some 10,.mv (.s 42),none⟩] [1,2,7,8,9,22])
 (.seq (.seq (.region [⟨some 43,.mv (.s 8),none⟩,
    ⟨some 44,.mv (.s 9),none⟩,
    ⟨some 45,.bad 7 1,none⟩,
    ⟨some 46,.ld (.s 45),none⟩,
    ⟨some 47,.iad (.s 44) (.s 46) 4,none⟩,
    ⟨some 48,.fad (.s 47) 1,none⟩,
    ⟨some 49,.ld (.s 48),none⟩,
    ⟨some 50,.bin (.i) .lss (.s 43) (.s 49),none⟩,
    ⟨some 51,.mv (.s 50),none⟩,
    ⟨some 52,.mv (.s 8),some (51,false)⟩,
    ⟨some 53,.mv (.s 9),some (51,false)⟩,
    ⟨some 54,.bad 7 1,some (51,false)⟩,
    ⟨some 55,.ld (.s 54),some (51,false)⟩,
    ⟨some 56,.iad (.s 53) (.s 55) 4,some (51,false)⟩,
    ⟨some 57,.fad (.s 56) 2,some (51,false)⟩,
    ⟨some 58,.ld (.s 57),some (51,false)⟩,
    ⟨some 59,.bin (.i) .gtr (.s 52) (.s 58),some (51,false)⟩,
    ⟨some 60,.pick (.s 51) (.c (.bool true)) (.s 59),none⟩] [1,2,7,8,22,60])
 (.cond (.s 60) (.seq (.region [⟨some 4,.mv (.c (.int .i64 6)),none⟩] [1,4])
 .ret)
 (.skip [1,2,7,8,22])))
 (.draw [61,62,63,64,65,66,67,68,69,70,71,72,73] [⟨some 61,.bad 1 0,none⟩,
    ⟨some 62,.fad (.s 61) 0,none⟩,
    ⟨some 63,.fad (.s 62) 31,none⟩,
    ⟨some 64,.fad (.s 63) 2,none⟩,
    ⟨some 65,.lan (.s 64),none⟩,
    ⟨some 66,.bad 7 0,none⟩,
    ⟨some 67,.ld (.s 66),none⟩,
    ⟨some 68,.nia (.s 65) (.s 67),none⟩,
    ⟨some 69,.nld (.s 68),none⟩,
    ⟨some 70,.bad 7 1,none⟩,
    ⟨some 71,.ld (.s 70),none⟩,
    ⟨some 72,.mv (.s 8),none⟩,
    ⟨some 73,.nia (.s 69) (.s 71),none⟩,
    ⟨none,.nst (.s 73) (.s 72),none⟩] [1,2,22]))))) ⟨fun e=>∃b,r=.next b/\Rn (e.hV [1,2,22]) [(1,.bx (DD (Ma s b))),(2,.tv (.pt (AP t).cells)),(22,.mx (.mi (some p) a))],fun _ _=>False,fun e=>∃v,r=.ret v/\Rn e [(1,.bx (DD (Ma s V))),(4,.tv (eI 6))]⟩ [(1,.bx (DD (Ma s V))),(2,.tv (.pt (AP t).cells)),(22,.mx (.mi (some p) a))]:=by
  unfold L6 at h;exact au
noncomputable def Wj:PC:=(.seq (.region [⟨some 2,.Abs (.s 0),none⟩,
    ⟨some 4,.mv (.c (.int .i64 0)),none⟩] [1,2])
 (.seq (.region [⟨some 12,.bad 1 0,none⟩,
    ⟨some 13,.fad (.s 12) 0,none⟩,
    ⟨some 14,.lda (.s 13) 38,none⟩,
    ⟨some 15,.AaU 301 [.s 14],none⟩,
    ⟨some 11,.mvm 15,none⟩,
    ⟨some 16,.ext (.s 11) 0,none⟩,
    ⟨some 17,.ext (.s 11) 1,none⟩,
    ⟨some 5,.mv (.s 16),none⟩,
    ⟨some 6,.mv (.s 17),none⟩] [1,2,5,6,15])
 (.seq (.seq (.region [⟨some 18,.mv (.s 6),none⟩,
    ⟨some 19,.bin (.i) .neq (.s 18) (.c (.int .i64 0)),none⟩] [1,2,5,6,15,19])
 (.cond (.s 19) (.seq (.region [⟨some 20,.mv (.s 6),none⟩,
    ⟨some 4,.mv (.s 20),none⟩] [1,4])
 .ret)
 (.skip [1,2,5,15])))
 (.seq (.seq (.region [⟨some 21,.mv (.s 5),none⟩,
    ⟨some 22,.mrg 15 (.s 21),none⟩] [1,2,22])
 (.block 0 (.loop [1,2,22] (.seq (.region [⟨some 23,.mnx 22,none⟩,
    ⟨some 24,.ext (.s 23) 0,none⟩] [1,2,22,24])
 (.seq (.cond (.s 24) (.skip [1,2,22])
 (.exit 0 [1]))
 (.block 1 (.seq (.region [⟨some 25,.men 22,none⟩,
    ⟨some 26,.ext (.s 25) 0,none⟩,
    ⟨some 27,.ext (.s 25) 1,none⟩,
    ⟨some 7,.alc [⟨false,.int .i64 0⟩,⟨false,.int .i64 0⟩],none⟩,
    ⟨none,.stb 2 7 (.s 26),none⟩,
    ⟨some 8,.mv (.s 27),none⟩] [1,2,7,8,22])
 (.seq (.draw [9,10,28,29,30,31,32,33,34,35,36,37,38,39,40,41,42] [⟨some 29,.lda (.s 2) 2,none⟩,
    ⟨some 30,.bad 1 0,none⟩,
    ⟨some 31,.fad (.s 30) 0,none⟩,
    ⟨some 32,.fad (.s 31) 31,none⟩,
    ⟨some 33,.fad (.s 32) 0,none⟩,
    ⟨some 34,.fad (.s 33) 0,none⟩,
    ⟨some 35,.ld (.s 34),none⟩,
    ⟨some 36,.bad 7 0,none⟩,
    ⟨some 37,.ld (.s 36),none⟩,
    ⟨some 38,.iad (.s 35) (.s 37) 1,none⟩,
    ⟨some 39,.ld (.s 38),none⟩,
    ⟨some 40,.call 170 [.s 29,.s 39],none⟩,
    ⟨some 28,.mv (.s 40),none⟩,
    ⟨some 41,.ext (.s 28) 0,none⟩,
    ⟨some 42,.ext (.s 28) 1,none⟩,
    ⟨some 9,.mv (.s 41),none⟩,
    ⟨some 10,.mv (.s 42),none⟩] [1,2,7,8,9,22])
 (.seq (.seq (.region [⟨some 43,.mv (.s 8),none⟩,
    ⟨some 44,.mv (.s 9),none⟩,
    ⟨some 45,.bad 7 1,none⟩,
    ⟨some 46,.ld (.s 45),none⟩,
    ⟨some 47,.iad (.s 44) (.s 46) 4,none⟩,
    ⟨some 48,.fad (.s 47) 1,none⟩,
    ⟨some 49,.ld (.s 48),none⟩,
    ⟨some 50,.bin (.i) .lss (.s 43) (.s 49),none⟩,
    ⟨some 51,.mv (.s 50),none⟩,
    ⟨some 52,.mv (.s 8),some (51,false)⟩,
    ⟨some 53,.mv (.s 9),some (51,false)⟩,
    ⟨some 54,.bad 7 1,some (51,false)⟩,
    ⟨some 55,.ld (.s 54),some (51,false)⟩,
    ⟨some 56,.iad (.s 53) (.s 55) 4,some (51,false)⟩,
    ⟨some 57,.fad (.s 56) 2,some (51,false)⟩,
    ⟨some 58,.ld (.s 57),some (51,false)⟩,
    ⟨some 59,.bin (.i) .gtr (.s 52) (.s 58),some (51,false)⟩,
    ⟨some 60,.pick (.s 51) (.c (.bool true)) (.s 59),none⟩] [1,2,7,8,22,60])
 (.cond (.s 60) (.seq (.region [⟨some 4,.mv (.c (.int .i64 6)),none⟩] [1,4])
 .ret)
 (.skip [1,2,7,8,22])))
 (.draw [61,62,63,64,65,66,67,68,69,70,71,72,73] [⟨some 61,.bad 1 0,none⟩,
    ⟨some 62,.fad (.s 61) 0,none⟩,
    ⟨some 63,.fad (.s 62) 31,none⟩,
    ⟨some 64,.fad (.s 63) 2,none⟩,
    ⟨some 65,.lan (.s 64),none⟩,
    ⟨some 66,.bad 7 0,none⟩,
    ⟨some 67,.ld (.s 66),none⟩,
    ⟨some 68,.nia (.s 65) (.s 67),none⟩,
    ⟨some 69,.nld (.s 68),none⟩,
    ⟨some 70,.bad 7 1,none⟩,
    ⟨some 71,.ld (.s 70),none⟩,
    ⟨some 72,.mv (.s 8),none⟩,
    ⟨some 73,.nia (.s 69) (.s 71),none⟩,
    ⟨none,.nst (.s 73) (.s 72),none⟩] [1,2,22]))))))))))
 (.seq (.region [⟨some 4,.mv (.c (.int .i64 0)),none⟩] [1,4])
 .ret)))))
theorem rD:CK f231 Wj [.tmp 4]:=by decide +kernel
theorem rd:PC.Aae Wj=true/\PC.Aaf 1 Wj=true:=by decide +kernel
variable{t:AC}{s:A2}
theorem aQ{p:(Int×Int)×Int}{b:Bool}(h:L7 t s p=some b){V:List Fp}(a:LT V s.wi.gn):
    (b=true->L6 t s V p=some (.next (CR V p)))/\(b=false->L6 t s V p=some (.ret ())):=by
  unfold L7 L6 at h;unfold L6;obtain⟨c,d,h⟩:=bind_some h;obtain⟨q,f,d⟩:=bind_some d;obtain⟨r,g,d⟩:=bind_some d;obtain⟨u,i,d⟩:=bind_some d;obtain⟨j,k,d⟩:=bind_some d;simp only[f,g,i,Option.bind_some]at *;rw[k,Option.bind_some];cases j with
  |true=>
    simp only[if_true,x4]at d|-;subst d;simp only[x4]at h;subst h;exact⟨fun e=>(by cases e),fun _=>trivial⟩
  |false=>
    simp only[Bool.false_eq_true,if_false]at d|-;obtain⟨v,l,d⟩:=bind_some d;obtain⟨w,m,d⟩:=bind_some d;cases d;simp only[x4]at h;subst h;obtain⟨x,x',n,o⟩:=a.idx l m;refine⟨fun _=>?_,fun e=>(by cases e)⟩;rw[n,Option.bind_some,o,Option.bind_some,XR n o]
theorem cP{a:BD}{c:Bool}(m:a.Dis)(f:AaP (L7 t s) a=some c){L y:AB->Prop}{x:Nat->AB->Prop}{d:AB->Prop}
    (k:c=true->y [(1,.bx (DD (Ma s (a.foldl CR s.wi.gn))))])(g:c=false->∀V,d [(1,.bx (DD (Ma s V))),(4,.tv (eI 6))]):
    WP (AN Go.Proofs.Tryz.prog) (.loop [1,2,22] (.seq (.region [⟨some 23,.mnx 22,none⟩,
    ⟨some 24,.ext (.s 23) 0,none⟩] [1,2,22,24])
 (.seq (.cond (.s 24) (.skip [1,2,22])
 (.exit 0 [1]))
 (.block 1 (.seq (.region [⟨some 25,.men 22,none⟩,
    ⟨some 26,.ext (.s 25) 0,none⟩,
    ⟨some 27,.ext (.s 25) 1,none⟩,
    ⟨some 7,.alc [⟨false,.int .i64 0⟩,⟨false,.int .i64 0⟩],none⟩,
    ⟨none,.stb 2 7 (.s 26),none⟩,
    ⟨some 8,.mv (.s 27),none⟩] [1,2,7,8,22])
 (.seq (.draw [9,10,28,29,30,31,32,33,34,35,36,37,38,39,40,41,42] [⟨some 29,.lda (.s 2) 2,none⟩,
    ⟨some 30,.bad 1 0,none⟩,
    ⟨some 31,.fad (.s 30) 0,none⟩,
    ⟨some 32,.fad (.s 31) 31,none⟩,
    ⟨some 33,.fad (.s 32) 0,none⟩,
    ⟨some 34,.fad (.s 33) 0,none⟩,
    ⟨some 35,.ld (.s 34),none⟩,
    ⟨some 36,.bad 7 0,none⟩,
    ⟨some 37,.ld (.s 36),none⟩,
    ⟨some 38,.iad (.s 35) (.s 37) 1,none⟩,
    ⟨some 39,.ld (.s 38),none⟩,
    ⟨some 40,.call 170 [.s 29,.s 39],none⟩,
    ⟨some 28,.mv (.s 40),none⟩,
    ⟨some 41,.ext (.s 28) 0,none⟩,
    ⟨some 42,.ext (.s 28) 1,none⟩,
    ⟨some 9,.mv (.s 41),none⟩,
    ⟨some 10,.mv (.s 42),none⟩] [1,2,7,8,9,22])
 (.seq (.seq (.region [⟨some 43,.mv (.s 8),none⟩,
    ⟨some 44,.mv (.s 9),none⟩,
    ⟨some 45,.bad 7 1,none⟩,
    ⟨some 46,.ld (.s 45),none⟩,
    ⟨some 47,.iad (.s 44) (.s 46) 4,none⟩,
    ⟨some 48,.fad (.s 47) 1,none⟩,
    ⟨some 49,.ld (.s 48),none⟩,
    ⟨some 50,.bin (.i) .lss (.s 43) (.s 49),none⟩,
    ⟨some 51,.mv (.s 50),none⟩,
    ⟨some 52,.mv (.s 8),some (51,false)⟩,
    ⟨some 53,.mv (.s 9),some (51,false)⟩,
    ⟨some 54,.bad 7 1,some (51,false)⟩,
    ⟨some 55,.ld (.s 54),some (51,false)⟩,
    ⟨some 56,.iad (.s 53) (.s 55) 4,some (51,false)⟩,
    ⟨some 57,.fad (.s 56) 2,some (51,false)⟩,
    ⟨some 58,.ld (.s 57),some (51,false)⟩,
    ⟨some 59,.bin (.i) .gtr (.s 52) (.s 58),some (51,false)⟩,
    ⟨some 60,.pick (.s 51) (.c (.bool true)) (.s 59),none⟩] [1,2,7,8,22,60])
 (.cond (.s 60) (.seq (.region [⟨some 4,.mv (.c (.int .i64 6)),none⟩] [1,4])
 .ret)
 (.skip [1,2,7,8,22])))
 (.draw [61,62,63,64,65,66,67,68,69,70,71,72,73] [⟨some 61,.bad 1 0,none⟩,
    ⟨some 62,.fad (.s 61) 0,none⟩,
    ⟨some 63,.fad (.s 62) 31,none⟩,
    ⟨some 64,.fad (.s 63) 2,none⟩,
    ⟨some 65,.lan (.s 64),none⟩,
    ⟨some 66,.bad 7 0,none⟩,
    ⟨some 67,.ld (.s 66),none⟩,
    ⟨some 68,.nia (.s 65) (.s 67),none⟩,
    ⟨some 69,.nld (.s 68),none⟩,
    ⟨some 70,.bad 7 1,none⟩,
    ⟨some 71,.ld (.s 70),none⟩,
    ⟨some 72,.mv (.s 8),none⟩,
    ⟨some 73,.nia (.s 69) (.s 71),none⟩,
    ⟨none,.nst (.s 73) (.s 72),none⟩] [1,2,22])))))))) ⟨L,fun j e=>if j=0 then y e else x j e,d⟩ [(1,.bx (DD s)),(2,.tv (.pt (AP t).cells)),(22,.mx (.mi none a))]:=by
  obtain ⟨m1,Q⟩:=Ud f;refine⟨l5 _ (σ:=List Fp×Option ((Int×Int)×Int)×BD) (fun σ=>[(1,.bx (DD (Ma s σ.1))),(2,.tv (.pt (AP t).cells)),(22,.mx (.mi σ.2.1 σ.2.2))])
    (fun σ=>LT σ.1 s.wi.gn/\(∀l,σ.2.2.Perm l->l.foldl CR σ.1=a.foldl CR s.wi.gn)/\(∀p∈σ.2.2,p∈a)/\(c=false->∃p∈σ.2.2,L7 t s p=some false))
    (fun σ=>σ.2.2.length) (s.wi.gn,none,a) rfl ⟨rfl,fun l z=>UE m z _,fun p o=>o,Q⟩ ?_⟩
  rintro ⟨V,last,r⟩ ⟨H,I,J,K⟩ U;refine WP.out (?_:WP _ _ _ _);apply Ja;apply OA;refine s8 rfl (by decide) (fun e=>?_) (fun p n o=>?_)
  · simp only at e
    subst e;have O:c=true:=by
      cases c with
      |true=>rfl|false=>obtain⟨p,o,_⟩:=K rfl;cases o
    have P:V=a.foldl CR s.wi.gn:=I [] (List.Perm.refl _);apply RK;exact rfl;exact rfl;apply Lr;(focus (repeat(first|exact Hd|(apply Jg;exact rfl)|(apply Jd;exact rfl)|(apply Je;exact rfl)|(apply Jh;exact rfl)|(apply Jf;exact rfl))));intro B;apply Ja;apply Po;exact rfl;exact rfl;apply bv;(focus (repeat(first|exact Hd|(apply Jg;exact rfl)|(apply Jd;exact rfl)|(apply Je;exact rfl)|(apply Jh;exact rfl)|(apply Jf;exact rfl))));show(if(0:Nat)=0 then y [(1,.bx (DD (Ma s V)))]else x 0 [(1,.bx (DD (Ma s V)))]);rw[ae rfl,P];exact k O
  · apply RK;exact rfl;exact rfl
    apply Lr;(focus (repeat(first|exact Hd|(apply Jg;exact rfl)|(apply Jd;exact rfl)|(apply Je;exact rfl)|(apply Jh;exact rfl)|(apply Jf;exact rfl))));intro B;apply Ja;apply Pp;exact rfl;exact rfl;apply Wz;(focus (repeat(first|exact Hd|(apply Jg;exact rfl)|(apply Jd;exact rfl)|(apply Je;exact rfl)|(apply Jh;exact rfl)|(apply Jf;exact rfl))));intro N;have C:p∈r:=o.mem_iff.2 (by simp);obtain⟨b,G,D⟩:=m1 p (J p C);obtain⟨R,S⟩:=aQ G H;cases b with
    |true=>
      refine ⟨PC.pc _ _ _ _ (Vb t s V p n _ (R rfl)).out _ (fun e he=>?_) (fun _ _ h=>h.elim) (fun e he=>?_)⟩
      · obtain⟨T,w,E⟩:=he
        cases w;refine⟨(CR V p,some p,n),E.out,⟨(Va V p).trans H,fun l z=>?_,fun q A=>J q (o.mem_iff.2 (by simp[A])),fun M=>?_⟩,?_⟩
        .exact I (p::l) (o.trans (z.cons p))
        · obtain⟨q,A,u⟩:=K M
          rcases List.mem_cons.1 (o.mem_iff.1 A)with rfl|F
          .rw[G]at u;cases u
          .exact⟨q,F,u⟩
        · have:=o.length_eq
          simp only[c8]at this;show n.length<r.length;omega
      · obtain⟨v,w,_⟩:=he
        cases w
    |false=>
      refine ⟨PC.pc _ _ _ _ (Vb t s V p n _ (S rfl)).out _ (fun e he=>?_) (fun _ _ h=>h.elim) (fun e he=>?_)⟩
      · obtain⟨T,w,_⟩:=he
        cases w
      · obtain⟨v,_,E⟩:=he
        rw [E.out];exact g (by cases c with|false=>rfl|true=>exact absurd (D rfl) (by simp)) V
instance AAK(t:AC)(s:A2):Ct Go.Proofs.Tryz.prog (Im t s) 231 [AP t,.undef] (fun r=>.bo (DD s) (if(!decide (r.1=0))=true then(DD r.2).set 33 ⟨false,.undef⟩else DD r.2) 1 [eI r.1]):=t8 rD rd fun r h u k=>by
  unfold Wj;unfold Im at h;obtain⟨a,p,h⟩:=bind_some h;have d:=(inferInstance:Ct Go.Proofs.Tryz.prog (HI s) 301 [ZL s] MC).snd a p;apply Ja;apply OA;apply dh;exact rfl;exact rfl;apply N7;exact rfl;apply Lr;(focus (repeat(first|exact Hd|(apply Jg;exact rfl)|(apply Jd;exact rfl)|(apply Je;exact rfl)|(apply Jh;exact rfl)|(apply Jf;exact rfl))));intro l;apply Ja;apply OA
  first|(apply jH;exact rfl)|(apply dg;exact rfl)
  first|(apply jI;exact rfl)|(apply dj;exact rfl;exact rfl)
  apply Ws;exact rfl;exact rfl;exact rfl;by_cases he:a.2=0
  · have e:MC a=.mpr a.1 [.int .i64 a.2]:=ae he
    rw [e]at d;rw[az (by simp[he])]at h;split at h
    · rename_i hd
      have hd:BD.Dis a.1:=(show List.Pairwise (fun x y:(Int×Int)×Int=>x.1≠y.1) a.1 from of_decide_eq_true hd);obtain⟨c,q,h⟩:=bind_some h;refine gS rfl d (fun b=>?_);apply dl;exact rfl;apply RK;exact rfl;exact rfl;apply RK;exact rfl;exact rfl;apply N7;exact rfl;apply N7;exact rfl;apply Lr;(focus (repeat(first|exact Hd|(apply Jg;exact rfl)|(apply Jd;exact rfl)|(apply Je;exact rfl)|(apply Jh;exact rfl)|(apply Jf;exact rfl))));intro g;apply Ja;apply Ja;apply OA;apply N7;exact rfl;apply bN;exact rfl;exact rfl;apply Lr;(focus (repeat(first|exact Hd|(apply Jg;exact rfl)|(apply Jd;exact rfl)|(apply Je;exact rfl)|(apply Jh;exact rfl)|(apply Jf;exact rfl))));intro i;apply Po;exact rfl;simp[he];apply Wz;(focus (repeat(first|exact Hd|(apply Jg;exact rfl)|(apply Jd;exact rfl)|(apply Je;exact rfl)|(apply Jh;exact rfl)|(apply Jf;exact rfl))));intro j;apply Ja;apply Ja;apply OA;apply N7;exact rfl;apply jM;exact rfl;exact rfl;decide;apply Lr;(focus (repeat(first|exact Hd|(apply Jg;exact rfl)|(apply Jd;exact rfl)|(apply Je;exact rfl)|(apply Jh;exact rfl)|(apply Jf;exact rfl))));intro m;apply ZB;refine cP hd q (fun f=>?_) (fun f V=>?_)
      · intro n
        apply Ja;apply OA;apply N7;exact rfl;apply Lr;(focus (repeat(first|exact Hd|(apply Jg;exact rfl)|(apply Jd;exact rfl)|(apply Je;exact rfl)|(apply Jh;exact rfl)|(apply Jf;exact rfl))));intro o;apply aF;rw[ae f]at h;cases h;exact⟨_,Wk.refl _,rfl,rfl⟩
      · rw[az (by simp[f])]at h
        cases h;refine⟨_,?_,rfl,rfl⟩;exact Wk.set (DD (Ma s V)) 33
    .cases h
  · have e:MC a=.tp [.undef,.int .i64 a.2]:=az he
    rw [e]at d;rw[ae (by simp[he])]at h;refine gR rfl d ?_;apply dk;exact rfl;apply RK;exact rfl;exact rfl;apply RK;exact rfl;exact rfl;apply N7;exact rfl;apply N7;exact rfl;apply Lr;(focus (repeat(first|exact Hd|(apply Jg;exact rfl)|(apply Jd;exact rfl)|(apply Je;exact rfl)|(apply Jh;exact rfl)|(apply Jf;exact rfl))));intro g;apply Ja;apply Ja;apply OA;apply N7;exact rfl;apply bN;exact rfl;exact rfl;apply Lr;(focus (repeat(first|exact Hd|(apply Jg;exact rfl)|(apply Jd;exact rfl)|(apply Je;exact rfl)|(apply Jh;exact rfl)|(apply Jf;exact rfl))));intro i;apply Pp;exact rfl;simp[he];apply Ja;apply OA;apply N7;exact rfl;apply N7;exact rfl;apply Lr;(focus (repeat(first|exact Hd|(apply Jg;exact rfl)|(apply Jd;exact rfl)|(apply Je;exact rfl)|(apply Jh;exact rfl)|(apply Jf;exact rfl))));intro j;apply aF;cases h;simp only[he,decide_false,Bool.not_false,if_true];exact⟨_,Wk.set (DD s) 33,rfl,rfl⟩
instance vb(t:AC)(b:gt)(a:AG)(m:AL):Ct prog (Ff t b a m) 145 [AP t,B1 b,BX a,BU m] (fun r=>.tp [On r.1,eI r.2]):=Fj f145 0x81e826440f3e37e80e468a6c31741f42380b6e5b1f4237e869d9015236015296024a244204460ee67d2242fc7d0d427d0b420b3174b80ec16e2242cd6e0d426e0b420b6e5bb8024a224204460e5c0bfc0e550bcd3f12c90f460e650e65d137e80e4688d0e8694685308171030f426565a5104280b47ce8694685309df171ad360b42ad7ce869d99d07c971adade7b47ce869d90e6565d1360111c9619b [.stq 38 [none,none,none,none,none,none,none,none,none,none,none,none,none,none,none,none,none,none,none,none,none,none,none,none,none,none,none,none,none,none,none,some ⟨true,.list 1 []⟩,some ⟨true,.list 3 []⟩,some ⟨true,.xn []⟩,none,none,none,none] (.s 15) (.s 82)] [.cell 8 (some 38),.tmp 9] (h:=fun r h c d=>by
  unfold Ff at h;exact nz)
instance c92(t:AC)(b:gt)(a:AG)(m:AL):Ct prog (GR t b a m) 92 [AP t,B1 b,BX a,BU m] (fun r=>.tp [On r.1,eI r.2]):=Fj f92 0x81e86b0e6565d17ce869d90e65d1360111c9619b [] [.cell 8 (some 38),.tmp 9] (h:=fun r h c d=>by
  unfold GR at h;exact nz)
instance c51(t:AC)(a:List gt)(b:AG)(m:Bq):Ct prog (C5 t a b m) 51 [AP t,(eL 25 B1) a,BX b,D4 m] (fun r=>.tp [On r.1,eI r.2]):=Fj f51 0x8013b81e86b0e65b465d1194355017ce80e468a6c01ed550111c9936130 [] [.cell 8 (some 38),.tmp 9] (h:=fun r h c d=>by
  unfold C5 at h;exact nz)
instance c27(t:AC)(a:List gt)(d:AZ):Ct prog (E8 t a d) 27 [AP t,(eL 25 B1) a,DE d] (fun r=>.tp [(eL 38 On) r.1,eI r.2.1,eI r.2.2]):=Fj f27 0x8c820baa0a0121201fef3107890b013b9f02651f4226482647264402f926c03064e811c971c565bbcb8113c9c5b377e521201fef3107d303429f10c9653226c0f926c0d2acf926c0786532bb3026406130 [] [.tmp 6,.tmp 7,.tmp 8] (h:=fun r h e f=>by
  unfold E8 at h;have:HA 0 33 32 0 fun(c:Int)(b:List A2×AG)=>[(10,.ow ((eL 38 On) b.1)),(11,.bx [⟨false,lI b.2.d5.d3⟩,⟨false,lE b.2.d5.d4⟩,⟨false,(eL 1 lI) b.2.gn⟩]),(33,.tv (eI c))]:=⟨⟩;exact nz)
instance vP(n:Int):Ct prog (Iz n) 133 [eI n] (fun r=>.own (lI r)):=Fj f133 0x82183109087e89f63014dc316209087e819514993f3040ca [.mkx 1 [.int .i64 0] (.s 5)] [.tmp 2] (h:=fun r h c d=>by
  unfold Iz at h;have:HA 0 9 8 0 fun(a:Int)(b:Fp)=>[(3,.xo 1 (List.map eI b)),(9,.tv (eI a))]:=⟨⟩;exact nz)
instance c86(g:d5):Ct prog (FA g) 86 [Ak g] (fun r=>.tp [Ao r.1,eI r.2]):=Fj f86 0xb73b819d04460ee60ec1379de1d90e3601f19300 [] [.cell 2 (some 2),.tmp 3] (h:=fun r h a b=>by
  unfold FA at h;exact nz)
instance c40(g:d5):Ct prog (EB g) 40 [Ak g] (fun r=>.sh (Ao r)):=Fj f40 0x9d36019df17136f19300 [] [.cell 2 (some 2)] (h:=fun r h a b=>by
  unfold EB at h;exact nz)
instance c41(l:Fp)(a:Fp):Ct prog (Iw l a) 41 [lI l,lI a] (fun r=>.own (lI r)):=Fj f41 0x8218ba0cef0538890cef05380cef05383cf65f7214648117d638e50cef0538819594991a30406302 [] [.tmp 4] (h:=fun r h d e=>by
  unfold Iw at h;have:HA 0 12 11 0 fun(b:Int)(c:Fp)=>[(5,.xo 1 (List.map eI c)),(12,.tv (eI b))]:=⟨⟩;exact nz)
instance c42(a:AG):Ct prog (E9 a) 42 [BX a] (fun r=>.sh (BX r)):=Fj f42 0x9f655e02fd115e0589fb9e01e30ee99e825f5e0262fd115e05d39e035010c93f3f0efc0ecd10c99300 [.Aaz [.w 9,.w 13],.Aaz [.g 14 0 2,.g 14 1 2,.z ⟨true,.list 1 []⟩]] [.cell 2 (some 3)] (h:=fun r h d e=>by
  unfold E9 at h;have:HA 0 19 18 0 fun(c:Int)(b:AG)=>[(3,.bx [⟨true,lI b.d5.d3⟩,⟨true,lE b.d5.d4⟩,⟨true,(eL 1 lI) b.gn⟩]),(19,.tv (eI c))]:=⟨⟩;exact nz)
instance c11(t:AC)(a:List gt)(d:AZ):Ct prog (FQ t a d) 11 [AP t,(eL 25 B1) a,DE d] (fun r=>.tp [BX r.1,Ao r.2.1,eI r.2.2]):=Fj f11 0xc6023b819d9f360e65cfc604252423cfc607890c013b9d9f04460e7d22425c0e6e224255651f42e811c926442643cfc60462252423cfc6078d819d9ff110c90ee7326532379d9fe14610d901821171c5bb01f110c96130 [] [.cell 6 (some 3),.cell 7 (some 2),.tmp 8] (h:=fun r h e f=>by
  unfold FQ at h;have:HA 0 37 36 0 fun(c:Int)(b:AG×d6)=>[(12,.bx [⟨false,lI b.1.d5.d3⟩,⟨false,lE b.1.d5.d4⟩,⟨false,(eL 1 lI) b.1.gn⟩]),(13,.bx [⟨false,lI b.2.d3⟩,⟨false,lI b.2.d4⟩]),(37,.tv (eI c))]:=⟨⟩;exact nz)
instance w4(t:AC)(p:d5)(g:d5)(a:Bool):Ct prog (Ho t p g a) 220 [AP t,Ak p,Ak g,eB a] (fun r=>.tp [(eL 2 Ao) r.1,eI r.2]):=Fj f220 0xe06b0e011146967c02c0783696aaeb6131 [] [.tmp 8,.tmp 9] (h:=fun r h b c=>by
  unfold Ho at h;exact nz)
instance va(t:AC)(p:ec)(b:AG)(a:Bool):Ct prog (DG t p b a) 144 [AP t,A7 p,BX b,eB a] (fun r=>.tp [(eL 3 BU) r.1,eI r.2]):=Fj f144 0xe0020d012827260d060506892827260d0605062827260d0605063c02034803470946bb0264d43665809df13602430de52827260d0605068d8103c03703c06fd401adad7c03c078658036e1eb6131 [] [.tmp 8,.tmp 9] (h:=fun r h e f=>by
  unfold DG at h;have:HA 0 40 39 0 fun(c:Int)(d:List AL)=>[(13,.ow ((eL 3 BU) d)),(40,.tv (eI c))]:=⟨⟩;exact nz)
instance c91(t:AC)(b:gt)(a:AG):Ct prog (D8 t b a) 91 [AP t,B1 b,BX a] (fun r=>.tp [(eL 3 BU) r.1,eI r.2]):=Fj f91 0xe0020b012625240bbe07892625240bbe072625240bbe073c0203480347650264e81149716565d1369f0fc9c8430be52625240bbe078d8103c03703c06fd4030f426580b47c03c07865d136e1eb9b [] [.tmp 6,.tmp 7] (h:=fun r h e f=>by
  unfold D8 at h;have:HA 0 38 37 0 fun(c:Int)(d:List AL)=>[(11,.ow ((eL 3 BU) d)),(38,.tv (eI c))]:=⟨⟩;exact nz)
instance c50(t:AC)(a:List gt)(b:AG):Ct prog (Cq t a b) 50 [AP t,(eL 25 B1) a,BX b] (fun r=>.tp [(eL 4 D4) r.1,eI r.2]):=Fj f50 0xe002080111100f080503068911100f0805030622212011100f090805030a890204480447124665aa9f0fc9c84311100f080503066222212011100f090805030a8dc304c06fd465d136194b810cc9d1198408e511100f080503068d8104c0e9406130 [] [.tmp 6,.tmp 7] (h:=fun r h g i=>by
  unfold Cq at h;have:HA 0 17 16 0 fun(c:Int)(f:List Bq)=>[(8,.ow ((eL 4 D4) f)),(17,.tv (eI c))]:=⟨⟩;have:HA 2 34 33 0 fun(d:Int)(e:List Bq)=>[(8,.ow ((eL 4 D4) e)),(34,.tv (eI d))]:=⟨⟩;exact nz)
instance c17(t:AC)(c:List gt)(d:AG)(a:Fp):Ct prog (Cs t c d a) 17 [AP t,(eL 25 B1) c,BX d,lI a] (fun r=>.tp [DE r.1,eI r.2]):=Fj f17 0x81cbc50b08022423220b0806040108891106023b9ffb034203591f5a04480447045804034237cb0113468501123d01e811c971c565bbcb13c9c5b305383872ff0b0802640bd0cb0113d9d465bb815f0b0802622423220b08060401088d81045014c93f0e6537cb1346d2d0cb0113d90e65bb0114c9bf933102 [.Abu (.s 2),.Aaz [.v (.s 32) 0 3,.v (.s 32) 1 3,.v (.s 32) 2 3,.z ⟨true,.list 4 []⟩]] [.cell 8 (some 4),.tmp 9] (h:=fun r h f g=>by
  unfold Cs at h;have:HA 0 36 35 0 fun(e:Int)(b:AG×AZ×AZ)=>[(6,.bx [⟨false,lI b.1.d5.d3⟩,⟨false,lE b.1.d5.d4⟩,⟨false,(eL 1 lI) b.1.gn⟩]),(8,.bx [⟨true,lI b.2.1.tl.d5.d3⟩,⟨true,lE b.2.1.tl.d5.d4⟩,⟨true,(eL 1 lI) b.2.1.tl.gn⟩,⟨true,(eL 4 D4) b.2.1.qo⟩]),(11,.bx [⟨false,lI b.2.2.tl.d5.d3⟩,⟨false,lE b.2.2.tl.d5.d4⟩,⟨false,(eL 1 lI) b.2.2.tl.gn⟩,⟨true,(eL 4 D4) b.2.2.qo⟩]),(36,.tv (eI e))]:=⟨⟩;exact nz)
instance vO(n:Int)(a:Int):Ct prog (GJ n a) 130 [eI n,.pt [eI a]] (fun r=>.sh (eB r)):=Fj f130 0xa1a70531e4 [] [.tmp 3] (h:=fun r h b c=>by
  unfold GJ at h;exact nz)
instance c81(l:Fp)(a:Int):Ct prog (Cf l a) 81 [lI l,eI a] (fun r=>.sh (eB r)):=Fj f81 0x810e103093ca [] [.tmp 4] (h:=fun r h b c=>by
  unfold Cf at h;exact nz)
instance c84(l:Fp):Ct prog (De l) 84 [lI l] (fun r=>.sh (eS r)):=Fj f84 0x813f0131b5030489b503043c01063f0e30b503043c01063f0e0930645f3162b503048d81bf3fca [.mv (.c (.str ⟨#[]⟩)),.mv (.c (.str ⟨#[40]⟩)),.bin (.s) .add (.c (.str ⟨#[32,45,32]⟩)) (.s 17),.bin (.s) .add (.c (.str ⟨#[32]⟩)) (.s 22),.bin (.s) .add (.s 26) (.c (.str ⟨#[32,41]⟩))] [.tmp 2] (h:=fun r h d e=>by
  unfold De at h;have:HA 0 8 7 0 fun(b:Int)(a:ByteArray)=>[(3,.tv (eS a)),(8,.tv (eI b))]:=⟨⟩;exact nz)
instance i37(d:AZ):Ct Go.Proofs.Tryz.prog (IA d) 37 [DE d] (fun r=>.tp [eS r.1,eI r.2]):=⟨XZ (fun l low b h=>(inferInstance:Ct _ (Cf l low) _ _ fun r=>.sh (eB r)).snd b h) (fun i s h=>(inferInstance:Ct _ (strconv_Itoa i) _ _ fun r=>.sh (eS r)).snd s h) (fun l s h=>(inferInstance:Ct _ (De l) _ _ fun r=>.sh (eS r)).snd s h) d⟩
end Go.Sf.Sc
