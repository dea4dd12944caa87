/- Contracts of the functions. -/
import Derived.Test.YtbgedoajacpdbaaGreatDoorCon0
import Derived.Test.YtbgedoajacpdbaaGreatDoorTryzShelf
import Derived.Test.YtbgedoajacpdbaaGreatDoorFo
set_option linter.all false
set_option maxRecDepth 100000
set_option maxHeartbeats 4000000
namespace Go.Sf.Sc
open Go Go.Sf Go.Proofs.Tryz
instance yj(c:Int):Ct prog (KB c) 332 [UD c] (fun r=>.sh (eB r)):=Fj f332 0xa10aaaaa0aaaaac4 [] [.tmp 2] (h:=fun r h a b=>by
  unfold KB at h;exact nz)
instance yk(b:ByteArray)(d:Int->K1)(e:FuncId)(a:Fq)[g:∀(c:Int),Ct prog (d c) e (UD c::a) (fun r=>.sh (eB r))]:Ct prog (Ge b d) 333 [eS b,.clo e a] (fun r=>.sh (eI r)):=Fj f333 0x81386ed960386e8a0f123030050c30d981ea [] [.tmp 4] (h:=fun r h i j=>by
  unfold Ge at h;have:HW 0 fun(f:Int)=>[(5,.tv (eI f))]:=⟨⟩;exact nz)
instance ym(c:Int):Ct prog (JW c) 335 [UD c] (fun r=>.sh (eB r)):=Fj f335 0xa1aaaac4 [] [.tmp 2] (h:=fun r h a b=>by
  unfold JW at h;exact nz)
instance yl(c:Int):Ct prog (MY c) 334 [UD c] (fun r=>.sh (eB r)):=Fj f334 0xa1aa0a0e300e30c4 [] [.tmp 2] (h:=fun r h a b=>by
  unfold MY at h;exact nz)
instance zU(c:Int):Ct prog (KV c) 386 [UD c] (fun r=>.sh (eB r)):=Fj f386 0xa1aa0aaaaac4 [] [.tmp 2] (h:=fun r h a b=>by
  unfold KV at h;exact nz)
instance yn(a:ByteArray):Ct prog (Fr a) 336 [eS a] (fun r=>.tp [eI r.1,eI r.2]):=Fj f336 0x8cbad08501d08a051205f80c385d3f0d72c4 [.call 333 [.s 6,.c (.clo 386 [])]] [.tmp 2,.tmp 3] (h:=fun r h b d=>by
  unfold Fr at h;exact nz)
instance yo(a:ByteArray):Ct prog (MW a) 337 [eS a] (fun r=>.sh (eB r)):=Fj f337 0xa10e0d013f380c30c4 [.lst 1 [.c (.str ⟨#[45,62]⟩),.c (.str ⟨#[60,61]⟩),.c (.str ⟨#[62,61]⟩),.c (.str ⟨#[61,61]⟩),.c (.str ⟨#[33,61]⟩)]] [.tmp 2] (h:=fun r h b d=>by
  unfold MW at h;exact nz)
instance xj(a:ByteArray):Ct prog (Hp a) 275 [eS a] (fun r=>.tp [eI r.1,eI r.2.1,eI r.2.2]):=Fj f275 0x818cffd08c053f5d818c0e5d8c308c705d055d8cf28c643f5d0e5d8cf28c643f5d0e5d123030c4 [.call 333 [.s 15,.c (.clo 334 [])],.call 333 [.s 23,.c (.clo 335 [])],.call 338 [.c (.str ⟨#[123,125,40,41,91,93,44,59,58,61,43,45,42,60,62,33,38,124,46,63]⟩),.s 42]] [.tmp 2,.tmp 3,.tmp 4] (h:=fun r h b d=>by
  unfold Hp at h;exact nz)
instance wd(t:EK):Ct prog (H6 t) 204 [UC t] (fun r=>.tp [eS r.1,eB r.2]):=Fj f204 0x8c0a050c720a055530aa818c1170f2bfbfe6b404b43c013f3f018555815c013fee [.mv (.c (.str ⟨#[]⟩)),.bin (.s) .add (.c (.str ⟨#[34]⟩)) (.s 13),.bin (.s) .add (.s 14) (.c (.str ⟨#[34]⟩)),.bin (.s) .eql (.s 16) (.c (.str ⟨#[]⟩)),.mv (.c (.str ⟨#[]⟩))] [.tmp 2,.tmp 3] (h:=fun r h b d=>by
  unfold H6 at h;have:HJ 12 fun(a:ByteArray)=>[(4,.tv (eS a))]:=⟨⟩;exact nz)
instance vQ(a:ByteArray):Ct prog (DD a) 136 [eS a] (fun r=>.sh (eB r)):=Fj f136 0x815df6004630c4 [] [.tmp 2] (h:=fun r h b c=>by
  unfold DD at h;exact nz)
instance wW(m:B1)(a:B1):Ct prog (Ma m a) 197 [Eb m,.pt (Eb a).cells] (fun r=>.sh (eB r)):=Fj f197 0x8106d4e1 [] [.tmp 3] (h:=fun r h b c=>by
  unfold Ma at h;exact nz)
abbrev Q_198(n:Nat):Prop:=∀(t:AC)(a:Int),Ct prog (C3 n t a) 198 [AQ t,eI a] (fun r=>.Aa2 4 (List.map GN r))
theorem qS(n:Nat)(_ih_198:Q_198 n)(t:AC)(a:Int):Ct prog (C3 (n+1) t a) 198 [AQ t,eI a] (fun r=>.Aa2 4 (List.map GN r)):=Fj f198 0x99044f7841d7551905a70305a7033c191abc647cd75504ce044e9330 [] [.tmp 4] (h:=fun r h c d=>by
  unfold C3 at h;have:HJ 14 fun(b:List mo)=>[(5,.xo 4 (List.map GN b))]:=⟨⟩;exact nz)
theorem qR:∀n:Nat,Q_198 n:=by
  intro n
  induction n with
  |zero=>exact(fun t a=>⟨fun _ h=>by cases h⟩)
  |succ n b=>exact qS n b
instance wX(t:AC)(a:Int):Ct prog (JX t a) 198 [AQ t,eI a] (fun r=>.Aa2 4 (List.map GN r)):=⟨fun r h=>by
  obtain ⟨N,b⟩:=Co h;exact((qR N) t a).snd r (b N (bk _))⟩
instance xg(y:mo)(a:mo):Ct prog (IG y a) 272 [GN y,.pt (GN a).cells] (fun r=>.sh (eB r)):=Fj f272 0x8106d4e1 [] [.tmp 3] (h:=fun r h b c=>by
  unfold IG at h;exact nz)
instance xh(l:List ByteArray):Ct prog (Gg l) 273 [lB l] (fun r=>.sh (eI r)):=Fj f273 0x9bca08000480ffd00e3045308c975d815f6362ca0800048dc6d230c4 [] [.tmp 2] (h:=fun r h b c=>by
  unfold Gg at h;have:HA 0 10 9 0 fun(a:Int)(_:Unit)=>[(10,.tv (eI a))]:=⟨⟩;exact nz)
instance wY(b:mo)(a:List mo):Ct prog (D9 b a) 199 [GN b,lA a] (fun r=>.sh (eI r)):=Fj f199 0xc68801060106013c77056ca676385cd2a6a105767705765c385cd8a6ffd00e105d819755e1 [] [.tmp 4] (h:=fun r h d e=>by
  unfold D9 at h;have:HJ 40 fun(c:Bool)=>[(6,.tv (eB c))]:=⟨⟩;exact nz)
instance vO(t:AC)(a:Int):Ct prog (Hr t a) 134 [AQ t,eI a] (fun r=>.sh (eI r)):=Fj f134 0x9bb902ad7d044530b1fd00cbb902816ca60bf2d201820ebcffd06ca68c0aba5c385c8c0e10044501558c9755053dbb00c9b1d755e1 [] [.tmp 4] (h:=fun r h c d=>by
  unfold Hr at h;have:HA 1 7 6 0 fun(b:Int)(_:Unit)=>[(7,.tv (eI b))]:=⟨⟩;exact nz)
instance wZ(n:Int)(a:AC):Ct prog (KC n a) 200 [eI n,.pt (AQ a).cells] (fun r=>.sh (eB r)):=Fj f200 0xa16c553005de [] [.tmp 3] (h:=fun r h b c=>by
  unfold KC at h;exact nz)
instance wb(y:CB)(a:CB):Ct prog (MZ y a) 202 [E6 y,.pt (E6 a).cells] (fun r=>.sh (eB r)):=Fj f202 0x8106d4e1 [] [.tmp 3] (h:=fun r h b c=>by
  unfold MZ at h;exact nz)
instance wc(b:Int)(a:Int):Ct prog (JH b a) 203 [eI b,eI a] (fun r=>.sh (eB r)):=Fj f203 0xa10a0aaa0572aa0aaa05de [] [.tmp 4] (h:=fun r h c d=>by
  unfold JH at h;exact nz)
instance vP(t:AC)(a:Int):Ct prog (Hq t a) 135 [AQ t,eI a] (fun r=>.sh (eI r)):=Fj f135 0x81ff3719013c779703bd030542019703bea6195d0a080f7630080f5c5d810e100745015c8c97558110053d074b01c9074407cce1 [] [.tmp 4] (h:=fun r h c d=>by
  unfold Hq at h;have:HJ 25 fun(b:Bool)=>[(25,.tv (eB b))]:=⟨⟩;exact nz)
instance c89(t:AC):Ct prog (C5 t) 89 [AQ t] (fun r=>.tp [eS r.1,eI r.2]):=Fj f89 0x81bf002e2d2ce680d00155640ebc074b8101c90744074363622e2d2ce6d1b7301d1c1be680d00155640ebcbb9bc9b1b572621d1c1be6d132ff37bfa1db38c381bf816c55013fee [.mv (.c (.str ⟨#[]⟩)),.mv (.c (.str ⟨#[]⟩)),.mv (.c (.str ⟨#[]⟩)),.mv (.c (.str ⟨#[]⟩))] [.tmp 2,.tmp 3] (h:=fun r h d e=>by
  unfold C5 at h;have:HA 1 29 28 0 fun(b:Int)(_:Unit)=>[(29,.tv (eI b))]:=⟨⟩;have:HA 3 46 45 0 fun(a:Int)(_:Unit)=>[(46,.tv (eI a))]:=⟨⟩;exact nz)
instance vt(n:Int)(a:Int):Ct prog (Gn n a) 166 [eI n,eI a] (fun r=>.sh (eB r)):=Fj f166 0xa105f8de [] [.tmp 4] (h:=fun r h b c=>by
  unfold Gn at h;exact nz)
instance vr(t:Int):Ct prog (K8 t) 165 [eI t] (fun r=>.sh (eB r)):=Fj f165 0x819730c4 [] [.tmp 2] (h:=fun r h a b=>by
  unfold K8 at h;exact nz)
instance vz(e:Bl)(a:Int):Ct prog (L3 e a) 169 [Bs e,eI a] (fun r=>.sh (eB r)):=Fj f169 0xa10eba76770eba5c6955e1 [] [.tmp 4] (h:=fun r h b c=>by
  unfold L3 at h;exact nz)
instance vw(e:Bl)(a:d4):Ct prog (K9 e a) 168 [Bs e,.pt (Am a).cells] (fun r=>.sh (eB r)):=Fj f168 0x8197c365e1 [] [.tmp 3] (h:=fun r h b c=>by
  unfold K9 at h;exact nz)
instance uy(g:d4):Ct prog (CY g) 107 [Am g] (fun r=>.sh (eI r)):=Fj f107 0xc68e105c37bf5592db38c3f9 [.call 129 [.s 14,.c (.clo 165 [])]] [.tmp 2] (h:=fun r h a b=>by
  unfold CY at h;exact nz)
instance xR(a:Int)(b:AC):Ct prog (LG a b) 251 [eI a,.pt (AQ b).cells] (fun r=>.sh (eB r)):=Fj f251 0xa16c553005de [] [.tmp 3] (h:=fun r h c d=>by
  unfold LG at h;exact nz)
instance v8(t:AC)(l:Fp):Ct prog (Ep t l) 171 [AQ t,lI l] (fun r=>.sh (eI r)):=Fj f171 0xc68e10f271f636e1 [] [.tmp 4] (h:=fun r h a b=>by
  unfold Ep at h;exact nz)
instance v7(t:AC)(a:Int):Ct prog (Dn t a) 170 [AQ t,eI a] (fun r=>.tp [lA r.1,eI r.2]):=Fj f170 0xf51807011514070380014d0354044c0e170354044c01140114810107eb15140703819514991a017f04c07dacbce6409330 [] [.tmp 4,.tmp 5] (h:=fun r h d e=>by
  unfold Dn at h;have:HA 0 21 20 0 fun(b:Int)(c:List mo)=>[(7,.xo 4 (List.map GN c)),(21,.tv (eI b))]:=⟨⟩;have:HS 31:=⟨⟩;have:HX 33 fun(a:mo)(v:List ByteArray)=>mo.mk a.po a.Low a.AaD v:=⟨⟩;exact nz)
instance uz(t:AC)(a:Int)(b:Fp):Ct prog (Ig t a b) 108 [AQ t,eI a,lI b] (fun r=>.sh (eI r)):=Fj f108 0x9b2322210204809205765ff85cb8bb8102c9b1b5636223222102048dc6d2010b30e0017f830241d7553785c33093a702 [] [.tmp 6] (h:=fun r h d e=>by
  unfold Ig at h;have:HA 0 35 34 0 fun(c:Int)(_:Unit)=>[(35,.tv (eI c))]:=⟨⟩;exact nz)
instance xS(t:AC)(a:Int):Ct prog (I4 t a) 252 [AQ t,eI a] (fun r=>.own (lI r)):=Fj f252 0x821829140538a7033c017cd755ff19014fac0119ba6238a731cefc9330 [] [.tmp 4] (h:=fun r h c d=>by
  unfold I4 at h;have:HW 0 fun(b:Int×Fp)=>[(1,.tv (eI b.1)),(5,.xo 1 (List.map eI b.2))]:=⟨⟩;exact nz)
instance wA(t:AC)(a:Int)(b:Int):Ct prog (H8 t a b) 172 [AQ t,eI a,eI b] (fun r=>.sh (eB r)):=Fj f172 0x810e69bc84a702 [] [.tmp 6] (h:=fun r h c d=>by
  unfold H8 at h;exact nz)
instance u0(t:AC)(b:Int)(a:Int)(c:Int):Ct prog (GV t b a c) 109 [AQ t,eI b,eI a,eI c] (fun r=>.sh (eB r)):=Fj f109 0xa10e5e4107ccbc697c07cc017f8adb300aaa050eac3036845ee7 [] [.tmp 8] (h:=fun r h d e=>by
  unfold GV at h;exact nz)
instance c68(t:AC)(a:AG):Ct prog (Ex t a) 68 [AQ t,Be a] (fun r=>.tp [eI r.1,eI r.2]):=Fj f68 0x8c003e3d3cf480d001b35f76c85f5cc8557f8101d25c559181e9cf4363623e3d3cf4d10141325e02282726f480d030640ea276bc8ca25e0262282726f4d15b32d0d2c80b76d07db2d071f636309d [] [.tmp 4,.tmp 5] (h:=fun r h d e=>by
  unfold Ex at h;have:HA 0 40 39 0 fun(c:Int)(_:Unit)=>[(40,.tv (eI c))]:=⟨⟩;have:HA 2 62 61 0 fun(b:Int)(_:Unit)=>[(62,.tv (eI b))]:=⟨⟩;exact nz)
instance we(n:Int)(a:AC):Ct prog (GB n a) 205 [eI n,.pt (AQ a).cells] (fun r=>.sh (eB r)):=Fj f205 0x816c55de [] [.tmp 3] (h:=fun r h b c=>by
  unfold GB at h;exact nz)
instance wg(a:Bl)(b:AC):Ct prog (GD a b) 206 [Bs a,.pt (AQ b).cells] (fun r=>.sh (eB r)):=Fj f206 0x81db55e1 [] [.tmp 3] (h:=fun r h c d=>by
  unfold GD at h;exact nz)
instance wj(n:Int)(b:Int)(a:Int):Ct prog (CR n b a) 207 [eI n,eI b,eI a] (fun r=>.sh (eB r)):=Fj f207 0xa105f872026303 [] [.tmp 6] (h:=fun r h c d=>by
  unfold CR at h;exact nz)
instance wk(t:AC)(p:ec)(a:CX):Ct prog (EY t p a) 208 [AQ t,A9 p,FT a] (fun r=>.tp [GN r.1,eB r.2]):=Fj f208 0x81bbb1b55cf2bb0146b36c015c01e05f55c87fbb0146b36cc855b4c9939d [] [.cell 6 (some 4),.tmp 7] (h:=fun r h b c=>by
  unfold EY at h;exact nz)
instance yp(n:Int)(t:kg):Ct prog (HP n t) 339 [eI n,OA t] (fun r=>.sh (eB r)):=Fj f339 0xa1055c77055c77baf15584c4 [] [.tmp 4] (h:=fun r h a b=>by
  unfold HP at h;exact nz)
instance xk(n:Int)(a:Test):Ct prog (IL n a) 276 [eI n,GP a] (fun r=>.sh (eI r)):=Fj f276 0x81ff37a19736f0309736b75da105f15584c4 [] [.tmp 4] (h:=fun r h b c=>by
  unfold IL at h;exact nz)
instance wl(n:Int)(l:List Test):Ct prog (Gm n l) 209 [eI n,lT l] (fun r=>.sh (eI r)):=Fj f209 0x9bfe11000480d890384b04c99005430062fe1100048dc6d20192aa05de [] [.tmp 4] (h:=fun r h b c=>by
  unfold Gm at h;have:HA 0 19 18 0 fun(a:Int)(_:Unit)=>[(19,.tv (eI a))]:=⟨⟩;exact nz)
instance vR(t:AC)(p:ec):Ct prog (Cf t p) 137 [AQ t,A9 p] (fun r=>.sh (eI r)):=Fj f137 0xc6a014d803bea6085e3c3b3a085e06803c3b3a085e063c3b3a085e063c01fa6d9e14856d9e92977c9e779705a66d9e01085dbb024970b19036bb05c9b1b5085e623c3b3a085e06d19e993fa6926c03be380b7637b3a6920e10f36910c8d8b23771f636019d [.mkx 1 [.bool false] (.s 55)] [.tmp 4] (h:=fun r h c d=>by
  unfold Cf at h;have:HA 0 60 59 0 fun(a:Int)(b:a6)=>[(8,.xo 1 (List.map eB b)),(60,.tv (eI a))]:=⟨⟩;exact nz)
instance xr(n:Int)(a:AC):Ct prog (MR n a) 278 [eI n,.pt (AQ a).cells] (fun r=>.sh (eB r)):=Fj f278 0x816c55de [] [.tmp 3] (h:=fun r h b c=>by
  unfold MR at h;exact nz)
instance xt(a:Bl)(b:AC):Ct prog (MS a b) 279 [Bs a,.pt (AQ b).cells] (fun r=>.sh (eB r)):=Fj f279 0x81db55e1 [] [.tmp 3] (h:=fun r h c d=>by
  unfold MS at h;exact nz)
instance wn(t:AC)(g:d4):Ct prog (Hj t g) 211 [AQ t,Am g] (fun r=>.sh (eB r)):=Fj f211 0xa197105c01971055019d [] [.tmp 4] (h:=fun r h a b=>by
  unfold Hj at h;exact nz)
instance xw(y:CX)(a:CX):Ct prog (NO y a) 281 [FT y,.pt (FT a).cells] (fun r=>.sh (eB r)):=Fj f281 0xa1055c5c38d4e1 [] [.tmp 3] (h:=fun r h b c=>by
  unfold NO at h;exact nz)
instance wo(t:AC)(a:gp)(b:Int):Ct prog (Im t a b) 212 [AQ t,Bx a,eI b] (fun r=>.sh (eI r)):=Fj f212 0xc68e100445015e41bd92055c77055c77057841bd55770555776c015c385c9606c9369e01e05f556d5bbd7f8a6c6d5bbdf155073dbb05c9b1d75e41bd0161a7 [] [.tmp 6] (h:=fun r h c d=>by
  unfold Im at h;exact nz)
instance vS(t:AC)(a:gp):Ct prog (Hi t a) 138 [AQ t,Bx a] (fun r=>.sh (eI r)):=Fj f138 0x9b2f2e5e0480d801d5368163622f2e5e048d5e41bdffd06c5e41bd8c0a6c030441bd387841b77841bd8c97e3bdefe3bd019d [] [.tmp 4] (h:=fun r h c d=>by
  unfold Hi at h;have:HA 1 47 46 0 fun(b:Int)(_:Unit)=>[(47,.tv (eI b))]:=⟨⟩;exact nz)
instance wB(a:d4)(b:d4)(m:d6):Ct prog (C1 a b m) 173 [Am a,Am b,Ap m] (fun r=>.sh (eI r)):=Fj f173 0x9b494847cd06809205765f76f15c5f5c553785d49191e9e9cfcccfcc92db30055d815f6362494847cd06d1b76a782c2b2acd06803785a255a255926c5530055d815f380478622c2b2acd06d13292dbec38c3c3d8ef36849d [] [.tmp 6] (h:=fun r h e f=>by
  unfold C1 at h;have:HA 0 44 43 0 fun(d:Int)(_:Unit)=>[(44,.tv (eI d))]:=⟨⟩;have:HA 2 73 72 0 fun(c:Int)(_:Unit)=>[(73,.tv (eI c))]:=⟨⟩;exact nz)
instance wC(l:Fp):Ct prog (Fy l) 174 [lI l] (fun r=>.sh (eI r)):=Fj f174 0x81152a142914991a30c4 [] [.tmp 2] (h:=fun r h a b=>by
  unfold Fy at h;exact nz)
instance u7(a:d4)(b:d4)(m:d6):Ct prog (Cj a b m) 110 [Am a,Am b,Ap m] (fun r=>.sh (eB r)):=Fj f110 0xa1db0e5c776c550ef10e369f849d [] [.tmp 6] (h:=fun r h c d=>by
  unfold Cj at h;exact nz)
instance zV(l:Fp)(n:Int):Ct prog (HH l n) 388 [lI l,eI n] (fun r=>.sh (eI r)):=Fj f388 0x9b097363058092055faa30ba9205f85d815f6362097363058d81ea [] [.tmp 4] (h:=fun r h b c=>by
  unfold HH at h;have:HA 0 9 8 0 fun(a:Int)(_:Unit)=>[(9,.tv (eI a))]:=⟨⟩;exact nz)
instance zW(l:Fp)(n:Int):Ct prog (KA l n) 389 [lI l,eI n] (fun r=>.sh (eB r)):=Fj f389 0x815df630ea [] [.tmp 4] (h:=fun r h a b=>by
  unfold KA at h;exact nz)
instance yr(g:d4)(p:BB):Ct prog (LF g p) 341 [Am g,GO p] (fun r=>.sh (eI r)):=Fj f341 0x9b1e1d1cf48092975e4103cc5501977c03cc55815f00621e1d1cf4d1b7d8ec5cd8c355019d [] [.tmp 4] (h:=fun r h b c=>by
  unfold LF at h;have:HA 0 30 29 0 fun(a:Int)(_:Unit)=>[(30,.tv (eI a))]:=⟨⟩;exact nz)
instance xx(g:d4)(p:BB):Ct prog (Dv g p) 282 [Am g,GO p] (fun r=>.sh (eI r)):=Fj f282 0x810e36ef36019d [] [.tmp 4] (h:=fun r h a b=>by
  unfold Dv at h;exact nz)
instance wq(g:d4)(p:BB):Ct prog (Dj g p) 213 [Am g,GO p] (fun r=>.tp [Am r.1,Ap r.2.1,eI r.2.2]):=Fj f213 0x6a023b81969604f75c0e553608cd042b2a29086a5e0880edb7034803476504b7ed9e707655edb7705c5591e9cfcc815f08cd04622b2a29086a5e08d1b7086af4191817086a5e0880ed3201dda2550432815f086af462191817086a5e08d13207c9379696e74602d30e9f01e807c99d [] [.cell 4 (some 2),.cell 5 (some 2),.tmp 6] (h:=fun r h e f=>by
  unfold Dj at h;have:HA 0 25 24 0 fun(d:Int)(a:d4)=>[(8,.bx [⟨true,lI a.d3⟩,⟨true,lE a.d5⟩]),(25,.tv (eI d))]:=⟨⟩;have:HA 2 43 42 0 fun(c:Int)(b:d4)=>[(8,.bx [⟨true,lI b.d3⟩,⟨true,lE b.d5⟩]),(43,.tv (eI c))]:=⟨⟩;exact nz)
instance vT(a:gp):Ct prog (Il a) 139 [Bx a] (fun r=>.sh (eI r)):=Fj f139 0xc6b3360d42e3bdef360d42e3bd7f719696084907c91170360b42e3b7f9 [] [.tmp 2] (h:=fun r h b c=>by
  unfold Il at h;exact nz)
instance ws(l:Fp)(n:Int):Ct prog (JV l n) 214 [lI l,eI n] (fun r=>.own (lI r)):=Fj f214 0x8202ba730500048073050004730500043ca7ddb4b3308138eb730500048cdafc6302 [] [.tmp 4] (h:=fun r h c d=>by
  unfold JV at h;have:HA 0 8 7 0 fun(a:Int)(b:Fp)=>[(5,.ow (lI b)),(8,.tv (eI a))]:=⟨⟩;exact nz)
instance vU(a:gp):Ct prog (J8 a) 140 [Bx a] (fun r=>.tp [lI r.1,lI r.2]):=Fj f140 0x82820e0b3174bd7c0d420e0b6d5bbd6d0d42fcfcee [] [.tmp 2,.tmp 3] (h:=fun r h b c=>by
  unfold J8 at h;exact nz)
instance wt(a:Int)(b:AC)(c:d4):Ct prog (KS a b c) 215 [eI a,.pt (AQ b).cells,.pt (Am c).cells] (fun r=>.sh (eB r)):=Fj f215 0x815e41b5a2d4b46303 [] [.tmp 4] (h:=fun r h d e=>by
  unfold KS at h;exact nz)
instance wu(a:Int)(b:d4)(c:AC):Ct prog (FQ a b c) 216 [eI a,.pt (Am b).cells,.pt (AQ c).cells] (fun r=>.sh (eB r)):=Fj f216 0x81975f76555f5cd43691e9cfccb46303 [] [.tmp 4] (h:=fun r h d e=>by
  unfold FQ at h;exact nz)
instance vV(t:AC)(g:d4)(b:Fp)(a:Fp):Ct prog (Fk t g b a) 141 [AQ t,Am g,lI b,lI a] (fun r=>.sh (eB r)):=Fj f141 0xa1971030971030615e02 [] [.tmp 8] (h:=fun r h c d=>by
  unfold Fk at h;exact nz)
instance yt(c:d7):Ct prog (EZ c) 344 [AK c] (fun r=>.sh (eB r)):=Fj f344 0xa105a6386c03be6c766cf36cc86c7c9e0b6d9ec509c990bef9 [] [.tmp 2] (h:=fun r h a b=>by
  unfold EZ at h;exact nz)
abbrev AbX(n:Nat):Prop:=∀(c:d7),Ct prog (BJ n c) 284 [AK c] (fun r=>.sh (eB r))
abbrev Ab1(n:Nat):Prop:=∀(k:d7),Ct prog (BT n k) 346 [AK k] (fun r=>.sh (eB r))
theorem qc(n:Nat)(_ih_284:AbX n)(_ih_346:Ab1 n)(c:d7):Ct prog (BJ (n+1) c) 284 [AK c] (fun r=>.sh (eB r)):=Fj f284 0xa1083f5c30ff04b404b4605d6ab43c770ea538011a09043105601a09043105816ab43c770ea5385d6ab43c770ea5385d0583328cecf9 [.call 345 [.s 42,.c (.clo 346 [])]] [.tmp 2] (h:=fun r h b d=>by
  unfold BJ at h;have:HJ 10 fun(a:Bool)=>[(4,.tv (eB a))]:=⟨⟩;exact nz)
theorem qn(n:Nat)(_ih_284:AbX n)(_ih_346:Ab1 n)(k:d7):Ct prog (BT (n+1) k) 346 [AK k] (fun r=>.sh (eB r)):=Fj f346 0x8197a5f9 [] [.tmp 2] (h:=fun r h a b=>by
  unfold BT at h;exact nz)
theorem ip:∀n:Nat,AbX n/\Ab1 n:=by
  intro n
  induction n with
  |zero=>exact⟨(fun c=>⟨fun _ h=>by cases h⟩),(fun k=>⟨fun _ h=>by cases h⟩)⟩
  |succ n a=>exact⟨qc n a.1 a.2,qn n a.1 a.2⟩
instance xy(c:d7):Ct prog (Ew c) 284 [AK c] (fun r=>.sh (eB r)):=⟨fun r h=>by
  obtain ⟨N,a⟩:=Co h;exact((ip N).1 c).snd r (a N (bk _))⟩
instance yv(k:d7):Ct prog (Pc k) 346 [AK k] (fun r=>.sh (eB r)):=⟨fun r h=>by
  obtain ⟨N,a⟩:=Co h;exact((ip N).2 k).snd r (a N (bk _))⟩
abbrev Q_285(n:Nat):Prop:=∀(c:d7),Ct prog (CC n c) 285 [AK c] (fun r=>.tp [eI r.1,eI r.2])
theorem qf(n:Nat)(_ih_285:Q_285 n)(c:d7):Ct prog (CC (n+1) c) 285 [AK c] (fun r=>.tp [eI r.1,eI r.2]):=Fj f285 0x8c306a026a02600185556ae7c10b6a010680302c30aa8c70a5094b0ac9a509436ae762c10b6a0106d1b78c30ee [] [.tmp 2,.tmp 3] (h:=fun r h e f=>by
  unfold CC at h;have:HA 0 13 12 0 fun(d:Int)(a:Int×Int)=>[(4,.tv (eI a.1)),(5,.tv (eI a.2)),(13,.tv (eI d))]:=⟨⟩;have:HJ 31 fun(b:Int)=>[(5,.tv (eI b))]:=⟨⟩;exact nz)
theorem qe:∀n:Nat,Q_285 n:=by
  intro n
  induction n with
  |zero=>exact(fun c=>⟨fun _ h=>by cases h⟩)
  |succ n a=>exact qf n a
instance xz(c:d7):Ct prog (GF c) 285 [AK c] (fun r=>.tp [eI r.1,eI r.2]):=⟨fun r h=>by
  obtain ⟨N,a⟩:=Co h;exact((qe N) c).snd r (a N (bk _))⟩
instance wv(c:d7):Ct prog (D5 c) 217 [AK c] (fun r=>.sh (eI r)):=Fj f217 0xfbaa055d8170a537b3a5f9 [] [.tmp 2] (h:=fun r h a b=>by
  unfold D5 at h;exact nz)
instance yw(a:CX)(b:Int):Ct prog (G3 a b) 347 [FT a,.pt [eI b]] (fun r=>.sh (eB r)):=Fj f347 0xa9036d9ee1 [] [.tmp 3] (h:=fun r h c d=>by
  unfold G3 at h;exact nz)
instance yA(t:AC)(q:ec)(a:Int):Ct prog (DI t q a) 286 [AQ t,A9 q,eI a] (fun r=>.sh (eI r)):=Fj f286 0x9b7304033c083d014b05314b0b4983ff3701b310760062a603730403083d014b0bc901d890360161a7 [] [.tmp 6] (h:=fun r h c d=>by
  unfold DI at h;have:HW 0 fun(b:Int)=>[(8,.tv (.pt [eI b]))]:=⟨⟩;exact nz)
abbrev Q_218(n:Nat):Prop:=∀(t:AC)(p:ec)(c:d7),Ct prog (Bv n t p c) 218 [AQ t,A9 p,AK c] (fun r=>.sh (eI r))
theorem qU(n:Nat)(_ih_218:Q_218 n)(t:AC)(p:ec)(c:d7):Ct prog (Bv (n+1) t p c) 218 [AQ t,A9 p,AK c] (fun r=>.sh (eI r)):=Fj f218 0x9b35343304030580d8a59036094b0ac9a509430062353433040305d1b76a786a783cc59037b3369eb2b2d8369eb2b2d8a6907f85a6a6c509c990be855584bfee [.Abx (.s 1)] [.tmp 6] (h:=fun r h b d=>by
  unfold Bv at h;have:HA 0 53 52 0 fun(a:Int)(_:Unit)=>[(53,.tv (eI a))]:=⟨⟩;exact nz)
theorem qT:∀n:Nat,Q_218 n:=by
  intro n
  induction n with
  |zero=>exact(fun t p c=>⟨fun _ h=>by cases h⟩)
  |succ n a=>exact qU n a
instance ww(t:AC)(p:ec)(c:d7):Ct prog (Ix t p c) 218 [AQ t,A9 p,AK c] (fun r=>.sh (eI r)):=⟨fun r h=>by
  obtain ⟨N,a⟩:=Co h;exact((qT N) t p c).snd r (a N (bk _))⟩
instance vW(t:AC)(p:ec)(c:d7):Ct prog (Ch t p c) 142 [AQ t,A9 p,AK c] (fun r=>.sh (eI r)):=Fj f142 0x810ea590efa5d89036849d [] [.tmp 6] (h:=fun r h a b=>by
  unfold Ch at h;exact nz)
instance c90(t:AC)(a:gp):Ct prog (GR t a) 90 [AQ t,Bx a] (fun r=>.sh (eI r)):=Fj f90 0x810ea5104290b77fb330e3bd3682e0d5d8d5d8d5ef90b77fb3553771f636019d [] [.tmp 4] (h:=fun r h b c=>by
  unfold GR at h;exact nz)
instance c49(t:AC)(a:List gp)(b:AG):Ct prog (C9 t a b) 49 [AQ t,(eL 25 Bx) a,Be b] (fun r=>.sh (eI r)):=Fj f49 0x815df66536055e1b1a1905030580d8d536194b0cc9d51943055e621b1a190503058dc6d2f271f636016130 [] [.tmp 6] (h:=fun r h d e=>by
  unfold C9 at h;have:HA 0 27 26 0 fun(c:Int)(_:Unit)=>[(27,.tv (eI c))]:=⟨⟩;exact nz)
instance vX(t:AC)(b:gp)(a:AG):Ct prog (Hn t b a) 143 [AQ t,Bx b,Be a] (fun r=>.sh (eI r)):=Fj f143 0x815df665efd57f71f636849d [] [.tmp 6] (h:=fun r h c d=>by
  unfold Hn at h;exact nz)
instance zZ(n:Int)(a:AC):Ct prog (Jj n a) 392 [eI n,.pt (AQ a).cells] (fun r=>.sh (eB r)):=Fj f392 0x816c55de [] [.tmp 3] (h:=fun r h b c=>by
  unfold Jj at h;exact nz)
instance za(a:Bl)(b:AC):Ct prog (Jk a b) 393 [Bs a,.pt (AQ b).cells] (fun r=>.sh (eB r)):=Fj f393 0x81db55e1 [] [.tmp 3] (h:=fun r h c d=>by
  unfold Jk at h;exact nz)
instance yx(t:AC)(g:d4):Ct prog (EP t g) 348 [AQ t,Am g] (fun r=>.sh (eB r)):=Fj f348 0xa197105c01971055019d [] [.tmp 4] (h:=fun r h a b=>by
  unfold EP at h;exact nz)
instance yB(t:AC)(p:d4)(g:d4):Ct prog (Di t p g) 287 [AQ t,Am p,Am g] (fun r=>.sh (eI r)):=Fj f287 0xfb979f01979f6a78181716cd0680d8369607c93602436a7862181716cd068d02c7367f71f636849d [] [.tmp 6] (h:=fun r h b c=>by
  unfold Di at h;have:HA 0 24 23 0 fun(a:Int)(_:Unit)=>[(24,.tv (eI a))]:=⟨⟩;exact nz)
instance ze(t:AC)(a:Int):Ct prog (Gf t a) 399 [AQ t,eI a] (fun r=>.tp [lI r.1,eI r.2]):=Fj f399 0xf5020701fe07023880fe070238fe0702383ca7ddb48e3036810107ebfe0702388d55da37da7dacbc30409330 [] [.tmp 4,.tmp 5] (h:=fun r h d e=>by
  unfold Gf at h;have:HA 0 19 18 0 fun(b:Int)(c:Fp)=>[(7,.ow (lI c)),(19,.tv (eI b))]:=⟨⟩;exact nz)
instance y8(t:AC):Ct prog (Ez t) 356 [AQ t] (fun r=>.own ((eL 1 (eL 1 eB)) r)):=Fj f356 0x820231c1310480a7dd1802c10531051c1b1ac10531088001fa0114815fc1053105621c1b1ac10531088d8101e0bc993fc381013162c131048d55dafcee [.mkx 1 [.bool false] (.s 18)] [.tmp 2] (h:=fun r h e f=>by
  unfold Ez at h;have:HA 0 13 12 0 fun(b:Int)(c:List a6)=>[(3,.ow ((eL 1 (eL 1 eB)) c)),(13,.tv (eI b))]:=⟨⟩;have:HA 2 28 27 0 fun(a:Int)(d:a6)=>[(5,.xo 1 (List.map eB d)),(28,.tv (eI a))]:=⟨⟩;exact nz)
instance yH(t:AC)(p:d4)(g:d4)(m:d6):Ct prog (E0 t p g m) 293 [AQ t,Am p,Am g,Ap m] (fun r=>.sh (eI r)):=Fj f293 0x9b474645b90506809205765f76f15c5f5c553785d49191e9e9cfcccfcc92db30055d815f6362474645b90506d1b7b9050325242309b905078037885fa2555fa25501926c5530055d81a2b905036225242309b90507d132820e7f8adbec38c3c301619d [] [.tmp 8] (h:=fun r h c d=>by
  unfold E0 at h;have:HA 0 37 36 0 fun(b:Int)(_:Unit)=>[(37,.tv (eI b))]:=⟨⟩;have:HA 2 71 70 0 fun(a:Int)(_:Unit)=>[(71,.tv (eI a))]:=⟨⟩;exact nz)
theorem uH(l:Fp)(r:Bool)(h:Gw l=some r):AN prog 355 [lI l] (.sh (eB r)):=by
  unfold Gw at h;rw[<-ib]at h;split at h
  · rename_i a
    cases h;exact Y8 l a
  .cases h
instance AAN(l:Fp):Ct Go.Proofs.Tryz.prog (Gw l) 355 [lI l] (fun r=>.sh (eB r)):=⟨uH l⟩
instance yF(t:AC)(p:d4)(g:d4)(m:d6)(a:Bool):Ct prog (EJ t p g m a) 291 [AQ t,Am p,Am g,Ap m,eB a] (fun r=>.sh (eI r)):=Fj f291 0xfb0a0e5c695530d8369fef369f0161610401 [] [.tmp 10] (h:=fun r h b c=>by
  unfold EJ at h;exact nz)
instance wx(t:AC)(p:ec)(a:AG):Ct prog (DR t p a) 219 [AQ t,A9 p,Be a] (fun r=>.sh (eI r)):=Fj f219 0x815df665ef9036849d [] [.tmp 6] (h:=fun r h b c=>by
  unfold DR at h;exact nz)
instance yD(a:kg)(b:Fp):Ct prog (D2 a b) 289 [OA a,lI b] (fun r=>.sh (eI r)):=Fj f289 0xa95c5f55f25c8555e1 [] [.tmp 4] (h:=fun r h c d=>by
  unfold D2 at h;exact nz)
instance y4(a:Int)(b:Int):Ct prog (Fx a b) 351 [eI a,eI b] (fun r=>.tp [eI r.1,JY r.2]):=Fj f351 0x8c383f383f013f5d816b01283f013f30ea [.cvt .u64 (.s 9),.cvt .u64 (.s 11),.bin (.w) .shr (.s 16) (.c (.int .u64 63)),.bin (.w) .shr (.s 18) (.c (.int .u64 63)),.cvt .i64 (.s 21)] [.tmp 4,.tmp 5] (h:=fun r h d e=>by
  unfold Fx at h;exact nz)
instance yz(t:kg)(a:Fp):Ct prog (Ea t a) 350 [OA t,.pt [lI a]] (fun r=>.tp [eI r.1,JY r.2.1,eB r.2.2]):=Fj f350 0x818c308c705c5f5503ffd08c0a6c03f155818c308c705ca955729330 [] [.tmp 3,.tmp 4,.tmp 5] (h:=fun r h b c=>by
  unfold Ea at h;exact nz)
instance yE(a:Test)(b:Fp):Ct prog (FK a b) 290 [GP a,lI b] (fun r=>.sh (eB r)):=Fj f290 0xa10aaa055577aa0555810eac0e300e30920830085d8c116b010f36f05d8c116b010f36b75d10019d [] [.tmp 4] (h:=fun r h c d=>by
  unfold FK at h;exact nz)
instance wz(p:ec)(a:AG)(m:d6):Ct prog (Fv p a m) 221 [A9 p,Be a,Ap m] (fun r=>.tp [lI r.1,eI r.2]):=Fj f221 0xf51808dc4b4a08048037da88201490c504c990054308eb4c4b4a0804d1be085e1918170908cd088037da85012014369e1918170c0b0908cd0a1918170c0b0908cd0a3c01fa01fa057c9e301401148a0817dc0114385d6d9e815f5c5f5fd476bb05c9b1b5085e621918170908cd08d19e99993fa63fa63040939d [.mkx 1 [.int .i64 0] (.s 17),.mkx 1 [.bool false] (.s 20)] [.tmp 6,.tmp 7] (h:=fun r h e f=>by
  unfold Fv at h;have:HA 0 25 24 0 fun(d:Int)(b:Fp×a6)=>[(8,.xo 1 (List.map eI b.1)),(9,.xo 1 (List.map eB b.2)),(25,.tv (eI d))]:=⟨⟩;have:HA 2 76 75 0 fun(c:Int)(_:Unit)=>[(76,.tv (eI c))]:=⟨⟩;exact nz)
instance yG(t:AC)(p:ec)(a:AG)(m:d6):Ct prog (DQ t p a m) 292 [AQ t,A9 p,Be a,Ap m] (fun r=>.tp [lI r.1,eI r.2]):=Fj f292 0xf56b0e36659037da7d9f32b27fda7d6590363040619d [] [.tmp 8,.tmp 9] (h:=fun r h b c=>by
  unfold DQ at h;exact nz)
instance w3(t:AC)(b:gp)(a:AG)(m:AL):Ct prog (Gx t b a m) 222 [AQ t,Bx b,Be a,BU m] (fun r=>.sh (eI r)):=Fj f222 0xc6b376f271e0b26590b77f850e030f42b2b2e3b73601619d [] [.tmp 8] (h:=fun r h c d=>by
  unfold Gx at h;exact nz)
instance w4(t:AC)(p:d4)(g:d4)(m:d6):Ct prog (D7 t p g m) 223 [AQ t,Am p,Am g,Ap m] (fun r=>.tp [Am r.1,eI r.2]):=Fj f223 0x8196360c08022726250c08060680ed3201dda2550432815f0c0802622726250c080606d132025007c93f0e5c3796b4d30e369f7f96b4d30e369f0107c9619d [.Aav [.z ⟨true,.list 1 []⟩,.w 34]] [.cell 8 (some 2),.tmp 9] (h:=fun r h c d=>by
  unfold D7 at h;have:HA 0 39 38 0 fun(b:Int)(a:d4)=>[(12,.bx [⟨true,lI a.d3⟩,⟨true,lE a.d5⟩]),(39,.tv (eI b))]:=⟨⟩;exact nz)
instance yI(a:Ba):Ct prog (CN a) 294 [HQ a] (fun r=>.sh (eI r)):=Fj f294 0x810e36beb2d836bd369eb2f9 [] [.tmp 2] (h:=fun r h b c=>by
  unfold CN at h;exact nz)
instance y9(a:Fp)(b:Fp):Ct prog (FG a b) 357 [lI a,lI b] (fun r=>.own ((eL 2 O7) r)):=Fj f357 0x8202057709890580ca8905cab989076fcab98907cab989073c0202480247054630028a0a977297f8b8b8ca8905cbcab98907a95d38ebca89058db4c002406302 [] [.tmp 4] (h:=fun r h g i=>by
  unfold FG at h;have:HA 0 10 9 0 fun(d:Int)(e:List F5)=>[(5,.ow ((eL 2 O7) e)),(10,.tv (eI d))]:=⟨⟩;have:HA 2 7 0 0 fun(c:Int)(f:List F5)=>[(5,.ow ((eL 2 O7) f)),(7,.tv (eI c))]:=⟨⟩;exact nz)
instance yJ(a:Ba):Ct prog (DO a) 295 [HQ a] (fun r=>.tp [(eL 2 O7) r.1,(eL 2 O7) r.2]):=Fj f295 0x82820e7cbe7cbd0e6dbe6dbd02400240ee [] [.tmp 2,.tmp 3] (h:=fun r h b c=>by
  unfold DO at h;exact nz)
instance zA(a:Ba):Ct prog (C7 a) 358 [HQ a] (fun r=>.own (lI r)):=Fj f358 0x820231ca08310580ca083105ca0831053ca7ddb4b3016dbe8ca23162ca083105d15bbddafcee [] [.tmp 2] (h:=fun r h d e=>by
  unfold C7 at h;have:HA 0 10 9 0 fun(b:Int)(c:Fp)=>[(3,.ow (lI c)),(10,.tv (eI b))]:=⟨⟩;exact nz)
instance yK(a:Ba):Ct prog (Cy a) 296 [HQ a] (fun r=>.own (lI r)):=Fj f296 0x82020401c10b04310680c10b043106c10b0431063ca7ddb48a0a0e76300e5c3097017cbd9181e9cf7e04ebc10b043106d101419eda820e0844fcee [] [.tmp 2] (h:=fun r h d e=>by
  unfold Cy at h;have:HA 0 13 12 0 fun(b:Int)(c:Fp)=>[(4,.ow (lI c)),(13,.tv (eI b))]:=⟨⟩;exact nz)
instance yL(n:Int)(a:Fp)(b:Fp):Ct prog (Fw n a b) 297 [eI n,lI a,lI b] (fun r=>.own (lI r)):=Fj f297 0x82020a01201f1e0a0480201f1e0a04201f1e0a043ca7ddb4885d815f77eb201f1e0a048d98da070111100f0702058011100f07020511100f0702053c01fa0114b3308ca207eb11100f0702058d81993f3040026303 [.mkx 1 [.bool false] (.s 13)] [.tmp 6] (h:=fun r h g i=>by
  unfold Fw at h;have:HA 0 17 16 0 fun(d:Int)(e:a6)=>[(7,.xo 1 (List.map eB e)),(17,.tv (eI d))]:=⟨⟩;have:HA 2 32 31 0 fun(c:Int)(f:Fp)=>[(10,.ow (lI f)),(32,.tv (eI c))]:=⟨⟩;exact nz)
instance w5(l:d4)(g:d4)(a:BB)(m:d6):Ct prog (E5 l g a m) 224 [Am l,Am g,GO a,Ap m] (fun r=>.tp [GO r.1,eI r.2]):=Fj f224 0x8013b819604f75c5cec0ed4c3ff37960346816c0e084481960346a96c010b0182e008443796e7d30e0844084b0dc906469f9f01e8619d [] [.cell 8 (some 2),.tmp 9] (h:=fun r h b c=>by
  unfold E5 at h;exact nz)
instance zB(t:AC)(p:ec)(c:d7)(b:AG)(m:AL)(a:Bool):Ct prog (D4 t p c b m a) 359 [AQ t,A9 p,AK c,Be b,BU m,eB a] (fun r=>.sh (eI r)):=Fj f359 0xc6b376f271e0b26590ef01b2b2b27f71f665efa59036846161ba [] [.tmp 12] (h:=fun r h d e=>by
  unfold D4 at h;exact nz)
instance z1(n:Int)(b:Fp)(a:Fp):Ct prog (FH n b a) 428 [eI n,lI b,lI a] (fun r=>.own (lI r)):=Fj f428 0x821807010f0e0d0702058001fa5f72148ca207eb0f0e0d0702058d81991a3047fc026303 [] [.tmp 6] (h:=fun r h e f=>by
  unfold FH at h;have:HA 0 15 14 0 fun(c:Int)(d:Fp)=>[(7,.xo 1 (List.map eI d)),(15,.tv (eI c))]:=⟨⟩;exact nz)
theorem rI:CK f420 (.seq (.region [⟨some 4,.mv (.c (.int .i64 0)),none⟩] [0,1])
 (.seq (.seq (.region [⟨some 5,.mv (.s 0),none⟩,
    ⟨some 6,.isn (.s 5),none⟩] [0,1,6])
  (.cond (.s 6) (.seq (.region [⟨some 4,.mv (.c (.int .i64 (-1))),none⟩] [4])
   (.ret))
  (.skip [0,1])))
 (.seq (.region [⟨some 7,.mv (.s 0),none⟩,
    ⟨some 8,.mv (.s 1),none⟩,
    ⟨some 9,.iad (.s 7) (.s 8) 1,none⟩,
    ⟨some 10,.ld (.s 9),none⟩,
    ⟨some 4,.mv (.s 10),none⟩] [4])
 (.ret)))) [.tmp 4]:=by decide +kernel
instance zv(l:Option Fp)(i:Int):Ct Go.Proofs.Tryz.prog (J9 l i) 420 [(eO 1 eI) l,eI i] (fun r=>.sh (eI r)):=Fi rI fun r h a b=>by
  cases l with
  |none=>replace h:some (-1)=some r:=h;exact au|some l=>replace h:((TX l).bind fun _=>(idx l i).bind fun x=>some x)=some r:=h;exact au
instance zx(f:AI)(b:Int)(k:Int):Ct prog (DW f b k) 422 [.pt (P2 f).cells,eI b,eI k] (fun r=>.sh (eB r)):=Fj f422 0x813f07465f76030974015f5c0309740155cf7e7c0274019205f85d0e017c05740191e9cf7e31745b30026303 [.bin (.a [0,0,0]) .eql (.s 38) (.s 57)] [.tmp 6] (h:=fun r h c d=>by
  unfold DW at h;exact nz)
instance zw(f:AI):Ct prog (B5 f) 421 [.pt (P2 f).cells] (fun r=>.sh (eB r)):=Fj f421 0x9b14fe0300056014fe03000514fe03000581880114fe06030006262514fe060403000980ff14fe06030006018e72810114fe0603000662262514fe06040300098d7c02745dff14fe03000585012c765c9181e9cf43636214fe030005d101745b5d6c03097430c4 [] [.tmp 2] (h:=fun r h d e=>by
  unfold B5 at h;have:HA 0 20 19 0 fun(b:Int)(_:Unit)=>[(20,.tv (eI b))]:=⟨⟩;have:HA 2 38 37 0 fun(a:Int)(c:Bool)=>[(6,.tv (eB c)),(38,.tv (eI a))]:=⟨⟩;exact nz)
noncomputable def Wq:PC:=PC.of Uy f394.body (xq bT 0xffc43ced0b74024802470446201d0aa8201d09a8040ba832c4a4a306000460a4a3060004a4a30600043c1f0a740151011e0aa8320052321f0a74014fac011e0aa832ffa4a30600048a0a20011d0aa8e707a801082030328163eba4a30600048d7c02a881151d0aa8816c31745b32151d0aa8c43f3e3d020005603f3e3d0200053f3e3d0200053c1f09740151011e09a8323f3e3d0200053f3e3d0200053c005232a0321f0974014fac011e09a832ff3f3e3d0200058a0a20011d09a8e707a87708a25fa26d5b5b320304a87705f85d0e016d05a88c5f63eb3f3e3d020005d15b02a881151d09a8816c6d5b5b32151d09a8005d050308a80b030ba8c4) []
theorem rG:CK f394 Wq []:=by decide +kernel
theorem rg:PC.Aaf Wq=true/\PC.Aag 0 Wq=true:=by decide +kernel
abbrev Q_394(n:Nat):Prop:=∀(f:AI),Ct prog (Aw n f) 394 [.undef] (fun r=>.bo (Cg f) (Cg r) 0 [])
theorem qv(n:Nat)(_ih_394:Q_394 n)(f:AI):Ct prog (Aw (n+1) f) 394 [.undef] (fun r=>.bo (Cg f) (Cg r) 0 []):=ij rG rg fun r h i g j=>by
  unfold Wq;unfold f394;unfold Aw at h;have:HA 1 63 62 0 fun(d:Int)(c:AI)=>[(0,.bx (Cg c)),(63,.tv (eI d))]:=⟨⟩;have:HA 3 164 163 0 fun(a:Int)(e:AI)=>[(0,.bx (Cg e)),(164,.tv (eI a))]:=⟨⟩;have:HJ 28 fun(b:AI)=>[(0,.bx (Cg b))]:=⟨⟩;exact nz
theorem qu:∀n:Nat,Q_394 n:=by
  intro n
  induction n with
  |zero=>exact(fun f=>⟨fun _ h=>by cases h⟩)
  |succ n a=>exact qv n a
instance zb(f:AI):Ct prog (EW f) 394 [.undef] (fun r=>.bo (Cg f) (Cg r) 0 []):=⟨fun r h=>by
  obtain ⟨N,a⟩:=Co h;exact((qu N) f).snd r (a N (bk _))⟩
theorem rE:CK f349 (Rq [Aa 6 0,Aa 7 1,Aa 8 2,Aa 9 3,⟨some 12,.Aby 2,none⟩] [4,5,6,7,8,9]<|Sq (Dr [13,14,15,16,17,18,19,20,21] [Ab 14 7 2,Ab 15 8 2,Ab 16 6 2,⟨some 17,.call 356 [.s 16],none⟩,Ab 18 9 2,⟨some 19,.mv (.s 4),none⟩,⟨some 20,.mv (.s 5),none⟩,⟨some 21,.bld [.list 1 [],.list 3 [],.list 1 [],.list 3 [],.list 1 [],.nil,.nil,.bool false,.int .i64 0,.nil,.nil,.nil] [(0,2,.s 14),(2,2,.s 15),(4,1,.s 17),(5,2,.s 18),(7,1,.s 19),(8,1,.s 20)],none⟩,⟨some 22,.Abw [none,none,none,none,none,none,none,none,none,some ⟨true,.xl 1 []⟩,some ⟨true,.xl 1 []⟩,some ⟨true,.list 2 []⟩] (.s 21),none⟩,⟨some 13,.bad 22 0,none⟩] [13,22])<|Rq [Ac 23 13 0,⟨some 24,.AaF 394 [.s 23] 0,none⟩] [13,22]<|Rq [Ac 25 13 0,Ac 26 25 0,Ac 27 26 11,⟨some 28,.ld (.s 27),none⟩,⟨some 12,.tk 28,none⟩] [12]<|.ret) [.tmp 12]:=by decide +kernel
instance yy(t:AC)(p:d4)(g:d4)(b:Mg)(a:Bool)(c:Int):Ct prog (Fm t p g b a c) 349 [AQ t,Am p,Am g,iy b,eB a,eI c] (fun r=>.sh ((eL 2 Ap) r)):=Fi rE fun r h d e=>by
  unfold Fm at h;exact au
instance yC(t:AC)(p:d4)(g:d4)(b:Mg)(a:Bool):Ct prog (Hk t p g b a) 288 [AQ t,Am p,Am g,iy b,eB a] (fun r=>.tp [(eL 2 Ap) r.1,eI r.2]):=Fj f288 0xf5f202c0d201820e019f9fb44061610401 [] [.tmp 10,.tmp 11] (h:=fun r h c d=>by
  unfold Hk at h;exact nz)
instance AAA(k:Int)(a:Int):Ct prog (LE k a) 432 [eI k,.pt [eI a]] (fun r=>.sh (eB r)):=Fj f432 0xa105033005de [] [.tmp 3] (h:=fun r h b c=>by
  unfold LE at h;exact nz)
instance z8(l:Fp)(n:Int):Ct prog (FZ l n) 431 [lI l,eI n] (fun r=>.sh (eI r)):=Fj f431 0xc68e103093c4 [] [.tmp 4] (h:=fun r h a b=>by
  unfold FZ at h;exact nz)
instance z6(t:AC)(p:d4)(g:d4)(b:d6)(a:Bool):Ct prog (FB t p g b a) 429 [AQ t,Am p,Am g,Ap b,eB a] (fun r=>.tp [(eL 2 Ap) r.1,eI r.2]):=Fj f429 0xf56b0ebc9f7f02c07dec5c3702c07dc3553702c08adbec38c3c33702c07d369fb44061610401 [] [.tmp 10,.tmp 11] (h:=fun r h c d=>by
  unfold FB at h;exact nz)
instance zE(a:kg)(b:Fp):Ct prog (EX a b) 362 [OA a,lI b] (fun r=>.tp [eI r.1,eI r.2]):=Fj f362 0x8c0e017f81b36c0155309330 [] [.tmp 4,.tmp 5] (h:=fun r h c d=>by
  unfold EX at h;exact nz)
instance z7(b:Al)(q:ec)(m:d6)(a:Fp):Ct prog (Db b q m a) 430 [CJ b,A9 q,Ap m,lI a] (fun r=>.tp [lI r.1,eB r.2]):=Fj f430 0xf5180a016867660a048037da88201490c504c99005430aeb6867660a04d1be0a05022c2b2ae5066a088037da8a05f85d816b012014369e2c2b2a0f0ee5066a0a2c2b2a0f0ee5066a0a3c01fa01fa057c9e301401148a0817dc0114385d6d9e815f5c5f5fd45e419ebb05c9b1b50a0502622c2b2ae5066a08d19ee5066a052221e5066a078001fa01148101e5066a05622221e5066a078d01993fa6993f6c01a61a7240936131 [.Abk 1 22 (.int .i64 0) (.s 27),.mkx 1 [.bool false] (.s 30)] [.tmp 8,.tmp 9] (h:=fun r h i j=>by
  unfold Db at h;have:HA 0 34 33 0 fun(e:Int)(g:a6)=>[(11,.xo 1 (List.map eB g)),(34,.tv (eI e))]:=⟨⟩;have:HA 2 44 43 0 fun(d:Int)(c:Fp×a6)=>[(10,.xo 1 (List.map eI c.1)),(11,.xo 1 (List.map eB c.2)),(44,.tv (eI d))]:=⟨⟩;have:HA 4 104 103 0 fun(f:Int)(_:Unit)=>[(104,.tv (eI f))]:=⟨⟩;exact nz)
instance zy(a:Al)(c:d7)(m:AL):Ct prog (Bm a c m) 425 [CJ a,AK c,BU m] (fun r=>.tp [(eL 3 BU) r.1,eI r.2]):=Fj f425 0xf5020c013b3a390ccd07803b3a390ccd073b3a390ccd073c02034803470946bc028ce0763690be064496e83602430ceb3b3a390ccd078d8103c03703c071e00305429f5b9e9f3296e804f7f37c9eec0ec86d9ec39607c9e3bee740939d [] [.tmp 6,.tmp 7] (h:=fun r h e f=>by
  unfold Bm at h;have:HA 0 59 58 0 fun(b:Int)(d:List AL)=>[(12,.ow ((eL 3 BU) d)),(59,.tv (eI b))]:=⟨⟩;exact nz)
abbrev Ab3(n:Nat):Prop:=∀(a:Al)(c:d7)(m:AL),Ct prog (Ai n a c m) 360 [CJ a,AK c,BU m] (fun r=>.tp [ED r.1,eI r.2])
abbrev AbY(n:Nat):Prop:=∀(a:Al)(c:d7)(m:AL),Ct prog (BF n a c m) 400 [CJ a,AK c,BU m] (fun r=>.tp [ED r.1,eI r.2])
theorem qp(n:Nat)(_ih_360:Ab3 n)(_ih_400:AbY n)(b:Al)(c:d7)(m:AL):Ct prog (Ai (n+1) b c m) 360 [CJ b,AK c,BU m] (fun r=>.tp [ED r.1,eI r.2]):=Fj f360 0xa94b0a46ff37c56b0e65a50644a9a94b0a4606014b4a49060503068037c5774685f2c50b4605479071c50ec97065a50644094ba1c9a5097e06eb4b4a4906050306d1b7a9a94b900a06022f2e2d0a0605030780edbe054805479004be37c577d3c50ec97065a50644094b0ac9a509430a0602622f2e2d0a06050307d1b70ec9a9a94b7746ff37c50a46a9a94b0a46a98cc50e497065a509435c0644a9833269c9939d [] [.cell 6 (some 5),.tmp 7] (h:=fun r h g i=>by
  unfold Ai at h;have:HA 2 47 46 0 fun(e:Int)(a:Az×Az)=>[(6,.bx [⟨false,eI a.1.AaC⟩,⟨true,lI a.1.o3.d6.d3⟩,⟨true,lI a.1.o3.d6.d5⟩,⟨true,lI a.1.o3.hV⟩,⟨true,G7 a.1.hT⟩]),(10,.bx [⟨false,eI a.2.AaC⟩,⟨true,lI a.2.o3.d6.d3⟩,⟨true,lI a.2.o3.d6.d5⟩,⟨true,lI a.2.o3.hV⟩,⟨true,G7 a.2.hT⟩]),(47,.tv (eI e))]:=⟨⟩;have:HA 4 75 74 0 fun(f:Int)(d:Az)=>[(6,.bx [⟨false,eI d.AaC⟩,⟨true,lI d.o3.d6.d3⟩,⟨true,lI d.o3.d6.d5⟩,⟨true,lI d.o3.hV⟩,⟨true,G7 d.hT⟩]),(75,.tv (eI f))]:=⟨⟩;exact nz)
theorem qw(n:Nat)(_ih_360:Ab3 n)(_ih_400:AbY n)(a:Al)(c:d7)(m:AL):Ct prog (BF (n+1) a c m) 400 [CJ a,AK c,BU m] (fun r=>.tp [ED r.1,eI r.2]):=Fj f400 0xa94b0a4606011b1a19060403068037c5774685f2c50c460547906564c50ec97065a509435c0644910fc9cf4306eb1b1a19060403068dc6c577d3e065a5064469c9939d [] [.cell 6 (some 5),.tmp 7] (h:=fun r h e f=>by
  unfold BF at h;have:HA 0 27 26 0 fun(d:Int)(b:Az)=>[(6,.bx [⟨false,eI b.AaC⟩,⟨true,lI b.o3.d6.d3⟩,⟨true,lI b.o3.d6.d5⟩,⟨true,lI b.o3.hV⟩,⟨true,G7 b.hT⟩]),(27,.tv (eI d))]:=⟨⟩;exact nz)
theorem iq:∀n:Nat,Ab3 n/\AbY n:=by
  intro n
  induction n with
  |zero=>exact⟨(fun b c m=>⟨fun _ h=>by cases h⟩),(fun b c m=>⟨fun _ h=>by cases h⟩)⟩
  |succ n a=>exact⟨qp n a.1 a.2,qw n a.1 a.2⟩
instance zC(a:Al)(c:d7)(m:AL):Ct prog (DP a c m) 360 [CJ a,AK c,BU m] (fun r=>.tp [ED r.1,eI r.2]):=⟨fun r h=>by
  obtain ⟨N,b⟩:=Co h;exact((iq N).1 a c m).snd r (b N (bk _))⟩
instance zf(a:Al)(c:d7)(m:AL):Ct prog (Nt a c m) 400 [CJ a,AK c,BU m] (fun r=>.tp [ED r.1,eI r.2]):=⟨fun r h=>by
  obtain ⟨N,b⟩:=Co h;exact((iq N).2 a c m).snd r (b N (bk _))⟩
instance yM(t:AC)(p:ec)(c:d7)(b:AG)(m:AL)(a:Bool):Ct prog (DH t p c b m a) 298 [AQ t,A9 p,AK c,Be b,BU m,eB a] (fun r=>.tp [ED r.1,eI r.2]):=Fj f298 0xa94b6b0e65a50d4601657fc577d30e016565a5903669c9936161ba [] [.cell 12 (some 5),.tmp 13] (h:=fun r h d e=>by
  unfold DH at h;exact nz)
instance w6(t:AC)(p:ec)(c:d7)(b:AG)(m:AL)(a:Bool):Ct prog (Cv t p c b m a) 225 [AQ t,A9 p,AK c,Be b,BU m,eB a] (fun r=>.tp [eB r.1,eI r.2]):=Fj f225 0x8c3801d064c50e4970016565a5903630936161ba [] [.tmp 12,.tmp 13] (h:=fun r h d e=>by
  unfold Cv at h;exact nz)
instance w7(m:AL):Ct prog (Ic m) 226 [BU m] (fun r=>.sh (BU r)):=Fj f226 0xa73b9109f77604f7f30ec80fc9ee [] [.cell 2 (some 3)] (h:=fun r h a b=>by
  unfold Ic at h;exact nz)
instance w8(a:AG):Ct prog (JF a) 227 [Be a] (fun r=>.sh (Be r)):=Fj f227 0x91655e02fe11f480ed9e01dd01483047049e825f5e0262fe11f4d19e035010c93f3f0ef30ec810c9ee [.Aav [.w 9,.w 13],.Aav [.g 14 0 2,.g 14 1 2,.z ⟨true,.list 1 []⟩]] [.cell 2 (some 3)] (h:=fun r h d e=>by
  unfold JF at h;have:HA 0 19 18 0 fun(c:Int)(b:AG)=>[(3,.bx [⟨true,lI b.d4.d3⟩,⟨true,lE b.d4.d5⟩,⟨true,(eL 1 lI) b.fq⟩]),(19,.tv (eI c))]:=⟨⟩;exact nz)
instance w9(n:Int)(l:Fp):Ct prog (KU n l) 228 [eI n,lI l] (fun r=>.own (lI r)):=Fj f228 0x8218bac1ba048001fa3014c1b9ba06c1b9ba063c01885d8170308138ebc1ba04819514993f30406302 [.mkx 1 [.int .i64 0] (.s 9)] [.tmp 4] (h:=fun r h c d=>by
  unfold KU at h;have:HA 0 13 12 0 fun(a:Int)(b:Fp)=>[(5,.xo 1 (List.map eI b)),(13,.tv (eI a))]:=⟨⟩;exact nz)
instance xA(c:Int)(e:Fp)(d:Fp)(a:Fp)(b:Fp)(n:Int):Ct prog (Fo c e d a b n) 229 [eI c,lI e,lI d,lI a,lI b,eI n] (fun r=>.own (lI r)):=Fj f229 0x82180d012b2a0d6a802b2a0d6a2b2a0d6a6030fa30148517dc011481010deb2b2a0d6a8195140d05021615140d6a31088001fa5f5f5f7230148ca20d0502621615140d6a31088d81991a3047fc6a5e6306 [] [.tmp 12] (h:=fun r h k l=>by
  unfold Fo at h;have:HA 0 22 21 0 fun(i:Int)(j:Fp)=>[(13,.xo 1 (List.map eI j)),(22,.tv (eI i))]:=⟨⟩;have:HA 2 43 42 0 fun(g:Int)(f:Int×Fp)=>[(5,.tv (eI f.1)),(13,.xo 1 (List.map eI f.2)),(43,.tv (eI g))]:=⟨⟩;exact nz)
instance yN(t:AC)(a:Int):Ct prog (Ho t a) 300 [AQ t,eI a] (fun r=>.own (lI r)):=Fj f300 0x82020701fe11070480a7dd5c02bb02c9b1b507ebfe1107048df5ac01e0bcfc9330 [] [.tmp 4] (h:=fun r h d e=>by
  unfold Ho at h;have:HA 0 19 18 0 fun(b:Int)(c:Fp)=>[(7,.ow (lI c)),(19,.tv (eI b))]:=⟨⟩;exact nz)
noncomputable def Wn:PC:=PC.of Uy f230.body (xq bT 0x30b0afaee680b0afaee6b0afaee63ced01741f740348034707465f766d24a85f5c6d24a8550401741fa832d231741fa8a27c24a89181e9cf437262b0afaee6d1b707b47b7a79073106807b7a790731067b7a790731063c1f02411f7421221abc2302411fa832ed5b5b1f7401dde65b5b1fa832d26d5b1fa8a26d24a88ca207b4627b7a79073106d1320731914a49b9310780ed01741f740348034707465f766d22a85f5c6d22a8550401741fa83291e9cf7ef3815f073103624b4a49b93107d1b7b90531051e1d1cb9053108801f02411f742122014fa27601562302411fa832ed5b5b1f7401dda2c8045b5b1fa832815fb9053105621e1d1cb9053108d132969107c910c9e306745b32651ca86130) []
theorem rB:CK f230 Wn []:=by decide +kernel
theorem rc:PC.Aaf Wn=true/\PC.Aag 1 Wn=true:=by decide +kernel
instance xB(t:AC)(a:Ar)(d:BB):Ct prog (GU t a d) 230 [AQ t,.undef,GO d] (fun r=>.bo (DF a) (DF r) 1 []):=ij rB rc fun r h m l n=>by
  unfold Wn;unfold f230;unfold GU at h;have:HA 0 30 29 0 fun(f:Int)(i:Ar)=>[(1,.bx (DF i)),(30,.tv (eI f))]:=⟨⟩;have:HA 2 75 74 0 fun(e:Int)(b:Ar)=>[(1,.bx (DF b)),(75,.tv (eI e))]:=⟨⟩;have:HA 4 123 122 0 fun(c:Int)(j:Ar)=>[(1,.bx (DF j)),(123,.tv (eI c))]:=⟨⟩;have:HA 6 176 175 0 fun(g:Int)(k:Ar)=>[(1,.bx (DF k)),(176,.tv (eI g))]:=⟨⟩;exact nz
theorem rD:CK f301 (.seq (.region [⟨some 1,.Abu (.s 0),none⟩,
    ⟨some 2,.mv (.c .undef),none⟩,
    ⟨some 3,.mv (.c (.int .i64 0)),none⟩] [1])
 (.seq (.region [⟨some 12,.mkm,none⟩,
    ⟨some 4,.mvm 12,none⟩] [1,4,12])
 (.seq (.seq (.region [⟨some 13,.bad 1 0,none⟩,
    ⟨some 14,.fad (.s 13) 6,none⟩,
    ⟨some 15,.fad (.s 14) 2,none⟩,
    ⟨some 16,.ld (.s 15),none⟩,
    ⟨some 17,.len (.s 16),none⟩,
    ⟨some 18,.mv (.c (.int .i64 0)),none⟩] [1,4,12,16,17,18])
 (.block 0 (.loop [1,4,12,16,17,18] (.seq (.region [⟨some 19,.bin (.i) .lss (.s 18) (.s 17),none⟩] [1,4,12,16,17,18,19])
 (.seq (.cond (.s 19) (.skip [1,4,12,16,17,18])
 (.exit 0 [4,12]))
 (.seq (.block 1 (.seq (.region [⟨some 20,.iad (.s 16) (.s 18) 4,none⟩,
    ⟨some 21,.lda (.s 20) 4,none⟩,
    ⟨some 6,.alc [⟨false,.int .i64 0⟩,⟨false,.int .i64 0⟩,⟨false,.int .i64 0⟩,⟨false,.int .i64 0⟩],none⟩,
    ⟨none,.stb 4 6 (.s 21),none⟩] [1,4,6,12,16,17,18])
 (.seq (.region [⟨some 23,.bad 6 2,none⟩,
    ⟨some 24,.lda (.s 23) 2,none⟩,
    ⟨some 25,.bad 1 25,none⟩,
    ⟨some 26,.fad (.s 25) 2,none⟩,
    ⟨some 27,.ld (.s 26),none⟩,
    ⟨some 28,.call 362 [.s 24,.s 27],none⟩,
    ⟨some 22,.mv (.s 28),none⟩,
    ⟨some 29,.ext (.s 22) 0,none⟩,
    ⟨some 30,.ext (.s 22) 1,none⟩,
    ⟨some 7,.mv (.s 29),none⟩,
    ⟨some 8,.mv (.s 30),none⟩] [1,4,6,7,8,12,16,17,18])
 (.seq (.seq (.region [⟨some 31,.mv (.s 8),none⟩,
    ⟨some 32,.bin (.i) .neq (.s 31) (.c (.int .i64 0)),none⟩] [1,4,6,7,8,12,16,17,18,32])
 (.cond (.s 32) (.seq (.region [⟨some 33,.mv (.s 8),none⟩,
    ⟨some 2,.mv (.c .undef),none⟩,
    ⟨some 3,.mv (.s 33),none⟩] [2,3,12])
 .ret)
 (.skip [1,4,6,7,12,16,17,18])))
 (.seq (.draw [9,34,35,36,37,38,39,40,41,42,43] [⟨some 34,.bad 1 36,none⟩,
    ⟨some 35,.fad (.s 34) 0,none⟩,
    ⟨some 36,.ld (.s 35),none⟩,
    ⟨some 37,.bad 6 0,none⟩,
    ⟨some 38,.ld (.s 37),none⟩,
    ⟨some 39,.iad (.s 36) (.s 38) 1,none⟩,
    ⟨some 40,.ld (.s 39),none⟩,
    ⟨some 41,.bad 6 1,none⟩,
    ⟨some 42,.ld (.s 41),none⟩,
    ⟨some 43,.bld [.int .i64 0,.int .i64 0] [(0,1,.s 40),(1,1,.s 42)],none⟩,
    ⟨some 9,.alc [⟨false,.int .i64 0⟩,⟨false,.int .i64 0⟩],none⟩,
    ⟨none,.stb 2 9 (.s 43),none⟩] [1,4,7,9,12,16,17,18])
 (.seq (.seq (.region [⟨some 45,.mv (.s 4),none⟩,
    ⟨some 46,.lda (.s 9) 2,none⟩,
    ⟨some 47,.mlk 12 (.s 45) (.s 46),none⟩,
    ⟨some 44,.mv (.s 47),none⟩,
    ⟨some 48,.ext (.s 44) 0,none⟩,
    ⟨some 49,.ext (.s 44) 1,none⟩,
    ⟨some 10,.mv (.s 48),none⟩,
    ⟨some 11,.mv (.s 49),none⟩] [1,4,7,9,10,11,12,16,17,18])
 (.seq (.region [⟨some 50,.mv (.s 11),none⟩,
    ⟨some 51,.mv (.s 50),none⟩,
    ⟨some 52,.mv (.s 10),some (51,true)⟩,
    ⟨some 53,.mv (.s 7),some (51,true)⟩,
    ⟨some 54,.bin (.i) .neq (.s 52) (.s 53),some (51,true)⟩,
    ⟨some 55,.pick (.s 51) (.s 54) (.c (.bool false)),none⟩] [1,4,7,9,12,16,17,18,55])
 (.cond (.s 55) (.seq (.region [⟨some 2,.mv (.c .undef),none⟩,
    ⟨some 3,.mv (.c (.int .i64 11)),none⟩] [2,3,12])
 .ret)
 (.skip [1,4,7,9,12,16,17,18]))))
 (.region [⟨some 56,.mv (.s 4),none⟩,
    ⟨some 57,.lda (.s 9) 2,none⟩,
    ⟨some 58,.mv (.s 7),none⟩,
    ⟨none,.mup 12 (.s 56) (.s 57) (.s 58),none⟩] [1,4,12,16,17,18])))))))
 (.region [⟨some 59,.bin (.i) .add (.s 18) (.c (.int .i64 1)),none⟩,
    ⟨some 18,.mv (.s 59),none⟩] [1,4,12,16,17,18])))))))
 (.seq (.region [⟨some 60,.mv (.s 4),none⟩,
    ⟨some 2,.mv (.s 60),none⟩,
    ⟨some 3,.mv (.c (.int .i64 0)),none⟩] [2,3,12])
 .ret)))) [.tmp 2,.tmp 3]:=by decide +kernel
instance AAK(s:Ar):Ct Go.Proofs.Tryz.prog (HF s) 301 [ZM s] L7:=uj rD fun r h d e=>by
  unfold HF at h;have K:∀b:Nat,HA 0 18 17 0 fun(a:Int)(c:BD)=>[(12,.mx (.mp b c)),(18,.tv (eI a))]:=fun _=>⟨⟩;have:tZ 12:=⟨⟩;exact au
theorem Vg(t:AC)(s:Ar)(V:List Fp)(p:(Int×Int)×Int)(a:BD)(r:Bp (List Fp) Unit)(h:Lz t s V p=some r):WP (AN Go.Proofs.Tryz.prog) (.block 1 (.seq (.region [⟨some 25,.men 22,none⟩,
    ⟨some 26,.ext (.s 25) 0,none⟩,
    ⟨some 27,.ext (.s 25) 1,none⟩,
    ⟨some 7,.alc [⟨false,.int .i64 0⟩,⟨false,.int .i64 0⟩],none⟩,
    ⟨none,.stb 2 7 (.s 26),none⟩,
    ⟨some 8,.mv (.s 27),none⟩] [1,2,7,8,22])
 (.seq (.draw [9,10,28,29,30,31,32,33,34,35,36,37,38,39,40,41,42] [⟨some 29,.lda (.s 2) 2,none⟩,
    ⟨some 30,.bad 1 0,none⟩,
    ⟨some 31,.fad (.s 30) 0,none⟩,
    ⟨some 32,.fad (.s 31) 31,none⟩,
    ⟨some 33,.fad (.s 32) 0,none⟩,
    ⟨some 34,.fad (.s 33) 0,none⟩,
    ⟨some 35,.ld (.s 34),none⟩,
    ⟨some 36,.bad 7 0,none⟩,
    ⟨some 37,.ld (.s 36),none⟩,
    ⟨some 38,.iad (.s 35) (.s 37) 1,none⟩,
    ⟨some 39,.ld (.s 38),none⟩,
    ⟨some 40,.call 170 [.s 29,.s 39],none⟩,
    ⟨some 28,.mv (.s 40),none⟩,
    ⟨some 41,.ext (.s 28) 0,none⟩,
    ⟨some 42,.ext (.s 28) 1,none⟩,
    ⟨some 9,.mv (.s 41),none⟩,
    ⟨some 10,.mv (.s 42),none⟩] [1,2,7,8,9,22])
 (.seq (.seq (.region [⟨some 43,.mv (.s 8),none⟩,
    ⟨some 44,.mv (.s 9),none⟩,
    ⟨some 45,.bad 7 1,none⟩,
    ⟨some 46,.ld (.s 45),none⟩,
    ⟨some 47,.iad (.s 44) (.s 46) 4,none⟩,
    ⟨some 48,.fad (.s 47) 1,none⟩,
    ⟨some 49,.ld (.s 48),none⟩,
    ⟨some 50,.bin (.i) .lss (.s 43) (.s 49),none⟩,
    ⟨some 51,.mv (.s 50),none⟩,
    ⟨some 52,.mv (.s 8),some (51,false)⟩,
    ⟨some 53,.mv (.s 9),some (51,false)⟩,
    ⟨some 54,.bad 7 1,some (51,false)⟩,
    ⟨some 55,.ld (.s 54),some (51,false)⟩,
    ⟨some 56,.iad (.s 53) (.s 55) 4,some (51,false)⟩,
    ⟨some 57,.fad (.s 56) 2,some (51,false)⟩,
    ⟨some 58,.ld (.s 57),some (51,false)⟩,
    ⟨some 59,.bin (.i) .gtr (.s 52) (.s 58),some (51,false)⟩,
    ⟨some 60,.pick (.s 51) (.c (.bool true)) (.s 59),none⟩] [1,2,7,8,22,60])
 (.cond (.s 60) (.seq (.region [⟨some 4,.mv (.c (.int .i64 6)),none⟩] [1,4])
 .ret)
 (.skip [1,2,7,8,22])))
 (.draw [61,62,63,64,65,66,67,68,69,70,71,72,73] [⟨some 61,.bad 1 0,none⟩,
    ⟨some 62,.fad (.s 61) 0,none⟩,
    ⟨some 63,.fad (.s 62) 31,none⟩,
    ⟨some 64,.fad (.s 63) 2,none⟩,
    ⟨some 65,.lan (.s 64),none⟩,
    ⟨some 66,.bad 7 0,none⟩,
    ⟨some 67,.ld (.s 66),none⟩,
    ⟨some 68,.nia (.s 65) (.s 67),none⟩,
    ⟨some 69,.nld (.s 68),none⟩,
    ⟨some 70,.bad 7 1,none⟩,
    ⟨some 71,.ld (.s 70),none⟩,
    ⟨some 72,.mv (.s 8),none⟩,
    ⟨some 73,.nia (.s 69) (.s 71),none⟩,
    ⟨none,.nst (.s 73) (.s 72),none⟩] [1,2,22]))))) ⟨fun e=>∃b,r=.next b/\Rn (e.jj [1,2,22]) [(1,.bx (DF (MU s b))),(2,.tv (.pt (AQ t).cells)),(22,.mx (.mi (some p) a))],fun _ _=>False,fun e=>∃v,r=.ret v/\Rn e [(1,.bx (DF (MU s V))),(4,.tv (eI 6))]⟩ [(1,.bx (DF (MU s V))),(2,.tv (.pt (AQ t).cells)),(22,.mx (.mi (some p) a))]:=by
  unfold Lz at h;exact au
noncomputable def Wo:PC:=(.seq (.region [⟨some 2,.Abu (.s 0),none⟩,
    ⟨some 4,.mv (.c (.int .i64 0)),none⟩] [1,2])
 (.seq (.region [⟨some 12,.bad 1 0,none⟩,
    ⟨some 13,.fad (.s 12) 0,none⟩,
    ⟨some 14,.lda (.s 13) 38,none⟩,
    ⟨some 15,.AaV 301 [.s 14],none⟩,
    ⟨some 11,.mvm 15,none⟩,
    ⟨some 16,.ext (.s 11) 0,none⟩,
    ⟨some 17,.ext (.s 11) 1,none⟩,
    ⟨some 5,.mv (.s 16),none⟩,
    ⟨some 6,.mv (.s 17),none⟩] [1,2,5,6,15])
 (.seq (.seq (.region [⟨some 18,.mv (.s 6),none⟩,
    ⟨some 19,.bin (.i) .neq (.s 18) (.c (.int .i64 0)),none⟩] [1,2,5,6,15,19])
 (.cond (.s 19) (.seq (.region [⟨some 20,.mv (.s 6),none⟩,
    ⟨some 4,.mv (.s 20),none⟩] [1,4])
 .ret)
 (.skip [1,2,5,15])))
 (.seq (.seq (.region [⟨some 21,.mv (.s 5),none⟩,
    ⟨some 22,.mrg 15 (.s 21),none⟩] [1,2,22])
 (.block 0 (.loop [1,2,22] (.seq (.region [⟨some 23,.mnx 22,none⟩,
    ⟨some 24,.ext (.s 23) 0,none⟩] [1,2,22,24])
 (.seq (.cond (.s 24) (.skip [1,2,22])
 (.exit 0 [1]))
 (.block 1 (.seq (.region [⟨some 25,.men 22,none⟩,
    ⟨some 26,.ext (.s 25) 0,none⟩,
    ⟨some 27,.ext (.s 25) 1,none⟩,
    ⟨some 7,.alc [⟨false,.int .i64 0⟩,⟨false,.int .i64 0⟩],none⟩,
    ⟨none,.stb 2 7 (.s 26),none⟩,
    ⟨some 8,.mv (.s 27),none⟩] [1,2,7,8,22])
 (.seq (.draw [9,10,28,29,30,31,32,33,34,35,36,37,38,39,40,41,42] [⟨some 29,.lda (.s 2) 2,none⟩,
    ⟨some 30,.bad 1 0,none⟩,
    ⟨some 31,.fad (.s 30) 0,none⟩,
    ⟨some 32,.fad (.s 31) 31,none⟩,
    ⟨some 33,.fad (.s 32) 0,none⟩,
    ⟨some 34,.fad (.s 33) 0,none⟩,
    ⟨some 35,.ld (.s 34),none⟩,
    ⟨some 36,.bad 7 0,none⟩,
    ⟨some 37,.ld (.s 36),none⟩,
    ⟨some 38,.iad (.s 35) (.s 37) 1,none⟩,
    ⟨some 39,.ld (.s 38),none⟩,
    ⟨some 40,.call 170 [.s 29,.s 39],none⟩,
    ⟨some 28,.mv (.s 40),none⟩,
    ⟨some 41,.ext (.s 28) 0,none⟩,
    ⟨some 42,.ext (.s 28) 1,none⟩,
    ⟨some 9,.mv (.s 41),none⟩,
    ⟨some 10,.mv (.s 42),none⟩] [1,2,7,8,9,22])
 (.seq (.seq (.region [⟨some 43,.mv (.s 8),none⟩,
    ⟨some 44,.mv (.s 9),none⟩,
    ⟨some 45,.bad 7 1,none⟩,
    ⟨some 46,.ld (.s 45),none⟩,
    ⟨some 47,.iad (.s 44) (.s 46) 4,none⟩,
    ⟨some 48,.fad (.s 47) 1,none⟩,
    ⟨some 49,.ld (.s 48),none⟩,
    ⟨some 50,.bin (.i) .lss (.s 43) (.s 49),none⟩,
    ⟨some 51,.mv (.s 50),none⟩,
    ⟨some 52,.mv (.s 8),some (51,false)⟩,
    ⟨some 53,.mv (.s 9),some (51,false)⟩,
    ⟨some 54,.bad 7 1,some (51,false)⟩,
    ⟨some 55,.ld (.s 54),some (51,false)⟩,
    ⟨some 56,.iad (.s 53) (.s 55) 4,some (51,false)⟩,
    ⟨some 57,.fad (.s 56) 2,some (51,false)⟩,
    ⟨some 58,.ld (.s 57),some (51,false)⟩,
    ⟨some 59,.bin (.i) .gtr (.s 52) (.s 58),some (51,false)⟩,
    ⟨some 60,.pick (.s 51) (.c (.bool true)) (.s 59),none⟩] [1,2,7,8,22,60])
 (.cond (.s 60) (.seq (.region [⟨some 4,.mv (.c (.int .i64 6)),none⟩] [1,4])
 .ret)
 (.skip [1,2,7,8,22])))
 (.draw [61,62,63,64,65,66,67,68,69,70,71,72,73] [⟨some 61,.bad 1 0,none⟩,
    ⟨some 62,.fad (.s 61) 0,none⟩,
    ⟨some 63,.fad (.s 62) 31,none⟩,
    ⟨some 64,.fad (.s 63) 2,none⟩,
    ⟨some 65,.lan (.s 64),none⟩,
    ⟨some 66,.bad 7 0,none⟩,
    ⟨some 67,.ld (.s 66),none⟩,
    ⟨some 68,.nia (.s 65) (.s 67),none⟩,
    ⟨some 69,.nld (.s 68),none⟩,
    ⟨some 70,.bad 7 1,none⟩,
    ⟨some 71,.ld (.s 70),none⟩,
    ⟨some 72,.mv (.s 8),none⟩,
    ⟨some 73,.nia (.s 69) (.s 71),none⟩,
    ⟨none,.nst (.s 73) (.s 72),none⟩] [1,2,22]))))))))))
 (.seq (.region [⟨some 4,.mv (.c (.int .i64 0)),none⟩] [1,4])
 .ret)))))
theorem rC:CK f231 Wo [.tmp 4]:=by decide +kernel
theorem rd:PC.Aaf Wo=true/\PC.Aag 1 Wo=true:=by decide +kernel
variable{t:AC}{s:Ar}
theorem aT{p:(Int×Int)×Int}{b:Bool}(h:L0 t s p=some b){V:List Fp}(a:KD V s.tn.fq):
    (b=true->Lz t s V p=some (.next (CT V p)))/\(b=false->Lz t s V p=some (.ret ())):=by
  unfold L0 Lz at h;unfold Lz;obtain⟨c,d,h⟩:=bind_some h;obtain⟨q,f,d⟩:=bind_some d;obtain⟨r,g,d⟩:=bind_some d;obtain⟨u,i,d⟩:=bind_some d;obtain⟨j,k,d⟩:=bind_some d;simp only[f,g,i,Option.bind_some]at *;rw[k,Option.bind_some];cases j with
  |true=>
    simp only[if_true,x5]at d|-;subst d;simp only[x5]at h;subst h;exact⟨fun e=>(by cases e),fun _=>trivial⟩
  |false=>
    simp only[Bool.false_eq_true,if_false]at d|-;obtain⟨v,l,d⟩:=bind_some d;obtain⟨w,m,d⟩:=bind_some d;cases d;simp only[x5]at h;subst h;obtain⟨x,x',n,o⟩:=a.idx l m;refine⟨fun _=>?_,fun e=>(by cases e)⟩;rw[n,Option.bind_some,o,Option.bind_some,XS n o]
theorem cW{a:BD}{c:Bool}(g:a.Dis)(k:AaS (L0 t s) a=some c){L y:AB->Prop}{x:Nat->AB->Prop}{d:AB->Prop}
    (f:c=true->y [(1,.bx (DF (MU s (a.foldl CT s.tn.fq))))])(m:c=false->∀V,d [(1,.bx (DF (MU s V))),(4,.tv (eI 6))]):
    WP (AN Go.Proofs.Tryz.prog) (.loop [1,2,22] (.seq (.region [⟨some 23,.mnx 22,none⟩,
    ⟨some 24,.ext (.s 23) 0,none⟩] [1,2,22,24])
 (.seq (.cond (.s 24) (.skip [1,2,22])
 (.exit 0 [1]))
 (.block 1 (.seq (.region [⟨some 25,.men 22,none⟩,
    ⟨some 26,.ext (.s 25) 0,none⟩,
    ⟨some 27,.ext (.s 25) 1,none⟩,
    ⟨some 7,.alc [⟨false,.int .i64 0⟩,⟨false,.int .i64 0⟩],none⟩,
    ⟨none,.stb 2 7 (.s 26),none⟩,
    ⟨some 8,.mv (.s 27),none⟩] [1,2,7,8,22])
 (.seq (.draw [9,10,28,29,30,31,32,33,34,35,36,37,38,39,40,41,42] [⟨some 29,.lda (.s 2) 2,none⟩,
    ⟨some 30,.bad 1 0,none⟩,
    ⟨some 31,.fad (.s 30) 0,none⟩,
    ⟨some 32,.fad (.s 31) 31,none⟩,
    ⟨some 33,.fad (.s 32) 0,none⟩,
    ⟨some 34,.fad (.s 33) 0,none⟩,
    ⟨some 35,.ld (.s 34),none⟩,
    ⟨some 36,.bad 7 0,none⟩,
    ⟨some 37,.ld (.s 36),none⟩,
    ⟨some 38,.iad (.s 35) (.s 37) 1,none⟩,
    ⟨some 39,.ld (.s 38),none⟩,
    ⟨some 40,.call 170 [.s 29,.s 39],none⟩,
    ⟨some 28,.mv (.s 40),none⟩,
    ⟨some 41,.ext (.s 28) 0,none⟩,
    ⟨some 42,.ext (.s 28) 1,none⟩,
    ⟨some 9,.mv (.s 41),none⟩,
    ⟨some 10,.mv (.s 42),none⟩] [1,2,7,8,9,22])
 (.seq (.seq (.region [⟨some 43,.mv (.s 8),none⟩,
    ⟨some 44,.mv (.s 9),none⟩,
    ⟨some 45,.bad 7 1,none⟩,
    ⟨some 46,.ld (.s 45),none⟩,
    ⟨some 47,.iad (.s 44) (.s 46) 4,none⟩,
    ⟨some 48,.fad (.s 47) 1,none⟩,
    ⟨some 49,.ld (.s 48),none⟩,
    ⟨some 50,.bin (.i) .lss (.s 43) (.s 49),none⟩,
    ⟨some 51,.mv (.s 50),none⟩,
    ⟨some 52,.mv (.s 8),some (51,false)⟩,
    ⟨some 53,.mv (.s 9),some (51,false)⟩,
    ⟨some 54,.bad 7 1,some (51,false)⟩,
    ⟨some 55,.ld (.s 54),some (51,false)⟩,
    ⟨some 56,.iad (.s 53) (.s 55) 4,some (51,false)⟩,
    ⟨some 57,.fad (.s 56) 2,some (51,false)⟩,
    ⟨some 58,.ld (.s 57),some (51,false)⟩,
    ⟨some 59,.bin (.i) .gtr (.s 52) (.s 58),some (51,false)⟩,
    ⟨some 60,.pick (.s 51) (.c (.bool true)) (.s 59),none⟩] [1,2,7,8,22,60])
 (.cond (.s 60) (.seq (.region [⟨some 4,.mv (.c (.int .i64 6)),none⟩] [1,4])
 .ret)
 (.skip [1,2,7,8,22])))
 (.draw [61,62,63,64,65,66,67,68,69,70,71,72,73] [⟨some 61,.bad 1 0,none⟩,
    ⟨some 62,.fad (.s 61) 0,none⟩,
    ⟨some 63,.fad (.s 62) 31,none⟩,
    ⟨some 64,.fad (.s 63) 2,none⟩,
    ⟨some 65,.lan (.s 64),none⟩,
    ⟨some 66,.bad 7 0,none⟩,
    ⟨some 67,.ld (.s 66),none⟩,
    ⟨some 68,.nia (.s 65) (.s 67),none⟩,
    ⟨some 69,.nld (.s 68),none⟩,
    ⟨some 70,.bad 7 1,none⟩,
    ⟨some 71,.ld (.s 70),none⟩,
    ⟨some 72,.mv (.s 8),none⟩,
    ⟨some 73,.nia (.s 69) (.s 71),none⟩,
    ⟨none,.nst (.s 73) (.s 72),none⟩] [1,2,22])))))))) ⟨L,fun j e=>if j=0 then y e else x j e,d⟩ [(1,.bx (DF s)),(2,.tv (.pt (AQ t).cells)),(22,.mx (.mi none a))]:=by
  obtain ⟨m1,Q⟩:=Ud k;refine⟨l9 _ (σ:=List Fp×Option ((Int×Int)×Int)×BD) (fun σ=>[(1,.bx (DF (MU s σ.1))),(2,.tv (.pt (AQ t).cells)),(22,.mx (.mi σ.2.1 σ.2.2))])
    (fun σ=>KD σ.1 s.tn.fq/\(∀l,σ.2.2.Perm l->l.foldl CT σ.1=a.foldl CT s.tn.fq)/\(∀p∈σ.2.2,p∈a)/\(c=false->∃p∈σ.2.2,L0 t s p=some false))
    (fun σ=>σ.2.2.length) (s.tn.fq,none,a) rfl ⟨rfl,fun l z=>UE g z _,fun p o=>o,Q⟩ ?_⟩
  rintro ⟨V,last,r⟩ ⟨H,I,J,K⟩ U;refine WP.out (?_:WP _ _ _ _);apply JZ;apply N5;refine s9 rfl (by decide) (fun e=>?_) (fun p n o=>?_)
  · simp only at e
    subst e;have O:c=true:=by
      cases c with
      |true=>rfl|false=>obtain⟨p,o,_⟩:=K rfl;cases o
    have P:V=a.foldl CT s.tn.fq:=I [] (List.Perm.refl _);apply RO;exact rfl;exact rfl;apply Lk;(focus (repeat(first|exact HV|(apply Jf;exact rfl)|(apply Jc;exact rfl)|(apply Jd;exact rfl)|(apply Jg;exact rfl)|(apply Je;exact rfl))));intro B;apply JZ;apply Pr;exact rfl;exact rfl;apply b9;(focus (repeat(first|exact HV|(apply Jf;exact rfl)|(apply Jc;exact rfl)|(apply Jd;exact rfl)|(apply Jg;exact rfl)|(apply Je;exact rfl))));show(if(0:Nat)=0 then y [(1,.bx (DF (MU s V)))]else x 0 [(1,.bx (DF (MU s V)))]);rw[ae rfl,P];exact f O
  · apply RO;exact rfl;exact rfl
    apply Lk;(focus (repeat(first|exact HV|(apply Jf;exact rfl)|(apply Jc;exact rfl)|(apply Jd;exact rfl)|(apply Jg;exact rfl)|(apply Je;exact rfl))));intro B;apply JZ;apply Ps;exact rfl;exact rfl;apply W7;(focus (repeat(first|exact HV|(apply Jf;exact rfl)|(apply Jc;exact rfl)|(apply Jd;exact rfl)|(apply Jg;exact rfl)|(apply Je;exact rfl))));intro N;have C:p∈r:=o.mem_iff.2 (by simp);obtain⟨b,G,D⟩:=m1 p (J p C);obtain⟨R,S⟩:=aT G H;cases b with
    |true=>
      refine ⟨PC.pr _ _ _ _ (Vg t s V p n _ (R rfl)).out _ (fun e he=>?_) (fun _ _ h=>h.elim) (fun e he=>?_)⟩
      · obtain⟨T,w,E⟩:=he
        cases w;refine⟨(CT V p,some p,n),E.out,⟨(Vf V p).trans H,fun l z=>?_,fun q A=>J q (o.mem_iff.2 (by simp[A])),fun M=>?_⟩,?_⟩
        .exact I (p::l) (o.trans (z.cons p))
        · obtain⟨q,A,u⟩:=K M
          rcases List.mem_cons.1 (o.mem_iff.1 A)with rfl|F
          .rw[G]at u;cases u
          .exact⟨q,F,u⟩
        · have:=o.length_eq
          simp only[c8]at this;show n.length<r.length;omega
      · obtain⟨v,w,_⟩:=he
        cases w
    |false=>
      refine ⟨PC.pr _ _ _ _ (Vg t s V p n _ (S rfl)).out _ (fun e he=>?_) (fun _ _ h=>h.elim) (fun e he=>?_)⟩
      · obtain⟨T,w,_⟩:=he
        cases w
      · obtain⟨v,_,E⟩:=he
        rw [E.out];exact m (by cases c with|false=>rfl|true=>exact absurd (D rfl) (by simp)) V
instance AAF(t:AC)(s:Ar):Ct Go.Proofs.Tryz.prog (Io t s) 231 [AQ t,.undef] (fun r=>.bo (DF s) (if(!decide (r.1=0))=true then(DF r.2).set 33 ⟨false,.undef⟩else DF r.2) 1 [eI r.1]):=t8 rC rd fun r h u k=>by
  unfold Wo;unfold Io at h;obtain⟨a,p,h⟩:=bind_some h;have d:=(inferInstance:Ct Go.Proofs.Tryz.prog (HF s) 301 [ZM s] L7).snd a p;apply JZ;apply N5;apply dy;exact rfl;exact rfl;apply N2;exact rfl;apply Lk;(focus (repeat(first|exact HV|(apply Jf;exact rfl)|(apply Jc;exact rfl)|(apply Jd;exact rfl)|(apply Jg;exact rfl)|(apply Je;exact rfl))));intro l;apply JZ;apply N5
  first|(apply jK;exact rfl)|(apply dx;exact rfl)
  first|(apply jL;exact rfl)|(apply d8;exact rfl;exact rfl)
  apply Ww;exact rfl;exact rfl;exact rfl;by_cases he:a.2=0
  · have e:L7 a=.mpr a.1 [.int .i64 a.2]:=ae he
    rw [e]at d;rw[az (by simp[he])]at h;split at h
    · rename_i hd
      have hd:BD.Dis a.1:=(show List.Pairwise (fun x y:(Int×Int)×Int=>x.1≠y.1) a.1 from of_decide_eq_true hd);obtain⟨c,q,h⟩:=bind_some h;refine gX rfl d (fun b=>?_);apply eA;exact rfl;apply RO;exact rfl;exact rfl;apply RO;exact rfl;exact rfl;apply N2;exact rfl;apply N2;exact rfl;apply Lk;(focus (repeat(first|exact HV|(apply Jf;exact rfl)|(apply Jc;exact rfl)|(apply Jd;exact rfl)|(apply Jg;exact rfl)|(apply Je;exact rfl))));intro g;apply JZ;apply JZ;apply N5;apply N2;exact rfl;apply bR;exact rfl;exact rfl;apply Lk;(focus (repeat(first|exact HV|(apply Jf;exact rfl)|(apply Jc;exact rfl)|(apply Jd;exact rfl)|(apply Jg;exact rfl)|(apply Je;exact rfl))));intro i;apply Pr;exact rfl;simp[he];apply W7;(focus (repeat(first|exact HV|(apply Jf;exact rfl)|(apply Jc;exact rfl)|(apply Jd;exact rfl)|(apply Jg;exact rfl)|(apply Je;exact rfl))));intro j;apply JZ;apply JZ;apply N5;apply N2;exact rfl;apply jP;exact rfl;exact rfl;decide;apply Lk;(focus (repeat(first|exact HV|(apply Jf;exact rfl)|(apply Jc;exact rfl)|(apply Jd;exact rfl)|(apply Jg;exact rfl)|(apply Je;exact rfl))));intro m;apply ZC;refine cW hd q (fun f=>?_) (fun f V=>?_)
      · intro n
        apply JZ;apply N5;apply N2;exact rfl;apply Lk;(focus (repeat(first|exact HV|(apply Jf;exact rfl)|(apply Jc;exact rfl)|(apply Jd;exact rfl)|(apply Jg;exact rfl)|(apply Je;exact rfl))));intro o;apply aI;rw[ae f]at h;cases h;exact⟨_,Wk.refl _,rfl,rfl⟩
      · rw[az (by simp[f])]at h
        cases h;refine⟨_,?_,rfl,rfl⟩;exact Wk.set (DF (MU s V)) 33
    .cases h
  · have e:L7 a=.tp [.undef,.int .i64 a.2]:=az he
    rw [e]at d;rw[ae (by simp[he])]at h;refine gW rfl d ?_;apply d9;exact rfl;apply RO;exact rfl;exact rfl;apply RO;exact rfl;exact rfl;apply N2;exact rfl;apply N2;exact rfl;apply Lk;(focus (repeat(first|exact HV|(apply Jf;exact rfl)|(apply Jc;exact rfl)|(apply Jd;exact rfl)|(apply Jg;exact rfl)|(apply Je;exact rfl))));intro g;apply JZ;apply JZ;apply N5;apply N2;exact rfl;apply bR;exact rfl;exact rfl;apply Lk;(focus (repeat(first|exact HV|(apply Jf;exact rfl)|(apply Jc;exact rfl)|(apply Jd;exact rfl)|(apply Jg;exact rfl)|(apply Je;exact rfl))));intro i;apply Ps;exact rfl;simp[he];apply JZ;apply N5;apply N2;exact rfl;apply N2;exact rfl;apply Lk;(focus (repeat(first|exact HV|(apply Jf;exact rfl)|(apply Jc;exact rfl)|(apply Jd;exact rfl)|(apply Jg;exact rfl)|(apply Je;exact rfl))));intro j;apply aI;cases h;simp only[he,decide_false,Bool.not_false,if_true];exact⟨_,Wk.set (DF s) 33,rfl,rfl⟩
instance vZ(t:AC)(b:gp)(a:AG)(m:AL):Ct prog (Hm t b a m) 145 [AQ t,Bx b,Be a,BU m] (fun r=>.tp [Lw r.1,eI r.2]):=Fj f145 0x81e426440f3e37e40e468a6c31741f42380b6d5b1f4237e469d301523601529f024a244204f7ec7c2242f37c0d427c0b420b3174bd0ec36d2242c86d0d426d0b420b6d5bbd024a224204f75c0bf30e550bc83f12c90ff7650e65d537e40e4688f2e4694685308170030f426565a5104290b77fe46946853096e870b2360b42b27fe469d39607c970b2b2e3b77fe469d30e6565d5360111c9619d [.stq 38 [none,none,none,none,none,none,none,none,none,none,none,none,none,none,none,none,none,none,none,none,none,none,none,none,none,none,none,none,none,none,none,some ⟨true,.list 1 []⟩,some ⟨true,.list 3 []⟩,some ⟨true,.xn []⟩,none,none,none,none] (.s 15) (.s 82)] [.cell 8 (some 38),.tmp 9] (h:=fun r h c d=>by
  unfold Hm at h;exact nz)
instance c92(t:AC)(b:gp)(a:AG)(m:AL):Ct prog (Hl t b a m) 92 [AQ t,Bx b,Be a,BU m] (fun r=>.tp [Lw r.1,eI r.2]):=Fj f92 0x81e46b0e6565d57fe469d30e65d5360111c9619d [] [.cell 8 (some 38),.tmp 9] (h:=fun r h c d=>by
  unfold Hl at h;exact nz)
instance c51(t:AC)(a:List gp)(b:AG)(m:Bq):Ct prog (Cn t a b m) 51 [AQ t,(eL 25 Bx) a,Be b,DA m] (fun r=>.tp [Lw r.1,eI r.2]):=Fj f51 0x8013b81e46b0e65b765d5194355017fe40e468a6c01f1550111c9936130 [] [.cell 8 (some 38),.tmp 9] (h:=fun r h c d=>by
  unfold Cn at h;exact nz)
instance c27(t:AC)(a:List gp)(d:AO):Ct prog (DJ t a d) 27 [AQ t,(eL 25 Bx) a,B3 d] (fun r=>.tp [(eL 38 Lw) r.1,eI r.2.1,eI r.2.2]):=Fj f27 0x8c820bb40a0121201fe53107800b013b9102651f4226482647264402d026c03064e411c970b165bcbb8113c9b1b577eb21201fe53107d1f09110c9653226c0d026c0d2a6d026c07d6532bc3026406130 [] [.tmp 6,.tmp 7,.tmp 8] (h:=fun r h e f=>by
  unfold DJ at h;have:HA 0 33 32 0 fun(c:Int)(b:List Ar×AG)=>[(10,.ow ((eL 38 Lw) b.1)),(11,.bx [⟨false,lI b.2.d4.d3⟩,⟨false,lE b.2.d4.d5⟩,⟨false,(eL 1 lI) b.2.fq⟩]),(33,.tv (eI c))]:=⟨⟩;exact nz)
instance vN(n:Int):Ct prog (FM n) 133 [eI n] (fun r=>.own (lI r)):=Fj f133 0x8218310908788001fa301481013162090878819514993f3040c4 [.mkx 1 [.int .i64 0] (.s 5)] [.tmp 2] (h:=fun r h c d=>by
  unfold FM at h;have:HA 0 9 8 0 fun(a:Int)(b:Fp)=>[(3,.xo 1 (List.map eI b)),(9,.tv (eI a))]:=⟨⟩;exact nz)
instance c86(g:d4):Ct prog (D0 g) 86 [Am g] (fun r=>.tp [Ap r.1,eI r.2]):=Fj f86 0xa73b819604f7ec0ec33796e7d30e3601e8ee [] [.cell 2 (some 2),.tmp 3] (h:=fun r h a b=>by
  unfold D0 at h;exact nz)
instance c40(g:d4):Ct prog (Cw g) 40 [Am g] (fun r=>.sh (Ap r)):=Fj f40 0x96360196e87036e8ee [] [.cell 2 (some 2)] (h:=fun r h a b=>by
  unfold Cw at h;exact nz)
instance c41(l:Fp)(a:Fp):Ct prog (FI l a) 41 [lI l,lI a] (fun r=>.own (lI r)):=Fj f41 0x8218ba0ce50538800ce505380ce505383c01fa5f7214648117dc38eb0ce50538819594991a30406302 [] [.tmp 4] (h:=fun r h d e=>by
  unfold FI at h;have:HA 0 12 11 0 fun(b:Int)(c:Fp)=>[(5,.xo 1 (List.map eI c)),(12,.tv (eI b))]:=⟨⟩;exact nz)
instance c42(a:AG):Ct prog (Dz a) 42 [Be a] (fun r=>.sh (Be r)):=Fj f42 0x91655e02fe11f480ed9e01dd0ee69e825f5e0262fe11f4d19e035010c93f3f0ef30ec810c9ee [.Aav [.w 9,.w 13],.Aav [.g 14 0 2,.g 14 1 2,.z ⟨true,.list 1 []⟩]] [.cell 2 (some 3)] (h:=fun r h d e=>by
  unfold Dz at h;have:HA 0 19 18 0 fun(c:Int)(b:AG)=>[(3,.bx [⟨true,lI b.d4.d3⟩,⟨true,lE b.d4.d5⟩,⟨true,(eL 1 lI) b.fq⟩]),(19,.tv (eI c))]:=⟨⟩;exact nz)
instance c11(t:AC)(a:List gp)(d:AO):Ct prog (C8 t a d) 11 [AQ t,(eL 25 Bx) a,B3 d] (fun r=>.tp [Be r.1,Ap r.2.1,eI r.2.2]):=Fj f11 0xb9023b819691360e65c1b904252423c1b907800c013b969104f77c22425c0e6d224255651f42e411c926442643c1b90462252423c1b9078d819691e810c90ee3326532379691e74610d301821170b1bc01e810c96130 [] [.cell 6 (some 3),.cell 7 (some 2),.tmp 8] (h:=fun r h e f=>by
  unfold C8 at h;have:HA 0 37 36 0 fun(c:Int)(b:AG×d6)=>[(12,.bx [⟨false,lI b.1.d4.d3⟩,⟨false,lE b.1.d4.d5⟩,⟨false,(eL 1 lI) b.1.fq⟩]),(13,.bx [⟨false,lI b.2.d3⟩,⟨false,lI b.2.d5⟩]),(37,.tv (eI c))]:=⟨⟩;exact nz)
instance wy(t:AC)(p:d4)(g:d4)(a:Bool):Ct prog (KT t p g a) 220 [AQ t,Am p,Am g,eB a] (fun r=>.tp [(eL 2 Ap) r.1,eI r.2]):=Fj f220 0xf56b0e0111469f7f02c07d369fb440936131 [] [.tmp 8,.tmp 9] (h:=fun r h b c=>by
  unfold KT at h;exact nz)
instance vY(t:AC)(p:ec)(b:AG)(a:Bool):Ct prog (E3 t p b a) 144 [AQ t,A9 p,Be b,eB a] (fun r=>.tp [(eL 3 BU) r.1,eI r.2]):=Fj f144 0xf5020d012827260d060506802827260d0605062827260d0605063c02034803470946bc0264e036659096e83602430deb2827260d0605068d8103c03703c071e001b2b27f03c07d659036e740936131 [] [.tmp 8,.tmp 9] (h:=fun r h e f=>by
  unfold E3 at h;have:HA 0 40 39 0 fun(c:Int)(d:List AL)=>[(13,.ow ((eL 3 BU) d)),(40,.tv (eI c))]:=⟨⟩;exact nz)
instance c91(t:AC)(b:gp)(a:AG):Ct prog (F3 t b a) 91 [AQ t,Bx b,Be a] (fun r=>.tp [(eL 3 BU) r.1,eI r.2]):=Fj f91 0xf5020b012625240bcd07802625240bcd072625240bcd073c0203480347650264e41149706565d536910fc9cf430beb2625240bcd078d8103c03703c071e0030f426590b77f03c07d65d536e740939d [] [.tmp 6,.tmp 7] (h:=fun r h e f=>by
  unfold F3 at h;have:HA 0 38 37 0 fun(c:Int)(d:List AL)=>[(11,.ow ((eL 3 BU) d)),(38,.tv (eI c))]:=⟨⟩;exact nz)
instance c50(t:AC)(a:List gp)(b:AG):Ct prog (EA t a b) 50 [AQ t,(eL 25 Bx) a,Be b] (fun r=>.tp [(eL 4 DA) r.1,eI r.2]):=Fj f50 0xf502080111100f080503068011100f0805030622212011100f090805030a800204480447124665b4910fc9cf4311100f080503066222212011100f090805030a8dc604c071e065d536194b810cc9d5197e08eb11100f080503068d8104c0e6406130 [] [.tmp 6,.tmp 7] (h:=fun r h g i=>by
  unfold EA at h;have:HA 0 17 16 0 fun(d:Int)(e:List Bq)=>[(8,.ow ((eL 4 DA) e)),(17,.tv (eI d))]:=⟨⟩;have:HA 2 34 33 0 fun(c:Int)(f:List Bq)=>[(8,.ow ((eL 4 DA) f)),(34,.tv (eI c))]:=⟨⟩;exact nz)
instance c17(t:AC)(b:List gp)(d:AG)(a:Fp):Ct prog (E4 t b d a) 17 [AQ t,(eL 25 Bx) b,Be d,lI a] (fun r=>.tp [B3 r.1,eI r.2]):=Fj f17 0x81bbb10b08022423220b0806040108801106023b91edf003591f5a04480447045804f037bb0113468501123d01e411c970b165bcbb13c9b1b505383872ff0b0802640bf2bb0113d3e065bc815f0b0802622423220b08060401088d81045014c93f0e6537bb1346d2f2bb0113d30e65bc0114c9bf933102 [.Abx (.s 2),.Aav [.v (.s 32) 0 3,.v (.s 32) 1 3,.v (.s 32) 2 3,.z ⟨true,.list 4 []⟩]] [.cell 8 (some 4),.tmp 9] (h:=fun r h f g=>by
  unfold E4 at h;have:HA 0 36 35 0 fun(e:Int)(c:AG×AO×AO)=>[(6,.bx [⟨false,lI c.1.d4.d3⟩,⟨false,lE c.1.d4.d5⟩,⟨false,(eL 1 lI) c.1.fq⟩]),(8,.bx [⟨true,lI c.2.1.kp.d4.d3⟩,⟨true,lE c.2.1.kp.d4.d5⟩,⟨true,(eL 1 lI) c.2.1.kp.fq⟩,⟨true,(eL 4 DA) c.2.1.j4⟩]),(11,.bx [⟨false,lI c.2.2.kp.d4.d3⟩,⟨false,lE c.2.2.kp.d4.d5⟩,⟨false,(eL 1 lI) c.2.2.kp.fq⟩,⟨true,(eL 4 DA) c.2.2.j4⟩]),(36,.tv (eI e))]:=⟨⟩;exact nz)
instance vM(n:Int)(a:Int):Ct prog (GM n a) 130 [eI n,.pt [eI a]] (fun r=>.sh (eB r)):=Fj f130 0xa1aa0531ea [] [.tmp 3] (h:=fun r h b c=>by
  unfold GM at h;exact nz)
instance c81(l:Fp)(a:Int):Ct prog (Ci l a) 81 [lI l,eI a] (fun r=>.sh (eB r)):=Fj f81 0x810e103093c4 [] [.tmp 4] (h:=fun r h b c=>by
  unfold Ci at h;exact nz)
instance c84(l:Fp):Ct prog (Dd l) 84 [lI l] (fun r=>.sh (eS r)):=Fj f84 0x813f0131b6030480b603043c01063f0e30b603043c01063f0e0930645f3162b603048d81bf3fc4 [.mv (.c (.str ⟨#[]⟩)),.mv (.c (.str ⟨#[40]⟩)),.bin (.s) .add (.c (.str ⟨#[32,45,32]⟩)) (.s 17),.bin (.s) .add (.c (.str ⟨#[32]⟩)) (.s 22),.bin (.s) .add (.s 26) (.c (.str ⟨#[32,41]⟩))] [.tmp 2] (h:=fun r h d e=>by
  unfold Dd at h;have:HA 0 8 7 0 fun(a:Int)(b:ByteArray)=>[(3,.tv (eS b)),(8,.tv (eI a))]:=⟨⟩;exact nz)
instance i37(d:AO):Ct Go.Proofs.Tryz.prog (IB d) 37 [B3 d] (fun r=>.tp [eS r.1,eI r.2]):=⟨Xc (fun l low b h=>(inferInstance:Ct _ (Ci l low) _ _ fun r=>.sh (eB r)).snd b h) (fun i s h=>(inferInstance:Ct _ (strconv_Itoa i) _ _ fun r=>.sh (eS r)).snd s h) (fun l s h=>(inferInstance:Ct _ (Dd l) _ _ fun r=>.sh (eS r)).snd s h) d⟩
instance c58(m:AL):Ct prog (FJ m) 58 [BU m] (fun r=>.sh (BU r)):=Fj f58 0xa73b9109f77604f7f30ec80fc9ee [] [.cell 2 (some 3)] (h:=fun r h a b=>by
  unfold FJ at h;exact nz)
instance c57(d:AO):Ct prog (De d) 57 [B3 d] (fun r=>.oag [⟨false,lI r.kp.d4.d3⟩,⟨false,lE r.kp.d4.d5⟩,⟨false,(eL 1 lI) r.kp.fq⟩,⟨true,(eL 4 DA) r.j4⟩]):=Fj f57 0x45004535e02c10bf480edf00448044712f70359015a03005a04f0053dbb13c9b1b55e0262c10bf4d1f0045014c93f0e653214c9ee [.Aav [.v (.s 8) 0 3,.v (.s 8) 1 3,.v (.s 8) 2 3,.z ⟨true,.list 4 []⟩]] [.cell 2 (some 4)] (h:=fun r h c e=>by
  unfold De at h;have:HA 0 13 12 0 fun(b:Int)(a:AO)=>[(3,.bx [⟨false,lI a.kp.d4.d3⟩,⟨false,lE a.kp.d4.d5⟩,⟨false,(eL 1 lI) a.kp.fq⟩,⟨true,(eL 4 DA) a.j4⟩]),(13,.tv (eI b))]:=⟨⟩;exact nz)
instance c23(t:AC)(a:List gp)(d:AO)(m:Bq):Ct prog (GG t a d m) 23 [AQ t,(eL 25 Bx) a,B3 d,DA m] (fun r=>.tp [B3 r.1,eI r.2]):=Fj f23 0x81bbb1edf00448044712f70359015a03005a04f0045014c91bb137bb0113d3e4114970b165bcff37bb1346816ca681bb011346a95d9691084910c91170b1bc0114c9936130 [] [.cell 8 (some 4),.tmp 9] (h:=fun r h b c=>by
  unfold GG at h;exact nz)
end Go.Sf.Sc
