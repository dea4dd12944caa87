/- Contracts of the functions. -/
import Derived.Test.YtbgedoajacpdbaaGreatDoorCon0
import Derived.Test.YtbgedoajacpdbaaGreatDoorTryzShelf
import Derived.Test.YtbgedoajacpdbaaGreatDoorFo
set_option linter.all false
set_option maxRecDepth 100000
set_option maxHeartbeats 4000000
namespace Go.Sf.Sc
open Go Go.Sf Go.Proofs.Tryz
instance c36:Ct prog (Ny ) 36 [] (fun r=>.oag [⟨true,lN r.d3⟩,⟨true,lX r.d5⟩]):=Fj f36 0x2503f07473f3f04473f3f04473f3f3f3f04473f15c900 [.bld [.str ⟨#[]⟩,.int .i64 0,.int .i64 0,.list 1 []] [(0,1,.c (.str ⟨#[98,97,108,97,110,99,101]⟩)),(1,1,.c (.int .i64 (-1000))),(2,1,.c (.int .i64 1000))],.bld [.str ⟨#[]⟩,.int .i64 0,.bool false,.list 4 []] [(0,1,.c (.str ⟨#[65,99,99,111,117,110,116]⟩)),(1,1,.c (.int .i64 (-1))),(2,1,.c (.bool true)),(3,1,.s 2)],.bld [.str ⟨#[]⟩,.int .i64 0,.bool false,.list 4 []] [(0,1,.c (.str ⟨#[67,97,115,104]⟩)),(1,1,.c (.int .i64 0))],.lst 1 [.c (.str ⟨#[111,112,101,110]⟩),.c (.str ⟨#[99,108,111,115,101,100]⟩)],.bld [.str ⟨#[]⟩,.int .i64 0,.int .i64 0,.list 1 []] [(0,1,.c (.str ⟨#[115,116,97,116,101]⟩)),(2,1,.c (.int .i64 1)),(3,1,.s 5)],.bld [.str ⟨#[]⟩,.int .i64 0,.bool false,.list 4 []] [(0,1,.c (.str ⟨#[76,111,97,110]⟩)),(1,1,.c (.int .i64 0)),(3,1,.s 7)],.bld [.str ⟨#[]⟩,.int .i64 0,.bool false,.list 4 []] [(0,1,.c (.str ⟨#[80,101,114,115,111,110]⟩)),(1,1,.c (.int .i64 (-1)))],.bld [.str ⟨#[]⟩,.int .i64 0,.int .i64 0,.int .i64 0,.int .i64 0,.int .i64 0,.int .i64 0] [(0,1,.c (.str ⟨#[111,119,110,115]⟩)),(1,1,.c (.int .i64 3)),(2,1,.c (.int .i64 0)),(4,1,.c (.int .i64 (-1))),(5,1,.c (.int .i64 1)),(6,1,.c (.int .i64 1))],.bld [.str ⟨#[]⟩,.int .i64 0,.int .i64 0,.int .i64 0,.int .i64 0,.int .i64 0,.int .i64 0] [(0,1,.c (.str ⟨#[112,97,121,115]⟩)),(1,1,.c (.int .i64 1)),(2,1,.c (.int .i64 1)),(4,1,.c (.int .i64 (-1))),(6,1,.c (.int .i64 (-1)))],.Aav [.w 10,.w 13]] [.cell 0 (some 2)] (h:=fun r h a b=>by
  unfold Ny at h;exact nz)
instance c67(g:d4):Ct prog (Hd g) 67 [Am g] (fun r=>.sh (eB r)):=Fj f67 0xa1db38c3f9 [] [.tmp 2] (h:=fun r h a b=>by
  unfold Hd at h;exact nz)
instance c30(a:AG):Ct prog (GZ a) 30 [Be a] (fun r=>.sh (eB r)):=Fj f30 0x9b3102add2a276007576013102fb6c760197b2f9 [] [.tmp 2] (h:=fun r h c d=>by
  unfold GZ at h;have:HA 0 3 1 2 fun(b:Int)(_:Unit)=>[(3,.tv (eI b))]:=⟨⟩;exact nz)
abbrev Q_155(n:Nat):Prop:=∀(t:AC)(a:Int),Ct prog (Fg n t a) 155 [AQ t,eI a] (fun r=>.own (lA r))
theorem qK(n:Nat)(_ih_155:Q_155 n)(t:AC)(a:Int):Ct prog (Fg (n+1) t a) 155 [AQ t,eI a] (fun r=>.own (lA r)):=Fj f155 0x8204487841d75504480e7cd755360447ff04c085e6409330 [] [.tmp 4] (h:=fun r h b c=>by
  unfold Fg at h;exact nz)
theorem qJ:∀n:Nat,Q_155 n:=by
  intro n
  induction n with
  |zero=>exact(fun t a=>⟨fun _ h=>by cases h⟩)
  |succ n b=>exact qK n b
instance ve(t:AC)(a:Int):Ct prog (NC t a) 155 [AQ t,eI a] (fun r=>.own (lA r)):=⟨fun r h=>by
  obtain ⟨N,b⟩:=Co h;exact((qJ N) t a).snd r (b N (bk _))⟩
instance vf(n:Int)(b:Int)(a:Int):Ct prog (DN n b a) 156 [eI n,eI b,eI a] (fun r=>.sh (eB r)):=Fj f156 0xa105f872026303 [] [.tmp 6] (h:=fun r h c d=>by
  unfold DN at h;exact nz)
instance zF(t:EK):Ct prog (OF t) 363 [UC t] (fun r=>.sh (eS r)):=Fj f363 0x815c373f3f5c85553fee [.mv (.c (.str ⟨#[]⟩)),.bin (.s) .add (.c (.str ⟨#[34]⟩)) (.s 7),.bin (.s) .add (.s 8) (.c (.str ⟨#[34]⟩))] [.tmp 2] (h:=fun r h a b=>by
  unfold OF at h;exact nz)
instance zg(c:Int):Ct prog (Jw c) 403 [UD c] (fun r=>.sh (eB r)):=Fj f403 0xa10aaaaa0aaaaac4 [] [.tmp 2] (h:=fun r h a b=>by
  unfold Jw at h;exact nz)
instance zh(c:Int):Ct prog (Hz c) 404 [UD c] (fun r=>.sh (eB r)):=Fj f404 0xa1aaaac4 [] [.tmp 2] (h:=fun r h a b=>by
  unfold Hz at h;exact nz)
instance zi(b:ByteArray)(c:Int)(a:Bool):Ct prog (Ni b c a) 405 [eS b,eI c,eB a] (fun r=>.sh (eI r)):=Fj f405 0x8101076e0702d66001076e8a0a0a0a0512aa300e12aa3008300e12aa30050c38300702d681b46303 [] [.tmp 6] (h:=fun r h e f=>by
  unfold Ni at h;have:HW 0 fun(d:Int)=>[(7,.tv (eI d))]:=⟨⟩;exact nz)
instance zj(a:ByteArray)(b:Int):Ct prog (Jx a b) 406 [eS a,eI b] (fun r=>.sh (eI r)):=Fj f406 0x9bd96f92aaba37057112057200620c3830d981ea [] [.tmp 4] (h:=fun r h d e=>by
  unfold Jx at h;have:HW 0 fun(c:Int)=>[(5,.tv (eI c))]:=⟨⟩;exact nz)
instance zk:Ct prog (NB ) 407 [] (fun r=>.own (lB r)):=Fj f407 0x823ffc00 [.lst 1 [.c (.str ⟨#[45,62]⟩),.c (.str ⟨#[60,61]⟩),.c (.str ⟨#[62,61]⟩),.c (.str ⟨#[61,61]⟩),.c (.str ⟨#[33,61]⟩),.c (.str ⟨#[123]⟩),.c (.str ⟨#[125]⟩),.c (.str ⟨#[40]⟩),.c (.str ⟨#[41]⟩),.c (.str ⟨#[91]⟩),.c (.str ⟨#[93]⟩),.c (.str ⟨#[44]⟩),.c (.str ⟨#[59]⟩),.c (.str ⟨#[58]⟩),.c (.str ⟨#[61]⟩),.c (.str ⟨#[43]⟩),.c (.str ⟨#[45]⟩),.c (.str ⟨#[42]⟩),.c (.str ⟨#[60]⟩),.c (.str ⟨#[62]⟩),.c (.str ⟨#[33]⟩),.c (.str ⟨#[38]⟩),.c (.str ⟨#[124]⟩),.c (.str ⟨#[46]⟩),.c (.str ⟨#[63]⟩)]] [.tmp 0] (h:=fun r h a b=>by
  unfold NB at h;exact nz)
instance zH(a:ByteArray)(c:Int):Ct prog (Nh a c) 364 [eS a,eI c] (fun r=>.tp [UC r.1,eI r.2.1,eI r.2.2]):=Fj f364 0x8c9117460401c10463056fff04013b8c910cb80046b88a06b80d050cb83030050c380c5f720401cbc1046305f50ed09163460d05aaaad091174685bad09117d30e308501d09163460d057230d09117468530ca08046306ca080463063c308e5d8c0e0e728a0e300e5d12303016c96302 [] [.cell 4 (some 3),.tmp 5,.tmp 6] (h:=fun r h f g=>by
  unfold Nh at h;have:HJ 29 fun(d:Int×Int)=>[(9,.tv (eI d.1)),(10,.tv (eI d.2))]:=⟨⟩;have:HA 0 13 12 0 fun(e:Int)(b:EK)=>[(4,.bx [⟨false,eI b.og⟩,⟨false,eS b.AbV⟩,⟨false,eI b.Line⟩]),(13,.tv (eI e))]:=⟨⟩;exact nz)
instance yO(t:EK):Ct prog (NA t) 302 [UC t] (fun r=>.sh (eB r)):=Fj f302 0xa105d477050cf85d819116c91170f2bf5d0e65f9 [.bin (.s) .eql (.s 9) (.c (.str ⟨#[]⟩))] [.tmp 2] (h:=fun r h a b=>by
  unfold NA at h;exact nz)
instance xC(a:ByteArray):Ct prog (Ey a) 232 [eS a] (fun r=>.sh (eB r)):=Fj f232 0x810e004630c4 [] [.tmp 2] (h:=fun r h b c=>by
  unfold Ey at h;exact nz)
instance yd(l:List ByteArray):Ct prog (Kn l) 321 [lB l] (fun r=>.sh (eI r)):=Fj f321 0x9b039a6f039a04030003ad86b8b8039a623004030003c6b3b800cb039ac6d230c4 [] [.tmp 2] (h:=fun r h c d=>by
  unfold Kn at h;have:HA 0 3 0 0 fun(b:Int)(_:Unit)=>[(3,.tv (eI b))]:=⟨⟩;have:HA 2 4 3 0 fun(a:Int)(_:Unit)=>[(4,.tv (eI a))]:=⟨⟩;exact nz)
instance xT(a:mo):Ct prog (Hc a) 255 [GN a] (fun r=>.sh (eI r)):=Fj f255 0xfb056ca676385cd8a63792975c7601975cd2a6f9 [] [.tmp 2] (h:=fun r h b c=>by
  unfold Hc at h;exact nz)
instance wD(t:AC)(a:Int):Ct prog (MG t a) 175 [AQ t,eI a] (fun r=>.sh (eI r)):=Fj f175 0x9b7302ad7db1fd7302097303ad866dfd6dfd73026230097303c6b36dfd00cb7302816ca60b01926c306ca6820e017fb3ba5c05a7030605a704ad86556dd75505a70362300605a704c6b355bb00c9b1d755e1 [] [.tmp 4] (h:=fun r h e f=>by
  unfold MG at h;have:HA 0 6 1 0 fun(d:Int)(_:Unit)=>[(6,.tv (eI d))]:=⟨⟩;have:HA 2 8 7 0 fun(c:Int)(_:Unit)=>[(8,.tv (eI c))]:=⟨⟩;have:HA 4 9 8 0 fun(b:Int)(_:Unit)=>[(9,.tv (eI b))]:=⟨⟩;exact nz)
instance xU(b:Int)(a:Int):Ct prog (JN b a) 256 [eI b,eI a] (fun r=>.sh (eB r)):=Fj f256 0xa10a0e72aa0ede [] [.tmp 4] (h:=fun r h c d=>by
  unfold JN at h;exact nz)
instance wE(t:AC)(a:Int):Ct prog (MF t a) 176 [AQ t,eI a] (fun r=>.sh (eI r)):=Fj f176 0xfb9703bd030542779703bea6779701760197015c816c550502020605a704ad86556d07cc05020262300605a704c6b355074b01c9074407cce1 [] [.tmp 4] (h:=fun r h c d=>by
  unfold MF at h;have:HA 0 6 1 0 fun(b:Int)(_:Unit)=>[(6,.tv (eI b))]:=⟨⟩;exact nz)
instance u9(t:AC):Ct prog (Ek t) 112 [AQ t] (fun r=>.tp [eS r.1,eI r.2]):=Fj f112 0x81bf0006b4ad81016d07cc640ebc00755c0106b4813004b4ad81016dd755640ebc307555e6b4c6bf8adb38c337bf85c3013fee [.mv (.c (.str ⟨#[]⟩)),.mv (.c (.str ⟨#[]⟩)),.mv (.c (.str ⟨#[]⟩)),.mv (.c (.str ⟨#[]⟩))] [.tmp 2,.tmp 3] (h:=fun r h d e=>by
  unfold Ek at h;have:HA 0 4 1 0 fun(b:Int)(_:Unit)=>[(4,.tv (eI b))]:=⟨⟩;have:HA 2 6 1 1 fun(a:Int)(_:Unit)=>[(6,.tv (eI a))]:=⟨⟩;exact nz)
instance vd(t:AC)(a:Int)(b:Int):Ct prog (JO t a b) 154 [AQ t,eI a,eI b] (fun r=>.sh (eI r)):=Fj f154 0xfb976c5530976c55f271f63684a702 [] [.tmp 6] (h:=fun r h c d=>by
  unfold JO at h;exact nz)
abbrev Q_157(n:Nat):Prop:=∀(t:AC)(a:Int)(b:Int),Ct prog (E8 n t a b) 157 [AQ t,eI a,eI b] (fun r=>.sh (eB r))
theorem qM(n:Nat)(_ih_157:Q_157 n)(t:AC)(a:Int)(b:Int):Ct prog (E8 (n+1) t a b) 157 [AQ t,eI a,eI b] (fun r=>.sh (eB r)):=Fj f157 0xa10a0e017cd755363830057293a702 [] [.tmp 6] (h:=fun r h c d=>by
  unfold E8 at h;exact nz)
theorem qL:∀n:Nat,Q_157 n:=by
  intro n
  induction n with
  |zero=>exact(fun t a b=>⟨fun _ h=>by cases h⟩)
  |succ n c=>exact qM n c
instance vg(t:AC)(a:Int)(b:Int):Ct prog (Gq t a b) 157 [AQ t,eI a,eI b] (fun r=>.sh (eB r)):=⟨fun r h=>by
  obtain ⟨N,c⟩:=Co h;exact((qL N) t a b).snd r (c N (bk _))⟩
instance uv(t:AC)(b:Int)(a:Int)(c:Int):Ct prog (KJ t b a c) 104 [AQ t,eI b,eI a,eI c] (fun r=>.sh (eB r)):=Fj f104 0xa10e5e4107ccbc697c07cc017f8a97db30050e3036845ee7 [] [.tmp 8] (h:=fun r h d e=>by
  unfold KJ at h;exact nz)
instance wF(n:Int):Ct prog (KK n) 177 [eI n] (fun r=>.sh (eB r)):=Fj f177 0xa1aaaac4 [] [.tmp 2] (h:=fun r h a b=>by
  unfold KK at h;exact nz)
instance wG(e:Bl)(a:Int):Ct prog (ND e a) 178 [Bs e,eI a] (fun r=>.sh (eB r)):=Fj f178 0xa1ba7677057677ba5c77055c6955e1 [] [.tmp 4] (h:=fun r h b c=>by
  unfold ND at h;exact nz)
instance vA(g:d4):Ct prog (Dm g) 113 [Am g] (fun r=>.sh (eI r)):=Fj f113 0x9b04b4adb3c3cfcc00755ce6b481303102adb3a255307555013102fbdb38c3f9 [] [.tmp 2] (h:=fun r h c d=>by
  unfold Dm at h;have:HA 0 3 1 0 fun(b:Int)(_:Unit)=>[(3,.tv (eI b))]:=⟨⟩;have:HA 2 4 1 1 fun(a:Int)(_:Unit)=>[(4,.tv (eI a))]:=⟨⟩;exact nz)
instance uu(t:AC)(a:Int):Ct prog (FX t a) 103 [AQ t,eI a] (fun r=>.tp [lA r.1,eI r.2]):=Fj f103 0xf50207010973036f0204480447b1a74af00148a6acbb02c9b1fd0701cb097303f50ebc04c03704c07d3036e6409330 [] [.tmp 4,.tmp 5] (h:=fun r h d e=>by
  unfold FX at h;have:HA 0 9 8 0 fun(b:Int)(c:List mo)=>[(7,.ow (lA c)),(9,.tv (eI b))]:=⟨⟩;exact nz)
instance vB(t:AC)(a:Int)(b:Fp):Ct prog (MJ t a b) 114 [AQ t,eI a,lI b] (fun r=>.sh (eI r)):=Fj f114 0x9b090702036f92055e41fd5ff87cfdb800cb09070203c6d2010b30e0017f830241d7553785c33093a702 [] [.tmp 6] (h:=fun r h d e=>by
  unfold MJ at h;have:HA 0 9 7 0 fun(c:Int)(_:Unit)=>[(9,.tv (eI c))]:=⟨⟩;exact nz)
instance c71(t:AC)(a:AG):Ct prog (Ga t a) 71 [AQ t,Be a] (fun r=>.tp [eI r.1,eI r.2]):=Fj f71 0x8c000b5e03ad8101b35f76c85f5cc8557f8101d25c5591e9cf7ef30075f3010b5e03815e02095e03ad8130640ea276a2c8365e0275c801095e03c681d2c80b76d07db2d071f636309d [] [.tmp 4,.tmp 5] (h:=fun r h d e=>by
  unfold Ga at h;have:HA 0 9 3 0 fun(c:Int)(_:Unit)=>[(9,.tv (eI c))]:=⟨⟩;have:HA 2 11 3 1 fun(b:Int)(_:Unit)=>[(11,.tv (eI b))]:=⟨⟩;exact nz)
instance yP(t:AC)(g:d4):Ct prog (Gb t g) 303 [AQ t,Am g] (fun r=>.sh (eB r)):=Fj f303 0x9b065e036f92db6d03cc386d03cc00755c01065e03815e02055e036f926c55a2f1a2555e0275f15e0381019d [] [.tmp 4] (h:=fun r h c d=>by
  unfold Gb at h;have:HA 0 5 3 0 fun(b:Int)(_:Unit)=>[(5,.tv (eI b))]:=⟨⟩;have:HA 2 6 3 1 fun(a:Int)(_:Unit)=>[(6,.tv (eI a))]:=⟨⟩;exact nz)
instance yQ(t:AC)(p:ec)(b:Int)(a:Int):Ct prog (MK t p b a) 304 [AQ t,A9 p,eI b,eI a] (fun r=>.tp [GN r.1,eB r.2]):=Fj f304 0x81bbb1fd37bb01468a6c720aaa055de0a2c87fbb01468a6cc830aa02c9615e02 [] [.cell 8 (some 4),.tmp 9] (h:=fun r h c d=>by
  unfold MK at h;exact nz)
instance yR(n:Int):Ct prog (LA n) 305 [eI n] (fun r=>.sh (eB r)):=Fj f305 0xa1aaaac4 [] [.tmp 2] (h:=fun r h a b=>by
  unfold LA at h;exact nz)
instance zl(n:Int)(t:kg):Ct prog (IT n t) 408 [eI n,OA t] (fun r=>.sh (eI r)):=Fj f408 0xfb055c77055c77baf15584c4 [] [.tmp 4] (h:=fun r h a b=>by
  unfold IT at h;exact nz)
instance zI(n:Int)(a:Test):Ct prog (Nj n a) 365 [eI n,GP a] (fun r=>.sh (eI r)):=Fj f365 0x810e36f001d836b7019205f15584c4 [] [.tmp 4] (h:=fun r h b c=>by
  unfold Nj at h;exact nz)
instance yS(n:Int)(l:List Test):Ct prog (Km n l) 306 [eI n,lT l] (fun r=>.sh (eI r)):=Fj f306 0x9bd9ad7d9005437200cbd9c6d20192aa05de [] [.tmp 4] (h:=fun r h b c=>by
  unfold Km at h;have:HA 0 5 1 0 fun(a:Int)(_:Unit)=>[(5,.tv (eI a))]:=⟨⟩;exact nz)
instance yT(p:ec)(a:Int):Ct prog (J2 p a) 307 [A9 p,eI a] (fun r=>.sh (eB r)):=Fj f307 0x9b05a703ad85016d0241d77600757638a70381e1 [] [.tmp 4] (h:=fun r h c d=>by
  unfold J2 at h;have:HA 0 5 2 2 fun(b:Int)(_:Unit)=>[(5,.tv (eI b))]:=⟨⟩;exact nz)
instance xD(t:AC)(p:ec):Ct prog (Gc t p) 233 [AQ t,A9 p] (fun r=>.sh (eI r)):=Fj f233 0x9b0d5eadb338440062a6010d5ec67d03bea631085e036f92977c9e7705a66d9e77056d9e01085dbb0249705c559036bb05c9b1d77631757601085e03fb6c03be380b769205a638a637b3b2efb23771f636019d [] [.tmp 4] (h:=fun r h c d=>by
  unfold Gc at h;have:HA 0 8 3 2 fun(b:Int)(_:Unit)=>[(8,.tv (eI b))]:=⟨⟩;have:HA 2 13 3 3 fun(a:Int)(_:Unit)=>[(13,.tv (eI a))]:=⟨⟩;exact nz)
instance zr(c:d7):Ct prog (Gt c) 412 [AK c] (fun r=>.sh (eB r)):=Fj f412 0xa1057841be77056c030441be0b5e41be30a96c3174be6c6d5bbe6c7c9e0b6d9ef9 [] [.tmp 2] (h:=fun r h a b=>by
  unfold Gt at h;exact nz)
instance zN(c:d7):Ct prog (Kx c) 369 [AK c] (fun r=>.sh (eB r)):=Fj f369 0x81ff37dba9a10ea538ec1904e7601904e7a9a10ea538eca9a10ea538eca98332f9 [] [.tmp 2] (h:=fun r h b d=>by
  unfold Kx at h;have:HJ 25 fun(a:Bool)=>[(25,.tv (eB a))]:=⟨⟩;exact nz)
abbrev Q_315(n:Nat):Prop:=∀(c:d7),Ct prog (D6 n c) 315 [AK c] (fun r=>.sh (eB r))
theorem qj(n:Nat)(_ih_315:Q_315 n)(c:d7):Ct prog (D6 (n+1) c) 315 [AK c] (fun r=>.sh (eB r)):=Fj f315 0x9b3102adb3a509cc00755c013102c6b3a5f9 [] [.tmp 2] (h:=fun r h b d=>by
  unfold D6 at h;have:HA 0 3 1 1 fun(a:Int)(_:Unit)=>[(3,.tv (eI a))]:=⟨⟩;exact nz)
theorem qh:∀n:Nat,Q_315 n:=by
  intro n
  induction n with
  |zero=>exact(fun c=>⟨fun _ h=>by cases h⟩)
  |succ n a=>exact qj n a
instance ya(c:d7):Ct prog (Mw c) 315 [AK c] (fun r=>.sh (eB r)):=⟨fun r h=>by
  obtain ⟨N,a⟩:=Co h;exact((qh N) c).snd r (a N (bk _))⟩
abbrev Q_316(n:Nat):Prop:=∀(c:d7),Ct prog (Ef n c) 316 [AK c] (fun r=>.tp [eI r.1,eI r.2])
theorem ql(n:Nat)(_ih_316:Q_316 n)(c:d7):Ct prog (Ef (n+1) c) 316 [AK c] (fun r=>.tp [eI r.1,eI r.2]):=Fj f316 0x8c306a026a02600185556ae7066ae66f302c30aa8c70a509cc6ae7755c01066ae6818c30ee [] [.tmp 2,.tmp 3] (h:=fun r h e f=>by
  unfold Ef at h;have:HA 0 6 1 1 fun(d:Int)(a:Int×Int)=>[(4,.tv (eI a.1)),(5,.tv (eI a.2)),(6,.tv (eI d))]:=⟨⟩;have:HJ 33 fun(b:Int)=>[(5,.tv (eI b))]:=⟨⟩;exact nz)
theorem qk:∀n:Nat,Q_316 n:=by
  intro n
  induction n with
  |zero=>exact(fun c=>⟨fun _ h=>by cases h⟩)
  |succ n a=>exact ql n a
instance yb(c:d7):Ct prog (N0 c) 316 [AK c] (fun r=>.tp [eI r.1,eI r.2]):=⟨fun r h=>by
  obtain ⟨N,a⟩:=Co h;exact((qk N) c).snd r (a N (bk _))⟩
instance xM(c:d7):Ct prog (Kv c) 246 [AK c] (fun r=>.sh (eI r)):=Fj f246 0xfbaa055d8170a537b3a5f9 [] [.tmp 2] (h:=fun r h a b=>by
  unfold Kv at h;exact nz)
instance wH(a:d4)(b:d4)(m:d6):Ct prog (GY a b m) 179 [Am a,Am b,Ap m] (fun r=>.sh (eI r)):=Fj f179 0x9b0acd046f9205765f76f15c5f5c553785d49191e9e9cf43a25c5ccfcc92dba25c38a25c00755c77cd04816a7809cd04ad85a2555fa2d4926c55a2f1a2556a7875550109cd04fbdbec38c3c3d8ef36849d [] [.tmp 6] (h:=fun r h e f=>by
  unfold GY at h;have:HA 0 9 3 0 fun(d:Int)(_:Unit)=>[(9,.tv (eI d))]:=⟨⟩;have:HA 2 10 3 1 fun(c:Int)(_:Unit)=>[(10,.tv (eI c))]:=⟨⟩;exact nz)
instance wI(l:Fp):Ct prog (Ee l) 180 [lI l] (fun r=>.sh (eB r)):=Fj f180 0x9b039a6f039a04030003ad85b8b8039a6230040300039bcb039a816301 [] [.tmp 2] (h:=fun r h c d=>by
  unfold Ee at h;have:HA 0 3 0 0 fun(b:Int)(_:Unit)=>[(3,.tv (eI b))]:=⟨⟩;have:HA 2 4 3 0 fun(a:Int)(_:Unit)=>[(4,.tv (eI a))]:=⟨⟩;exact nz)
instance vC(a:d4)(b:d4)(m:d6):Ct prog (He a b m) 115 [Am a,Am b,Ap m] (fun r=>.sh (eB r)):=Fj f115 0xa10e5c770ef10e369f849d [] [.tmp 6] (h:=fun r h c d=>by
  unfold He at h;exact nz)
instance zO(p:ec)(a:Int):Ct prog (ML p a) 370 [A9 p,eI a] (fun r=>.sh (eB r)):=Fj f370 0x9b05a703ad85016d0241d77600757638a70381e1 [] [.tmp 4] (h:=fun r h c d=>by
  unfold ML at h;have:HA 0 5 2 2 fun(b:Int)(_:Unit)=>[(5,.tv (eI b))]:=⟨⟩;exact nz)
instance yc(t:AC)(a:Int)(q:ec):Ct prog (Kw t a q) 317 [AQ t,eI a,A9 q] (fun r=>.sh (eI r)):=Fj f317 0x9b730503ad01b338440062a6017305038101d8907f8501a6016130 [] [.tmp 6] (h:=fun r h c d=>by
  unfold Kw at h;have:HA 0 8 5 3 fun(b:Int)(_:Unit)=>[(8,.tv (eI b))]:=⟨⟩;exact nz)
abbrev Q_247(n:Nat):Prop:=∀(t:AC)(p:ec)(c:d7),Ct prog (El n t p c) 247 [AQ t,A9 p,AK c] (fun r=>.sh (eI r))
theorem qY(n:Nat)(_ih_247:Q_247 n)(t:AC)(p:ec)(c:d7):Ct prog (El (n+1) t p c) 247 [AQ t,A9 p,AK c] (fun r=>.sh (eI r)):=Fj f247 0x9b0a07050304ad7da509cc903600755c7707050304810705780705783cc590be37b3369ee3beb2d8369ee3beb2d890bea6368555c509c990849d [] [.tmp 6] (h:=fun r h b d=>by
  unfold El at h;have:HA 0 10 5 1 fun(a:Int)(_:Unit)=>[(10,.tv (eI a))]:=⟨⟩;exact nz)
theorem qX:∀n:Nat,Q_247 n:=by
  intro n
  induction n with
  |zero=>exact(fun t p c=>⟨fun _ h=>by cases h⟩)
  |succ n a=>exact qY n a
instance xN(t:AC)(p:ec)(c:d7):Ct prog (Uq t p c) 247 [AQ t,A9 p,AK c] (fun r=>.sh (eI r)):=⟨fun r h=>by
  obtain ⟨N,a⟩:=Co h;exact((qX N) t p c).snd r (a N (bk _))⟩
instance vn(t:AC)(p:ec)(c:d7):Ct prog (JP t p c) 161 [AQ t,A9 p,AK c] (fun r=>.sh (eI r)):=Fj f161 0x810ea590efa5d89036849d [] [.tmp 6] (h:=fun r h a b=>by
  unfold JP at h;exact nz)
instance yU(t:AC)(p:ec)(a:Int):Ct prog (MM t p a) 308 [AQ t,A9 p,eI a] (fun r=>.sh (eI r)):=Fj f308 0x9b0a070402046f92055c7cd77638556dd7760062300a07040204fb057c9e77057c9e7705a66d9e77056d9e776c015c385c01e05f55c87f8a6cc8f155bb05c9b1d7760161a7 [] [.tmp 6] (h:=fun r h c d=>by
  unfold MM at h;have:HA 0 10 2 0 fun(b:Int)(_:Unit)=>[(10,.tv (eI b))]:=⟨⟩;exact nz)
instance xE(t:AC)(a:gp):Ct prog (Ky t a) 234 [AQ t,Bx a] (fun r=>.sh (eI r)):=Fj f234 0x9b065e03ad7d3844bd3600755e41bd01065e03c6d25e41bd926c030441bd387841b77841bd37b3e3bdefe3bd019d [] [.tmp 4] (h:=fun r h c d=>by
  unfold Ky at h;have:HA 0 6 3 8 fun(b:Int)(_:Unit)=>[(6,.tv (eI b))]:=⟨⟩;exact nz)
instance yY(l:Fp)(n:Int):Ct prog (F2 l n) 313 [lI l,eI n] (fun r=>.sh (eI r)):=Fj f313 0x9bd96f92055faa5f72ba92ba5ff8b800cbd981ea [] [.tmp 4] (h:=fun r h b c=>by
  unfold F2 at h;have:HA 0 5 0 0 fun(a:Int)(_:Unit)=>[(5,.tv (eI a))]:=⟨⟩;exact nz)
instance yZ(l:Fp)(n:Int):Ct prog (Nk l n) 314 [lI l,eI n] (fun r=>.sh (eB r)):=Fj f314 0x9bd9ad8501b800cbd981ea [] [.tmp 4] (h:=fun r h b c=>by
  unfold Nk at h;have:HA 0 5 0 0 fun(a:Int)(_:Unit)=>[(5,.tv (eI a))]:=⟨⟩;exact nz)
instance xK(g:d4)(p:BB):Ct prog (NE g p) 244 [Am g,GO p] (fun r=>.sh (eI r)):=Fj f244 0x9b075e036f9297765501975c5591e9cf43a25c5c00755c01075e03c67dec5cd8c355019d [] [.tmp 4] (h:=fun r h b c=>by
  unfold NE at h;have:HA 0 7 3 1 fun(a:Int)(_:Unit)=>[(7,.tv (eI a))]:=⟨⟩;exact nz)
instance vb(g:d4)(p:BB):Ct prog (H0 g p) 151 [Am g,GO p] (fun r=>.sh (eI r)):=Fj f151 0x810e36ef36019d [] [.tmp 4] (h:=fun r h a b=>by
  unfold H0 at h;exact nz)
instance vc(l:Fp)(n:Int):Ct prog (H1 l n) 152 [lI l,eI n] (fun r=>.sh (eI r)):=Fj f152 0x9bd9ad018501b800cbd981ea [] [.tmp 4] (h:=fun r h b c=>by
  unfold H1 at h;have:HA 0 5 0 0 fun(a:Int)(_:Unit)=>[(5,.tv (eI a))]:=⟨⟩;exact nz)
instance c97(g:d4)(p:BB):Ct prog (HC g p) 97 [Am g,GO p] (fun r=>.tp [Am r.1,Ap r.2.1,eI r.2.2]):=Fj f97 0x6a023b819696044601485cac014855ac3608cd040a086a5e066fedb70348034707f776550e5cd404b791e9cf43a25c5c08cd04755c77086a5e0681086af409086a5e066fed3201dd5fa2d40432086af475550109086a5e068107c9379696e74602d30e9f01e807c99d [] [.cell 4 (some 2),.cell 5 (some 2),.tmp 6] (h:=fun r h e f=>by
  unfold HC at h;have:HA 0 9 3 0 fun(d:Int)(a:d4)=>[(8,.bx [⟨true,lI a.d3⟩,⟨true,lE a.d5⟩]),(9,.tv (eI d))]:=⟨⟩;have:HA 2 10 3 1 fun(c:Int)(b:d4)=>[(8,.bx [⟨true,lI b.d3⟩,⟨true,lE b.d5⟩]),(10,.tv (eI c))]:=⟨⟩;exact nz)
instance xF(a:gp):Ct prog (MN a) 235 [Bx a] (fun r=>.sh (eI r)):=Fj f235 0x810e360d42e3bd36019696084907c91170360b42e3b7d8360b42e3b7f9 [] [.tmp 2] (h:=fun r h b c=>by
  unfold MN at h;exact nz)
instance zJ(l:Fp)(n:Int):Ct prog (PO l n) 366 [lI l,eI n] (fun r=>.sh (eB r)):=Fj f366 0x9bd9ad8501b800cbd981ea [] [.tmp 4] (h:=fun r h b c=>by
  unfold PO at h;have:HA 0 5 0 0 fun(a:Int)(_:Unit)=>[(5,.tv (eI a))]:=⟨⟩;exact nz)
instance yV(n:Int)(l:Fp):Ct prog (KN n l) 309 [eI n,lI l] (fun r=>.own (lI r)):=Fj f309 0x8202bae26fe2e23ca7ddb4b330ba6230e281dafc6302 [] [.tmp 4] (h:=fun r h c d=>by
  unfold KN at h;have:HA 0 6 0 0 fun(a:Int)(b:Fp)=>[(5,.ow (lI b)),(6,.tv (eI a))]:=⟨⟩;exact nz)
instance xG(a:gp):Ct prog (JC a) 236 [Bx a] (fun r=>.tp [lI r.1,lI r.2]):=Fj f236 0x82820e7c0d420b3174bd0e6d0d420b6d5bbdfcfcee [] [.tmp 2,.tmp 3] (h:=fun r h b c=>by
  unfold JC at h;exact nz)
instance xH(t:AC)(g:d4)(b:Fp)(a:Fp):Ct prog (J4 t g b a) 237 [AQ t,Am g,lI b,lI a] (fun r=>.sh (eB r)):=Fj f237 0x9b0acd04adb35f76555f5cd43691e9cf43b85c00cb0acd04816a78096af4ad830241b55fb8d46a78cb096af48101615e02 [] [.tmp 8] (h:=fun r h e f=>by
  unfold J4 at h;have:HA 0 9 2 0 fun(d:Int)(_:Unit)=>[(9,.tv (eI d))]:=⟨⟩;have:HA 2 10 3 0 fun(c:Int)(_:Unit)=>[(10,.tv (eI c))]:=⟨⟩;exact nz)
instance va(t:AC)(a:gp):Ct prog (JQ t a) 146 [AQ t,Bx a] (fun r=>.sh (eI r)):=Fj f146 0x810ea5104290b77fb330e3bd3682e0d592977c0d4201976d0d42d8d5d8d5ef90b77fb3553771f636019d [] [.tmp 4] (h:=fun r h b c=>by
  unfold JQ at h;exact nz)
instance c93(t:AC)(a:List gp):Ct prog (K4 t a) 93 [AQ t,(eL 25 Bx) a] (fun r=>.sh (eI r)):=Fj f93 0x9b07a703ad7dd51943303600cb07a703c6d2f271f636e1 [] [.tmp 4] (h:=fun r h c d=>by
  unfold K4 at h;have:HA 0 7 1 0 fun(b:Int)(_:Unit)=>[(7,.tv (eI b))]:=⟨⟩;exact nz)
instance c53(t:AC)(a:List gp)(b:AG):Ct prog (JT t a b) 53 [AQ t,(eL 25 Bx) a,Be b] (fun r=>.sh (eI r)):=Fj f53 0x815df665efbc016130 [] [.tmp 6] (h:=fun r h c d=>by
  unfold JT at h;exact nz)
instance c63(t:AC):Ct prog (Jy t) 63 [AQ t] (fun r=>.sh (eB r)):=Fj f63 0x9b08b4ad850c6d07cc00755c0108b481300431036f0431036a31046f6a3104b96a3106ad850ca2a66a310475a601b96a3106fb6ca6380c55bb02c9b1d77841d755043103757841d7f1043104fb050c6dd7f1306c7841d755727555e631038c92db38c3f9 [] [.tmp 2] (h:=fun r h f g=>by
  unfold Jy at h;have:HA 0 4 1 0 fun(a:Int)(b:Int)=>[(3,.tv (eI b)),(4,.tv (eI a))]:=⟨⟩;have:HW 2 fun(d:Int)=>[(5,.tv (eI d))]:=⟨⟩;have:HW 4 fun(c:Int)=>[(7,.tv (eI c))]:=⟨⟩;have:HA 6 8 1 1 fun(e:Int)(_:Unit)=>[(8,.tv (eI e))]:=⟨⟩;exact nz)
instance c31(m:d6)(n:Int):Ct prog (Jz m n) 31 [Ap m,eI n] (fun r=>.sh (eB r)):=Fj f31 0xa938ecc3e1 [] [.tmp 4] (h:=fun r h a b=>by
  unfold Jz at h;exact nz)
instance vh(p:ec):Ct prog (Ij p) 158 [A9 p] (fun r=>.sh (eB r)):=Fj f158 0xa16c03be776c7669b2f9 [] [.tmp 2] (h:=fun r h a b=>by
  unfold Ij at h;exact nz)
instance vj(p:BB)(n:Int):Ct prog (PN p n) 159 [GO p,eI n] (fun r=>.sh (eB r)):=Fj f159 0xa938ecc3e1 [] [.tmp 4] (h:=fun r h a b=>by
  unfold PN at h;exact nz)
abbrev Q_245(n:Nat):Prop:=∀(c:d7)(a:Int),Ct prog (CZ n c a) 245 [AK c,eI a] (fun r=>.sh (eI r))
theorem qW(n:Nat)(_ih_245:Q_245 n)(c:d7)(a:Int):Ct prog (CZ (n+1) c a) 245 [AK c,eI a] (fun r=>.sh (eI r)):=Fj f245 0x81f8a7036f6901a509cc30ff8aaadb38a703fb97369e019790be38309330 [] [.tmp 4] (h:=fun r h d e=>by
  unfold CZ at h;have:HW 0 fun(b:Int×Int)=>[(1,.tv (eI b.1)),(5,.tv (eI b.2))]:=⟨⟩;exact nz)
theorem qV:∀n:Nat,Q_245 n:=by
  intro n
  induction n with
  |zero=>exact(fun c tl=>⟨fun _ h=>by cases h⟩)
  |succ n a=>exact qW n a
instance xL(c:d7)(a:Int):Ct prog (OH c a) 245 [AK c,eI a] (fun r=>.sh (eI r)):=⟨fun r h=>by
  obtain ⟨N,b⟩:=Co h;exact((qV N) c a).snd r (b N (bk _))⟩
instance vk(c:d7):Ct prog (Ik c) 160 [AK c] (fun r=>.sh (eB r)):=Fj f160 0xa90ea5f9 [] [.tmp 2] (h:=fun r h a b=>by
  unfold Ik at h;exact nz)
instance uw(a:gp):Ct prog (Nn a) 105 [Bx a] (fun r=>.sh (eB r)):=Fj f105 0xa10ea51042770e360d42770e360b42770e90bd770e90b7380c55f9 [] [.tmp 2] (h:=fun r h b c=>by
  unfold Nn at h;exact nz)
instance xV(t:AC)(p:d4)(g:d4):Ct prog (H3 t p g) 257 [AQ t,Am p,Am g] (fun r=>.sh (eI r)):=Fj f257 0xfb979f019736efef7f71f636849d [] [.tmp 6] (h:=fun r h a b=>by
  unfold H3 at h;exact nz)
instance xO(t:AC)(p:d4)(g:d4):Ct prog (Ko t p g) 248 [AQ t,Am p,Am g] (fun r=>.sh (eB r)):=Fj f248 0xa10a0adb776cf1dbc3380e369f770e36770e366936849d [] [.tmp 6] (h:=fun r h a b=>by
  unfold Ko at h;exact nz)
instance vo(t:AC)(p:ec)(a:AG):Ct prog (NG t p a) 162 [AQ t,A9 p,Be a] (fun r=>.sh (eB r)):=Fj f162 0xa10eb2b236770e656990849d [] [.tmp 6] (h:=fun r h b c=>by
  unfold NG at h;exact nz)
abbrev Q_163(n:Nat):Prop:=∀(c:d7),Ct prog (E9 n c) 163 [AK c] (fun r=>.sh (eB r))
theorem qO(n:Nat)(_ih_163:Q_163 n)(c:d7):Ct prog (E9 (n+1) c) 163 [AK c] (fun r=>.sh (eB r)):=Fj f163 0xa96c3174be0b6d5bbe303102adb3a509cc30755c01310281f9 [] [.tmp 2] (h:=fun r h b d=>by
  unfold E9 at h;have:HA 0 3 1 1 fun(a:Int)(_:Unit)=>[(3,.tv (eI a))]:=⟨⟩;exact nz)
theorem qN:∀n:Nat,Q_163 n:=by
  intro n
  induction n with
  |zero=>exact(fun c=>⟨fun _ h=>by cases h⟩)
  |succ n a=>exact qO n a
instance vp(c:d7):Ct prog (Oq c) 163 [AK c] (fun r=>.sh (eB r)):=⟨fun r h=>by
  obtain ⟨N,a⟩:=Co h;exact((qN N) c).snd r (a N (bk _))⟩
abbrev Q_164(n:Nat):Prop:=∀(p:ec)(c:d7)(b:Int)(a:Int),Ct prog (Dt n p c b a) 164 [A9 p,AK c,eI b,eI a] (fun r=>.sh (eB r))
theorem qQ(n:Nat)(_ih_164:Q_164 n)(p:ec)(c:d7)(b:Int)(a:Int):Ct prog (Dt (n+1) p c b a) 164 [A9 p,AK c,eI b,eI a] (fun r=>.sh (eB r)):=Fj f164 0xa977010dca055e06adb330a509cc900a01755c010dca055e06a10905f40cca055e066f3830ca05f475f3010cca055e06810bf3ca6a5e060bca6a5e076f3830ca6a5e0675c8010bca6a5e07810bc881096af4096af43cc590be8555c509c99001615e02 [] [.tmp 8] (h:=fun r h i j=>by
  unfold Dt at h;have:HJ 17 fun(d:ec)=>[(9,.bx [⟨false,lI d.d4.d3⟩,⟨false,lE d.d4.d5⟩,⟨false,lS d.ff⟩,⟨false,eI d.hV⟩,⟨false,lT d.sc⟩])]:=⟨⟩;have:HW 0 fun(e:Int×Int)=>[(10,.tv (eI e.1)),(11,.tv (eI e.2))]:=⟨⟩;have:HW 2 fun(f:Int×Int)=>[(10,.tv (eI f.1)),(12,.tv (eI f.2))]:=⟨⟩;have:HA 4 13 5 1 fun(g:Int)(_:Unit)=>[(13,.tv (eI g))]:=⟨⟩;exact nz)
theorem qP:∀n:Nat,Q_164 n:=by
  intro n
  induction n with
  |zero=>exact(fun p c ei em=>⟨fun _ h=>by cases h⟩)
  |succ n a=>exact qQ n a
instance vq(p:ec)(c:d7)(b:Int)(a:Int):Ct prog (Nz p c b a) 164 [A9 p,AK c,eI b,eI a] (fun r=>.sh (eB r)):=⟨fun r h=>by
  obtain ⟨N,d⟩:=Co h;exact((qP N) p c b a).snd r (d N (bk _))⟩
instance ux(t:AC)(p:ec)(c:d7)(a:AG):Ct prog (Ku t p c a) 106 [AQ t,A9 p,AK c,Be a] (fun r=>.sh (eB r)):=Fj f106 0xa10a0ea590776cf3776cc8770ea569659036380ea5907f8a97657797900197a501619d [] [.tmp 8] (h:=fun r h b d=>by
  unfold Ku at h;exact nz)
instance c64(t:AC)(b:gp)(a:AG):Ct prog (JR t b a) 64 [AQ t,Bx b,Be a] (fun r=>.sh (eB r)):=Fj f64 0xa10e65a5104290b736770ed56936849d [] [.tmp 6] (h:=fun r h c d=>by
  unfold JR at h;exact nz)
abbrev Q_65(n:Nat):Prop:=∀(p:ec)(c:d7)(a:Int),Ct prog (C2 n p c a) 65 [A9 p,AK c,eI a] (fun r=>.sh (eB r))
theorem uK(n:Nat)(_ih_65:Q_65 n)(p:ec)(c:d7)(a:Int):Ct prog (C2 (n+1) p c a) 65 [A9 p,AK c,eI a] (fun r=>.sh (eB r)):=Fj f65 0xa9b47707040204adb301a509cc90026e8aaadb7707040204810704020309070402046f380107040203ff8aaa6cf3010907040204810bf307045e047304f46f380107045e04ff8aaa6cc8017304f4810bc807045e0407045e043cc590be8555c509c9900161a7 [] [.tmp 6] (h:=fun r h g i=>by
  unfold C2 at h;have:HJ 14 fun(b:ec)=>[(7,.bx [⟨false,lI b.d4.d3⟩,⟨false,lE b.d4.d5⟩,⟨false,lS b.ff⟩,⟨false,eI b.hV⟩,⟨false,lT b.sc⟩])]:=⟨⟩;have:HW 0 fun(d:Int×Int)=>[(2,.tv (eI d.1)),(8,.tv (eI d.2))]:=⟨⟩;have:HW 2 fun(e:Int×Int)=>[(2,.tv (eI e.1)),(9,.tv (eI e.2))]:=⟨⟩;have:HW 4 fun(f:Int)=>[(10,.tv (eI f))]:=⟨⟩;exact nz)
theorem uJ:∀n:Nat,Q_65 n:=by
  intro n
  induction n with
  |zero=>exact(fun p c a=>⟨fun _ h=>by cases h⟩)
  |succ n b=>exact uK n b
instance c65(p:ec)(c:d7)(a:Int):Ct prog (LC p c a) 65 [A9 p,AK c,eI a] (fun r=>.sh (eB r)):=⟨fun r h=>by
  obtain ⟨N,b⟩:=Co h;exact((uJ N) p c a).snd r (b N (bk _))⟩
instance c26(t:AC)(a:List gp)(b:AG):Ct prog (K3 t a b) 26 [AQ t,(eL 25 Bx) a,Be b] (fun r=>.sh (eB r)):=Fj f26 0xa10a6cf3776cc8f80e65bc07053104730531056f770ea510411943309001411943720a6c6d5b06411943720a6c317401411943720a6c6d5b01411943303037b365d51943303607053104cb730531058c929765779736776c300a6c306c306130 [] [.tmp 6] (h:=fun r h e f=>by
  unfold K3 at h;have:HA 0 8 1 0 fun(c:Int)(d:Bool)=>[(7,.tv (eB d)),(8,.tv (eI c))]:=⟨⟩;exact nz)
instance c22(m:AL)(n:Int):Ct prog (FP m n) 22 [BU m,eI n] (fun r=>.sh (eB r)):=Fj f22 0xa1ba0b766901b2e1 [] [.tmp 4] (h:=fun r h a b=>by
  unfold FP at h;exact nz)
instance c39(d:AO)(a:Int):Ct prog (Np d a) 39 [B3 d,eI a] (fun r=>.sh (eB r)):=Fj f39 0x9b050202adb3650141d7a60075a6380202fbba0ba601976532e1 [] [.tmp 4] (h:=fun r h c e=>by
  unfold Np at h;have:HA 0 5 2 3 fun(b:Int)(_:Unit)=>[(5,.tv (eI b))]:=⟨⟩;exact nz)
instance c52(g:d4):Ct prog (IU g) 52 [Am g] (fun r=>.oag [⟨true,lI r.d3⟩,⟨true,lE r.d5⟩]):=Fj f52 0xa73b02503f03485c0347014855ac07c9ee [.Aav [.w 6,.w 10]] [.cell 2 (some 2)] (h:=fun r h a b=>by
  unfold IU at h;exact nz)
instance c18(a:AG):Ct prog (Gr a) 18 [Be a] (fun r=>.oag [⟨true,lI r.d4.d3⟩,⟨true,lE r.d4.d5⟩,⟨true,.xn (List.map lI r.fq)⟩]):=Fj f18 0x35003535e02045ee66f1f9e2122014fa2760156239e5e027576e65ee681035017c93f1bb217c9ee [.Aav [.g 7 0 2,.g 7 1 2,.z ⟨true,.xn []⟩]] [.cell 2 (some 3)] (h:=fun r h d e=>by
  unfold Gr at h;have:HA 0 4 1 2 fun(c:Int)(b:AG)=>[(3,.bx [⟨true,lI b.d4.d3⟩,⟨true,lE b.d4.d5⟩,⟨true,.xn (List.map lI b.fq)⟩]),(4,.tv (eI c))]:=⟨⟩;exact nz)
instance c43(m:AL):Ct prog (H5 m) 43 [BU m] (fun r=>.sh (BU r)):=Fj f43 0xa73b910946014876ac04460148f3ac0148c8ac0fc9ee [] [.cell 2 (some 3)] (h:=fun r h a b=>by
  unfold H5 at h;exact nz)
instance c13(d:AO):Ct prog (Ib d) 13 [B3 d] (fun r=>.oag [⟨true,lI r.kp.d4.d3⟩,⟨true,lE r.kp.d4.d5⟩,⟨true,.xn (List.map lI r.kp.fq)⟩,⟨true,(eL 4 DA) r.j4⟩]):=Fj f13 0x45004535e02045ee66fedf00448044712f70359015ad7a66dd7a604f05e0275a6e65ee681045014c93f1b653214c9ee [.Aav [.g 7 0 3,.g 7 1 3,.g 7 2 3,.z ⟨true,.list 4 []⟩]] [.cell 2 (some 4)] (h:=fun r h c e=>by
  unfold Ib at h;have:HA 0 4 1 3 fun(b:Int)(a:AO)=>[(3,.bx [⟨true,lI a.kp.d4.d3⟩,⟨true,lE a.kp.d4.d5⟩,⟨true,.xn (List.map lI a.kp.fq)⟩,⟨true,(eL 4 DA) a.j4⟩]),(4,.tv (eI b))]:=⟨⟩;exact nz)
instance c88(a:Fp)(b:Fp):Ct prog (IV a b) 88 [lI a,lI b] (fun r=>.sh (eB r)):=Fj f88 0x9bd9ad85b8b800cbd9c6d2010bde [] [.tmp 4] (h:=fun r h d e=>by
  unfold IV at h;have:HA 0 5 0 0 fun(c:Int)(_:Unit)=>[(5,.tv (eI c))]:=⟨⟩;exact nz)
instance c46(a:d4)(b:d4):Ct prog (MH a b) 46 [Am a,Am b] (fun r=>.sh (eB r)):=Fj f46 0x9b055e03adbfcfcccfcc00755c385e03fbdbec0197d4019d [.bin (.a [0,0,0]) .neq (.s 32) (.s 37)] [.tmp 4] (h:=fun r h d e=>by
  unfold MH at h;have:HA 0 5 2 1 fun(c:Int)(_:Unit)=>[(5,.tv (eI c))]:=⟨⟩;exact nz)
instance c47(a:Fp)(b:Fp):Ct prog (JB a b) 47 [lI a,lI b] (fun r=>.sh (eI r)):=Fj f47 0x816c010bead9ad05b8b885b85fdeff8a6c726c30d981ea [] [.tmp 4] (h:=fun r h d e=>by
  unfold JB at h;have:HW 0 fun(c:Int)=>[(5,.tv (eI c))]:=⟨⟩;exact nz)
instance c15(a:AG)(b:AG):Ct prog (MI a b) 15 [Be a,Be b] (fun r=>.sh (eB r)):=Fj f15 0x9b055e03ad850ea276a276007576385e03fb6c760b760197b2b2019d [] [.tmp 4] (h:=fun r h d e=>by
  unfold MI at h;have:HA 0 5 2 2 fun(c:Int)(_:Unit)=>[(5,.tv (eI c))]:=⟨⟩;exact nz)
instance c48(a:Fp)(b:Fp):Ct prog (Gi a b) 48 [lI a,lI b] (fun r=>.sh (eB r)):=Fj f48 0x9bd9ad85b8b800cbd9c6d2010bde [] [.tmp 4] (h:=fun r h d e=>by
  unfold Gi at h;have:HA 0 5 0 0 fun(c:Int)(_:Unit)=>[(5,.tv (eI c))]:=⟨⟩;exact nz)
instance c16(a:d6)(b:d6):Ct prog (OG a b) 16 [Ap a,Ap b] (fun r=>.sh (eB r)):=Fj f16 0xa10e5c5c69d4019d [] [.tmp 4] (h:=fun r h c d=>by
  unfold OG at h;exact nz)
instance c56(a:List Bq)(b:List Bq):Ct prog (Hf a b) 56 [(eL 4 DA) a,(eL 4 DA) b] (fun r=>.sh (eB r)):=Fj f56 0x9bd96f92975e410141fd5e410141b5720a97e30141fde30141b5f86dfd6dfd00cbd9c6d2010bde [] [.tmp 4] (h:=fun r h d e=>by
  unfold Hf at h;have:HA 0 5 0 0 fun(c:Int)(_:Unit)=>[(5,.tv (eI c))]:=⟨⟩;exact nz)
instance c21(a:AO)(b:AO):Ct prog (MO a b) 21 [B3 a,B3 b] (fun r=>.sh (eB r)):=Fj f21 0xa10ea6a66965326532019d [] [.tmp 4] (h:=fun r h c d=>by
  unfold MO at h;exact nz)
instance c66(n:Int):Ct prog (IS n) 66 [eI n] (fun r=>.own (lI r)):=Fj f66 0x820231040300036fa7ddb43162300403000381dafcc4 [] [.tmp 2] (h:=fun r h c d=>by
  unfold IS at h;have:HA 0 4 0 0 fun(a:Int)(b:Fp)=>[(3,.ow (lI b)),(4,.tv (eI a))]:=⟨⟩;exact nz)
instance c28(g:d4):Ct prog (On g) 28 [Am g] (fun r=>.oag [⟨true,lI r.d3⟩,⟨true,lI r.d5⟩]):=Fj f28 0xa73b02503f0eec0ec3e8ee [.Aav [.w 6,.w 10]] [.cell 2 (some 2)] (h:=fun r h a b=>by
  unfold On at h;exact nz)
instance vD(t:AC)(b:gp)(a:AG):Ct prog (NI t b a) 118 [AQ t,Bx b,Be a] (fun r=>.sh (eI r)):=Fj f118 0x815df665efd536849d [] [.tmp 6] (h:=fun r h c d=>by
  unfold NI at h;exact nz)
instance ye(l:Fp):Ct prog (IY l) 322 [lI l] (fun r=>.sh (eB r)):=Fj f322 0x9b039a6f039a04030003ad85b8b8039a6230040300039bcb039a816301 [] [.tmp 2] (h:=fun r h c d=>by
  unfold IY at h;have:HA 0 3 0 0 fun(b:Int)(_:Unit)=>[(3,.tv (eI b))]:=⟨⟩;have:HA 2 4 3 0 fun(a:Int)(_:Unit)=>[(4,.tv (eI a))]:=⟨⟩;exact nz)
instance xW(t:AC)(p:d4)(g:d4)(m:d6)(a:Bool):Ct prog (Kq t p g m a) 258 [AQ t,Am p,Am g,Ap m,eB a] (fun r=>.sh (eI r)):=Fj f258 0xfb0a975c019755300804020cb604056f9205765f76f15c5f5c553785d49191e9e9cf43a25c5ccfcc92dba25c38a25c080402755c010cb6040581b604040bb66a06adb3a2555fa2d47f8a6c55a2f1a255b604047555010bb66a06fbdbec38c3c30161610401 [] [.tmp 10] (h:=fun r h d e=>by
  unfold Kq at h;have:HA 0 11 8 0 fun(c:Int)(_:Unit)=>[(11,.tv (eI c))]:=⟨⟩;have:HA 2 12 8 1 fun(b:Int)(_:Unit)=>[(12,.tv (eI b))]:=⟨⟩;exact nz)
instance wJ(t:AC)(p:d4)(g:d4)(m:d6)(a:Bool):Ct prog (H2 t p g m a) 182 [AQ t,Am p,Am g,Ap m,eB a] (fun r=>.sh (eI r)):=Fj f182 0x810ebc9fef369f0161610401 [] [.tmp 10] (h:=fun r h b c=>by
  unfold H2 at h;exact nz)
instance xI(t:AC)(p:ec)(a:AG):Ct prog (Ks t p a) 238 [AQ t,A9 p,Be a] (fun r=>.sh (eI r)):=Fj f238 0x815df665ef9036849d [] [.tmp 6] (h:=fun r h b c=>by
  unfold Ks at h;exact nz)
instance xd(a:kg)(b:Fp):Ct prog (H4 a b) 265 [OA a,lI b] (fun r=>.sh (eI r)):=Fj f265 0xa95c5f55f25c8555e1 [] [.tmp 4] (h:=fun r h c d=>by
  unfold H4 at h;exact nz)
instance zL(t:kg)(a:Fp):Ct prog (JM t a) 368 [OA t,lI a] (fun r=>.tp [eI r.1,eB r.2]):=Fj f368 0x8c055c5f5501d08a6c01f155d05c8555309330 [] [.tmp 4,.tmp 5] (h:=fun r h b c=>by
  unfold JM at h;exact nz)
instance yX(a:Test)(b:Fp):Ct prog (Kl a b) 312 [GP a,lI b] (fun r=>.sh (eB r)):=Fj f312 0xa10a05f8557705f855920830085d8170bcf08c70bcb7e1 [] [.tmp 4] (h:=fun r h c d=>by
  unfold Kl at h;exact nz)
instance xJ(p:ec)(a:AG)(m:d6):Ct prog (J1 p a m) 240 [A9 p,Be a,Ap m] (fun r=>.tp [lI r.1,eI r.2]):=Fj f240 0xf51808690878adda88201490057e03be08017503be69087881085eca08cd06adda85012014369e0c0bca08cd080c0bca08cd083c01fa057c9e301401fa01148a0817dc0114385d6d9e815f5c5f5fd476bb05c9b1d776085e7576770908cd0681993fa6993fa63040939d [.mkx 1 [.int .i64 0] (.s 16),.mkx 1 [.bool false] (.s 19)] [.tmp 6,.tmp 7] (h:=fun r h e f=>by
  unfold J1 at h;have:HA 0 10 3 2 fun(d:Int)(b:Fp×a6)=>[(8,.xo 1 (List.map eI b.1)),(9,.xo 1 (List.map eB b.2)),(10,.tv (eI d))]:=⟨⟩;have:HA 2 14 3 4 fun(c:Int)(_:Unit)=>[(14,.tv (eI c))]:=⟨⟩;exact nz)
instance wK(t:AC)(p:ec)(a:AG)(m:d6):Ct prog (Kr t p a m) 183 [AQ t,A9 p,Be a,Ap m] (fun r=>.tp [lI r.1,eI r.2]):=Fj f183 0xf56b0e36659037da7d9f32b27fda7d6590363040619d [] [.tmp 8,.tmp 9] (h:=fun r h b c=>by
  unfold Kr at h;exact nz)
instance wL(t:AC)(p:d4)(g:d4)(m:d6):Ct prog (IX t p g m) 184 [AQ t,Am p,Am g,Ap m] (fun r=>.tp [Am r.1,eI r.2]):=Fj f184 0x8196360b3e0b08020c0bb6056f01fa5fa2d4011d320b080262151d32010c0bb60581025018c9277f96b4d30e9f9f0107c9619d [] [.cell 8 (some 2),.tmp 9] (h:=fun r h b c=>by
  unfold IX at h;have:HW 0 fun(a:d4×Int)=>[(11,.bx [⟨true,.xl 1 (List.map eI a.1.d3)⟩,⟨true,.xl 3 (List.map Bs a.1.d5)⟩]),(12,.tv (eI a.2))]:=⟨⟩;exact nz)
instance xX(l:d4)(g:d4)(a:BB)(m:d6):Ct prog (NF l g a m) 259 [Am l,Am g,GO a,Ap m] (fun r=>.sh (eI r)):=Fj f259 0x810e36ef369f01619d [] [.tmp 8] (h:=fun r h b c=>by
  unfold NF at h;exact nz)
instance yf(l:Fp)(n:Int):Ct prog (Dg l n) 323 [lI l,eI n] (fun r=>.sh (eB r)):=Fj f323 0x9bd9ad8501b800cbd981ea [] [.tmp 4] (h:=fun r h b c=>by
  unfold Dg at h;have:HA 0 5 0 0 fun(a:Int)(_:Unit)=>[(5,.tv (eI a))]:=⟨⟩;exact nz)
instance xY(a:Fp)(b:Fp):Ct prog (FO a b) 260 [lI a,lI b] (fun r=>.own ((eL 2 O7) r)):=Fj f260 0x8202bae26fe2b989056fb98905b989053c0202480247054630028a0a977297f8b8b8e2cbb98905a93801cbe28102c002406302 [] [.tmp 4] (h:=fun r h g i=>by
  unfold FO at h;have:HA 0 6 0 0 fun(d:Int)(e:List F5)=>[(5,.ow ((eL 2 O7) e)),(6,.tv (eI d))]:=⟨⟩;have:HA 2 7 0 0 fun(c:Int)(f:List F5)=>[(5,.ow ((eL 2 O7) f)),(7,.tv (eI c))]:=⟨⟩;exact nz)
instance xb(a:Fp)(b:Fp):Ct prog (I1 a b) 263 [lI a,lI b] (fun r=>.own (lI r)):=Fj f263 0x8202bae26fe2e23ca7ddb802b330bacbe281dafc6302 [] [.tmp 4] (h:=fun r h e f=>by
  unfold I1 at h;have:HA 0 6 0 0 fun(c:Int)(d:Fp)=>[(5,.ow (lI d)),(6,.tv (eI c))]:=⟨⟩;exact nz)
instance xZ(l:d4)(g:d4)(a:BB)(m:d6):Ct prog (IW l g a m) 261 [Am l,Am g,GO a,Ap m] (fun r=>.own (lI r)):=Fj f261 0x820209010bca0705056f0bca07056cca0705053ca7ddb48a0a0e5e4103cc300e7c03cc3097015c0901755c010bca070505f50ed4dafc93611300 [] [.tmp 8] (h:=fun r h d e=>by
  unfold IW at h;have:HA 0 11 5 1 fun(b:Int)(c:Fp)=>[(9,.ow (lI c)),(11,.tv (eI b))]:=⟨⟩;exact nz)
instance xa(n:Int)(l:Fp):Ct prog (KM n l) 262 [eI n,lI l] (fun r=>.own (lI r)):=Fj f262 0x8202bae26fe2e23ca7ddb4b330ba6230e281dafc6302 [] [.tmp 4] (h:=fun r h c d=>by
  unfold KM at h;have:HA 0 6 0 0 fun(a:Int)(b:Fp)=>[(5,.ow (lI b)),(6,.tv (eI a))]:=⟨⟩;exact nz)
instance wM(l:d4)(g:d4)(a:BB)(m:d6):Ct prog (Oo l g a m) 185 [Am l,Am g,GO a,Ap m] (fun r=>.tp [GO r.1,eI r.2]):=Fj f185 0x8013b819604f70e5c5cec0e0ed4c337960346d20e369f7f960346856c0e5c5c0b0ed43796e7d30e9f9f01e8619d [] [.cell 8 (some 2),.tmp 9] (h:=fun r h b c=>by
  unfold Oo at h;exact nz)
instance zQ(n:Int)(a:Fp)(m:Fp):Ct prog (Ia n a m) 380 [eI n,lI a,lI m] (fun r=>.own (lI r)):=Fj f380 0x821807010907a7046f01fab8b8140701cb0907a7048107a703730263056f19014fac1907a7036230730263058101cefc026303 [] [.tmp 6] (h:=fun r h f g=>by
  unfold Ia at h;have:HA 0 8 0 0 fun(c:Int)(d:Fp)=>[(7,.xo 1 (List.map eI d)),(8,.tv (eI c))]:=⟨⟩;have:HA 2 9 1 0 fun(b:Int)(e:Fp)=>[(7,.xo 1 (List.map eI e)),(9,.tv (eI b))]:=⟨⟩;exact nz)
instance zm(b:AY)(a:Fp):Ct prog (Et b a) 409 [.pt (RT b).cells,lI a] (fun r=>.sh (eB r)):=Fj f409 0x9bd960386303d981880107dfb689066f770a055f76017677055f5c015c38d43091e9cf7e7c04740107df757c047430b689068cffd98a6c0176380b015c91e9cf7e7c027463757c027430d981ea [] [.tmp 4] (h:=fun r h f g=>by
  unfold Et at h;have:HA 0 5 0 3 fun(d:Int)(_:Unit)=>[(5,.tv (eI d))]:=⟨⟩;have:HA 2 8 0 5 fun(c:Int)(e:Bool)=>[(7,.tv (eB e)),(8,.tv (eI c))]:=⟨⟩;exact nz)
instance zq(a:AY)(l:Fp)(n:Int):Ct prog (Ce a l n) 411 [.pt (RT a).cells,lI l,eI n] (fun r=>.sh (eB r)):=Fj f411 0x9b0702d6ad8501b800ff8a030874306c300702d681b46303 [] [.tmp 6] (h:=fun r h c d=>by
  unfold Ce at h;have:HW 0 fun(b:Int)=>[(7,.tv (eI b))]:=⟨⟩;exact nz)
noncomputable def Wr:PC:=PC.of Uy f410.body (xq bT 0x1b60263066001b6026306b60263063c005201dd304830470132ffb60263068a055f76017677055f5c015c7705d47720303277baa27c06a838a27c06a891e9cf7e7c04a8c4757c04a801b60263068191e9cf7e7c02a8ffed0a740248024704460148304701483047040aa832d27c02a85d0beb0309a80b030aa8026303) []
theorem rH:CK f410 Wr []:=by decide +kernel
theorem rh:PC.Aaf Wr=true/\PC.Aag 0 Wr=true:=by decide +kernel
abbrev Q_410(n:Nat):Prop:=∀(b:AY)(a:Fp)(l:Fp),Ct prog (B9 n b a l) 410 [.undef,lI a,lI l] (fun r=>.bo (Bf b) (Bf r) 0 [])
theorem qy(n:Nat)(_ih_410:Q_410 n)(b:AY)(a:Fp)(l:Fp):Ct prog (B9 (n+1) b a l) 410 [.undef,lI a,lI l] (fun r=>.bo (Bf b) (Bf r) 0 []):=ij rH rh fun r h e d f=>by
  unfold Wr;unfold f410;unfold B9 at h;have:HW 0 fun(c:AY×Int)=>[(0,.bx (Bf c.1)),(8,.tv (eI c.2))]:=⟨⟩;exact nz
theorem qx:∀n:Nat,Q_410 n:=by
  intro n
  induction n with
  |zero=>exact(fun a ei l=>⟨fun _ h=>by cases h⟩)
  |succ n b=>exact qy n b
instance zp(b:AY)(a:Fp)(l:Fp):Ct prog (LS b a l) 410 [.undef,lI a,lI l] (fun r=>.bo (Bf b) (Bf r) 0 []):=⟨fun r h=>by
  obtain ⟨N,c⟩:=Co h;exact((qx N) b a l).snd r (c N (bk _))⟩
noncomputable def Wp:PC:=PC.of Uy f367.body (xq bT 0x3804d6603804d66ad63c005201dd3048304732ff6ad68a97a26d02a8a26d04a8e35b327720303277baa26d06a838a26d06a8c4756d04a83804d681ff3f0132d26d02a85d0b6e8a08200132380309a80b030aa86302) [.AaF 410 [.s 32,.s 33,.c (.list 1 [])] 0]
theorem rF:CK f367 Wp []:=by decide +kernel
theorem rf:PC.Aaf Wp=true/\PC.Aag 0 Wp=true:=by decide +kernel
abbrev Q_367(n:Nat):Prop:=∀(a:AY)(l:Fp),Ct prog (CA n a l) 367 [.undef,lI l] (fun r=>.bo (Bf a) (Bf r) 0 [])
theorem qt(n:Nat)(_ih_367:Q_367 n)(a:AY)(l:Fp):Ct prog (CA (n+1) a l) 367 [.undef,lI l] (fun r=>.bo (Bf a) (Bf r) 0 []):=ij rF rf fun r h d c e=>by
  unfold Wp;unfold f367;unfold CA at h;have:HW 0 fun(b:AY×Int)=>[(0,.bx (Bf b.1)),(5,.tv (eI b.2))]:=⟨⟩;exact nz
theorem qr:∀n:Nat,Q_367 n:=by
  intro n
  induction n with
  |zero=>exact(fun a l=>⟨fun _ h=>by cases h⟩)
  |succ n b=>exact qt n b
instance zK(a:AY)(l:Fp):Ct prog (IJ a l) 367 [.undef,lI l] (fun r=>.bo (Bf a) (Bf r) 0 []):=⟨fun r h=>by
  obtain ⟨N,b⟩:=Co h;exact((qr N) a l).snd r (b N (bk _))⟩
instance yW(t:AC)(p:d4)(g:d4)(b:d6)(a:Bool)(d:Int):Ct prog (Nl t p g b a d) 310 [AQ t,Am p,Am g,Ap b,eB a,eI d] (fun r=>.sh ((eL 2 Ap) r)):=Fj f310 0x82030a745b3f5b00c2bf1846309f9f024061616a02 [.Abw [none,none,none,none,none,none,none,none,none,none,some ⟨true,.list 2 []⟩] (.s 20),.AaF 367 [.s 22,.c (.list 1 [])] 0] [.tmp 12] (h:=fun r h e f=>by
  unfold Nl at h;exact nz)
instance zu(l:Fp)(a:Int)(n:Int):Ct prog (IZ l a n) 418 [lI l,eI a,eI n] (fun r=>.sh (eI r)):=Fj f418 0x9b070200036f92ba5ff8b800cb07020003c685010b30026303 [] [.tmp 6] (h:=fun r h c d=>by
  unfold IZ at h;have:HA 0 7 0 0 fun(b:Int)(_:Unit)=>[(7,.tv (eI b))]:=⟨⟩;exact nz)
instance zR(t:AC)(p:d4)(g:d4)(b:d6)(a:Bool):Ct prog (J0 t p g b a) 381 [AQ t,Am p,Am g,Ap b,eB a] (fun r=>.tp [(eL 2 Ap) r.1,eI r.2]):=Fj f381 0xf5f202c0d201820ebc9f7f02c07decec5c3702c07dc3c3553702c08adbec38c3c33702c07d369fb44061610401 [] [.tmp 10,.tmp 11] (h:=fun r h c d=>by
  unfold J0 at h;exact nz)
instance wT(a:kg)(b:Fp):Ct prog (EO a b) 191 [OA a,lI b] (fun r=>.tp [eI r.1,eI r.2]):=Fj f191 0x8c0e017f818a6c01f155309330 [] [.tmp 4,.tmp 5] (h:=fun r h c d=>by
  unfold EO at h;exact nz)
instance zS(q:ec)(b:AG)(m:d6)(a:Fp):Ct prog (J3 q b m a) 382 [A9 q,Be b,Ap m,lI a] (fun r=>.tp [lI r.1,eB r.2]):=Fj f382 0xf5180a01120a0403adda8a0a05f8557705f8555d6b01201436f05d6b01201436b7c504c990057e03be0a017503be01120a0403a104020de5066a06adda8572816b012014369e0f0e0de5066a080f0e0de5066a083c01fa01fa057c9e016d9e146d9e148a0817dc6d9e14386d9e815f5c5f5fd476bb05c9b1d7760a04027576010de5066a0681e5066a050ce506cd076f0ce506cd070ce506cd073c19014fac19d272fa6c7214e5066a0562a6010ce506cd0781993fa699014f30563040936131 [.mkx 1 [.bool false] (.s 28)] [.tmp 8,.tmp 9] (h:=fun r h i j=>by
  unfold J3 at h;have:HA 0 12 4 3 fun(g:Int)(d:Fp×a6)=>[(10,.xo 1 (List.map eI d.1)),(11,.xo 1 (List.map eB d.2)),(12,.tv (eI g))]:=⟨⟩;have:HA 2 13 4 2 fun(e:Int)(c:Fp×a6)=>[(10,.xo 1 (List.map eI c.1)),(11,.xo 1 (List.map eB c.2)),(13,.tv (eI e))]:=⟨⟩;have:HA 4 18 4 4 fun(f:Int)(_:Unit)=>[(18,.tv (eI f))]:=⟨⟩;exact nz)
instance yg(t:AC)(c:d7)(b:AG)(m:AL)(a:Bool):Ct prog (Gs t c b m a) 324 [AQ t,AK c,Be b,BU m,eB a] (fun r=>.tp [(eL 3 BU) r.1,eI r.2]):=Fj f324 0xf502100111100e0cb66f11100e0cb611100e0cb63c02034803470946bc024330028ce0763602433065901001cb11100e0cb68103c03703c071e0019f32b23696e804f7f37c9e0bf30ec86d9e0bc8c509c990bee74061610401 [] [.tmp 10,.tmp 11] (h:=fun r h f g=>by
  unfold Gs at h;have:HA 0 17 14 0 fun(d:Int)(e:List AL)=>[(16,.ow ((eL 3 BU) e)),(17,.tv (eI d))]:=⟨⟩;exact nz)
abbrev Q_264(n:Nat):Prop:=∀(t:AC)(c:d7)(b:AG)(m:AL)(a:Bool),Ct prog (Dh n t c b m a) 264 [AQ t,AK c,Be b,BU m,eB a] (fun r=>.tp [ED r.1,eI r.2])
theorem qa(n:Nat)(_ih_264:Q_264 n)(t:AC)(c:d7)(e:AG)(m:AL)(a:Bool):Ct prog (Dh (n+1) t c e m a) 264 [AQ t,AK c,Be e,BU m,eB a] (fun r=>.tp [ED r.1,eI r.2]):=Fj f264 0xa94b0a46ff37c50a460a0117150ab96a076fff0a013ba94b010c46054790cf433064c50ec97001cf433065a509435c360a01cb17150ab96a07c6c577d3e0016565a536a9a94b0a460a01120ab66a07adc5010b4605479071c50ec970016565a509cc360a01755c01120ab66a078c05a94b900e0a020f0e0ab66a086fedbe054805479004be37c577d3c50ec970016565a509cc360e0a02755c010f0e0ab66a08a9500ec93fa9a94b774637c50a4685f2c50ad3c50e4970016565a509435c36a9833269c961610401 [.Aav [.z ⟨false,.int .i64 0⟩,.z ⟨true,.list 1 []⟩,.z ⟨true,.list 1 []⟩,.z ⟨true,.list 1 []⟩,.z ⟨true,.list 5 []⟩]] [.cell 10 (some 5),.tmp 11] (h:=fun r h k l=>by
  unfold Dh at h;have:HA 1 15 6 1 fun(j:Int)(b:Az×Az)=>[(10,.bx [⟨false,eI b.1.AaC⟩,⟨true,lI b.1.o3.d6.d3⟩,⟨true,lI b.1.o3.d6.d5⟩,⟨true,lI b.1.o3.hV⟩,⟨true,G7 b.1.hT⟩]),(14,.bx [⟨false,eI b.2.AaC⟩,⟨true,lI b.2.o3.d6.d3⟩,⟨true,lI b.2.o3.d6.d5⟩,⟨true,lI b.2.o3.hV⟩,⟨true,G7 b.2.hT⟩]),(15,.tv (eI j))]:=⟨⟩;have:HA 3 18 6 1 fun(g:Int)(f:Az)=>[(10,.bx [⟨false,eI f.AaC⟩,⟨true,lI f.o3.d6.d3⟩,⟨true,lI f.o3.d6.d5⟩,⟨true,lI f.o3.hV⟩,⟨true,G7 f.hT⟩]),(18,.tv (eI g))]:=⟨⟩;have:HA 5 23 21 0 fun(i:Int)(d:Az)=>[(10,.bx [⟨false,eI d.AaC⟩,⟨true,lI d.o3.d6.d3⟩,⟨true,lI d.o3.d6.d5⟩,⟨true,lI d.o3.hV⟩,⟨true,G7 d.hT⟩]),(23,.tv (eI i))]:=⟨⟩;exact nz)
theorem qZ:∀n:Nat,Q_264 n:=by
  intro n
  induction n with
  |zero=>exact(fun t c a m ej=>⟨fun _ h=>by cases h⟩)
  |succ n b=>exact qa n b
instance xc(t:AC)(c:d7)(b:AG)(m:AL)(a:Bool):Ct prog (Pl t c b m a) 264 [AQ t,AK c,Be b,BU m,eB a] (fun r=>.tp [ED r.1,eI r.2]):=⟨fun r h=>by
  obtain ⟨N,d⟩:=Co h;exact((qZ N) t c b m a).snd r (d N (bk _))⟩
instance wN(t:AC)(c:d7)(b:AG)(m:AL)(a:Bool):Ct prog (Kt t c b m a) 186 [AQ t,AK c,Be b,BU m,eB a] (fun r=>.tp [eB r.1,eI r.2]):=Fj f186 0x8c3801d064c50e4970016565a5363061610401 [] [.tmp 10,.tmp 11] (h:=fun r h d e=>by
  unfold Kt at h;exact nz)
instance vE(t:AC)(b:gp)(a:AG)(m:AL):Ct prog (KP t b a m) 119 [AQ t,Bx b,Be a,BU m] (fun r=>.tp [GO r.1,eI r.2]):=Fj f119 0x8196bc0d0b08030d0b08033c018a0830aa8170030f426565a510427f96e746853096e870b2360b42b27f96e74685309607c970b2b2e3b77f960346b376f296e7d3e0b26590b77f960346850e030f42b2b2e3b73601e8619d [] [.cell 8 (some 2),.tmp 9] (h:=fun r h d e=>by
  unfold KP at h;have:HJ 95 fun(c:Int)=>[(11,.tv (eI c))]:=⟨⟩;exact nz)
instance wO(t:AC)(a:AG)(p:BB):Ct prog (JA t a p) 187 [AQ t,Be a,GO p] (fun r=>.tp [Be r.1,eI r.2]):=Fj f187 0x8191650d06020e0d0b0604056fed9e01dd01485fa25576ac049e0d06027555690d0b06040581035010c93f7f910110d39696e807c911709f3237910110d3f665360110c9939d [.Aav [.v (.s 37) 0 2,.v (.s 37) 1 2,.z ⟨true,.list 1 []⟩]] [.cell 6 (some 3),.tmp 7] (h:=fun r h c d=>by
  unfold JA at h;have:HW 0 fun(b:AG×Int)=>[(13,.bx [⟨false,lI b.1.d4.d3⟩,⟨false,lE b.1.d4.d5⟩,⟨true,(eL 1 lI) b.1.fq⟩]),(14,.tv (eI b.2))]:=⟨⟩;exact nz)
instance wQ(l:Fp)(n:Int):Ct prog (KL l n) 189 [lI l,eI n] (fun r=>.own (lI r)):=Fj f189 0x8218bae26fe2b989056fb98905b989053c01fa30148501b8e2cbb989058119014fac19ba6230e28101cefc6302 [] [.tmp 4] (h:=fun r h e f=>by
  unfold KL at h;have:HA 0 6 1 0 fun(b:Int)(c:Fp)=>[(5,.xo 1 (List.map eI c)),(6,.tv (eI b))]:=⟨⟩;have:HA 2 7 0 0 fun(a:Int)(d:Fp)=>[(5,.xo 1 (List.map eI d)),(7,.tv (eI a))]:=⟨⟩;exact nz)
instance wP(n:Int)(a:Fp):Ct prog (J5 n a) 188 [eI n,lI a] (fun r=>.own (lI r)):=Fj f188 0x820e72406302 [] [.tmp 4] (h:=fun r h b c=>by
  unfold J5 at h;exact nz)
instance vF(t:AC)(a:AG)(d:BB):Ct prog (LB t a d) 120 [AQ t,Be a,GO d] (fun r=>.tp [Be r.1,Ap r.2]):=Fj f120 0xb9023b969104f75c0bf30e550bc865019110c970366536e810c9939d [] [.cell 6 (some 3),.cell 7 (some 2)] (h:=fun r h b c=>by
  unfold LB at h;exact nz)
instance vG(a:Fp)(b:Fp):Ct prog (Gk a b) 121 [lI a,lI b] (fun r=>.own (lI r)):=Fj f121 0x8202bae26fa7dd5f5f7202bacbe281dafc6302 [] [.tmp 4] (h:=fun r h e f=>by
  unfold Gk at h;have:HA 0 6 0 0 fun(c:Int)(d:Fp)=>[(5,.ow (lI d)),(6,.tv (eI c))]:=⟨⟩;exact nz)
instance vH(d:Fp)(c:Fp)(b:Int)(e:Fp)(a:Int):Ct prog (FA d c b e a) 122 [lI d,lI c,eI b,lI e,eI a] (fun r=>.own (lI r)):=Fj f122 0x82020c01c10b045e00076fc10b045e00076001a7ddb4c10b045e00073ca7dd5f5fb8300285b80ceb30c10b045e000781da820e7240045e6305 [] [.tmp 10] (h:=fun r h i j=>by
  unfold FA at h;have:HA 0 13 2 0 fun(g:Int)(f:Int×Fp)=>[(4,.tv (eI f.1)),(12,.ow (lI f.2)),(13,.tv (eI g))]:=⟨⟩;exact nz)
instance wR(a:Fp)(b:Int):Ct prog (HD a b) 190 [lI a,eI b] (fun r=>.sh (eB r)):=Fj f190 0x9bd9ad8501b800cbd981ea [] [.tmp 4] (h:=fun r h d e=>by
  unfold HD at h;have:HA 0 5 0 0 fun(c:Int)(_:Unit)=>[(5,.tv (eI c))]:=⟨⟩;exact nz)
noncomputable def bH:PC:=PC.of Uy f123.body (xq bT 0x35003530806020f09b605066f0f09b605060f09b605063ced0141320348034707465f76555f5cd40401413291e9cfcc8e017c0d42080602755c010f09b605068109b60505cab66a07607709b66a07cab66a073c1f9e212219239e0dcab66a970d0bcab66a0a6f19014fac7cfd190dcab66a08cb0e0d0bcab66a0a8101ce01e0a25536ed5b3201dda255045b32ffcab66a07b3016d0d4209b6050575557709b66a07819607c9e3bd17c993ab9d) []
theorem q9:CK f123 bH [.cell 8 (some 3)]:=by decide +kernel
theorem ra:PC.Aaf bH=true:=by decide +kernel
instance vI(t:AC)(b:gp)(a:AG)(c:d6):Ct prog (KO t b a c) 123 [AQ t,Bx b,.agg [.undef,.undef,.undef],Ap c] (fun r=>.ag [⟨true,lI a.d4.d3⟩,⟨true,lE a.d4.d5⟩,⟨true,.xn (List.map lI a.fq)⟩] 2 (.oag [⟨true,lI r.d4.d3⟩,⟨true,lE r.d4.d5⟩,⟨true,.xn (List.map lI r.fq)⟩])):=tY q9 ra fun r h j i k=>by
  unfold bH;unfold f123;unfold KO at h;have:HW 0 fun(d:AG×Int)=>[(6,.bx [⟨true,lI d.1.d4.d3⟩,⟨true,lE d.1.d4.d5⟩,⟨true,.xn (List.map lI d.1.fq)⟩]),(10,.tv (eI d.2))]:=⟨⟩;have:HA 2 14 11 0 fun(g:Int)(f:Fp)=>[(13,.xo 1 (List.map eI f)),(14,.tv (eI g))]:=⟨⟩;have:HW 4 fun(e:AG×Int)=>[(6,.bx [⟨true,lI e.1.d4.d3⟩,⟨true,lE e.1.d4.d5⟩,⟨true,.xn (List.map lI e.1.fq)⟩]),(15,.tv (eI e.2))]:=⟨⟩;exact nz
noncomputable def bI:PC:=PC.of Uy f124.body (xq bT 0x819165073e0a0702130c0a736a076f2624017cfd252401239e379110468a055e41b57cb57230057cb57cb57230e0a2c836815f6dfd555d70bc0241fd0a0702cb130c0a736a07810c0a736a06c10a736a076fc10a736a07100ec10a736a09ad9110468a05720a057cfd7cb5f85f6dfd555f6dfd555d70bc0241fdc10a736a076230100ec10a736a09815d70bc0241fd0c0a736a06cbc10a736a07f55e41bd0110c993ab610401) []
theorem rA:CK f124 bI [.cell 10 (some 3),.tmp 11]:=by decide +kernel
theorem rb:PC.Aaf bI=true:=by decide +kernel
instance vJ(t:AC)(e:gp)(a:AG)(c:d6)(b:Fp):Ct prog (Ld t e a c b) 124 [AQ t,Bx e,.agg [.undef,.undef,.undef],Ap c,lI b] (fun r=>.ag [⟨true,lI a.d4.d3⟩,⟨true,lE a.d4.d5⟩,⟨true,.xn (List.map lI a.fq)⟩] 2 (.tp [Be r.1,eI r.2])):=tY rA rb fun r h m l n=>by
  unfold bI;unfold f124;unfold Ld at h;have:HA 0 13 12 0 fun(k:Int)(g:AG)=>[(10,.bx [⟨true,lI g.d4.d3⟩,⟨true,lE g.d4.d5⟩,⟨true,(eL 1 lI) g.fq⟩]),(13,.tv (eI k))]:=⟨⟩;have:HA 2 16 13 0 fun(j:Int)(f:AG)=>[(10,.bx [⟨true,lI f.d4.d3⟩,⟨true,lE f.d4.d5⟩,⟨true,(eL 1 lI) f.fq⟩]),(16,.tv (eI j))]:=⟨⟩;have:HA 4 19 12 0 fun(i:Int)(d:AG×AG)=>[(7,.bx [⟨true,lI d.1.d4.d3⟩,⟨true,lE d.1.d4.d5⟩,⟨true,.xn (List.map lI d.1.fq)⟩]),(10,.bx [⟨true,lI d.2.d4.d3⟩,⟨true,lE d.2.d4.d5⟩,⟨true,(eL 1 lI) d.2.fq⟩]),(19,.tv (eI i))]:=⟨⟩;exact nz
instance c74(t:AC)(b:gp)(a:AG)(m:AL):Ct prog (Kz t b a m) 74 [AQ t,Bx b,Be a,BU m] (fun r=>.tp [Lw r.1,eI r.2]):=Fj f74 0x81e419469f656565d537e40e468a6cf3380bc837e469468530916bb45776360353d5360d013b03500257361b65d53696e804f7ec5c0b3174bd7c0d427c0b420ec3550b6d5bbd6d0d426d0b4296e804f75cf30e55c89691e817c97036657fe469d396e8706565d57fe469d30e65d5360111c9619d [] [.cell 8 (some 38),.tmp 9] (h:=fun r h c d=>by
  unfold Kz at h;exact nz)
instance c55(t:AC)(a:List gp)(b:AG)(m:Bq):Ct prog (KQ t a b m) 55 [AQ t,(eL 25 Bx) a,Be b,DA m] (fun r=>.tp [Lw r.1,eI r.2]):=Fj f55 0x8013b81e46b0e65b765d5194355017fe40e468a6c01f1550111c9936130 [] [.cell 8 (some 38),.tmp 9] (h:=fun r h c d=>by
  unfold KQ at h;exact nz)
instance c44(t:AC)(a:List gp)(d:AO):Ct prog (J7 t a d) 44 [AQ t,(eL 25 Bx) a,B3 d] (fun r=>.tp [(eL 38 Lw) r.1,eI r.2.1,eI r.2.2]):=Fj f44 0x8c820bb40a010ce50531066f91651f420226482647264402d026c03064e411c970b1d7a665bc0a0175a6010ce5053106819110c9653226c0d026c0d2a6d026c07d6532bc3026406130 [] [.tmp 6,.tmp 7,.tmp 8] (h:=fun r h e f=>by
  unfold J7 at h;have:HA 0 12 5 3 fun(c:Int)(b:List Ar×AG)=>[(10,.ow ((eL 38 Lw) b.1)),(11,.bx [⟨false,lI b.2.d4.d3⟩,⟨false,lE b.2.d4.d5⟩,⟨false,(eL 1 lI) b.2.fq⟩]),(12,.tv (eI c))]:=⟨⟩;exact nz)
instance c45(l:Fp)(a:Fp):Ct prog (JS l a) 45 [lI l,lI a] (fun r=>.own (lI r)):=Fj f45 0x8202bae26fe23ca7dd5f5f7202e23ca7dd0285b8bacbe281dafc6302 [] [.tmp 4] (h:=fun r h d e=>by
  unfold JS at h;have:HA 0 6 0 0 fun(b:Int)(c:Fp)=>[(5,.ow (lI c)),(6,.tv (eI b))]:=⟨⟩;exact nz)
instance c14(t:AC)(a:List gp)(d:AO):Ct prog (K0 t a d) 14 [AQ t,(eL 25 Bx) a,B3 d] (fun r=>.tp [Be r.1,Ap r.2.1,eI r.2.2]):=Fj f14 0xb9023b819691360e65c1b9040ec109b9066f9604f77c22412643305c0e6d22412643305591651f41264330c1b904cb0ec109b906819691e810c90ee3326532379691e74610d301821170b1bc01e810c96130 [] [.cell 6 (some 3),.cell 7 (some 2),.tmp 8] (h:=fun r h e f=>by
  unfold K0 at h;have:HA 0 14 9 0 fun(c:Int)(b:AG×d6)=>[(12,.bx [⟨false,lI b.1.d4.d3⟩,⟨false,lE b.1.d4.d5⟩,⟨false,(eL 1 lI) b.1.fq⟩]),(13,.bx [⟨false,lI b.2.d3⟩,⟨false,lI b.2.d5⟩]),(14,.tv (eI c))]:=⟨⟩;exact nz)
instance c24(t:AC)(a:List gp)(d:AO)(m:Bq):Ct prog (J6 t a d m) 24 [AQ t,(eL 25 Bx) a,B3 d,DA m] (fun r=>.tp [B3 r.1,eI r.2]):=Fj f24 0x81bbb10f3eedf00448044712f70359015a03005a04f0045014c91bb137bb0113d3e4114970b165017fbb1346d2a637bb0113d39691084910c91170b1bc0114c9936130 [] [.cell 8 (some 4),.tmp 9] (h:=fun r h b c=>by
  unfold J6 at h;exact nz)
end Go.Sf.Sc
