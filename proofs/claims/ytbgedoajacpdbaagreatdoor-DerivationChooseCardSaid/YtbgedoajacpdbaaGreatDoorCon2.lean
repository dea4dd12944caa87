/- Contracts of the functions. -/
import Derived.Test.YtbgedoajacpdbaaGreatDoorCon0
import Derived.Test.YtbgedoajacpdbaaGreatDoorTryzShelf
import Derived.Test.YtbgedoajacpdbaaGreatDoorFo
set_option linter.all false
set_option maxRecDepth 100000
set_option maxHeartbeats 4000000
namespace Go.Sf.Sc
open Go Go.Sf Go.Proofs.Tryz
instance c36:Ct prog (N3 ) 36 [] (fun r=>.oag [⟨true,lN r.d3⟩,⟨true,lX r.d4⟩]):=Fj f36 0x2503f07473f3f04473f3f04473f3f3f3f04473f15c900 [.bld [.str ⟨#[]⟩,.int .i64 0,.int .i64 0,.list 1 []] [(0,1,.c (.str ⟨#[98,97,108,97,110,99,101]⟩)),(1,1,.c (.int .i64 (-1000))),(2,1,.c (.int .i64 1000))],.bld [.str ⟨#[]⟩,.int .i64 0,.bool false,.list 4 []] [(0,1,.c (.str ⟨#[65,99,99,111,117,110,116]⟩)),(1,1,.c (.int .i64 (-1))),(2,1,.c (.bool true)),(3,1,.s 2)],.bld [.str ⟨#[]⟩,.int .i64 0,.bool false,.list 4 []] [(0,1,.c (.str ⟨#[67,97,115,104]⟩)),(1,1,.c (.int .i64 0))],.lst 1 [.c (.str ⟨#[111,112,101,110]⟩),.c (.str ⟨#[99,108,111,115,101,100]⟩)],.bld [.str ⟨#[]⟩,.int .i64 0,.int .i64 0,.list 1 []] [(0,1,.c (.str ⟨#[115,116,97,116,101]⟩)),(2,1,.c (.int .i64 1)),(3,1,.s 5)],.bld [.str ⟨#[]⟩,.int .i64 0,.bool false,.list 4 []] [(0,1,.c (.str ⟨#[76,111,97,110]⟩)),(1,1,.c (.int .i64 0)),(3,1,.s 7)],.bld [.str ⟨#[]⟩,.int .i64 0,.bool false,.list 4 []] [(0,1,.c (.str ⟨#[80,101,114,115,111,110]⟩)),(1,1,.c (.int .i64 (-1)))],.bld [.str ⟨#[]⟩,.int .i64 0,.int .i64 0,.int .i64 0,.int .i64 0,.int .i64 0,.int .i64 0] [(0,1,.c (.str ⟨#[111,119,110,115]⟩)),(1,1,.c (.int .i64 3)),(2,1,.c (.int .i64 0)),(4,1,.c (.int .i64 (-1))),(5,1,.c (.int .i64 1)),(6,1,.c (.int .i64 1))],.bld [.str ⟨#[]⟩,.int .i64 0,.int .i64 0,.int .i64 0,.int .i64 0,.int .i64 0,.int .i64 0] [(0,1,.c (.str ⟨#[112,97,121,115]⟩)),(1,1,.c (.int .i64 1)),(2,1,.c (.int .i64 1)),(4,1,.c (.int .i64 (-1))),(6,1,.c (.int .i64 (-1)))],.Aaz [.w 10,.w 13]] [.cell 0 (some 2)] (h:=fun r h a b=>by
  unfold N3 at h;exact nz)
instance c67(g:d5):Ct prog (Hh g) 67 [Ak g] (fun r=>.sh (eB r)):=Fj f67 0xa1da38c1f4 [] [.tmp 2] (h:=fun r h a b=>by
  unfold Hh at h;exact nz)
instance c30(a:AG):Ct prog (GZ a) 30 [BX a] (fun r=>.sh (eB r)):=Fj f30 0x9a3102a9d2a276007576013102f86c760192adf4 [] [.tmp 2] (h:=fun r h c d=>by
  unfold GZ at h;have:HA 0 3 1 2 fun(b:Int)(_:Unit)=>[(3,.tv (eI b))]:=⟨⟩;exact nz)
abbrev Q_155(n:Nat):Prop:=∀(t:AC)(a:Int),Ct prog (Ft n t a) 155 [AP t,eI a] (fun r=>.own (lA r))
theorem qL(n:Nat)(_ih_155:Q_155 n)(t:AC)(a:Int):Ct prog (Ft (n+1) t a) 155 [AP t,eI a] (fun r=>.own (lA r)):=Fj f155 0x8204487e41df5504480e7ddf55360447ff04c085e9eb30 [] [.tmp 4] (h:=fun r h b c=>by
  unfold Ft at h;exact nz)
theorem qK:∀n:Nat,Q_155 n:=by
  intro n
  induction n with
  |zero=>exact(fun t a=>⟨fun _ h=>by cases h⟩)
  |succ n b=>exact qL n b
instance vh(t:AC)(a:Int):Ct prog (NJ t a) 155 [AP t,eI a] (fun r=>.own (lA r)):=⟨fun r h=>by
  obtain ⟨N,b⟩:=Ck h;exact((qK N) t a).snd r (b N (bk _))⟩
instance vj(n:Int)(b:Int)(a:Int):Ct prog (DM n b a) 156 [eI n,eI b,eI a] (fun r=>.sh (eB r)):=Fj f156 0xa105f372026303 [] [.tmp 6] (h:=fun r h c d=>by
  unfold DM at h;exact nz)
instance zL(t:EL):Ct prog (OL t) 363 [UC t] (fun r=>.sh (eS r)):=Fj f363 0x815c373f3f5c85553f9300 [.mv (.c (.str ⟨#[]⟩)),.bin (.s) .add (.c (.str ⟨#[34]⟩)) (.s 7),.bin (.s) .add (.s 8) (.c (.str ⟨#[34]⟩))] [.tmp 2] (h:=fun r h a b=>by
  unfold OL at h;exact nz)
instance zl(c:Int):Ct prog (Jz c) 403 [UD c] (fun r=>.sh (eB r)):=Fj f403 0xa10aa7a70aa7a7ca [] [.tmp 2] (h:=fun r h a b=>by
  unfold Jz at h;exact nz)
instance zm(c:Int):Ct prog (Hy c) 404 [UD c] (fun r=>.sh (eB r)):=Fj f404 0xa1a7a7ca [] [.tmp 2] (h:=fun r h a b=>by
  unfold Hy at h;exact nz)
instance zp(b:ByteArray)(c:Int)(a:Bool):Ct prog (Np b c a) 405 [eS b,eI c,eB a] (fun r=>.sh (eI r)):=Fj f405 0xdc076d0702d76001076d8a0a0a0a0512a7300e12a73008300e12a730050c38300702d781aa6303 [] [.tmp 6] (h:=fun r h e f=>by
  unfold Np at h;have:HW 0 fun(d:Int)=>[(7,.tv (eI d))]:=⟨⟩;exact nz)
instance zq(a:ByteArray)(b:Int):Ct prog (J0 a b) 406 [eS a,eI b] (fun r=>.sh (eI r)):=Fj f406 0x9ad87091a7ba37056f12057200620c3830d881e4 [] [.tmp 4] (h:=fun r h d e=>by
  unfold J0 at h;have:HW 0 fun(c:Int)=>[(5,.tv (eI c))]:=⟨⟩;exact nz)
instance zr:Ct prog (NI ) 407 [] (fun r=>.own (lB r)):=Fj f407 0x823f014000 [.lst 1 [.c (.str ⟨#[45,62]⟩),.c (.str ⟨#[60,61]⟩),.c (.str ⟨#[62,61]⟩),.c (.str ⟨#[61,61]⟩),.c (.str ⟨#[33,61]⟩),.c (.str ⟨#[123]⟩),.c (.str ⟨#[125]⟩),.c (.str ⟨#[40]⟩),.c (.str ⟨#[41]⟩),.c (.str ⟨#[91]⟩),.c (.str ⟨#[93]⟩),.c (.str ⟨#[44]⟩),.c (.str ⟨#[59]⟩),.c (.str ⟨#[58]⟩),.c (.str ⟨#[61]⟩),.c (.str ⟨#[43]⟩),.c (.str ⟨#[45]⟩),.c (.str ⟨#[42]⟩),.c (.str ⟨#[60]⟩),.c (.str ⟨#[62]⟩),.c (.str ⟨#[33]⟩),.c (.str ⟨#[38]⟩),.c (.str ⟨#[124]⟩),.c (.str ⟨#[46]⟩),.c (.str ⟨#[63]⟩)]] [.tmp 0] (h:=fun r h a b=>by
  unfold NI at h;exact nz)
instance zN(a:ByteArray)(d:Int):Ct prog (Nn a d) 364 [eS a,eI d] (fun r=>.tp [UC r.1,eI r.2.1,eI r.2.2]):=Fj f364 0x8c9f17460401cf04630570ff04013b8c9f0cb60046b68a06b60d050cb63030050c380c5f720401bccf046305e00ef99f63460d05a7a7f99f174685baf99f17d90e3085d0819f63460d057230f99f17468530bd08046306bd080463063c308e5d8c0e0e728a0e300e5d12303016c96302 [] [.cell 4 (some 3),.tmp 5,.tmp 6] (h:=fun r h f g=>by
  unfold Nn at h;have:HJ 29 fun(c:Int×Int)=>[(9,.tv (eI c.1)),(10,.tv (eI c.2))]:=⟨⟩;have:HA 0 13 12 0 fun(e:Int)(b:EL)=>[(4,.bx [⟨false,eI b.mo⟩,⟨false,eS b.AbU⟩,⟨false,eI b.Line⟩]),(13,.tv (eI e))]:=⟨⟩;exact nz)
instance yS(t:EL):Ct prog (NG t) 302 [UC t] (fun r=>.sh (eB r)):=Fj f302 0xa105d5fe0cf35d819f16c91171d0bf5d0e65f4 [.bin (.s) .eql (.s 9) (.c (.str ⟨#[]⟩))] [.tmp 2] (h:=fun r h a b=>by
  unfold NG at h;exact nz)
instance xF(a:ByteArray):Ct prog (E2 a) 232 [eS a] (fun r=>.sh (eB r)):=Fj f232 0x810e004630ca [] [.tmp 2] (h:=fun r h b c=>by
  unfold E2 at h;exact nz)
instance yi(l:List ByteArray):Ct prog (Kq l) 321 [lB l] (fun r=>.sh (eI r)):=Fj f321 0x9a039770039704030003a986b6b60397623004030003c3b1b600bc0397c3d230ca [] [.tmp 2] (h:=fun r h c d=>by
  unfold Kq at h;have:HA 0 3 0 0 fun(b:Int)(_:Unit)=>[(3,.tv (eI b))]:=⟨⟩;have:HA 2 4 3 0 fun(a:Int)(_:Unit)=>[(4,.tv (eI a))]:=⟨⟩;exact nz)
instance xX(a:kl):Ct prog (Hg a) 255 [GK a] (fun r=>.sh (eI r)):=Fj f255 0xf8056cac76385cfaac3791925c7601925cd2acf4 [] [.tmp 2] (h:=fun r h b c=>by
  unfold Hg at h;exact nz)
instance wG(t:AC)(a:Int):Ct prog (ML t a) 175 [AP t,eI a] (fun r=>.sh (eI r)):=Fj f175 0x9a7302a978c5ee7302097303a9866eee6eee73026230097303c3b16eee00bc7302816cac0b01916c306cac820e017cb1ba5c05b7030605b704a986556edf5505b70362300605b704c3b155cb00c9c5df55de [] [.tmp 4] (h:=fun r h e f=>by
  unfold ML at h;have:HA 0 6 1 0 fun(b:Int)(_:Unit)=>[(6,.tv (eI b))]:=⟨⟩;have:HA 2 8 7 0 fun(c:Int)(_:Unit)=>[(8,.tv (eI c))]:=⟨⟩;have:HA 4 9 8 0 fun(d:Int)(_:Unit)=>[(9,.tv (eI d))]:=⟨⟩;exact nz)
instance xY(b:Int)(a:Int):Ct prog (JM b a) 256 [eI b,eI a] (fun r=>.sh (eB r)):=Fj f256 0xa10a0e72a70edd [] [.tmp 4] (h:=fun r h c d=>by
  unfold JM at h;exact nz)
instance wH(t:AC)(a:Int):Ct prog (MK t a) 176 [AP t,eI a] (fun r=>.sh (eI r)):=Fj f176 0xf89203b8030542779203b9ac779201760192015c816c550502020605b704a986556e07cc05020262300605b704c3b155074b01c9074407ccde [] [.tmp 4] (h:=fun r h c d=>by
  unfold MK at h;have:HA 0 6 1 0 fun(b:Int)(_:Unit)=>[(6,.tv (eI b))]:=⟨⟩;exact nz)
instance vB(t:AC):Ct prog (Eo t) 112 [AP t] (fun r=>.tp [eS r.1,eI r.2]):=Fj f112 0x81bf0006aaa9dc6e07cc640ebb00755c0106aa813004aaa9dc6edf55640ebb307555e9aac3bf8ada38c137bf85c1013f9300 [.mv (.c (.str ⟨#[]⟩)),.mv (.c (.str ⟨#[]⟩)),.mv (.c (.str ⟨#[]⟩)),.mv (.c (.str ⟨#[]⟩))] [.tmp 2,.tmp 3] (h:=fun r h d e=>by
  unfold Eo at h;have:HA 0 4 1 0 fun(b:Int)(_:Unit)=>[(4,.tv (eI b))]:=⟨⟩;have:HA 2 6 1 1 fun(a:Int)(_:Unit)=>[(6,.tv (eI a))]:=⟨⟩;exact nz)
instance vg(t:AC)(a:Int)(b:Int):Ct prog (JN t a b) 154 [AP t,eI a,eI b] (fun r=>.sh (eI r)):=Fj f154 0xf8926c5530926c55d06ff2367f02aa [] [.tmp 6] (h:=fun r h c d=>by
  unfold JN at h;exact nz)
abbrev Q_157(n:Nat):Prop:=∀(t:AC)(a:Int)(b:Int),Ct prog (FE n t a b) 157 [AP t,eI a,eI b] (fun r=>.sh (eB r))
theorem qN(n:Nat)(_ih_157:Q_157 n)(t:AC)(a:Int)(b:Int):Ct prog (FE (n+1) t a b) 157 [AP t,eI a,eI b] (fun r=>.sh (eB r)):=Fj f157 0xa10a0e017ddf5536383005729302aa [] [.tmp 6] (h:=fun r h c d=>by
  unfold FE at h;exact nz)
theorem qM:∀n:Nat,Q_157 n:=by
  intro n
  induction n with
  |zero=>exact(fun t a b=>⟨fun _ h=>by cases h⟩)
  |succ n c=>exact qN n c
instance vk(t:AC)(a:Int)(b:Int):Ct prog (Gq t a b) 157 [AP t,eI a,eI b] (fun r=>.sh (eB r)):=⟨fun r h=>by
  obtain ⟨N,c⟩:=Ck h;exact((qM N) t a b).snd r (c N (bk _))⟩
instance ux(t:AC)(b:Int)(a:Int)(c:Int):Ct prog (KL t b a c) 104 [AP t,eI b,eI a,eI c] (fun r=>.sh (eB r)):=Fj f104 0xa10e5e4107ccbb697d07cc017c8a92da30050e30367f5ee1 [] [.tmp 8] (h:=fun r h d e=>by
  unfold KL at h;exact nz)
instance wI(n:Int):Ct prog (KM n) 177 [eI n] (fun r=>.sh (eB r)):=Fj f177 0xa1a7a7ca [] [.tmp 2] (h:=fun r h a b=>by
  unfold KM at h;exact nz)
instance wJ(e:Bj)(a:Int):Ct prog (NM e a) 178 [Bs e,eI a] (fun r=>.sh (eB r)):=Fj f178 0xa1ba76fe7677ba5cfe5c6955de [] [.tmp 4] (h:=fun r h b c=>by
  unfold NM at h;exact nz)
instance vC(g:d5):Ct prog (Dm g) 113 [Ak g] (fun r=>.sh (eI r)):=Fj f113 0x9a04aaa9b1c1c8cc00755ce9aa81303102a9b1a255307555013102f8da38c1f4 [] [.tmp 2] (h:=fun r h c d=>by
  unfold Dm at h;have:HA 0 3 1 0 fun(b:Int)(_:Unit)=>[(3,.tv (eI b))]:=⟨⟩;have:HA 2 4 1 1 fun(a:Int)(_:Unit)=>[(4,.tv (eI a))]:=⟨⟩;exact nz)
instance uw(t:AC)(a:Int):Ct prog (Fd t a) 103 [AP t,eI a] (fun r=>.tp [lA r.1,eI r.2]):=Fj f103 0xe0020701097303700204480447c5b74a03420148acb2cb02c9c5ee0701bc097303e00ebb04c03704c0783036e9eb30 [] [.tmp 4,.tmp 5] (h:=fun r h d e=>by
  unfold Fd at h;have:HA 0 9 8 0 fun(b:Int)(c:List kl)=>[(7,.ow (lA c)),(9,.tv (eI b))]:=⟨⟩;exact nz)
instance vD(t:AC)(a:Int)(b:Fp):Ct prog (MO t a b) 114 [AP t,eI a,lI b] (fun r=>.sh (eI r)):=Fj f114 0x9a090702037091055e41ee5ff37deeb600bc09070203c3d2010b30d4017c830241df553785c1309302aa [] [.tmp 6] (h:=fun r h d e=>by
  unfold MO at h;have:HA 0 9 7 0 fun(c:Int)(_:Unit)=>[(9,.tv (eI c))]:=⟨⟩;exact nz)
instance c71(t:AC)(a:AG):Ct prog (Ga t a) 71 [AP t,BX a] (fun r=>.tp [eI r.1,eI r.2]):=Fj f71 0x8c000b5e03a9dcb15f76cd5f5ccd557cdcd25c559fe2c884fc0075fc010b5e03815e02095e03a98130640ea276a2cd365e0275cd01095e03c381d2cd0b76f978adf96ff236309b [] [.tmp 4,.tmp 5] (h:=fun r h d e=>by
  unfold Ga at h;have:HA 0 9 3 0 fun(b:Int)(_:Unit)=>[(9,.tv (eI b))]:=⟨⟩;have:HA 2 11 3 1 fun(c:Int)(_:Unit)=>[(11,.tv (eI c))]:=⟨⟩;exact nz)
instance yT(t:AC)(g:d5):Ct prog (Gb t g) 303 [AP t,Ak g] (fun r=>.sh (eB r)):=Fj f303 0x9a065e037091da6e03cc386e03cc00755c01065e03815e02055e0370916c55a2eda2555e0275ed5e03dc9b [] [.tmp 4] (h:=fun r h c d=>by
  unfold Gb at h;have:HA 0 5 3 0 fun(a:Int)(_:Unit)=>[(5,.tv (eI a))]:=⟨⟩;have:HA 2 6 3 1 fun(b:Int)(_:Unit)=>[(6,.tv (eI b))]:=⟨⟩;exact nz)
instance yU(t:AC)(p:ec)(b:Int)(a:Int):Ct prog (MQ t p b a) 304 [AP t,A7 p,eI b,eI a] (fun r=>.tp [GK r.1,eB r.2]):=Fj f304 0x81cbc5ee37cb01468a6c720aa7055dd4a2cd7ccb01468a6ccd30a702c9615e02 [] [.cell 8 (some 4),.tmp 9] (h:=fun r h c d=>by
  unfold MQ at h;exact nz)
instance yV(n:Int):Ct prog (K9 n) 305 [eI n] (fun r=>.sh (eB r)):=Fj f305 0xa1a7a7ca [] [.tmp 2] (h:=fun r h a b=>by
  unfold K9 at h;exact nz)
instance zu(n:Int)(t:j0):Ct prog (IQ n t) 408 [eI n,OF t] (fun r=>.sh (eI r)):=Fj f408 0xf8055cfe5c77baed557fca [] [.tmp 4] (h:=fun r h a b=>by
  unfold IQ at h;exact nz)
instance zO(n:Int)(a:Test):Ct prog (Nq n a) 365 [eI n,GM a] (fun r=>.sh (eI r)):=Fj f365 0x810e360342d07836b4019105ed557fca [] [.tmp 4] (h:=fun r h b c=>by
  unfold Nq at h;exact nz)
instance yW(n:Int)(l:List Test):Ct prog (Ko n l) 306 [eI n,lT l] (fun r=>.sh (eI r)):=Fj f306 0x9ad8a9788005437200bcd8c3d20191a705dd [] [.tmp 4] (h:=fun r h b c=>by
  unfold Ko at h;have:HA 0 5 1 0 fun(a:Int)(_:Unit)=>[(5,.tv (eI a))]:=⟨⟩;exact nz)
instance yX(p:ec)(a:Int):Ct prog (J4 p a) 307 [A7 p,eI a] (fun r=>.sh (eB r)):=Fj f307 0x9a05b703a985016e0241df7600757638b70381de [] [.tmp 4] (h:=fun r h c d=>by
  unfold J4 at h;have:HA 0 5 2 2 fun(b:Int)(_:Unit)=>[(5,.tv (eI b))]:=⟨⟩;exact nz)
instance xG(t:AC)(p:ec):Ct prog (Gd t p) 233 [AP t,A7 p] (fun r=>.sh (eI r)):=Fj f233 0x9a0d5ea9b138440062ac010d5ec37803b9ac31085e037091927d9efeac6e9efe6e9e01085dcb0249715c558036cb05c9c5df7631757601085e03f86c03b9380b769105ac38ac37b1adecad376ff236019b [] [.tmp 4] (h:=fun r h c d=>by
  unfold Gd at h;have:HA 0 8 3 2 fun(a:Int)(_:Unit)=>[(8,.tv (eI a))]:=⟨⟩;have:HA 2 13 3 3 fun(b:Int)(_:Unit)=>[(13,.tv (eI b))]:=⟨⟩;exact nz)
instance zy(c:d7):Ct prog (Gu c) 412 [AK c] (fun r=>.sh (eB r)):=Fj f412 0xa1057e41b9fe6c030441b90b5e41b930a86c3174b96c6e5bb96c7d9e0b6e9ef4 [] [.tmp 2] (h:=fun r h a b=>by
  unfold Gu at h;exact nz)
instance zT(c:d7):Ct prog (Ky c) 369 [AK c] (fun r=>.sh (eB r)):=Fj f369 0x81ff37daa8a10ea538e61904e1601904e1a8a10ea538e6a8a10ea538e6a88332f4 [] [.tmp 2] (h:=fun r h b d=>by
  unfold Ky at h;have:HJ 25 fun(a:Bool)=>[(25,.tv (eB a))]:=⟨⟩;exact nz)
abbrev Q_315(n:Nat):Prop:=∀(c:d7),Ct prog (D5 n c) 315 [AK c] (fun r=>.sh (eB r))
theorem qk(n:Nat)(_ih_315:Q_315 n)(c:d7):Ct prog (D5 (n+1) c) 315 [AK c] (fun r=>.sh (eB r)):=Fj f315 0x9a3102a9b1a509cc00755c013102c3b1a5f4 [] [.tmp 2] (h:=fun r h b d=>by
  unfold D5 at h;have:HA 0 3 1 1 fun(a:Int)(_:Unit)=>[(3,.tv (eI a))]:=⟨⟩;exact nz)
theorem qj:∀n:Nat,Q_315 n:=by
  intro n
  induction n with
  |zero=>exact(fun c=>⟨fun _ h=>by cases h⟩)
  |succ n a=>exact qk n a
instance yf(c:d7):Ct prog (M0 c) 315 [AK c] (fun r=>.sh (eB r)):=⟨fun r h=>by
  obtain ⟨N,a⟩:=Ck h;exact((qj N) c).snd r (a N (bk _))⟩
abbrev Q_316(n:Nat):Prop:=∀(c:d7),Ct prog (Eg n c) 316 [AK c] (fun r=>.tp [eI r.1,eI r.2])
theorem qn(n:Nat)(_ih_316:Q_316 n)(c:d7):Ct prog (Eg (n+1) c) 316 [AK c] (fun r=>.tp [eI r.1,eI r.2]):=Fj f316 0x8c306a026a02600185556ae1066ae970302c30a78c71a509cc6ae1755c01066ae9818c309300 [] [.tmp 2,.tmp 3] (h:=fun r h e f=>by
  unfold Eg at h;have:HA 0 6 1 1 fun(b:Int)(a:Int×Int)=>[(4,.tv (eI a.1)),(5,.tv (eI a.2)),(6,.tv (eI b))]:=⟨⟩;have:HJ 33 fun(d:Int)=>[(5,.tv (eI d))]:=⟨⟩;exact nz)
theorem ql:∀n:Nat,Q_316 n:=by
  intro n
  induction n with
  |zero=>exact(fun c=>⟨fun _ h=>by cases h⟩)
  |succ n a=>exact qn n a
instance yg(c:d7):Ct prog (N5 c) 316 [AK c] (fun r=>.tp [eI r.1,eI r.2]):=⟨fun r h=>by
  obtain ⟨N,a⟩:=Ck h;exact((ql N) c).snd r (a N (bk _))⟩
instance xQ(c:d7):Ct prog (Kw c) 246 [AK c] (fun r=>.sh (eI r)):=Fj f246 0xf8a7055d8171a537b1a5f4 [] [.tmp 2] (h:=fun r h a b=>by
  unfold Kw at h;exact nz)
instance wK(a:d5)(b:d5)(m:d6):Ct prog (GY a b m) 179 [Ak a,Ak b,Ao m] (fun r=>.sh (eI r)):=Fj f179 0x9a0abe04709105765f76ed5c5f5c553785d59f9fe2e2c843a25c5cc8cc91daa25c38a25c00755c77be04816a7e09be04a985a2555fa2d5916c55a2eda2556a7e75550109be04f8dae638c1c1faec367f9b [] [.tmp 6] (h:=fun r h e f=>by
  unfold GY at h;have:HA 0 9 3 0 fun(c:Int)(_:Unit)=>[(9,.tv (eI c))]:=⟨⟩;have:HA 2 10 3 1 fun(d:Int)(_:Unit)=>[(10,.tv (eI d))]:=⟨⟩;exact nz)
instance wL(l:Fp):Ct prog (Ef l) 180 [lI l] (fun r=>.sh (eB r)):=Fj f180 0x9a039770039704030003a985b6b603976230040300039abc0397816301 [] [.tmp 2] (h:=fun r h c d=>by
  unfold Ef at h;have:HA 0 3 0 0 fun(b:Int)(_:Unit)=>[(3,.tv (eI b))]:=⟨⟩;have:HA 2 4 3 0 fun(a:Int)(_:Unit)=>[(4,.tv (eI a))]:=⟨⟩;exact nz)
instance vE(a:d5)(b:d5)(m:d6):Ct prog (Hi a b m) 115 [Ak a,Ak b,Ao m] (fun r=>.sh (eB r)):=Fj f115 0xa10e5c770eed0e36967f9b [] [.tmp 6] (h:=fun r h c d=>by
  unfold Hi at h;exact nz)
instance zU(p:ec)(a:Int):Ct prog (MR p a) 370 [A7 p,eI a] (fun r=>.sh (eB r)):=Fj f370 0x9a05b703a985016e0241df7600757638b70381de [] [.tmp 4] (h:=fun r h c d=>by
  unfold MR at h;have:HA 0 5 2 2 fun(b:Int)(_:Unit)=>[(5,.tv (eI b))]:=⟨⟩;exact nz)
instance yh(t:AC)(a:Int)(q:ec):Ct prog (Kx t a q) 317 [AP t,eI a,A7 q] (fun r=>.sh (eI r)):=Fj f317 0x9a730503a901b138440062ac0173050381d078807c8501ac016130 [] [.tmp 6] (h:=fun r h c d=>by
  unfold Kx at h;have:HA 0 8 5 3 fun(b:Int)(_:Unit)=>[(8,.tv (eI b))]:=⟨⟩;exact nz)
abbrev Q_247(n:Nat):Prop:=∀(t:AC)(p:ec)(c:d7),Ct prog (Ep n t p c) 247 [AP t,A7 p,AK c] (fun r=>.sh (eI r))
theorem qZ(n:Nat)(_ih_247:Q_247 n)(t:AC)(p:ec)(c:d7):Ct prog (Ep (n+1) t p c) 247 [AP t,A7 p,AK c] (fun r=>.sh (eI r)):=Fj f247 0x9a0a07050304a978a509cc803600755c77070503048107057e07057e3cc480b937b1369ee7b9adfa369ee7b9adfa80b9ac368555c409c9807f9b [] [.tmp 6] (h:=fun r h b d=>by
  unfold Ep at h;have:HA 0 10 5 1 fun(a:Int)(_:Unit)=>[(10,.tv (eI a))]:=⟨⟩;exact nz)
theorem qY:∀n:Nat,Q_247 n:=by
  intro n
  induction n with
  |zero=>exact(fun t p c=>⟨fun _ h=>by cases h⟩)
  |succ n a=>exact qZ n a
instance xR(t:AC)(p:ec)(c:d7):Ct prog (Uo t p c) 247 [AP t,A7 p,AK c] (fun r=>.sh (eI r)):=⟨fun r h=>by
  obtain ⟨N,a⟩:=Ck h;exact((qY N) t p c).snd r (a N (bk _))⟩
instance vq(t:AC)(p:ec)(c:d7):Ct prog (JP t p c) 161 [AP t,A7 p,AK c] (fun r=>.sh (eI r)):=Fj f161 0x810ea580eca5fa80367f9b [] [.tmp 6] (h:=fun r h a b=>by
  unfold JP at h;exact nz)
instance yY(t:AC)(p:ec)(a:Int):Ct prog (MS t p a) 308 [AP t,A7 p,eI a] (fun r=>.sh (eI r)):=Fj f308 0x9a0a070402047091055c7ddf7638556edf760062300a07040204f8057d9efe7d9efeac6e9efe6e9e776c015c385c01d45f55cd7c8a6ccded55cb05c9c5df760161b7 [] [.tmp 6] (h:=fun r h c d=>by
  unfold MS at h;have:HA 0 10 2 0 fun(b:Int)(_:Unit)=>[(10,.tv (eI b))]:=⟨⟩;exact nz)
instance xH(t:AC)(a:gt):Ct prog (Kz t a) 234 [AP t,B1 a] (fun r=>.sh (eI r)):=Fj f234 0x9a065e03a9783844b83600755e41b801065e03c3d25e41b8916c030441b8387e41b47e41b837b1e7b8ece7b8019b [] [.tmp 4] (h:=fun r h c d=>by
  unfold Kz at h;have:HA 0 6 3 8 fun(b:Int)(_:Unit)=>[(6,.tv (eI b))]:=⟨⟩;exact nz)
instance yd(l:Fp)(n:Int):Ct prog (F6 l n) 313 [lI l,eI n] (fun r=>.sh (eI r)):=Fj f313 0x9ad87091055fa75f72ba91ba5ff3b600bcd881e4 [] [.tmp 4] (h:=fun r h b c=>by
  unfold F6 at h;have:HA 0 5 0 0 fun(a:Int)(_:Unit)=>[(5,.tv (eI a))]:=⟨⟩;exact nz)
instance ye(l:Fp)(n:Int):Ct prog (Nr l n) 314 [lI l,eI n] (fun r=>.sh (eB r)):=Fj f314 0x9ad8a98501b600bcd881e4 [] [.tmp 4] (h:=fun r h b c=>by
  unfold Nr at h;have:HA 0 5 0 0 fun(a:Int)(_:Unit)=>[(5,.tv (eI a))]:=⟨⟩;exact nz)
instance xO(g:d5)(p:BA):Ct prog (NN g p) 244 [Ak g,GL p] (fun r=>.sh (eI r)):=Fj f244 0x9a075e03709192765501925c559fe2c843a25c5c00755c01075e03c378e65cfac155019b [] [.tmp 4] (h:=fun r h b c=>by
  unfold NN at h;have:HA 0 7 3 1 fun(a:Int)(_:Unit)=>[(7,.tv (eI a))]:=⟨⟩;exact nz)
instance ve(g:d5)(p:BA):Ct prog (Hz g p) 151 [Ak g,GL p] (fun r=>.sh (eI r)):=Fj f151 0x810e36ec36019b [] [.tmp 4] (h:=fun r h a b=>by
  unfold Hz at h;exact nz)
instance vf(l:Fp)(n:Int):Ct prog (H0 l n) 152 [lI l,eI n] (fun r=>.sh (eI r)):=Fj f152 0x9ad8a9018501b600bcd881e4 [] [.tmp 4] (h:=fun r h b c=>by
  unfold H0 at h;have:HA 0 5 0 0 fun(a:Int)(_:Unit)=>[(5,.tv (eI a))]:=⟨⟩;exact nz)
instance c97(g:d5)(p:BA):Ct prog (HE g p) 97 [Ak g,GL p] (fun r=>.tp [Ak r.1,Ao r.2.1,eI r.2.2]):=Fj f97 0x6a023b819d9d044601485cb2014855b23608be040a086a5e0670fbb40348034707460e76550e5cd504b49fe2c843a25c5c08be04755c77086a5e0681086a5e0509086a5e0670fb3201e35fa2d50432086a5e0575550109086a5e068107c9379d9de14602d90e9601f107c99b [] [.cell 4 (some 2),.cell 5 (some 2),.tmp 6] (h:=fun r h e f=>by
  unfold HE at h;have:HA 0 9 3 0 fun(c:Int)(b:d5)=>[(8,.bx [⟨true,lI b.d3⟩,⟨true,lE b.d4⟩]),(9,.tv (eI c))]:=⟨⟩;have:HA 2 10 3 1 fun(d:Int)(a:d5)=>[(8,.bx [⟨true,lI a.d3⟩,⟨true,lE a.d4⟩]),(10,.tv (eI d))]:=⟨⟩;exact nz)
instance xI(a:gt):Ct prog (MT a) 235 [B1 a] (fun r=>.sh (eI r)):=Fj f235 0x810e360d42e7b836019d9d084907c91171360b42e7b4fa360b42e7b4f4 [] [.tmp 2] (h:=fun r h b c=>by
  unfold MT at h;exact nz)
instance zQ(l:Fp)(n:Int):Ct prog (PU l n) 366 [lI l,eI n] (fun r=>.sh (eB r)):=Fj f366 0x9ad8a98501b600bcd881e4 [] [.tmp 4] (h:=fun r h b c=>by
  unfold PU at h;have:HA 0 5 0 0 fun(a:Int)(_:Unit)=>[(5,.tv (eI a))]:=⟨⟩;exact nz)
instance yZ(n:Int)(l:Fp):Ct prog (KP n l) 309 [eI n,lI l] (fun r=>.own (lI r)):=Fj f309 0x8202baf570f5f53cb7e3aab130ba6230f5dcc001406302 [] [.tmp 4] (h:=fun r h c d=>by
  unfold KP at h;have:HA 0 6 0 0 fun(a:Int)(b:Fp)=>[(5,.ow (lI b)),(6,.tv (eI a))]:=⟨⟩;exact nz)
instance xJ(a:gt):Ct prog (JE a) 236 [B1 a] (fun r=>.tp [lI r.1,lI r.2]):=Fj f236 0x82820e7d0d420b3174b80e6e0d420b6e5bb8014001eb00 [] [.tmp 2,.tmp 3] (h:=fun r h b c=>by
  unfold JE at h;exact nz)
instance xK(t:AC)(g:d5)(b:Fp)(a:Fp):Ct prog (J6 t g b a) 237 [AP t,Ak g,lI b,lI a] (fun r=>.sh (eB r)):=Fj f237 0x9a0abe04a9b15f76555f5cd5369fe2c843b65c00bc0abe04816a7e096a5e05a9830241b35fb6d56a7ebc096a5e05dc615e02 [] [.tmp 8] (h:=fun r h e f=>by
  unfold J6 at h;have:HA 0 9 2 0 fun(c:Int)(_:Unit)=>[(9,.tv (eI c))]:=⟨⟩;have:HA 2 10 3 0 fun(d:Int)(_:Unit)=>[(10,.tv (eI d))]:=⟨⟩;exact nz)
instance vc(t:AC)(a:gt):Ct prog (JQ t a) 146 [AP t,B1 a] (fun r=>.sh (eI r)):=Fj f146 0x810ea5104280b47cb130e7b83682d4d191927d0d4201926e0d42fad1fad1ec80b47cb155376ff236019b [] [.tmp 4] (h:=fun r h b c=>by
  unfold JQ at h;exact nz)
instance c93(t:AC)(a:List gt):Ct prog (K3 t a) 93 [AP t,(eL 25 B1) a] (fun r=>.sh (eI r)):=Fj f93 0x9a07b703a978d11943303600bc07b703c3d2d06ff236de [] [.tmp 4] (h:=fun r h c d=>by
  unfold K3 at h;have:HA 0 7 1 0 fun(b:Int)(_:Unit)=>[(7,.tv (eI b))]:=⟨⟩;exact nz)
instance c53(t:AC)(a:List gt)(b:AG):Ct prog (JT t a b) 53 [AP t,(eL 25 B1) a,BX b] (fun r=>.sh (eI r)):=Fj f53 0x815df265ecbb016130 [] [.tmp 6] (h:=fun r h c d=>by
  unfold JT at h;exact nz)
instance c63(t:AC):Ct prog (J1 t) 63 [AP t] (fun r=>.sh (eB r)):=Fj f63 0x9a08aaa9850c6e07cc00755c0108aa8130043103700431036a3104706a3104c66a3106a9850ca2ac6a310475ac01c66a3106f86cac380c55cb02c9c5df7e41df55043103757e41dfed043104f8050c6edfed306c7e41df55727555e931038c91da38c1f4 [] [.tmp 2] (h:=fun r h f g=>by
  unfold J1 at h;have:HA 0 4 1 0 fun(b:Int)(d:Int)=>[(3,.tv (eI d)),(4,.tv (eI b))]:=⟨⟩;have:HW 2 fun(a:Int)=>[(5,.tv (eI a))]:=⟨⟩;have:HW 4 fun(e:Int)=>[(7,.tv (eI e))]:=⟨⟩;have:HA 6 8 1 1 fun(c:Int)(_:Unit)=>[(8,.tv (eI c))]:=⟨⟩;exact nz)
instance c31(m:d6)(n:Int):Ct prog (J2 m n) 31 [Ao m,eI n] (fun r=>.sh (eB r)):=Fj f31 0xa838e6c1de [] [.tmp 4] (h:=fun r h a b=>by
  unfold J2 at h;exact nz)
instance vn(p:ec):Ct prog (Ih p) 158 [A7 p] (fun r=>.sh (eB r)):=Fj f158 0xa16c03b9776c7669adf4 [] [.tmp 2] (h:=fun r h a b=>by
  unfold Ih at h;exact nz)
instance vo(p:BA)(n:Int):Ct prog (PT p n) 159 [GL p,eI n] (fun r=>.sh (eB r)):=Fj f159 0xa838e6c1de [] [.tmp 4] (h:=fun r h a b=>by
  unfold PT at h;exact nz)
abbrev Q_245(n:Nat):Prop:=∀(c:d7)(a:Int),Ct prog (CW n c a) 245 [AK c,eI a] (fun r=>.sh (eI r))
theorem qX(n:Nat)(_ih_245:Q_245 n)(c:d7)(a:Int):Ct prog (CW (n+1) c a) 245 [AK c,eI a] (fun r=>.sh (eI r)):=Fj f245 0x81f3b703706901a509cc30ff8aa7da38b703f892369e019280b938309330 [] [.tmp 4] (h:=fun r h d e=>by
  unfold CW at h;have:HW 0 fun(b:Int×Int)=>[(1,.tv (eI b.1)),(5,.tv (eI b.2))]:=⟨⟩;exact nz)
theorem qW:∀n:Nat,Q_245 n:=by
  intro n
  induction n with
  |zero=>exact(fun c tc=>⟨fun _ h=>by cases h⟩)
  |succ n a=>exact qX n a
instance xP(c:d7)(a:Int):Ct prog (ON c a) 245 [AK c,eI a] (fun r=>.sh (eI r)):=⟨fun r h=>by
  obtain ⟨N,b⟩:=Ck h;exact((qW N) c a).snd r (b N (bk _))⟩
instance vp(c:d7):Ct prog (Ii c) 160 [AK c] (fun r=>.sh (eB r)):=Fj f160 0xa80ea5f4 [] [.tmp 2] (h:=fun r h a b=>by
  unfold Ii at h;exact nz)
instance uy(a:gt):Ct prog (Nt a) 105 [B1 a] (fun r=>.sh (eB r)):=Fj f105 0xa10ea51042770e360d42770e360b42770e80b8770e80b4380c55f4 [] [.tmp 2] (h:=fun r h b c=>by
  unfold Nt at h;exact nz)
instance xZ(t:AC)(p:d5)(g:d5):Ct prog (Gc t p g) 257 [AP t,Ak p,Ak g] (fun r=>.sh (eI r)):=Fj f257 0xf89296019236ecec7c6ff2367f9b [] [.tmp 6] (h:=fun r h a b=>by
  unfold Gc at h;exact nz)
instance xS(t:AC)(p:d5)(g:d5):Ct prog (Kr t p g) 248 [AP t,Ak p,Ak g] (fun r=>.sh (eB r)):=Fj f248 0xa10a0ada776ceddac1380e3696770e36770e3669367f9b [] [.tmp 6] (h:=fun r h a b=>by
  unfold Kr at h;exact nz)
instance vr(t:AC)(p:ec)(a:AG):Ct prog (NP t p a) 162 [AP t,A7 p,BX a] (fun r=>.sh (eB r)):=Fj f162 0xa10eadad36770e6569807f9b [] [.tmp 6] (h:=fun r h b c=>by
  unfold NP at h;exact nz)
abbrev Q_163(n:Nat):Prop:=∀(c:d7),Ct prog (FG n c) 163 [AK c] (fun r=>.sh (eB r))
theorem qP(n:Nat)(_ih_163:Q_163 n)(c:d7):Ct prog (FG (n+1) c) 163 [AK c] (fun r=>.sh (eB r)):=Fj f163 0xa86c3174b90b6e5bb9303102a9b1a509cc30755c01310281f4 [] [.tmp 2] (h:=fun r h b d=>by
  unfold FG at h;have:HA 0 3 1 1 fun(a:Int)(_:Unit)=>[(3,.tv (eI a))]:=⟨⟩;exact nz)
theorem qO:∀n:Nat,Q_163 n:=by
  intro n
  induction n with
  |zero=>exact(fun c=>⟨fun _ h=>by cases h⟩)
  |succ n a=>exact qP n a
instance vt(c:d7):Ct prog (O0 c) 163 [AK c] (fun r=>.sh (eB r)):=⟨fun r h=>by
  obtain ⟨N,a⟩:=Ck h;exact((qO N) c).snd r (a N (bk _))⟩
abbrev Q_164(n:Nat):Prop:=∀(p:ec)(c:d7)(b:Int)(a:Int),Ct prog (Ds n p c b a) 164 [A7 p,AK c,eI b,eI a] (fun r=>.sh (eB r))
theorem qR(n:Nat)(_ih_164:Q_164 n)(p:ec)(c:d7)(b:Int)(a:Int):Ct prog (Ds (n+1) p c b a) 164 [A7 p,AK c,eI b,eI a] (fun r=>.sh (eB r)):=Fj f164 0xa877010dbd055e06a9b130a509cc800a01755c010dbd055e06a109055e050cbd055e06703830bd055e0575fc010cbd055e06810bfcbd6a5e060bbd6a5e07703830bd6a5e0675cd010bbd6a5e07810bcd81096a5e05096a5e053cc480b98555c409c98001615e02 [] [.tmp 8] (h:=fun r h i j=>by
  unfold Ds at h;have:HJ 17 fun(d:ec)=>[(9,.bx [⟨false,lI d.d5.d3⟩,⟨false,lE d.d5.d4⟩,⟨false,lS d.fq⟩,⟨false,eI d.hT⟩,⟨false,lT d.pq⟩])]:=⟨⟩;have:HW 0 fun(f:Int×Int)=>[(10,.tv (eI f.1)),(11,.tv (eI f.2))]:=⟨⟩;have:HW 2 fun(e:Int×Int)=>[(10,.tv (eI e.1)),(12,.tv (eI e.2))]:=⟨⟩;have:HA 4 13 5 1 fun(g:Int)(_:Unit)=>[(13,.tv (eI g))]:=⟨⟩;exact nz)
theorem qQ:∀n:Nat,Q_164 n:=by
  intro n
  induction n with
  |zero=>exact(fun p c ei em=>⟨fun _ h=>by cases h⟩)
  |succ n a=>exact qR n a
instance vu(p:ec)(c:d7)(b:Int)(a:Int):Ct prog (N4 p c b a) 164 [A7 p,AK c,eI b,eI a] (fun r=>.sh (eB r)):=⟨fun r h=>by
  obtain ⟨N,d⟩:=Ck h;exact((qQ N) p c b a).snd r (d N (bk _))⟩
instance uz(t:AC)(p:ec)(c:d7)(a:AG):Ct prog (Kv t p c a) 106 [AP t,A7 p,AK c,BX a] (fun r=>.sh (eB r)):=Fj f106 0xa10a0ea580776cfc776ccd770ea569658036380ea5807c8a92657792800192a501619b [] [.tmp 8] (h:=fun r h b d=>by
  unfold Kv at h;exact nz)
instance c64(t:AC)(b:gt)(a:AG):Ct prog (JS t b a) 64 [AP t,B1 b,BX a] (fun r=>.sh (eB r)):=Fj f64 0xa10e65a5104280b436770ed169367f9b [] [.tmp 6] (h:=fun r h c d=>by
  unfold JS at h;exact nz)
abbrev Q_65(n:Nat):Prop:=∀(p:ec)(c:d7)(a:Int),Ct prog (Cy n p c a) 65 [A7 p,AK c,eI a] (fun r=>.sh (eB r))
theorem uK(n:Nat)(_ih_65:Q_65 n)(p:ec)(c:d7)(a:Int):Ct prog (Cy (n+1) p c a) 65 [A7 p,AK c,eI a] (fun r=>.sh (eB r)):=Fj f65 0xa8aa7707040204a9b101a509cc80026d8aa7da77070402048107040203090704020470380107040203ff8aa76cfc010907040204810bfc07045e0473045e0570380107045e04ff8aa76ccd0173045e05810bcd07045e0407045e043cc480b98555c409c9800161b7 [] [.tmp 6] (h:=fun r h g i=>by
  unfold Cy at h;have:HJ 14 fun(b:ec)=>[(7,.bx [⟨false,lI b.d5.d3⟩,⟨false,lE b.d5.d4⟩,⟨false,lS b.fq⟩,⟨false,eI b.hT⟩,⟨false,lT b.pq⟩])]:=⟨⟩;have:HW 0 fun(e:Int×Int)=>[(2,.tv (eI e.1)),(8,.tv (eI e.2))]:=⟨⟩;have:HW 2 fun(d:Int×Int)=>[(2,.tv (eI d.1)),(9,.tv (eI d.2))]:=⟨⟩;have:HW 4 fun(f:Int)=>[(10,.tv (eI f))]:=⟨⟩;exact nz)
theorem uJ:∀n:Nat,Q_65 n:=by
  intro n
  induction n with
  |zero=>exact(fun p c a=>⟨fun _ h=>by cases h⟩)
  |succ n b=>exact uK n b
instance c65(p:ec)(c:d7)(a:Int):Ct prog (LB p c a) 65 [A7 p,AK c,eI a] (fun r=>.sh (eB r)):=⟨fun r h=>by
  obtain ⟨N,b⟩:=Ck h;exact((uJ N) p c a).snd r (b N (bk _))⟩
instance c26(t:AC)(a:List gt)(b:AG):Ct prog (K0 t a b) 26 [AP t,(eL 25 B1) a,BX b] (fun r=>.sh (eB r)):=Fj f26 0xa10a6cfc776ccdf30e65bb070531047305310570770ea510411943308001411943720a6c6e5b06411943720a6c317401411943720a6c6e5b01411943303037b165d11943303607053104bc730531058c919265779236776c300a6c306c306130 [] [.tmp 6] (h:=fun r h e f=>by
  unfold K0 at h;have:HA 0 8 1 0 fun(c:Int)(d:Bool)=>[(7,.tv (eB d)),(8,.tv (eI c))]:=⟨⟩;exact nz)
instance c22(m:AL)(n:Int):Ct prog (Gi m n) 22 [BU m,eI n] (fun r=>.sh (eB r)):=Fj f22 0xa1ba0b766901adde [] [.tmp 4] (h:=fun r h a b=>by
  unfold Gi at h;exact nz)
instance c39(d:AZ)(a:Int):Ct prog (Nu d a) 39 [DE d,eI a] (fun r=>.sh (eB r)):=Fj f39 0x9a050202a9b1650141dfac0075ac380202f8ba0bac01926532de [] [.tmp 4] (h:=fun r h c e=>by
  unfold Nu at h;have:HA 0 5 2 3 fun(b:Int)(_:Unit)=>[(5,.tv (eI b))]:=⟨⟩;exact nz)
instance c52(g:d5):Ct prog (IR g) 52 [Ak g] (fun r=>.oag [⟨true,lI r.d3⟩,⟨true,lE r.d4⟩]):=Fj f52 0xb73b02503f03485c0347014855b207c99300 [.Aaz [.w 6,.w 10]] [.cell 2 (some 2)] (h:=fun r h a b=>by
  unfold IR at h;exact nz)
instance c18(a:AG):Ct prog (Gr a) 18 [BX a] (fun r=>.oag [⟨true,lI r.d5.d3⟩,⟨true,lE r.d5.d4⟩,⟨true,.xn (List.map lI r.gn)⟩]):=Fj f18 0x35003535e02045ee9701f9e2122014fa2760156239e5e027576e95ee981035017c93f1bad17c99300 [.Aaz [.g 7 0 2,.g 7 1 2,.z ⟨true,.xn []⟩]] [.cell 2 (some 3)] (h:=fun r h d e=>by
  unfold Gr at h;have:HA 0 4 1 2 fun(c:Int)(b:AG)=>[(3,.bx [⟨true,lI b.d5.d3⟩,⟨true,lE b.d5.d4⟩,⟨true,.xn (List.map lI b.gn)⟩]),(4,.tv (eI c))]:=⟨⟩;exact nz)
instance vF(t:AC)(b:gt)(a:AG):Ct prog (H3 t b a) 118 [AP t,B1 b,BX a] (fun r=>.sh (eI r)):=Fj f118 0x815df265ecd1367f9b [] [.tmp 6] (h:=fun r h c d=>by
  unfold H3 at h;exact nz)
instance c48(a:Fp)(b:Fp):Ct prog (Gh a b) 48 [lI a,lI b] (fun r=>.sh (eB r)):=Fj f48 0x9ad8a985b6b600bcd8c3d2010bdd [] [.tmp 4] (h:=fun r h d e=>by
  unfold Gh at h;have:HA 0 5 0 0 fun(c:Int)(_:Unit)=>[(5,.tv (eI c))]:=⟨⟩;exact nz)
instance yj(l:Fp):Ct prog (IV l) 322 [lI l] (fun r=>.sh (eB r)):=Fj f322 0x9a039770039704030003a985b6b603976230040300039abc0397816301 [] [.tmp 2] (h:=fun r h c d=>by
  unfold IV at h;have:HA 0 3 0 0 fun(b:Int)(_:Unit)=>[(3,.tv (eI b))]:=⟨⟩;have:HA 2 4 3 0 fun(a:Int)(_:Unit)=>[(4,.tv (eI a))]:=⟨⟩;exact nz)
instance xa(t:AC)(p:d5)(g:d5)(m:d6)(a:Bool):Ct prog (Ks t p g m a) 258 [AP t,Ak p,Ak g,Ao m,eB a] (fun r=>.sh (eI r)):=Fj f258 0xf80a925c019255300804020cb50405709105765f76ed5c5f5c553785d59f9fe2e2c843a25c5cc8cc91daa25c38a25c080402755c010cb5040581b504040bb56a06a9b1a2555fa2d57c8a6c55a2eda255b504047555010bb56a06f8dae638c1c10161610401 [] [.tmp 10] (h:=fun r h d e=>by
  unfold Ks at h;have:HA 0 11 8 0 fun(b:Int)(_:Unit)=>[(11,.tv (eI b))]:=⟨⟩;have:HA 2 12 8 1 fun(c:Int)(_:Unit)=>[(12,.tv (eI c))]:=⟨⟩;exact nz)
instance wM(t:AC)(p:d5)(g:d5)(m:d6)(a:Bool):Ct prog (H1 t p g m a) 182 [AP t,Ak p,Ak g,Ao m,eB a] (fun r=>.sh (eI r)):=Fj f182 0x810ebb96ec36960161610401 [] [.tmp 10] (h:=fun r h b c=>by
  unfold H1 at h;exact nz)
instance xL(t:AC)(p:ec)(a:AG):Ct prog (JO t p a) 238 [AP t,A7 p,BX a] (fun r=>.sh (eI r)):=Fj f238 0x815df265ec80367f9b [] [.tmp 6] (h:=fun r h b c=>by
  unfold JO at h;exact nz)
instance xh(a:j0)(b:Fp):Ct prog (H2 a b) 265 [OF a,lI b] (fun r=>.sh (eI r)):=Fj f265 0xa85c5f55d05c8555de [] [.tmp 4] (h:=fun r h c d=>by
  unfold H2 at h;exact nz)
instance zS(t:j0)(a:Fp):Ct prog (JL t a) 368 [OF t,lI a] (fun r=>.tp [eI r.1,eB r.2]):=Fj f368 0x8c055c5f55d0818a6c01ed55f95c8555309330 [] [.tmp 4,.tmp 5] (h:=fun r h b c=>by
  unfold JL at h;exact nz)
instance yc(a:Test)(b:Fp):Ct prog (Kn a b) 312 [GM a,lI b] (fun r=>.sh (eB r)):=Fj f312 0xa10a05f355fef355910830085d8171bb03428c71bbb4de [] [.tmp 4] (h:=fun r h c d=>by
  unfold Kn at h;exact nz)
instance xN(p:ec)(a:AG)(m:d6):Ct prog (Gs p a m) 240 [A7 p,BX a,Ao m] (fun r=>.tp [lI r.1,eI r.2]):=Fj f240 0xe0180869087ea9f788201480058403b908017503b969087e81085ebd08be06a9f785012014369e0c0bbd08be080c0bbd08be083cf6057d9e3014f601148a0817d60114385d6e9e815f5c5f5fd576cb05c9c5df76085e7576770908be0681993fac993fac30eb9b [.mkx 1 [.int .i64 0] (.s 16),.mkx 1 [.bool false] (.s 19)] [.tmp 6,.tmp 7] (h:=fun r h e f=>by
  unfold Gs at h;have:HA 0 10 3 2 fun(c:Int)(b:Fp×a6)=>[(8,.xo 1 (List.map eI b.1)),(9,.xo 1 (List.map eB b.2)),(10,.tv (eI c))]:=⟨⟩;have:HA 2 14 3 4 fun(d:Int)(_:Unit)=>[(14,.tv (eI d))]:=⟨⟩;exact nz)
instance wN(t:AC)(p:ec)(a:AG)(m:d6):Ct prog (Kt t p a m) 183 [AP t,A7 p,BX a,Ao m] (fun r=>.tp [lI r.1,eI r.2]):=Fj f183 0xe06b0e36658037f7789632ad7cf7786580363040619b [] [.tmp 8,.tmp 9] (h:=fun r h b c=>by
  unfold Kt at h;exact nz)
instance wO(t:AC)(p:d5)(g:d5)(m:d6):Ct prog (IU t p g m) 184 [AP t,Ak p,Ak g,Ao m] (fun r=>.tp [Ak r.1,eI r.2]):=Fj f184 0x819d360b3e0b08020c0bb50570f65fa2d5011d320b080262151d32010c0bb50581025018c9277c9daad90e96960107c9619b [] [.cell 8 (some 2),.tmp 9] (h:=fun r h b c=>by
  unfold IU at h;have:HW 0 fun(a:d5×Int)=>[(11,.bx [⟨true,.xl 1 (List.map eI a.1.d3)⟩,⟨true,.xl 3 (List.map Bs a.1.d4)⟩]),(12,.tv (eI a.2))]:=⟨⟩;exact nz)
instance xb(l:d5)(g:d5)(a:BA)(m:d6):Ct prog (NO l g a m) 259 [Ak l,Ak g,GL a,Ao m] (fun r=>.sh (eI r)):=Fj f259 0x810e36ec369601619b [] [.tmp 8] (h:=fun r h b c=>by
  unfold NO at h;exact nz)
instance yk(l:Fp)(n:Int):Ct prog (Dg l n) 323 [lI l,eI n] (fun r=>.sh (eB r)):=Fj f323 0x9ad8a98501b600bcd881e4 [] [.tmp 4] (h:=fun r h b c=>by
  unfold Dg at h;have:HA 0 5 0 0 fun(a:Int)(_:Unit)=>[(5,.tv (eI a))]:=⟨⟩;exact nz)
instance xc(a:Fp)(b:Fp):Ct prog (FV a b) 260 [lI a,lI b] (fun r=>.own ((eL 2 PD) r)):=Fj f260 0x8202baf570f5c6900570c69005c690053c0202480247054630028a0a927292f3b6b6f5bcc69005a83801bcf58102c002406302 [] [.tmp 4] (h:=fun r h g i=>by
  unfold FV at h;have:HA 0 6 0 0 fun(c:Int)(f:List F7)=>[(5,.ow ((eL 2 PD) f)),(6,.tv (eI c))]:=⟨⟩;have:HA 2 7 0 0 fun(d:Int)(e:List F7)=>[(5,.ow ((eL 2 PD) e)),(7,.tv (eI d))]:=⟨⟩;exact nz)
instance xf(a:Fp)(b:Fp):Ct prog (I1 a b) 263 [lI a,lI b] (fun r=>.own (lI r)):=Fj f263 0x8202baf570f5f53cb7e3b602b130babcf5dcc001406302 [] [.tmp 4] (h:=fun r h e f=>by
  unfold I1 at h;have:HA 0 6 0 0 fun(c:Int)(d:Fp)=>[(5,.ow (lI d)),(6,.tv (eI c))]:=⟨⟩;exact nz)
instance xd(l:d5)(g:d5)(a:BA)(m:d6):Ct prog (IT l g a m) 261 [Ak l,Ak g,GL a,Ao m] (fun r=>.own (lI r)):=Fj f261 0x820209010bbd070505700bbd07056cbd0705053cb7e3aa8a0a0e5e4103cc300e7d03cc3092015c0901755c010bbd070505e00ed5f701eb611300 [] [.tmp 8] (h:=fun r h d e=>by
  unfold IT at h;have:HA 0 11 5 1 fun(b:Int)(c:Fp)=>[(9,.ow (lI c)),(11,.tv (eI b))]:=⟨⟩;exact nz)
instance xe(n:Int)(l:Fp):Ct prog (KO n l) 262 [eI n,lI l] (fun r=>.own (lI r)):=Fj f262 0x8202baf570f5f53cb7e3aab130ba6230f5dcc001406302 [] [.tmp 4] (h:=fun r h c d=>by
  unfold KO at h;have:HA 0 6 0 0 fun(a:Int)(b:Fp)=>[(5,.ow (lI b)),(6,.tv (eI a))]:=⟨⟩;exact nz)
instance wP(l:d5)(g:d5)(a:BA)(m:d6):Ct prog (Oz l g a m) 185 [Ak l,Ak g,GL a,Ao m] (fun r=>.tp [GL r.1,eI r.2]):=Fj f185 0x8013b819d04460e0e5c5ce60e0ed5c1379d0346d20e36967c9d0346856c0e5c5c0b0ed5379de1d90e969601f1619b [] [.cell 8 (some 2),.tmp 9] (h:=fun r h b c=>by
  unfold Oz at h;exact nz)
instance zV(n:Int)(a:Fp)(m:Fp):Ct prog (IX n a m) 380 [eI n,lI a,lI m] (fun r=>.own (lI r)):=Fj f380 0x821807010907b70470f6b6b6140701bc0907b7048107b703730263057019014fb21907b703623073026305dcce0140026303 [] [.tmp 6] (h:=fun r h f g=>by
  unfold IX at h;have:HA 0 8 0 0 fun(b:Int)(e:Fp)=>[(7,.xo 1 (List.map eI e)),(8,.tv (eI b))]:=⟨⟩;have:HA 2 9 1 0 fun(c:Int)(d:Fp)=>[(7,.xo 1 (List.map eI d)),(9,.tv (eI c))]:=⟨⟩;exact nz)
instance zv(b:AX)(a:Fp):Ct prog (Ex b a) 409 [.pt (RQ b).cells,lI a] (fun r=>.sh (eB r)):=Fj f409 0x9ad860386303d881880107f0b5900670770a055f760176fe5f5c015c38d5309fe2c8847d04740107f0757d047430b590068cffd88a6c0176380b015c9fe2c8847d027463757d027430d881e4 [] [.tmp 4] (h:=fun r h f g=>by
  unfold Ex at h;have:HA 0 5 0 3 fun(c:Int)(_:Unit)=>[(5,.tv (eI c))]:=⟨⟩;have:HA 2 8 0 5 fun(d:Int)(e:Bool)=>[(7,.tv (eB e)),(8,.tv (eI d))]:=⟨⟩;exact nz)
instance zx(a:AX)(l:Fp)(n:Int):Ct prog (Cb a l n) 411 [.pt (RQ a).cells,lI l,eI n] (fun r=>.sh (eB r)):=Fj f411 0x9a0702d7a98501b600ff8a030874306c300702d781aa6303 [] [.tmp 6] (h:=fun r h c d=>by
  unfold Cb at h;have:HW 0 fun(b:Int)=>[(7,.tv (eI b))]:=⟨⟩;exact nz)
noncomputable def Wn:PC:=PC.of Uw f410.body (xq bT 0x1b50263066001b5026306b50263063c005201e3304830470132ffb50263068a055f760176fe5f5c015cfed57720303277baa27d06a638a27d06a69fe2c8847d04a6ca757d04a601b5026306819fe2c8847d02a6fffb0a740248024704460148304701483047040aa632d27d02a65d0be50309a60b030aa6026303) []
theorem rI:CK f410 Wn []:=by decide +kernel
theorem rh:PC.Aae Wn=true/\PC.Aaf 0 Wn=true:=by decide +kernel
abbrev Q_410(n:Nat):Prop:=∀(b:AX)(a:Fp)(l:Fp),Ct prog (B7 n b a l) 410 [.undef,lI a,lI l] (fun r=>.bo (Bg b) (Bg r) 0 [])
theorem qz(n:Nat)(_ih_410:Q_410 n)(b:AX)(a:Fp)(l:Fp):Ct prog (B7 (n+1) b a l) 410 [.undef,lI a,lI l] (fun r=>.bo (Bg b) (Bg r) 0 []):=ib rI rh fun r h e d f=>by
  unfold Wn;unfold f410;unfold B7 at h;have:HW 0 fun(c:AX×Int)=>[(0,.bx (Bg c.1)),(8,.tv (eI c.2))]:=⟨⟩;exact nz
theorem qy:∀n:Nat,Q_410 n:=by
  intro n
  induction n with
  |zero=>exact(fun a ei l=>⟨fun _ h=>by cases h⟩)
  |succ n b=>exact qz n b
instance zw(b:AX)(a:Fp)(l:Fp):Ct prog (LU b a l) 410 [.undef,lI a,lI l] (fun r=>.bo (Bg b) (Bg r) 0 []):=⟨fun r h=>by
  obtain ⟨N,c⟩:=Ck h;exact((qy N) b a l).snd r (c N (bk _))⟩
noncomputable def Wl:PC:=PC.of Uw f367.body (xq bT 0x3804d7603804d76ad73c005201e33048304732ff6ad78a92a26e02a6a26e04a6e75b327720303277baa26e06a638a26e06a6ca756e04a63804d781ff3f0132d26e02a65d0b6d8a08200132380309a60b030aa66302) [.AaE 410 [.s 32,.s 33,.c (.list 1 [])] 0]
theorem rG:CK f367 Wl []:=by decide +kernel
theorem rf:PC.Aae Wl=true/\PC.Aaf 0 Wl=true:=by decide +kernel
abbrev Q_367(n:Nat):Prop:=∀(a:AX)(l:Fp),Ct prog (B8 n a l) 367 [.undef,lI l] (fun r=>.bo (Bg a) (Bg r) 0 [])
theorem qu(n:Nat)(_ih_367:Q_367 n)(a:AX)(l:Fp):Ct prog (B8 (n+1) a l) 367 [.undef,lI l] (fun r=>.bo (Bg a) (Bg r) 0 []):=ib rG rf fun r h d c e=>by
  unfold Wl;unfold f367;unfold B8 at h;have:HW 0 fun(b:AX×Int)=>[(0,.bx (Bg b.1)),(5,.tv (eI b.2))]:=⟨⟩;exact nz
theorem qt:∀n:Nat,Q_367 n:=by
  intro n
  induction n with
  |zero=>exact(fun a l=>⟨fun _ h=>by cases h⟩)
  |succ n b=>exact qu n b
instance zR(a:AX)(l:Fp):Ct prog (IH a l) 367 [.undef,lI l] (fun r=>.bo (Bg a) (Bg r) 0 []):=⟨fun r h=>by
  obtain ⟨N,b⟩:=Ck h;exact((qt N) a l).snd r (b N (bk _))⟩
instance ya(t:AC)(p:d5)(g:d5)(b:d6)(a:Bool)(d:Int):Ct prog (Lg t p g b a d) 310 [AP t,Ak p,Ak g,Ao b,eB a,eI d] (fun r=>.sh ((eL 2 Ao) r)):=Fj f310 0x82030a745b3f5b00c2bf1846309696024061616a02 [.Abt [none,none,none,none,none,none,none,none,none,none,some ⟨true,.list 2 []⟩] (.s 20),.AaE 367 [.s 22,.c (.list 1 [])] 0] [.tmp 12] (h:=fun r h e f=>by
  unfold Lg at h;exact nz)
instance z1(l:Fp)(a:Int)(n:Int):Ct prog (IW l a n) 418 [lI l,eI a,eI n] (fun r=>.sh (eI r)):=Fj f418 0x9a070200037091ba5ff3b600bc07020003c385010b30026303 [] [.tmp 6] (h:=fun r h c d=>by
  unfold IW at h;have:HA 0 7 0 0 fun(b:Int)(_:Unit)=>[(7,.tv (eI b))]:=⟨⟩;exact nz)
instance zW(t:AC)(p:d5)(g:d5)(b:d6)(a:Bool):Ct prog (J3 t p g b a) 381 [AP t,Ak p,Ak g,Ao b,eB a] (fun r=>.tp [(eL 2 Ao) r.1,eI r.2]):=Fj f381 0xe0d002c0d201820ebb967c02c078e6e65c3702c078c1c1553702c08adae638c1c13702c0783696aa4061610401 [] [.tmp 10,.tmp 11] (h:=fun r h c d=>by
  unfold J3 at h;exact nz)
instance wW(a:j0)(b:Fp):Ct prog (EQ a b) 191 [OF a,lI b] (fun r=>.tp [eI r.1,eI r.2]):=Fj f191 0x8c0e017c818a6c01ed55309330 [] [.tmp 4,.tmp 5] (h:=fun r h c d=>by
  unfold EQ at h;exact nz)
instance zX(q:ec)(b:AG)(m:d6)(a:Fp):Ct prog (J5 q b m a) 382 [A7 q,BX b,Ao m,lI a] (fun r=>.tp [lI r.1,eB r.2]):=Fj f382 0xe0180a01120a0403a9f78a0a05f355fef3555d6b0120143603425d6b01201436b4c404c980058403b90a017503b901120a0403a104020def066a06a9f78572816b012014369e0f0e0def066a080f0e0def066a083cf6f6057d9e016e9e146e9e148a0817d66e9e14386e9e815f5c5f5fd576cb05c9c5df760a04027576010def066a0681ef066a050cef06be07700cef06be070cef06be073c19014fb219d272ea6c7214ef066a0562ac010cef06be0781993fac99014f305630eb6131 [.mkx 1 [.bool false] (.s 28)] [.tmp 8,.tmp 9] (h:=fun r h i j=>by
  unfold J5 at h;have:HA 0 12 4 3 fun(e:Int)(d:Fp×a6)=>[(10,.xo 1 (List.map eI d.1)),(11,.xo 1 (List.map eB d.2)),(12,.tv (eI e))]:=⟨⟩;have:HA 2 13 4 2 fun(f:Int)(c:Fp×a6)=>[(10,.xo 1 (List.map eI c.1)),(11,.xo 1 (List.map eB c.2)),(13,.tv (eI f))]:=⟨⟩;have:HA 4 18 4 4 fun(g:Int)(_:Unit)=>[(18,.tv (eI g))]:=⟨⟩;exact nz)
instance yl(t:AC)(c:d7)(b:AG)(m:AL)(a:Bool):Ct prog (Gt t c b m a) 324 [AP t,AK c,BX b,BU m,eB a] (fun r=>.tp [(eL 3 BU) r.1,eI r.2]):=Fj f324 0xe002100111100e0cb57011100e0cb511100e0cb53c02034803470946bb024330028cd4763602433065801001bc11100e0cb58103c03703c06fd4019632ad369df104460efc7d9e0bfc0ecd6e9e0bcdc409c980b9e14061610401 [] [.tmp 10,.tmp 11] (h:=fun r h f g=>by
  unfold Gt at h;have:HA 0 17 14 0 fun(d:Int)(e:List AL)=>[(16,.ow ((eL 3 BU) e)),(17,.tv (eI d))]:=⟨⟩;exact nz)
abbrev Q_264(n:Nat):Prop:=∀(t:AC)(c:d7)(b:AG)(m:AL)(a:Bool),Ct prog (Dh n t c b m a) 264 [AP t,AK c,BX b,BU m,eB a] (fun r=>.tp [ED r.1,eI r.2])
theorem qc(n:Nat)(_ih_264:Q_264 n)(t:AC)(c:d7)(f:AG)(m:AL)(a:Bool):Ct prog (Dh (n+1) t c f m a) 264 [AP t,AK c,BX f,BU m,eB a] (fun r=>.tp [ED r.1,eI r.2]):=Fj f264 0xa84b0a46ff37c40a460a0117150ac66a0770ff0a013ba84b010c46054780c8433064c40ec97101c8433065a509435c360a01bc17150ac66a07c3c477d9d4016565a536a8a84b0a460a01120ab56a07a9c4010b460547806fc40ec971016565a509cc360a01755c01120ab56a078c05a84b800e0a020f0e0ab56a0870fbb9054805478004b937c477d9c40ec971016565a509cc360e0a02755c010f0e0ab56a08a8500ec93fa8a84b774637c40a4685d0c40ad9c40e4971016565a509435c36a8833269c961610401 [.Aaz [.z ⟨false,.int .i64 0⟩,.z ⟨true,.list 1 []⟩,.z ⟨true,.list 1 []⟩,.z ⟨true,.list 1 []⟩,.z ⟨true,.list 5 []⟩]] [.cell 10 (some 5),.tmp 11] (h:=fun r h k l=>by
  unfold Dh at h;have:HA 1 15 6 1 fun(j:Int)(b:Ay×Ay)=>[(10,.bx [⟨false,eI b.1.AaB⟩,⟨true,lI b.1.og.d6.d3⟩,⟨true,lI b.1.og.d6.d4⟩,⟨true,lI b.1.og.hT⟩,⟨true,G9 b.1.gp⟩]),(14,.bx [⟨false,eI b.2.AaB⟩,⟨true,lI b.2.og.d6.d3⟩,⟨true,lI b.2.og.d6.d4⟩,⟨true,lI b.2.og.hT⟩,⟨true,G9 b.2.gp⟩]),(15,.tv (eI j))]:=⟨⟩;have:HA 3 18 6 1 fun(g:Int)(e:Ay)=>[(10,.bx [⟨false,eI e.AaB⟩,⟨true,lI e.og.d6.d3⟩,⟨true,lI e.og.d6.d4⟩,⟨true,lI e.og.hT⟩,⟨true,G9 e.gp⟩]),(18,.tv (eI g))]:=⟨⟩;have:HA 5 23 21 0 fun(i:Int)(d:Ay)=>[(10,.bx [⟨false,eI d.AaB⟩,⟨true,lI d.og.d6.d3⟩,⟨true,lI d.og.d6.d4⟩,⟨true,lI d.og.hT⟩,⟨true,G9 d.gp⟩]),(23,.tv (eI i))]:=⟨⟩;exact nz)
theorem qa:∀n:Nat,Q_264 n:=by
  intro n
  induction n with
  |zero=>exact(fun t c a m ej=>⟨fun _ h=>by cases h⟩)
  |succ n b=>exact qc n b
instance xg(t:AC)(c:d7)(b:AG)(m:AL)(a:Bool):Ct prog (Pl t c b m a) 264 [AP t,AK c,BX b,BU m,eB a] (fun r=>.tp [ED r.1,eI r.2]):=⟨fun r h=>by
  obtain ⟨N,d⟩:=Ck h;exact((qa N) t c b m a).snd r (d N (bk _))⟩
instance wQ(t:AC)(c:d7)(b:AG)(m:AL)(a:Bool):Ct prog (Ku t c b m a) 186 [AP t,AK c,BX b,BU m,eB a] (fun r=>.tp [eB r.1,eI r.2]):=Fj f186 0x8c38d08164c40e4971016565a5363061610401 [] [.tmp 10,.tmp 11] (h:=fun r h d e=>by
  unfold Ku at h;exact nz)
instance vG(t:AC)(b:gt)(a:AG)(m:AL):Ct prog (KS t b a m) 119 [AP t,B1 b,BX a,BU m] (fun r=>.tp [GL r.1,eI r.2]):=Fj f119 0x819dbb0d0b08030d0b08033c018a0830a78171030f426565a510427c9de14685309df171ad360b42ad7c9de14685309d07c971adade7b47c9d0346b176d09de1d9d4ad6580b47c9d0346850e030f42adade7b43601f1619b [] [.cell 8 (some 2),.tmp 9] (h:=fun r h d e=>by
  unfold KS at h;have:HJ 95 fun(c:Int)=>[(11,.tv (eI c))]:=⟨⟩;exact nz)
instance wR(t:AC)(a:AG)(p:BA):Ct prog (JA t a p) 187 [AP t,BX a,GL p] (fun r=>.tp [BX r.1,eI r.2]):=Fj f187 0x819f650d06020e0d0b06040570fb9e01e301485fa25576b2049e0d06027555690d0b06040581035010c93f7c9f0110d99d9df107c911719632379f0110d9f265360110c9939b [.Aaz [.v (.s 37) 0 2,.v (.s 37) 1 2,.z ⟨true,.list 1 []⟩]] [.cell 6 (some 3),.tmp 7] (h:=fun r h c d=>by
  unfold JA at h;have:HW 0 fun(b:AG×Int)=>[(13,.bx [⟨false,lI b.1.d5.d3⟩,⟨false,lE b.1.d5.d4⟩,⟨true,(eL 1 lI) b.1.gn⟩]),(14,.tv (eI b.2))]:=⟨⟩;exact nz)
instance wU(l:Fp)(n:Int):Ct prog (KN l n) 189 [lI l,eI n] (fun r=>.own (lI r)):=Fj f189 0x8218baf570f5c6900570c69005c690053cf630148501b6f5bcc690058119014fb219ba6230f5dcce01406302 [] [.tmp 4] (h:=fun r h e f=>by
  unfold KN at h;have:HA 0 6 1 0 fun(a:Int)(d:Fp)=>[(5,.xo 1 (List.map eI d)),(6,.tv (eI a))]:=⟨⟩;have:HA 2 7 0 0 fun(b:Int)(c:Fp)=>[(5,.xo 1 (List.map eI c)),(7,.tv (eI b))]:=⟨⟩;exact nz)
instance wT(n:Int)(a:Fp):Ct prog (J7 n a) 188 [eI n,lI a] (fun r=>.own (lI r)):=Fj f188 0x820e72406302 [] [.tmp 4] (h:=fun r h b c=>by
  unfold J7 at h;exact nz)
instance vH(t:AC)(a:AG)(d:BA):Ct prog (LA t a d) 120 [AP t,BX a,GL d] (fun r=>.tp [BX r.1,Ao r.2]):=Fj f120 0xc6023b9d9f04460e5c0bfc0e550bcd65019f10c971366536f110c9939b [] [.cell 6 (some 3),.cell 7 (some 2)] (h:=fun r h b c=>by
  unfold LA at h;exact nz)
instance vI(a:Fp)(b:Fp):Ct prog (Gk a b) 121 [lI a,lI b] (fun r=>.own (lI r)):=Fj f121 0x8202baf570b7e35f5f7202babcf5dcc001406302 [] [.tmp 4] (h:=fun r h e f=>by
  unfold Gk at h;have:HA 0 6 0 0 fun(c:Int)(d:Fp)=>[(5,.ow (lI d)),(6,.tv (eI c))]:=⟨⟩;exact nz)
instance vJ(d:Fp)(c:Fp)(b:Int)(f:Fp)(a:Int):Ct prog (FH d c b f a) 122 [lI d,lI c,eI b,lI f,eI a] (fun r=>.own (lI r)):=Fj f122 0x82020c01cf0b045e000770cf0b045e000760aa01e3aacf0b045e00073cb7e35f5fb6300285b60ce530cf0b045e0007dcc0820e7240045e6305 [] [.tmp 10] (h:=fun r h i j=>by
  unfold FH at h;have:HA 0 13 2 0 fun(g:Int)(e:Int×Fp)=>[(4,.tv (eI e.1)),(12,.ow (lI e.2)),(13,.tv (eI g))]:=⟨⟩;exact nz)
instance wV(a:Fp)(b:Int):Ct prog (HF a b) 190 [lI a,eI b] (fun r=>.sh (eB r)):=Fj f190 0x9ad8a98501b600bcd881e4 [] [.tmp 4] (h:=fun r h d e=>by
  unfold HF at h;have:HA 0 5 0 0 fun(c:Int)(_:Unit)=>[(5,.tv (eI c))]:=⟨⟩;exact nz)
noncomputable def bC:PC:=PC.of Uw f123.body (xq bT 0x35003530806020f09b50506700f09b505060f09b505063cfb0141320348034707465f76555f5cd5040141329fe2c8cc8e017d0d42080602755c010f09b505068109b50505bdb56a07607709b56a07bdb56a073c1f9e212219239e0dbdb56a920d0bbdb56a0a7019014fb27dee190dbdb56a08bc0e0d0bbdb56a0adcce01d4a25536fb5b3201e3a255045b32ffbdb56a07b1016e0d4209b5050575557709b56a07819d07c9e7b817c993ab9b) []
theorem rA:CK f123 bC [.cell 8 (some 3)]:=by decide +kernel
theorem ra:PC.Aae bC=true:=by decide +kernel
instance vK(t:AC)(b:gt)(a:AG)(c:d6):Ct prog (KQ t b a c) 123 [AP t,B1 b,.agg [.undef,.undef,.undef],Ao c] (fun r=>.ag [⟨true,lI a.d5.d3⟩,⟨true,lE a.d5.d4⟩,⟨true,.xn (List.map lI a.gn)⟩] 2 (.oag [⟨true,lI r.d5.d3⟩,⟨true,lE r.d5.d4⟩,⟨true,.xn (List.map lI r.gn)⟩])):=tX rA ra fun r h j i k=>by
  unfold bC;unfold f123;unfold KQ at h;have:HW 0 fun(d:AG×Int)=>[(6,.bx [⟨true,lI d.1.d5.d3⟩,⟨true,lE d.1.d5.d4⟩,⟨true,.xn (List.map lI d.1.gn)⟩]),(10,.tv (eI d.2))]:=⟨⟩;have:HA 2 14 11 0 fun(f:Int)(g:Fp)=>[(13,.xo 1 (List.map eI g)),(14,.tv (eI f))]:=⟨⟩;have:HW 4 fun(e:AG×Int)=>[(6,.bx [⟨true,lI e.1.d5.d3⟩,⟨true,lE e.1.d5.d4⟩,⟨true,.xn (List.map lI e.1.gn)⟩]),(15,.tv (eI e.2))]:=⟨⟩;exact nz
noncomputable def bE:PC:=PC.of Uw f124.body (xq bT 0x819f65073e0a0702130c0a736a07702624017dee252401239e379f10468a055e41b37db37230057db37db37230d4a2cd36815f6eee555d71bb0241ee0a0702bc130c0a736a07810c0a736a06cf0a736a0770cf0a736a07100ecf0a736a09a99f10468a05720a057dee7db3f35f6eee555f6eee555d71bb0241eecf0a736a076230100ecf0a736a09815d71bb0241ee0c0a736a06bccf0a736a07e05e41b80110c993ab610401) []
theorem rB:CK f124 bE [.cell 10 (some 3),.tmp 11]:=by decide +kernel
theorem rb:PC.Aae bE=true:=by decide +kernel
instance vL(t:AC)(e:gt)(a:AG)(c:d6)(b:Fp):Ct prog (Lh t e a c b) 124 [AP t,B1 e,.agg [.undef,.undef,.undef],Ao c,lI b] (fun r=>.ag [⟨true,lI a.d5.d3⟩,⟨true,lE a.d5.d4⟩,⟨true,.xn (List.map lI a.gn)⟩] 2 (.tp [BX r.1,eI r.2])):=tX rB rb fun r h m l n=>by
  unfold bE;unfold f124;unfold Lh at h;have:HA 0 13 12 0 fun(i:Int)(g:AG)=>[(10,.bx [⟨true,lI g.d5.d3⟩,⟨true,lE g.d5.d4⟩,⟨true,(eL 1 lI) g.gn⟩]),(13,.tv (eI i))]:=⟨⟩;have:HA 2 16 13 0 fun(j:Int)(f:AG)=>[(10,.bx [⟨true,lI f.d5.d3⟩,⟨true,lE f.d5.d4⟩,⟨true,(eL 1 lI) f.gn⟩]),(16,.tv (eI j))]:=⟨⟩;have:HA 4 19 12 0 fun(k:Int)(d:AG×AG)=>[(7,.bx [⟨true,lI d.1.d5.d3⟩,⟨true,lE d.1.d5.d4⟩,⟨true,.xn (List.map lI d.1.gn)⟩]),(10,.bx [⟨true,lI d.2.d5.d3⟩,⟨true,lE d.2.d5.d4⟩,⟨true,(eL 1 lI) d.2.gn⟩]),(19,.tv (eI k))]:=⟨⟩;exact nz
instance c74(t:AC)(b:gt)(a:AG)(m:AL):Ct prog (JR t b a m) 74 [AP t,B1 b,BX a,BU m] (fun r=>.tp [On r.1,eI r.2]):=Fj f74 0x81e8194696656565d137e80e468a6cfc380bcd37e8694685309f6baa5776360353d1360d013b03500257361b65d1369df104460ee65c0b3174b87d0d427d0b420ec1550b6e5bb86e0d426e0b429df104460e5cfc0e55cd9d9ff117c97136657ce869d99df1716565d17ce869d90e65d1360111c9619b [] [.cell 8 (some 38),.tmp 9] (h:=fun r h c d=>by
  unfold JR at h;exact nz)
instance yb(p:d5):Ct prog (MP p) 311 [Ak p] (fun r=>.sh (Ao r)):=Fj f311 0x9d36033e5e02055e0370f6011db45e0262151db4385e03815e02045e0370f6011d325e0262151d32e95e0381025019c93f3fe63fc1f19300 [.mkx 1 [.int .i64 0] (.s 8),.mkx 1 [.int .i64 0] (.s 12),.Aaz [.w 9,.w 13]] [.cell 2 (some 2)] (h:=fun r h c d=>by
  unfold MP at h;have:HW 0 fun(a:d6×Int)=>[(3,.bx [⟨true,.xl 1 (List.map eI a.1.d3)⟩,⟨true,.xl 1 (List.map eI a.1.d4)⟩]),(4,.tv (eI a.2))]:=⟨⟩;have:HW 2 fun(b:d6×Int)=>[(3,.bx [⟨true,.xl 1 (List.map eI b.1.d3)⟩,⟨true,.xl 1 (List.map eI b.1.d4)⟩]),(5,.tv (eI b.2))]:=⟨⟩;exact nz)
instance xM(t:AC)(p:d5)(g:d5)(a:Bool):Ct prog (Ns t p g a) 239 [AP t,Ak p,Ak g,eB a] (fun r=>.tp [(eL 2 Ao) r.1,eI r.2]):=Fj f239 0xe0d002c0d201820e6936967c02c0783696aaeb6131 [] [.tmp 8,.tmp 9] (h:=fun r h b c=>by
  unfold Ns at h;exact nz)
instance vd(t:AC)(p:ec)(b:AG)(a:Bool):Ct prog (JC t p b a) 147 [AP t,A7 p,BX b,eB a] (fun r=>.tp [(eL 3 BU) r.1,eI r.2]):=Fj f147 0xe0020d690d0b060505700e0d0b0605050e0d0b0605053c02034803470946bb0243300264d43602433065800d01bc0e0d0b0605058103c03703c06fd401adad7c03c078658036e1eb6131 [] [.tmp 8,.tmp 9] (h:=fun r h e f=>by
  unfold JC at h;have:HA 0 14 11 0 fun(c:Int)(d:List AL)=>[(13,.ow ((eL 3 BU) d)),(14,.tv (eI c))]:=⟨⟩;exact nz)
instance c94(t:AC)(b:gt)(a:AG):Ct prog (Gv t b a) 94 [AP t,B1 b,BX a] (fun r=>.tp [(eL 3 BU) r.1,eI r.2]):=Fj f94 0xe0020b010c0b09be06700c0b09be060c0b09be063c0203480347c843300264e8114971c8433065d1360b01bc0c0b09be068103c03703c06fd4030f426580b47c03c07865d136e1eb9b [] [.tmp 6,.tmp 7] (h:=fun r h e f=>by
  unfold Gv at h;have:HA 0 12 9 0 fun(c:Int)(d:List AL)=>[(11,.ow ((eL 3 BU) d)),(12,.tv (eI c))]:=⟨⟩;exact nz)
instance c54(t:AC)(a:List gt)(b:AG):Ct prog (IY t a b) 54 [AP t,(eL 25 B1) a,BX b] (fun r=>.tp [(eL 4 D4) r.1,eI r.2]):=Fj f54 0xe002080109080531057009080531050cbd080531077002044804471246c84372020908053105bc0cbd08053107c304c06fd465d1194330360801bc09080531058104c0e9406130 [] [.tmp 6,.tmp 7] (h:=fun r h g i=>by
  unfold IY at h;have:HA 0 9 1 0 fun(c:Int)(f:List Bq)=>[(8,.ow ((eL 4 D4) f)),(9,.tv (eI c))]:=⟨⟩;have:HA 2 12 10 0 fun(d:Int)(e:List Bq)=>[(8,.ow ((eL 4 D4) e)),(12,.tv (eI d))]:=⟨⟩;exact nz)
instance c55(t:AC)(a:List gt)(b:AG)(m:Bq):Ct prog (KT t a b m) 55 [AP t,(eL 25 B1) a,BX b,D4 m] (fun r=>.tp [On r.1,eI r.2]):=Fj f55 0x8013b81e86b0e65b465d1194355017ce80e468a6c01ed550111c9936130 [] [.cell 8 (some 38),.tmp 9] (h:=fun r h c d=>by
  unfold KT at h;exact nz)
instance c20(t:AC)(c:List gt)(d:AG)(a:Fp):Ct prog (J8 t c d a) 20 [AP t,(eL 25 B1) c,BX d,lI a] (fun r=>.tp [DE r.1,eI r.2]):=Fj f20 0x81cbc50b3e0b08020c0b0806043107709f651f42fb034204480447c5ee04034201e811c971c5ee65bb0fcf0b08060431090fcf0b0806043109600b30646c01b6ff0b0802d2d0cb0113d9d465bb0b0802bc0c0b080604310781045014c93f1b6537cb1346d2d0cb0113d90e65bb0114c9bf933102 [.Abu (.s 2),.Aaz [.g 31 0 3,.g 31 1 3,.g 31 2 3,.z ⟨true,.list 4 []⟩]] [.cell 8 (some 4),.tmp 9] (h:=fun r h f i=>by
  unfold J8 at h;have:HA 0 12 3 0 fun(e:Int)(b:AG×AZ×AZ)=>[(6,.bx [⟨false,lI b.1.d5.d3⟩,⟨false,lE b.1.d5.d4⟩,⟨false,(eL 1 lI) b.1.gn⟩]),(8,.bx [⟨true,lI b.2.1.tl.d5.d3⟩,⟨true,lE b.2.1.tl.d5.d4⟩,⟨true,(eL 1 lI) b.2.1.tl.gn⟩,⟨true,(eL 4 D4) b.2.1.qo⟩]),(11,.bx [⟨true,lI b.2.2.tl.d5.d3⟩,⟨true,lE b.2.2.tl.d5.d4⟩,⟨true,.xn (List.map lI b.2.2.tl.gn)⟩,⟨true,(eL 4 D4) b.2.2.qo⟩]),(12,.tv (eI e))]:=⟨⟩;exact nz)
instance c88(a:Fp)(b:Fp):Ct prog (IS a b) 88 [lI a,lI b] (fun r=>.sh (eB r)):=Fj f88 0x9ad8a985b6b600bcd8c3d2010bdd [] [.tmp 4] (h:=fun r h d e=>by
  unfold IS at h;have:HA 0 5 0 0 fun(c:Int)(_:Unit)=>[(5,.tv (eI c))]:=⟨⟩;exact nz)
instance c46(a:d5)(b:d5):Ct prog (MM a b) 46 [Ak a,Ak b] (fun r=>.sh (eB r)):=Fj f46 0x9a055e03a9bfc8ccc8cc00755c385e03f8dae60192d5019b [.bin (.a [0,0,0]) .neq (.s 32) (.s 37)] [.tmp 4] (h:=fun r h d e=>by
  unfold MM at h;have:HA 0 5 2 1 fun(c:Int)(_:Unit)=>[(5,.tv (eI c))]:=⟨⟩;exact nz)
instance c47(a:Fp)(b:Fp):Ct prog (JB a b) 47 [lI a,lI b] (fun r=>.sh (eI r)):=Fj f47 0x816c010be4d8a905b6b685b65fddff8a6c726c30d881e4 [] [.tmp 4] (h:=fun r h d e=>by
  unfold JB at h;have:HW 0 fun(c:Int)=>[(5,.tv (eI c))]:=⟨⟩;exact nz)
instance c15(a:AG)(b:AG):Ct prog (MN a b) 15 [BX a,BX b] (fun r=>.sh (eB r)):=Fj f15 0x9a055e03a9850ea276a276007576385e03f86c760b760192adad019b [] [.tmp 4] (h:=fun r h d e=>by
  unfold MN at h;have:HA 0 5 2 2 fun(c:Int)(_:Unit)=>[(5,.tv (eI c))]:=⟨⟩;exact nz)
instance c16(a:d6)(b:d6):Ct prog (OM a b) 16 [Ao a,Ao b] (fun r=>.sh (eB r)):=Fj f16 0xa10e5c5c69d5019b [] [.tmp 4] (h:=fun r h c d=>by
  unfold OM at h;exact nz)
instance c56(a:List Bq)(b:List Bq):Ct prog (Hj a b) 56 [(eL 4 D4) a,(eL 4 D4) b] (fun r=>.sh (eB r)):=Fj f56 0x9ad87091925e410141ee5e410141b3720a92e70141eee70141b3f36eee6eee00bcd8c3d2010bdd [] [.tmp 4] (h:=fun r h d e=>by
  unfold Hj at h;have:HA 0 5 0 0 fun(c:Int)(_:Unit)=>[(5,.tv (eI c))]:=⟨⟩;exact nz)
instance c21(a:AZ)(b:AZ):Ct prog (MU a b) 21 [DE a,DE b] (fun r=>.sh (eB r)):=Fj f21 0xa10eacac6965326532019b [] [.tmp 4] (h:=fun r h c d=>by
  unfold MU at h;exact nz)
end Go.Sf.Sc
