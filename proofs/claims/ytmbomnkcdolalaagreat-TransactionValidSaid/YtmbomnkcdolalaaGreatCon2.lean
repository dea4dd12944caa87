/- Contracts of the functions. -/
import Derived.Test.YtmbomnkcdolalaaGreatCon0
import Derived.Test.YtmbomnkcdolalaaGreatTryzShelf
import Derived.Test.YtmbomnkcdolalaaGreatTw
set_option linter.all false
set_option maxRecDepth 100000
set_option maxHeartbeats 4000000
namespace Go.Sf.Sc
open Go Go.Sf Go.Proofs.Tryz
instance zQ:Ct prog (Nx ) 35 [] (fun r=>.oag [⟨true,lN r.ci⟩,⟨true,lX r.d3⟩]):=Fj f35 0x2503f07473f3f04473f3f04473f3f3f3f04473f17c900 [.bld [.str ⟨#[]⟩,.int .i64 0,.int .i64 0,.list 1 []] [(0,1,.c (.str ⟨#[98,97,108,97,110,99,101]⟩)),(1,1,.c (.int .i64 (-1000))),(2,1,.c (.int .i64 1000))],.bld [.str ⟨#[]⟩,.int .i64 0,.bool false,.list 4 []] [(0,1,.c (.str ⟨#[65,99,99,111,117,110,116]⟩)),(1,1,.c (.int .i64 (-1))),(2,1,.c (.bool true)),(3,1,.s 2)],.bld [.str ⟨#[]⟩,.int .i64 0,.bool false,.list 4 []] [(0,1,.c (.str ⟨#[67,97,115,104]⟩)),(1,1,.c (.int .i64 0))],.lst 1 [.c (.str ⟨#[111,112,101,110]⟩),.c (.str ⟨#[99,108,111,115,101,100]⟩)],.bld [.str ⟨#[]⟩,.int .i64 0,.int .i64 0,.list 1 []] [(0,1,.c (.str ⟨#[115,116,97,116,101]⟩)),(2,1,.c (.int .i64 1)),(3,1,.s 5)],.bld [.str ⟨#[]⟩,.int .i64 0,.bool false,.list 4 []] [(0,1,.c (.str ⟨#[76,111,97,110]⟩)),(1,1,.c (.int .i64 0)),(3,1,.s 7)],.bld [.str ⟨#[]⟩,.int .i64 0,.bool false,.list 4 []] [(0,1,.c (.str ⟨#[80,101,114,115,111,110]⟩)),(1,1,.c (.int .i64 (-1)))],.bld [.str ⟨#[]⟩,.int .i64 0,.int .i64 0,.int .i64 0,.int .i64 0,.int .i64 0,.int .i64 0] [(0,1,.c (.str ⟨#[111,119,110,115]⟩)),(1,1,.c (.int .i64 3)),(2,1,.c (.int .i64 0)),(4,1,.c (.int .i64 (-1))),(5,1,.c (.int .i64 1)),(6,1,.c (.int .i64 1))],.bld [.str ⟨#[]⟩,.int .i64 0,.int .i64 0,.int .i64 0,.int .i64 0,.int .i64 0,.int .i64 0] [(0,1,.c (.str ⟨#[112,97,121,115]⟩)),(1,1,.c (.int .i64 1)),(2,1,.c (.int .i64 1)),(4,1,.c (.int .i64 (-1))),(6,1,.c (.int .i64 (-1)))],.Aay [.w 10,.w 13]] [.cell 0 (some 2)] (h:=fun r h a b=>by
  unfold Nx at h;exact nz)
instance zv(t:AC):Ct prog (Jv t) 66 [AN t] (fun r=>.sh (eB r)):=Fj f66 0x9208d797850c6c07dd0078aa08d78130043603b5043603693604b5693604c569360697850c9ab4693604787675c5693606a1b6b4580c59d502c9b1d87641d859043603787641d8f2043604a1c60c6cd8f2306b7641d8597178900436037f38b65b580b90a2 [] [.tmp 2] (h:=fun r h f g=>by
  unfold Jv at h;have:HA 0 4 1 0 fun(b:Int)(a:Int)=>[(3,.tv (eI a)),(4,.tv (eI b))]:=⟨⟩;have:HW 2 fun(c:Int)=>[(5,.tv (eI c))]:=⟨⟩;have:HW 4 fun(d:Int)=>[(7,.tv (eI d))]:=⟨⟩;have:HA 6 8 1 1 fun(e:Int)(_:Unit)=>[(8,.tv (eI e))]:=⟨⟩;exact nz)
instance c99(g:d4):Ct prog (Ha g) 99 [Aq g] (fun r=>.sh (eB r)):=Fj f99 0x81e05b580b90a2 [] [.tmp 2] (h:=fun r h a b=>by
  unfold Ha at h;exact nz)
instance zw(a:AG):Ct prog (GR a) 67 [Bl a] (fun r=>.sh (eB r)):=Fj f67 0x92360297c39a9e0078e53602a1b6e591a901a2 [] [.tmp 2] (h:=fun r h c d=>by
  unfold GR at h;have:HA 0 3 1 2 fun(b:Int)(_:Unit)=>[(3,.tv (eI b))]:=⟨⟩;exact nz)
instance zj(m:d5)(n:Int):Ct prog (Jw m n) 53 [An m,eI n] (fun r=>.sh (eB r)):=Fj f53 0xb358fe0b90bb [] [.tmp 4] (h:=fun r h a b=>by
  unfold Jw at h;exact nz)
instance uO(p:ea):Ct prog (Ia p) 144 [BC p] (fun r=>.sh (eB r)):=Fj f144 0x81e0a875e09e6aa901a2 [] [.tmp 2] (h:=fun r h a b=>by
  unfold Ia at h;exact nz)
instance uP(p:BA)(n:Int):Ct prog (PL p n) 145 [GE p,eI n] (fun r=>.sh (eB r)):=Fj f145 0xb358fe0b90bb [] [.tmp 4] (h:=fun r h a b=>by
  unfold PL at h;exact nz)
abbrev Q_195(n:Nat):Prop:=∀(c:d6)(a:Int),Ct prog (CW n c a) 195 [AJ c,eI a] (fun r=>.sh (eI r))
theorem pE(n:Nat)(_ih_195:Q_195 n)(c:d6)(a:Int):Ct prog (CW (n+1) c a) 195 [AJ c,eI a] (fun r=>.sh (eI r)):=Fj f195 0x81e8a603b56a01a509dd30ffc6306b5b58a603a18a915502759172e35830bb [] [.tmp 4] (h:=fun r h d e=>by
  unfold CW at h;have:HW 0 fun(b:Int×Int)=>[(1,.tv (eI b.1)),(5,.tv (eI b.2))]:=⟨⟩;exact nz)
theorem pC:∀n:Nat,Q_195 n:=by
  intro n
  induction n with
  |zero=>exact(fun c tn=>⟨fun _ h=>by cases h⟩)
  |succ n a=>exact pE n a
instance vG(c:d6)(a:Int):Ct prog (OH c a) 195 [AJ c,eI a] (fun r=>.sh (eI r)):=⟨fun r h=>by
  obtain ⟨N,b⟩:=Ck h;exact((pC N) c a).snd r (b N (az _))⟩
instance uQ(c:d6):Ct prog (Ib c) 146 [AJ c] (fun r=>.sh (eB r)):=Fj f146 0xb30ea501a2 [] [.tmp 2] (h:=fun r h a b=>by
  unfold Ib at h;exact nz)
instance tX(a:gp):Ct prog (Nk a) 100 [Bs a] (fun r=>.sh (eB r)):=Fj f100 0x81bca51075bc550d75bc550b75bc720675bc72c1580c90a2 [] [.tmp 2] (h:=fun r h b c=>by
  unfold Nk at h;exact nz)
instance vX(t:EH):Ct prog (OF t) 213 [Tw t] (fun r=>.sh (eS r)):=Fj f213 0x815b383f3f5b85593fa2 [.mv (.c (.str ⟨#[]⟩)),.bin (.s) .add (.c (.str ⟨#[34]⟩)) (.s 7),.bin (.s) .add (.s 8) (.c (.str ⟨#[34]⟩))] [.tmp 2] (h:=fun r h a b=>by
  unfold OF at h;exact nz)
instance wk(c:Int):Ct prog (Jt c) 275 [Tx c] (fun r=>.sh (eB r)):=Fj f275 0x810a80ad3080ad30da [] [.tmp 2] (h:=fun r h a b=>by
  unfold Jt at h;exact nz)
instance wl(c:Int):Ct prog (Hs c) 276 [Tx c] (fun r=>.sh (eB r)):=Fj f276 0x8180ad30da [] [.tmp 2] (h:=fun r h a b=>by
  unfold Hs at h;exact nz)
instance wm(b:ByteArray)(c:Int)(a:Bool):Ct prog (Ng b c a) 277 [eS b,eI c,eB a] (fun r=>.sh (eI r)):=Fj f277 0xd00701ff0702d96e0701ff8a0a0a80120530300e1205303008300e120530ad0c58300702d9d0026203 [] [.tmp 6] (h:=fun r h e f=>by
  unfold Ng at h;have:HW 0 fun(d:Int)=>[(7,.tv (eI d))]:=⟨⟩;exact nz)
instance wn(a:ByteArray)(b:Int):Ct prog (Ju a b) 278 [eS a,eI b] (fun r=>.sh (eI r)):=Fj f278 0x928cd4c6add6057012057100610c58308c0381ed [] [.tmp 4] (h:=fun r h d e=>by
  unfold Ju at h;have:HW 0 fun(c:Int)=>[(5,.tv (eI c))]:=⟨⟩;exact nz)
instance wo:Ct prog (NA ) 279 [] (fun r=>.own (lB r)):=Fj f279 0x823f014000 [.lst 1 [.c (.str ⟨#[45,62]⟩),.c (.str ⟨#[60,61]⟩),.c (.str ⟨#[62,61]⟩),.c (.str ⟨#[61,61]⟩),.c (.str ⟨#[33,61]⟩),.c (.str ⟨#[123]⟩),.c (.str ⟨#[125]⟩),.c (.str ⟨#[40]⟩),.c (.str ⟨#[41]⟩),.c (.str ⟨#[91]⟩),.c (.str ⟨#[93]⟩),.c (.str ⟨#[44]⟩),.c (.str ⟨#[59]⟩),.c (.str ⟨#[58]⟩),.c (.str ⟨#[61]⟩),.c (.str ⟨#[43]⟩),.c (.str ⟨#[45]⟩),.c (.str ⟨#[42]⟩),.c (.str ⟨#[60]⟩),.c (.str ⟨#[62]⟩),.c (.str ⟨#[33]⟩),.c (.str ⟨#[38]⟩),.c (.str ⟨#[124]⟩),.c (.str ⟨#[46]⟩),.c (.str ⟨#[63]⟩)]] [.tmp 0] (h:=fun r h a b=>by
  unfold NA at h;exact nz)
instance vY(a:ByteArray)(d:Int):Ct prog (Nf a d) 214 [eS a,eI d] (fun r=>.tp [Tw r.1,eI r.2.1,eI r.2.2]):=Fj f214 0x7f9d1d460401cc046205b5ff04013b7f9d0cb90046b98a06b90d050cb930ad0c580c5e710401cfcc04620581820e38819d62460d0505ad3038819d1d468505d6819d1dca0e3085d6819d62460d05713038819d1d468530ba08046206ba080462063c308e5c7f0e0e718a0e300e5c12303018c96202 [] [.cell 4 (some 3),.tmp 5,.tmp 6] (h:=fun r h f g=>by
  unfold Nf at h;have:HJ 29 fun(c:Int×Int)=>[(9,.tv (eI c.1)),(10,.tv (eI c.2))]:=⟨⟩;have:HA 0 13 12 0 fun(e:Int)(b:EH)=>[(4,.bx [⟨false,eI b.mo⟩,⟨false,eS b.AbU⟩,⟨false,eI b.Line⟩]),(13,.tv (eI e))]:=⟨⟩;exact nz)
instance ul(t:EH):Ct prog (M9 t) 167 [Tw t] (fun r=>.sh (eB r)):=Fj f167 0x81805990800ce85c819d18c9116fd6bf5c0e6401a2 [.bin (.s) .eql (.s 9) (.c (.str ⟨#[]⟩))] [.tmp 2] (h:=fun r h a b=>by
  unfold M9 at h;exact nz)
instance t1(a:ByteArray):Ct prog (Eu a) 114 [eS a] (fun r=>.sh (eB r)):=Fj f114 0x810e004630da [] [.tmp 2] (h:=fun r h b c=>by
  unfold Eu at h;exact nz)
instance t2(n:Int)(b:Int)(a:Int):Ct prog (DG n b a) 115 [eI n,eI b,eI a] (fun r=>.sh (eB r)):=Fj f115 0x8180e871026203 [] [.tmp 6] (h:=fun r h c d=>by
  unfold DG at h;exact nz)
abbrev Q_116(n:Nat):Prop:=∀(t:AC)(a:Int),Ct prog (Fa n t a) 116 [AN t,eI a] (fun r=>.own (lA r))
theorem oz(n:Nat)(_ih_116:Q_116 n)(t:AC)(a:Int):Ct prog (Fa (n+1) t a) 116 [AN t,eI a] (fun r=>.own (lA r)):=Fj f116 0x8204487641d85904480e7cd859550447ff04c085f940bb [] [.tmp 4] (h:=fun r h b c=>by
  unfold Fa at h;exact nz)
theorem oy:∀n:Nat,Q_116 n:=by
  intro n
  induction n with
  |zero=>exact(fun t a=>⟨fun _ h=>by cases h⟩)
  |succ n b=>exact oz n b
instance t6(t:AC)(a:Int):Ct prog (NB t a) 116 [AN t,eI a] (fun r=>.own (lA r)):=⟨fun r h=>by
  obtain ⟨N,b⟩:=Ck h;exact((oy N) t a).snd r (b N (az _))⟩
instance um(l:List ByteArray):Ct prog (Kl l) 168 [lB l] (fun r=>.sh (eI r)):=Fj f168 0x920396b50396040300d486b9b90396613004030003a1acb900cf0396a1c330da [] [.tmp 2] (h:=fun r h c d=>by
  unfold Kl at h;have:HA 0 3 0 0 fun(b:Int)(_:Unit)=>[(3,.tv (eI b))]:=⟨⟩;have:HA 2 4 3 0 fun(a:Int)(_:Unit)=>[(4,.tv (eI a))]:=⟨⟩;exact nz)
instance t7(a:kp):Ct prog (HZ a) 117 [GD a] (fun r=>.sh (eI r)):=Fj f117 0xa1c66bb49e585befb438388a915be5915bc37675a2 [] [.tmp 2] (h:=fun r h b c=>by
  unfold HZ at h;exact nz)
instance c78(t:AC)(a:Int):Ct prog (ME t a) 78 [AN t,eI a] (fun r=>.sh (eI r)):=Fj f78 0x927402977eb1b83074020974d4866cb8306cb83074026130097403a1ac6cb83000cf7402816bb40bd6b6306bb4820e0189ace45b05a6030605a6049786596cd85905a60361300605a604a1ac59d500c9b1d890bb [] [.tmp 4] (h:=fun r h e f=>by
  unfold ME at h;have:HA 0 6 1 0 fun(c:Int)(_:Unit)=>[(6,.tv (eI c))]:=⟨⟩;have:HA 2 8 7 0 fun(b:Int)(_:Unit)=>[(8,.tv (eI b))]:=⟨⟩;have:HA 4 9 8 0 fun(d:Int)(_:Unit)=>[(9,.tv (eI d))]:=⟨⟩;exact nz)
instance t8(b:Int)(a:Int):Ct prog (JK b a) 118 [eI b,eI a] (fun r=>.sh (eB r)):=Fj f118 0x810abce8300edc [] [.tmp 4] (h:=fun r h c d=>by
  unfold JK at h;exact nz)
instance c79(t:AC)(a:Int):Ct prog (MD t a) 79 [AN t,eI a] (fun r=>.sh (eI r)):=Fj f79 0xa18a9103d10305750a91f376750a9101e591015b816b590502020605a6049786596c07dd05020261300605a604a1ac59074b01c90744077daabb [] [.tmp 4] (h:=fun r h c d=>by
  unfold MD at h;have:HA 0 6 1 0 fun(b:Int)(_:Unit)=>[(6,.tv (eI b))]:=⟨⟩;exact nz)
instance zY(t:AC):Ct prog (EC t) 42 [AN t] (fun r=>.tp [eS r.1,eI r.2]):=Fj f42 0x81bf0006d797d06c07dd630ed20078aa06d7813004d797d06cd859630ed230789004d7a1bfb65b58e238bfc3903fa2 [.mv (.c (.str ⟨#[]⟩)),.mv (.c (.str ⟨#[]⟩)),.mv (.c (.str ⟨#[]⟩)),.mv (.c (.str ⟨#[]⟩))] [.tmp 2,.tmp 3] (h:=fun r h d e=>by
  unfold EC at h;have:HA 0 4 1 0 fun(b:Int)(_:Unit)=>[(4,.tv (eI b))]:=⟨⟩;have:HA 2 6 1 1 fun(a:Int)(_:Unit)=>[(6,.tv (eI a))]:=⟨⟩;exact nz)
instance uA(n:Int):Ct prog (KI n) 119 [eI n] (fun r=>.sh (eB r)):=Fj f119 0x8180ad30da [] [.tmp 2] (h:=fun r h a b=>by
  unfold KI at h;exact nz)
instance uB(e:Bf)(a:Int):Ct prog (NC e a) 120 [Bq e,eI a] (fun r=>.sh (eB r)):=Fj f120 0x818001e580e58001aa805b6a90bb [] [.tmp 4] (h:=fun r h b c=>by
  unfold NC at h;exact nz)
instance c80(g:d4):Ct prog (Dg g) 80 [Aq g] (fun r=>.sh (eI r)):=Fj f80 0x9204d797ace2d3dd0078aa04d78130360297ac9a593078903602a1b65b580b90a2 [] [.tmp 2] (h:=fun r h c d=>by
  unfold Dg at h;have:HA 0 3 1 0 fun(b:Int)(_:Unit)=>[(3,.tv (eI b))]:=⟨⟩;have:HA 2 4 1 1 fun(a:Int)(_:Unit)=>[(4,.tv (eI a))]:=⟨⟩;exact nz)
instance wR(t:AC)(g:d4):Ct prog (GT t g) 260 [AN t,Aq g] (fun r=>.sh (eB r)):=Fj f260 0x92065dd4b65b6c03dd586c03dd0078aa065d03815d02055dd4b6599af29a595d0278f25d03d09b [] [.tmp 4] (h:=fun r h c d=>by
  unfold GT at h;have:HA 0 5 3 0 fun(b:Int)(_:Unit)=>[(5,.tv (eI b))]:=⟨⟩;have:HA 2 6 3 1 fun(a:Int)(_:Unit)=>[(6,.tv (eI a))]:=⟨⟩;exact nz)
instance uD(t:AC)(a:Int)(b:Int):Ct prog (JL t a b) 122 [AN t,eI a,eI b] (fun r=>.sh (eI r)):=Fj f122 0xa18a916b5930916b903870e68493a602 [] [.tmp 6] (h:=fun r h c d=>by
  unfold JL at h;exact nz)
instance uC(t:AC)(a:Int):Ct prog (FQ t a) 121 [AN t,eI a] (fun r=>.tp [lA r.1,eI r.2]):=Fj f121 0x8182020701097403b50204480447b1a64a037548767547d502c9b1b8300701cf09740381820ed204c03804c07e30840440bb [] [.tmp 4,.tmp 5] (h:=fun r h d e=>by
  unfold FQ at h;have:HA 0 9 8 0 fun(c:Int)(b:List kp)=>[(7,.ow (lA b)),(9,.tv (eI c))]:=⟨⟩;exact nz)
instance wT(t:AC)(p:ea)(b:Int)(a:Int):Ct prog (MI t p b a) 261 [AN t,BC p,eI b,eI a] (fun r=>.tp [GD r.1,eB r.2]):=Fj f261 0x81d5b1b83038d50946b67180ad5cfd9ac489d50946b6c4ad3002c9605d02 [] [.cell 8 (some 4),.tmp 9] (h:=fun r h c d=>by
  unfold MI at h;exact nz)
instance wU(n:Int):Ct prog (K9 n) 262 [eI n] (fun r=>.sh (eB r)):=Fj f262 0x8180ad30da [] [.tmp 2] (h:=fun r h a b=>by
  unfold K9 at h;exact nz)
instance yD(n:Int)(t:j0):Ct prog (IK n t) 355 [eI n,N9 t] (fun r=>.sh (eI r)):=Fj f355 0xa1c6aa80aa8001f290a201 [] [.tmp 4] (h:=fun r h a b=>by
  unfold IK at h;exact nz)
instance xP(n:Int)(a:Test):Ct prog (Nh n a) 315 [eI n,GF a] (fun r=>.sh (eI r)):=Fj f315 0x810e550375ef847538c6f290a201 [] [.tmp 4] (h:=fun r h b c=>by
  unfold Nh at h;exact nz)
instance wV(n:Int)(l:List Test):Ct prog (Kk n l) 263 [eI n,lT l] (fun r=>.sh (eI r)):=Fj f263 0x928cd47e7205437100cf8c03a1c3d6c6addc [] [.tmp 4] (h:=fun r h b c=>by
  unfold Kk at h;have:HA 0 5 1 0 fun(a:Int)(_:Unit)=>[(5,.tv (eI a))]:=⟨⟩;exact nz)
instance wW(p:ea)(a:Int):Ct prog (Jz p a) 264 [BC p,eI a] (fun r=>.sh (eB r)):=Fj f264 0x9205a6d485016c0241d89e00789e58a603d0bb [] [.tmp 4] (h:=fun r h c d=>by
  unfold Jz at h;have:HA 0 5 2 2 fun(b:Int)(_:Unit)=>[(5,.tv (eI b))]:=⟨⟩;exact nz)
instance vH(t:AC)(p:ea):Ct prog (GU t p) 196 [AN t,BC p] (fun r=>.sh (eI r)):=Fj f196 0x920d5d97ac5844006176750d5da17ef3b436085dd48a917c027580b46c0275806c0275085cd502496f5b597255d508c9b1d89e3678e5085d03a1b6f3580b9e38c6b458b438aca9eea93870e6849b [] [.tmp 4] (h:=fun r h c d=>by
  unfold GU at h;have:HA 0 8 3 2 fun(b:Int)(_:Unit)=>[(8,.tv (eI b))]:=⟨⟩;have:HA 2 13 3 3 fun(a:Int)(_:Unit)=>[(13,.tv (eI a))]:=⟨⟩;exact nz)
instance yE(c:d6):Ct prog (Gm c) 356 [AJ c] (fun r=>.sh (eB r)):=Fj f356 0x818076410475806ba841e30b5d41e330b36b3673e36b6c5ae36b7cb20b6c0275a2 [] [.tmp 2] (h:=fun r h a b=>by
  unfold Gm at h;exact nz)
instance xQ(c:d6):Ct prog (Kv c) 316 [AJ c] (fun r=>.sh (eB r)):=Fj f316 0x816d6b5bb381bca558fe190401035f19040103b381bca558feb381bca558feb383dfa2 [] [.tmp 2] (h:=fun r h b d=>by
  unfold Kv at h;have:HJ 25 fun(a:Bool)=>[(25,.tv (eB a))]:=⟨⟩;exact nz)
abbrev Q_265(n:Nat):Prop:=∀(c:d6),Ct prog (D1 n c) 265 [AJ c] (fun r=>.sh (eB r))
theorem pK(n:Nat)(_ih_265:Q_265 n)(c:d6):Ct prog (D1 (n+1) c) 265 [AJ c] (fun r=>.sh (eB r)):=Fj f265 0x92360297aca509dd0078aa3602a1aca501a2 [] [.tmp 2] (h:=fun r h b d=>by
  unfold D1 at h;have:HA 0 3 1 1 fun(a:Int)(_:Unit)=>[(3,.tv (eI a))]:=⟨⟩;exact nz)
theorem pJ:∀n:Nat,Q_265 n:=by
  intro n
  induction n with
  |zero=>exact(fun c=>⟨fun _ h=>by cases h⟩)
  |succ n a=>exact pK n a
instance wX(c:d6):Ct prog (Mw c) 265 [AJ c] (fun r=>.sh (eB r)):=⟨fun r h=>by
  obtain ⟨N,a⟩:=Ck h;exact((pJ N) c).snd r (a N (az _))⟩
abbrev Q_266(n:Nat):Prop:=∀(c:d6),Ct prog (Ed n c) 266 [AJ c] (fun r=>.tp [eI r.1,eI r.2])
theorem pM(n:Nat)(_ih_266:Q_266 n)(c:d6):Ct prog (Ed (n+1) c) 266 [AJ c] (fun r=>.tp [eI r.1,eI r.2]):=Fj f266 0x7f30690269026e85596901030669f9b5302cad307f6fa509dd69010378aa0669f9817f30a2 [] [.tmp 2,.tmp 3] (h:=fun r h e f=>by
  unfold Ed at h;have:HA 0 6 1 1 fun(b:Int)(a:Int×Int)=>[(4,.tv (eI a.1)),(5,.tv (eI a.2)),(6,.tv (eI b))]:=⟨⟩;have:HJ 33 fun(d:Int)=>[(5,.tv (eI d))]:=⟨⟩;exact nz)
theorem pL:∀n:Nat,Q_266 n:=by
  intro n
  induction n with
  |zero=>exact(fun c=>⟨fun _ h=>by cases h⟩)
  |succ n a=>exact pM n a
instance wY(c:d6):Ct prog (Nz c) 266 [AJ c] (fun r=>.tp [eI r.1,eI r.2]):=⟨fun r h=>by
  obtain ⟨N,a⟩:=Ck h;exact((pL N) c).snd r (a N (az _))⟩
instance vI(c:d6):Ct prog (Kt c) 197 [AJ c] (fun r=>.sh (eI r)):=Fj f197 0xa1c6ad5c816fa538aca501a2 [] [.tmp 2] (h:=fun r h a b=>by
  unfold Kt at h;exact nz)
instance xR(p:ea)(a:Int):Ct prog (MJ p a) 317 [BC p,eI a] (fun r=>.sh (eB r)):=Fj f317 0x9205a6d485016c0241d89e00789e58a603d0bb [] [.tmp 4] (h:=fun r h c d=>by
  unfold MJ at h;have:HA 0 5 2 2 fun(b:Int)(_:Unit)=>[(5,.tv (eI b))]:=⟨⟩;exact nz)
instance wZ(t:AC)(a:Int)(q:ea):Ct prog (Ku t a q) 267 [AN t,eI a,BC q] (fun r=>.sh (eI r)):=Fj f267 0x927405d401ac584400617675740503d0ef7289850176756030 [] [.tmp 6] (h:=fun r h c d=>by
  unfold Ku at h;have:HA 0 8 5 3 fun(b:Int)(_:Unit)=>[(8,.tv (eI b))]:=⟨⟩;exact nz)
instance wa(a:d4)(b:d4)(m:d5):Ct prog (GQ a b m) 268 [Aq a,Aq b,An m] (fun r=>.sh (eI r)):=Fj f268 0x920a69a897c69e5e9ef25b5e5b59388559599d9de9e9d3439a5b5bd3dd38b65b9a5b589a5b0078aa0a69a88169760969a897859a595e9a595938b6599af29a59697678900969a8a1b65bfe58e2e2efee84ec [] [.tmp 6] (h:=fun r h e f=>by
  unfold GQ at h;have:HA 0 9 3 0 fun(d:Int)(_:Unit)=>[(9,.tv (eI d))]:=⟨⟩;have:HA 2 10 3 1 fun(c:Int)(_:Unit)=>[(10,.tv (eI c))]:=⟨⟩;exact nz)
instance vN(l:Fp):Ct prog (Ec l) 202 [lI l] (fun r=>.sh (eB r)):=Fj f202 0x920396b50396040300d485b9b9039661300403000392cf0396816201 [] [.tmp 2] (h:=fun r h c d=>by
  unfold Ec at h;have:HA 0 3 0 0 fun(b:Int)(_:Unit)=>[(3,.tv (eI b))]:=⟨⟩;have:HA 2 4 3 0 fun(a:Int)(_:Unit)=>[(4,.tv (eI a))]:=⟨⟩;exact nz)
instance wb(a:d4)(b:d4)(m:d5):Ct prog (Hb a b m) 269 [Aq a,Aq b,An m] (fun r=>.sh (eB r)):=Fj f269 0x81bcaabcf20ecb84ec [] [.tmp 6] (h:=fun r h c d=>by
  unfold Hb at h;exact nz)
abbrev Q_198(n:Nat):Prop:=∀(t:AC)(p:ea)(c:d6),Ct prog (Ei n t p c) 198 [AN t,BC p,AJ c] (fun r=>.sh (eI r))
theorem pG(n:Nat)(_ih_198:Q_198 n)(t:AC)(p:ea)(c:d6):Ct prog (Ei (n+1) t p c) 198 [AN t,BC p,AJ c] (fun r=>.sh (eI r)):=Fj f198 0x920a0705a8977ea509dd72550078aa0a0705a8810705760705763c7772e338ac55b2eae3a9ef55b2eae3a9ef72e3b4558559770cc97201ec [] [.tmp 6] (h:=fun r h b d=>by
  unfold Ei at h;have:HA 0 10 5 1 fun(a:Int)(_:Unit)=>[(10,.tv (eI a))]:=⟨⟩;exact nz)
theorem pF:∀n:Nat,Q_198 n:=by
  intro n
  induction n with
  |zero=>exact(fun t p c=>⟨fun _ h=>by cases h⟩)
  |succ n a=>exact pG n a
instance vJ(t:AC)(p:ea)(c:d6):Ct prog (UY t p c) 198 [AN t,BC p,AJ c] (fun r=>.sh (eI r)):=⟨fun r h=>by
  obtain ⟨N,a⟩:=Ck h;exact((pF N) t p c).snd r (a N (az _))⟩
instance uR(t:AC)(p:ea)(c:d6):Ct prog (JM t p c) 147 [AN t,BC p,AJ c] (fun r=>.sh (eI r)):=Fj f147 0x810ea572eea5ef7284ec [] [.tmp 6] (h:=fun r h a b=>by
  unfold JM at h;exact nz)
instance wN(t:AC)(p:d4)(g:d4):Ct prog (Hw t p g) 255 [AN t,Aq p,Aq g] (fun r=>.sh (eI r)):=Fj f255 0xa18a9155849155eeee8970e684ec [] [.tmp 6] (h:=fun r h a b=>by
  unfold Hw at h;exact nz)
instance vK(t:AC)(p:d4)(g:d4):Ct prog (Km t p g) 199 [AN t,Aq p,Aq g] (fun r=>.sh (eB r)):=Fj f199 0x810a0ae0aae0f26b5be2580ecb84bc84bc556a84ec [] [.tmp 6] (h:=fun r h a b=>by
  unfold Km at h;exact nz)
instance uS(t:AC)(p:ea)(a:AG):Ct prog (NF t p a) 148 [AN t,BC p,Bl a] (fun r=>.sh (eB r)):=Fj f148 0x81bca9a984bc646a7201ec [] [.tmp 6] (h:=fun r h b c=>by
  unfold NF at h;exact nz)
abbrev Q_149(n:Nat):Prop:=∀(c:d6),Ct prog (E6 n c) 149 [AJ c] (fun r=>.sh (eB r))
theorem o7(n:Nat)(_ih_149:Q_149 n)(c:d6):Ct prog (E6 (n+1) c) 149 [AJ c] (fun r=>.sh (eB r)):=Fj f149 0xb36b3673e30b6c5ae330360297aca509dd3078aa3602d0a2 [] [.tmp 2] (h:=fun r h b d=>by
  unfold E6 at h;have:HA 0 3 1 1 fun(a:Int)(_:Unit)=>[(3,.tv (eI a))]:=⟨⟩;exact nz)
theorem o6:∀n:Nat,Q_149 n:=by
  intro n
  induction n with
  |zero=>exact(fun c=>⟨fun _ h=>by cases h⟩)
  |succ n a=>exact o7 n a
instance uT(c:d6):Ct prog (Ot c) 149 [AJ c] (fun r=>.sh (eB r)):=⟨fun r h=>by
  obtain ⟨N,a⟩:=Ck h;exact((o6 N) c).snd r (a N (az _))⟩
abbrev Q_150(n:Nat):Prop:=∀(p:ea)(c:d6)(b:Int)(a:Int),Ct prog (Dl n p c b a) 150 [BC p,AJ c,eI b,eI a] (fun r=>.sh (eB r))
theorem o9(n:Nat)(_ih_150:Q_150 n)(p:ea)(c:d6)(b:Int)(a:Int):Ct prog (Dl (n+1) p c b a) 150 [BC p,AJ c,eI b,eI a] (fun r=>.sh (eB r)):=Fj f150 0xb3010a010dba055d0697ac30a509dd720a0178aa0dba055d0681ba05f40cba055d06b55830ba05f4787cdf0cba055d06810b7c37ba695d060bba695d07b55830ba695d0678c4f8ba695d07810bc4810969f40969f43c7772e38559770cc97201605d02 [] [.tmp 8] (h:=fun r h i j=>by
  unfold Dl at h;have:HJ 17 fun(d:ea)=>[(9,.bx [⟨false,lI d.d4.ci⟩,⟨false,lE d.d4.d3⟩,⟨false,lS d.ff⟩,⟨false,eI d.gt⟩,⟨false,lT d.sr⟩])]:=⟨⟩;have:HW 0 fun(e:Int×Int)=>[(10,.tv (eI e.1)),(11,.tv (eI e.2))]:=⟨⟩;have:HW 2 fun(f:Int×Int)=>[(10,.tv (eI f.1)),(12,.tv (eI f.2))]:=⟨⟩;have:HA 4 13 5 1 fun(g:Int)(_:Unit)=>[(13,.tv (eI g))]:=⟨⟩;exact nz)
theorem o8:∀n:Nat,Q_150 n:=by
  intro n
  induction n with
  |zero=>exact(fun p c ec ek=>⟨fun _ h=>by cases h⟩)
  |succ n a=>exact o9 n a
instance uU(p:ea)(c:d6)(b:Int)(a:Int):Ct prog (Ny p c b a) 150 [BC p,AJ c,eI b,eI a] (fun r=>.sh (eB r)):=⟨fun r h=>by
  obtain ⟨N,d⟩:=Ck h;exact((o8 N) p c b a).snd r (d N (az _))⟩
instance tY(t:AC)(p:ea)(c:d6)(a:AG):Ct prog (Ks t p c a) 101 [AN t,BC p,AJ c,Bl a] (fun r=>.sh (eB r)):=Fj f101 0x810abca57201e07cdfe0c401bca56a647255580ea572898a9164010a91720191a501609b [] [.tmp 8] (h:=fun r h b d=>by
  unfold Ks at h;exact nz)
instance zx(t:AC)(a:gp)(b:AG):Ct prog (JO t a b) 68 [AN t,Bs a,Bl b] (fun r=>.sh (eB r)):=Fj f68 0x81bc64a5104272c184bceb6a84ec [] [.tmp 6] (h:=fun r h c d=>by
  unfold JO at h;exact nz)
abbrev Q_69(n:Nat):Prop:=∀(p:ea)(c:d6)(a:Int),Ct prog (Cy n p c a) 69 [BC p,AJ c,eI a] (fun r=>.sh (eB r))
theorem se(n:Nat)(_ih_69:Q_69 n)(p:ea)(c:d6)(a:Int):Ct prog (Cy (n+1) p c a) 69 [BC p,AJ c,eI a] (fun r=>.sh (eB r)):=Fj f69 0xb301a60a0704020497ac01a509dd72a6ffc6306baa0a0704020481070402030907040204b5580107040203ffc6306b7cdf0907040204810b7c3707045d047404f4b5580107045d04ffc6306bc4017404f4810bc407045d0407045d043c7772e38559770cc9720160a6 [] [.tmp 6] (h:=fun r h g i=>by
  unfold Cy at h;have:HJ 14 fun(b:ea)=>[(7,.bx [⟨false,lI b.d4.ci⟩,⟨false,lE b.d4.d3⟩,⟨false,lS b.ff⟩,⟨false,eI b.gt⟩,⟨false,lT b.sr⟩])]:=⟨⟩;have:HW 0 fun(d:Int×Int)=>[(2,.tv (eI d.1)),(8,.tv (eI d.2))]:=⟨⟩;have:HW 2 fun(e:Int×Int)=>[(2,.tv (eI e.1)),(9,.tv (eI e.2))]:=⟨⟩;have:HW 4 fun(f:Int)=>[(10,.tv (eI f))]:=⟨⟩;exact nz)
theorem sd:∀n:Nat,Q_69 n:=by
  intro n
  induction n with
  |zero=>exact(fun p c a=>⟨fun _ h=>by cases h⟩)
  |succ n b=>exact se n b
instance zy(p:ea)(c:d6)(a:Int):Ct prog (LB p c a) 69 [BC p,AJ c,eI a] (fun r=>.sh (eB r)):=⟨fun r h=>by
  obtain ⟨N,b⟩:=Ck h;exact((sd N) p c a).snd r (b N (az _))⟩
instance c81(t:AC)(a:Int)(b:Fp):Ct prog (MH t a b) 81 [AN t,eI a,lI b] (fun r=>.sh (eI r)):=Fj f81 0x92090702d4c65d41b8305ee87cb830b900cf09070203a1c3f830fd0189830241d85938c3593093a602 [] [.tmp 6] (h:=fun r h d e=>by
  unfold MH at h;have:HA 0 9 7 0 fun(c:Int)(_:Unit)=>[(9,.tv (eI c))]:=⟨⟩;exact nz)
abbrev Q_123(n:Nat):Prop:=∀(t:AC)(a:Int)(b:Int),Ct prog (E5 n t a b) 123 [AN t,eI a,eI b] (fun r=>.sh (eB r))
theorem o5(n:Nat)(_ih_123:Q_123 n)(t:AC)(a:Int)(b:Int):Ct prog (E5 (n+1) t a b) 123 [AN t,eI a,eI b] (fun r=>.sh (eB r)):=Fj f123 0x810abc017cd8595558ad7193a602 [] [.tmp 6] (h:=fun r h c d=>by
  unfold E5 at h;exact nz)
theorem o0:∀n:Nat,Q_123 n:=by
  intro n
  induction n with
  |zero=>exact(fun t a b=>⟨fun _ h=>by cases h⟩)
  |succ n c=>exact o5 n c
instance uE(t:AC)(a:Int)(b:Int):Ct prog (Gk t a b) 123 [AN t,eI a,eI b] (fun r=>.sh (eB r)):=⟨fun r h=>by
  obtain ⟨N,c⟩:=Ck h;exact((o0 N) t a b).snd r (c N (az _))⟩
instance c82(t:AC)(b:Int)(a:Int)(c:Int):Ct prog (KH t b a c) 82 [AN t,eI b,eI a,eI c] (fun r=>.sh (eB r)):=Fj f82 0x81bc5d41077daa556a7c077daa898a916b5bad0e3084935d0103 [] [.tmp 8] (h:=fun r h d e=>by
  unfold KH at h;exact nz)
instance zZ(t:AC)(a:AG):Ct prog (FR t a) 43 [AN t,Bl a] (fun r=>.tp [eI r.1,eI r.2]):=Fj f43 0x7f000b5dd4d0ac5e9ec45e5bc45989d0c35b599de9d37d7c3700787cdf0b5d03815d02095dd48130630e9a9e9ac4555d0278c401095d03a181c3c40b9e38817ea9388170e655309b [] [.tmp 4,.tmp 5] (h:=fun r h d e=>by
  unfold FR at h;have:HA 0 9 3 0 fun(c:Int)(_:Unit)=>[(9,.tv (eI c))]:=⟨⟩;have:HA 2 11 3 1 fun(b:Int)(_:Unit)=>[(11,.tv (eI b))]:=⟨⟩;exact nz)
instance wc(t:AC)(p:ea)(a:Int):Ct prog (MK t p a) 270 [AN t,BC p,eI a] (fun r=>.sh (eI r)):=Fj f270 0x920a0704020497c65b7cd89e58596cd89e0061300a07040204a1c67c0275807c027580b46c0275806c0275e0015b58aafd5e59c489b6c4f259d508c9b1d8e560a6 [] [.tmp 6] (h:=fun r h c d=>by
  unfold MK at h;have:HA 0 10 2 0 fun(b:Int)(_:Unit)=>[(10,.tv (eI b))]:=⟨⟩;exact nz)
instance vL(t:AC)(a:gp):Ct prog (Kw t a) 200 [AN t,Bs a] (fun r=>.sh (eI r)):=Fj f200 0x92065dd47e5844d15500785d410675065d03a1c35d41d138b6a841d1587641c17641d138acead1eeea06759b [] [.tmp 4] (h:=fun r h c d=>by
  unfold Kw at h;have:HA 0 6 3 8 fun(b:Int)(_:Unit)=>[(6,.tv (eI b))]:=⟨⟩;exact nz)
instance xL(l:Fp)(n:Int):Ct prog (Fv l n) 311 [lI l,eI n] (fun r=>.sh (eI r)):=Fj f311 0x928cd4c65e05305ee8d6c6015ee8b900cf8c0381ed [] [.tmp 4] (h:=fun r h b c=>by
  unfold Fv at h;have:HA 0 5 0 0 fun(a:Int)(_:Unit)=>[(5,.tv (eI a))]:=⟨⟩;exact nz)
instance xM(l:Fp)(n:Int):Ct prog (Ni l n) 312 [lI l,eI n] (fun r=>.sh (eB r)):=Fj f312 0x928cd48501b900cf8c0381ed [] [.tmp 4] (h:=fun r h b c=>by
  unfold Ni at h;have:HA 0 5 0 0 fun(a:Int)(_:Unit)=>[(5,.tv (eI a))]:=⟨⟩;exact nz)
instance wM(g:d4)(p:BA):Ct prog (ND g p) 254 [Aq g,GE p] (fun r=>.sh (eI r)):=Fj f254 0x92075dd48a919e90915b599de9d3439a5b5b0078aa075d03a17efe5befe2909b [] [.tmp 4] (h:=fun r h b c=>by
  unfold ND at h;have:HA 0 7 3 1 fun(a:Int)(_:Unit)=>[(7,.tv (eI a))]:=⟨⟩;exact nz)
instance vC(g:d4)(p:BA):Ct prog (Ht g p) 187 [Aq g,GE p] (fun r=>.sh (eI r)):=Fj f187 0x810e55ee849b [] [.tmp 4] (h:=fun r h a b=>by
  unfold Ht at h;exact nz)
instance vD(l:Fp)(n:Int):Ct prog (Hu l n) 188 [lI l,eI n] (fun r=>.sh (eI r)):=Fj f188 0x928cd4018501b900cf8c0381ed [] [.tmp 4] (h:=fun r h b c=>by
  unfold Hu at h;have:HA 0 5 0 0 fun(a:Int)(_:Unit)=>[(5,.tv (eI a))]:=⟨⟩;exact nz)
instance uJ(g:d4)(p:BA):Ct prog (G4 g p) 130 [Aq g,GE p] (fun r=>.tp [Aq r.1,An r.2.1,eI r.2.2]):=Fj f130 0x69023b819f9f03460148aa470148904755f0a80af05d06b5f7c1034803470ee79e590e5b595904c19de9d3439a5b5bf0a878aa0af05d0681f0f409f05d06b5f7dfe15e9a59590437f0f4789009f05d06810ac9389f9ff8460aca0e55840bc90ac99b [] [.cell 4 (some 2),.cell 5 (some 2),.tmp 6] (h:=fun r h e f=>by
  unfold G4 at h;have:HA 0 9 3 0 fun(c:Int)(a:d4)=>[(8,.bx [⟨true,lI a.ci⟩,⟨true,lE a.d3⟩]),(9,.tv (eI c))]:=⟨⟩;have:HA 2 10 3 1 fun(d:Int)(b:d4)=>[(8,.bx [⟨true,lI b.ci⟩,⟨true,lE b.d3⟩]),(10,.tv (eI d))]:=⟨⟩;exact nz)
instance vM(a:gp):Ct prog (ML a) 201 [Bs a] (fun r=>.sh (eI r)):=Fj f201 0x810e550d42ead1849f9f0b490ac9116f550b42eac1ef550b42ea0175a2 [] [.tmp 2] (h:=fun r h b c=>by
  unfold ML at h;exact nz)
instance xS(l:Fp)(n:Int):Ct prog (PM l n) 318 [lI l,eI n] (fun r=>.sh (eB r)):=Fj f318 0x928cd48501b900cf8c0381ed [] [.tmp 4] (h:=fun r h b c=>by
  unfold PM at h;have:HA 0 5 0 0 fun(a:Int)(_:Unit)=>[(5,.tv (eI a))]:=⟨⟩;exact nz)
instance wd(n:Int)(l:Fp):Ct prog (KL n l) 271 [eI n,lI l] (fun r=>.own (lI r)):=Fj f271 0x8202e4fab5fafa3ca6e1d7acadf130fad0c001406202 [] [.tmp 4] (h:=fun r h c d=>by
  unfold KL at h;have:HA 0 6 0 0 fun(b:Int)(a:Fp)=>[(5,.ow (lI a)),(6,.tv (eI b))]:=⟨⟩;exact nz)
instance vO(a:gp):Ct prog (JA a) 203 [Bs a] (fun r=>.tp [lI r.1,lI r.2]):=Fj f203 0x82820e7c0d420b3673d10e6c0d420b6c5a0675400140a2 [] [.tmp 2,.tmp 3] (h:=fun r h b c=>by
  unfold JA at h;exact nz)
instance vP(t:AC)(g:d4)(b:Fp)(a:Fp):Ct prog (J1 t g b a) 204 [AN t,Aq g,lI b,lI a] (fun r=>.sh (eB r)):=Fj f204 0x920a69a897ac5e9e595e5b5959559de9d343b95b00cf0a69a88169760969f497830241b85eb959596976cf0969f4d0605d02 [] [.tmp 8] (h:=fun r h e f=>by
  unfold J1 at h;have:HA 0 9 2 0 fun(d:Int)(_:Unit)=>[(9,.tv (eI d))]:=⟨⟩;have:HA 2 10 3 0 fun(c:Int)(_:Unit)=>[(10,.tv (eI c))]:=⟨⟩;exact nz)
instance uV(t:AC)(a:gp):Ct prog (JN t a) 151 [AN t,Bs a] (fun r=>.sh (eI r)):=Fj f151 0x810ea5104272c189ac30ead15582fdeb388a917c0d75916c0d42efebefebee72c189ac593870e6849b [] [.tmp 4] (h:=fun r h b c=>by
  unfold JN at h;exact nz)
instance tZ(t:AC)(a:List gp):Ct prog (Kz t a) 102 [AN t,(eL 25 Bs) a] (fun r=>.sh (eI r)):=Fj f102 0x9207a6d47eeb1943305500cf07a603a1c3d670e684bb [] [.tmp 4] (h:=fun r h c d=>by
  unfold Kz at h;have:HA 0 7 1 0 fun(b:Int)(_:Unit)=>[(7,.tv (eI b))]:=⟨⟩;exact nz)
instance z1(t:AC)(a:List gp)(b:AG):Ct prog (JP t a b) 70 [AN t,(eL 25 Bs) a,Bl b] (fun r=>.sh (eI r)):=Fj f70 0x815ce664ee01846030 [] [.tmp 6] (h:=fun r h c d=>by
  unfold JP at h;exact nz)
instance zT(t:AC)(a:List gp)(b:AG):Ct prog (Ky t a b) 37 [AN t,(eL 25 Bs) a,Bl b] (fun r=>.sh (eB r)):=Fj f37 0x810ae07cdfe0c4e80e64d20705360474053605b501bca51041194330720141194371e06c5a0641194371e036730141194371e06c5a01411943303038ac64eb1943305507053604cf740536057f388a9164010a9184e030e0306b306030 [] [.tmp 6] (h:=fun r h e f=>by
  unfold Ky at h;have:HA 0 8 1 0 fun(d:Int)(c:Bool)=>[(7,.tv (eB c)),(8,.tv (eI d))]:=⟨⟩;exact nz)
instance zI(m:AL)(n:Int):Ct prog (Gb m n) 23 [Be m,eI n] (fun r=>.sh (eB r)):=Fj f23 0x8180f89e6a01a901bb [] [.tmp 4] (h:=fun r h a b=>by
  unfold Gb at h;exact nz)
instance z6(d:AW)(a:Int):Ct prog (Nl d a) 71 [De d,eI a] (fun r=>.sh (eB r)):=Fj f71 0x9205020297ac640141d8b40078b4580202a1c6f876759164dfbb [] [.tmp 4] (h:=fun r h c e=>by
  unfold Nl at h;have:HA 0 5 2 3 fun(b:Int)(_:Unit)=>[(5,.tv (eI b))]:=⟨⟩;exact nz)
instance zU(b:AU)(a:Int):Ct prog (PN b a) 38 [B3 b,eI a] (fun r=>.sh (eB r)):=Fj f38 0x81e0a875bcb1dfe076413758f87641dfbb [] [.tmp 4] (h:=fun r h c d=>by
  unfold PN at h;exact nz)
instance zX(g:d4):Ct prog (IL g) 41 [Aq g] (fun r=>.oag [⟨true,lI r.ci⟩,⟨true,lE r.d3⟩]):=Fj f41 0xa63b02503f03485b0347014890470ac9a2 [.Aay [.w 6,.w 10]] [.cell 2 (some 2)] (h:=fun r h a b=>by
  unfold IL at h;exact nz)
instance y8(a:AG):Ct prog (Fc a) 12 [Bl a] (fun r=>.oag [⟨true,lI r.d4.ci⟩,⟨true,lE r.d4.d3⟩,⟨true,.xn (List.map lI r.fd)⟩]):=Fj f12 0x35003535d02045df9b51fb22122014f9ae55623b25d0278e5045df981035019c93f1ba919c9a2 [.Aay [.g 7 0 2,.g 7 1 2,.z ⟨true,.xn []⟩]] [.cell 2 (some 3)] (h:=fun r h d e=>by
  unfold Fc at h;have:HA 0 4 1 2 fun(c:Int)(b:AG)=>[(3,.bx [⟨true,lI b.d4.ci⟩,⟨true,lE b.d4.d3⟩,⟨true,.xn (List.map lI b.fd)⟩]),(4,.tv (eI c))]:=⟨⟩;exact nz)
instance y9(t:AC)(a:AG):Ct prog (Nn t a) 13 [AN t,Bl a] (fun r=>.tp [B3 r.1,eI r.2]):=Fj f13 0xdb084607e76438770106cae66489770106cae68404c99b [] [.cell 4 (some 5),.tmp 5] (h:=fun r h b c=>by
  unfold Nn at h;exact nz)
instance zb(a:Fp)(b:Fp):Ct prog (Ga a b) 45 [lI a,lI b] (fun r=>.sh (eB r)):=Fj f45 0x928cd485b9b900cf8c03a1c3f8dc [] [.tmp 4] (h:=fun r h d e=>by
  unfold Ga at h;have:HA 0 5 0 0 fun(c:Int)(_:Unit)=>[(5,.tv (eI c))]:=⟨⟩;exact nz)
instance zq(a:d4)(b:d4):Ct prog (MF a b) 62 [Aq a,Aq b] (fun r=>.sh (eB r)):=Fj f62 0x92055dd4bfd3ddd3dd00785b585d03a1b65b0baa9159909b [.bin (.a [0,0,0]) .neq (.s 32) (.s 37)] [.tmp 4] (h:=fun r h d e=>by
  unfold MF at h;have:HA 0 5 2 1 fun(c:Int)(_:Unit)=>[(5,.tv (eI c))]:=⟨⟩;exact nz)
instance zr(a:Fp)(b:Fp):Ct prog (I9 a b) 63 [lI a,lI b] (fun r=>.sh (eI r)):=Fj f63 0x816bf8ed8cd405b9b985b95edcffb6716b308c0381ed [] [.tmp 4] (h:=fun r h d e=>by
  unfold I9 at h;have:HW 0 fun(c:Int)=>[(5,.tv (eI c))]:=⟨⟩;exact nz)
instance zO(a:AG)(b:AG):Ct prog (MG a b) 32 [Bl a,Bl b] (fun r=>.sh (eB r)):=Fj f32 0x92055dd4850e9a9e9a9e00789e585d03a1b69e0be591a9a9019b [] [.tmp 4] (h:=fun r h d e=>by
  unfold MG at h;have:HA 0 5 2 2 fun(c:Int)(_:Unit)=>[(5,.tv (eI c))]:=⟨⟩;exact nz)
instance uo(a:Fp)(b:Fp):Ct prog (GZ a b) 169 [lI a,lI b] (fun r=>.sh (eB r)):=Fj f169 0x928cd485b9b900cf8c03a1c3f8dc [] [.tmp 4] (h:=fun r h d e=>by
  unfold GZ at h;have:HA 0 5 0 0 fun(c:Int)(_:Unit)=>[(5,.tv (eI c))]:=⟨⟩;exact nz)
instance uF(a:d5)(b:d5):Ct prog (OG a b) 124 [An a,An b] (fun r=>.sh (eB r)):=Fj f124 0x81bc5b5b6a59909b [] [.tmp 4] (h:=fun r h c d=>by
  unfold OG at h;exact nz)
instance c83(a:List zt)(b:List zt):Ct prog (Hc a b) 83 [(eL 4 Et) a,(eL 4 Et) b] (fun r=>.sh (eB r)):=Fj f83 0x928cd48a915d410141b8305d410141b8710a91ea0141b830ea0141b8e86cb8306cb83000cf8c03a1c3f8dc [] [.tmp 4] (h:=fun r h d e=>by
  unfold Hc at h;have:HA 0 5 0 0 fun(c:Int)(_:Unit)=>[(5,.tv (eI c))]:=⟨⟩;exact nz)
instance za(a:AW)(b:AW):Ct prog (MM a b) 44 [De a,De b] (fun r=>.sh (eB r)):=Fj f44 0x81bcb4b46a643764df9b [] [.tmp 4] (h:=fun r h c d=>by
  unfold MM at h;exact nz)
instance zA(a:AU)(b:AU):Ct prog (MO a b) 14 [B3 a,B3 b] (fun r=>.sh (eB r)):=Fj f14 0x81bcf3f36ab137b1df9b [] [.tmp 4] (h:=fun r h c d=>by
  unfold MO at h;exact nz)
instance c86(m:AL):Ct prog (JQ m) 86 [Be m] (fun r=>.sh (Be r)):=Fj f86 0xa63b9d04460148e547034601487c37b70148c4b712c9a2 [] [.cell 2 (some 3)] (h:=fun r h a b=>by
  unfold JQ at h;exact nz)
instance zf(d:AW):Ct prog (J3 d) 48 [De d] (fun r=>.sh (De r)):=Fj f48 0xd5b1033e5d02045df9b5f703420448044705e7640141d8b46cd8b40403425d02787675045df981045015c93f1b643715c9a2 [.Aay [.g 7 0 3,.g 7 1 3,.g 7 2 3,.z ⟨true,.list 4 []⟩]] [.cell 2 (some 4)] (h:=fun r h c e=>by
  unfold J3 at h;have:HA 0 4 1 3 fun(b:Int)(a:AW)=>[(3,.bx [⟨true,lI a.kg.d4.ci⟩,⟨true,lE a.kg.d4.d3⟩,⟨true,.xn (List.map lI a.kg.fd)⟩,⟨true,(eL 4 Et) a.kq⟩]),(4,.tv (eI b))]:=⟨⟩;exact nz)
instance zE(a:AU):Ct prog (J5 a) 17 [B3 a] (fun r=>.sh (B3 r)):=Fj f17 0xa63b7718460148a875470eb13704c9a2 [] [.cell 2 (some 5)] (h:=fun r h b c=>by
  unfold J5 at h;exact nz)
instance uK(t:AC)(a:gp)(b:AG):Ct prog (NG t a b) 139 [AN t,Bs a,Bl b] (fun r=>.sh (eI r)):=Fj f139 0x815ce664eeeb84ec [] [.tmp 6] (h:=fun r h c d=>by
  unfold NG at h;exact nz)
instance xx(l:Fp):Ct prog (IP l) 349 [lI l] (fun r=>.sh (eB r)):=Fj f349 0x920396b50396040300d485b9b9039661300403000392cf0396816201 [] [.tmp 2] (h:=fun r h c d=>by
  unfold IP at h;have:HA 0 3 0 0 fun(b:Int)(_:Unit)=>[(3,.tv (eI b))]:=⟨⟩;have:HA 2 4 3 0 fun(a:Int)(_:Unit)=>[(4,.tv (eI a))]:=⟨⟩;exact nz)
instance xE(t:AC)(p:d4)(g:d4)(m:d5)(a:Bool):Ct prog (Kn t p g m a) 304 [AN t,Aq p,Aq g,An m,eB a] (fun r=>.sh (eI r)):=Fj f304 0xa18a0a91aa9159300804020cbd040597c69e5e9ef25b5e5b59388559599d9de9e9d3439a5b5bd3dd38b65b9a5b589a5b08040278aa0cbd040581bd04040bbd690697ac9a595e9a595989b6599af29a59bd040478900bbd6906a1b65bfe58e20b9060600401 [] [.tmp 10] (h:=fun r h d e=>by
  unfold Kn at h;have:HA 0 11 8 0 fun(c:Int)(_:Unit)=>[(11,.tv (eI c))]:=⟨⟩;have:HA 2 12 8 1 fun(b:Int)(_:Unit)=>[(12,.tv (eI b))]:=⟨⟩;exact nz)
instance wC(t:AC)(p:d4)(g:d4)(m:d5)(a:Bool):Ct prog (Hv t p g m a) 241 [AN t,Aq p,Aq g,An m,eB a] (fun r=>.sh (eI r)):=Fj f241 0x810ed2cbeecb8460600401 [] [.tmp 10] (h:=fun r h b c=>by
  unfold Hv at h;exact nz)
instance vE(t:AC)(p:ea)(a:AG):Ct prog (Kq t p a) 192 [AN t,BC p,Bl a] (fun r=>.sh (eI r)):=Fj f192 0x815ce664ee7284ec [] [.tmp 6] (h:=fun r h b c=>by
  unfold Kq at h;exact nz)
instance wP(a:j0)(b:Fp):Ct prog (Hx a b) 258 [N9 a,lI b] (fun r=>.sh (eI r)):=Fj f258 0xb35b5e90385b8590bb [] [.tmp 4] (h:=fun r h c d=>by
  unfold Hx at h;exact nz)
instance xO(t:j0)(a:Fp):Ct prog (JJ t a) 314 [N9 t,lI a] (fun r=>.tp [eI r.1,eB r.2]):=Fj f314 0x7f055b5e903881b601f25938815b855930bb [] [.tmp 4,.tmp 5] (h:=fun r h b c=>by
  unfold JJ at h;exact nz)
instance wQ(a:Test)(b:Fp):Ct prog (Kj a b) 259 [GF a,lI b] (fun r=>.sh (eB r)):=Fj f259 0x810a80e89080e859388a0830085c816fd203427f6f018475bb [] [.tmp 4] (h:=fun r h c d=>by
  unfold Kj at h;exact nz)
instance vF(p:ea)(a:AG)(m:d5):Ct prog (Jy p a m) 194 [BC p,Bl a,An m] (fun r=>.tp [lI r.1,eI r.2]):=Fj f194 0x818218086a08769701c088201472057df3080178f36a087681085dbaf003069701c08501201455b20c0bbaf003080c0bbaf003083c01fb057cb2301401fb01148a0817de0114585c6cb2815e5b5e5e59599ed508c9b1d89e085d78e5baf0030681993fb4993fb43040ec [.mkx 1 [.int .i64 0] (.s 16),.mkx 1 [.bool false] (.s 19)] [.tmp 6,.tmp 7] (h:=fun r h e f=>by
  unfold Jy at h;have:HA 0 10 3 2 fun(c:Int)(b:Fp×a5)=>[(8,.xo 1 (List.map eI b.1)),(9,.xo 1 (List.map eB b.2)),(10,.tv (eI c))]:=⟨⟩;have:HA 2 14 3 4 fun(d:Int)(_:Unit)=>[(14,.tv (eI d))]:=⟨⟩;exact nz)
instance wD(t:AC)(p:ea)(a:AG)(m:d5):Ct prog (Ko t p a m) 242 [AN t,BC p,Bl a,An m] (fun r=>.tp [lI r.1,eI r.2]):=Fj f242 0x8182650e5564723801c07e55a9a98901c07e6472553040609b [] [.tmp 8,.tmp 9] (h:=fun r h b c=>by
  unfold Ko at h;exact nz)
instance wE(t:AC)(p:d4)(g:d4)(m:d5):Ct prog (IN t p g m) 243 [AN t,Aq p,Aq g,An m] (fun r=>.tp [Aq r.1,eI r.2]):=Fj f243 0x819f550b3e0b08020c0bbd05b501fb5e9a59901d370b080261151ddf0c0bbd058102501ac927899f010aca0e55cb840ac9609b [] [.cell 8 (some 2),.tmp 9] (h:=fun r h b c=>by
  unfold IN at h;have:HW 0 fun(a:d4×Int)=>[(11,.bx [⟨true,.xl 1 (List.map eI a.1.ci)⟩,⟨true,.xl 3 (List.map Bq a.1.d3)⟩]),(12,.tv (eI a.2))]:=⟨⟩;exact nz)
instance xF(l:d4)(g:d4)(a:BA)(m:d5):Ct prog (NE l g a m) 305 [Aq l,Aq g,GE a,An m] (fun r=>.sh (eI r)):=Fj f305 0x810e55eecb84609b [] [.tmp 8] (h:=fun r h b c=>by
  unfold NE at h;exact nz)
instance xy(l:Fp)(n:Int):Ct prog (Da l n) 350 [lI l,eI n] (fun r=>.sh (eB r)):=Fj f350 0x928cd48501b900cf8c0381ed [] [.tmp 4] (h:=fun r h b c=>by
  unfold Da at h;have:HA 0 5 0 0 fun(a:Int)(_:Unit)=>[(5,.tv (eI a))]:=⟨⟩;exact nz)
instance xG(a:Fp)(b:Fp):Ct prog (FI a b) 306 [lI a,lI b] (fun r=>.own ((eL 2 O5) r)):=Fj f306 0x8202e4fab5fac58c05b5c58c05c58c053c02024802470c4630028a0a917191e8b9b9facfc58c05b35801cffa8102c002406202 [] [.tmp 4] (h:=fun r h g i=>by
  unfold FI at h;have:HA 0 6 0 0 fun(d:Int)(c:List F1)=>[(5,.ow ((eL 2 O5) c)),(6,.tv (eI d))]:=⟨⟩;have:HA 2 7 0 0 fun(e:Int)(f:List F1)=>[(5,.ow ((eL 2 O5) f)),(7,.tv (eI e))]:=⟨⟩;exact nz)
instance xJ(a:Fp)(b:Fp):Ct prog (Iv a b) 309 [lI a,lI b] (fun r=>.own (lI r)):=Fj f309 0x8202e4fab5fafa3ca6e1b902acad01cffad0c001406202 [] [.tmp 4] (h:=fun r h e f=>by
  unfold Iv at h;have:HA 0 6 0 0 fun(d:Int)(c:Fp)=>[(5,.ow (lI c)),(6,.tv (eI d))]:=⟨⟩;exact nz)
instance xH(l:d4)(g:d4)(a:BA)(m:d5):Ct prog (IM l g a m) 307 [Aq l,Aq g,GE a,An m] (fun r=>.own (lI r)):=Fj f307 0x820209f8ba070505b50bba07056bba0705053ca6e1d78abc5d4103dd300e7c03dd3091015b090178aa0bba07050581820e5990c0014093601300 [] [.tmp 8] (h:=fun r h d e=>by
  unfold IM at h;have:HA 0 11 5 1 fun(c:Int)(b:Fp)=>[(9,.ow (lI b)),(11,.tv (eI c))]:=⟨⟩;exact nz)
instance xI(n:Int)(l:Fp):Ct prog (KK n l) 308 [eI n,lI l] (fun r=>.own (lI r)):=Fj f308 0x8202e4fab5fafa3ca6e1d7acadf130fad0c001406202 [] [.tmp 4] (h:=fun r h c d=>by
  unfold KK at h;have:HA 0 6 0 0 fun(b:Int)(a:Fp)=>[(5,.ow (lI a)),(6,.tv (eI b))]:=⟨⟩;exact nz)
instance wF(l:d4)(g:d4)(a:BA)(m:d5):Ct prog (Oq l g a m) 244 [Aq l,Aq g,GE a,An m] (fun r=>.tp [GE r.1,eI r.2]):=Fj f244 0x8013b819f03e70e5b5bfe0e0e5959e2389f0b46c30e55cb899f0b46856b0e5b5b0b0e5959389ff8ca0e55cb840bc9609b [] [.cell 8 (some 2),.tmp 9] (h:=fun r h b c=>by
  unfold Oq at h;exact nz)
instance yQ(n:Int)(a:Fp)(m:Fp):Ct prog (IR n a m) 375 [eI n,lI a,lI m] (fun r=>.own (lI r)):=Fj f375 0x821807010907a604b501fbb9b9140701cf0907a6048107a60374026205b519014fb71907a603613074026205d0ce0140026203 [] [.tmp 6] (h:=fun r h f g=>by
  unfold IR at h;have:HA 0 8 0 0 fun(c:Int)(b:Fp)=>[(7,.xo 1 (List.map eI b)),(8,.tv (eI c))]:=⟨⟩;have:HA 2 9 1 0 fun(d:Int)(e:Fp)=>[(7,.xo 1 (List.map eI e)),(9,.tv (eI d))]:=⟨⟩;exact nz)
instance yA(b:AZ)(a:Fp):Ct prog (Ep b a) 352 [.pt (RF b).cells,lI a] (fun r=>.sh (eB r)):=Fj f352 0x928c035f5862038c0381880107f5bd8c06b5010a805ee5e5805eaa5b585959309de9d37d7c04730107f5787c047330bd8c067fff8c03b6019e580b015b9de9d37d7c027362787c0273308c0381ed [] [.tmp 4] (h:=fun r h f g=>by
  unfold Ep at h;have:HA 0 5 0 3 fun(d:Int)(_:Unit)=>[(5,.tv (eI d))]:=⟨⟩;have:HA 2 8 0 5 fun(c:Int)(e:Bool)=>[(7,.tv (eB e)),(8,.tv (eI c))]:=⟨⟩;exact nz)
instance yC(a:AZ)(l:Fp)(n:Int):Ct prog (Cb a l n) 354 [.pt (RF a).cells,lI l,eI n] (fun r=>.sh (eB r)):=Fj f354 0x920702d9978501b900ff8a030873306b300702d9d0026203 [] [.tmp 6] (h:=fun r h c d=>by
  unfold Cb at h;have:HW 0 fun(b:Int)=>[(7,.tv (eI b))]:=⟨⟩;exact nz)
noncomputable def WR:PC:=PC.of Uf f353.body (xq bT 0x1bd0262066ebd026206bd0262063c005201e1304830470137ffbd026206c65ee5e5805eaaaa8059900a2030df80019a7c06a7589a7c06a79de9d37d7c04a7da787c04a701bd026206819de9d37d7c02a7fff70a730248024703460148304701483047040aa737c37c02a75c0bf10309a70b030aa7026203) []
theorem py:CK f353 WR []:=by decide +kernel
theorem qQ:PC.Aad WR=true/\PC.Aaf 0 WR=true:=by decide +kernel
abbrev Q_353(n:Nat):Prop:=∀(b:AZ)(a:Fp)(l:Fp),Ct prog (B7 n b a l) 353 [.undef,lI a,lI l] (fun r=>.bo (Bc b) (Bc r) 0 [])
theorem pX(n:Nat)(_ih_353:Q_353 n)(b:AZ)(a:Fp)(l:Fp):Ct prog (B7 (n+1) b a l) 353 [.undef,lI a,lI l] (fun r=>.bo (Bc b) (Bc r) 0 []):=gU py qQ fun r h e d f=>by
  unfold WR;unfold f353;unfold B7 at h;have:HW 0 fun(c:AZ×Int)=>[(0,.bx (Bc c.1)),(8,.tv (eI c.2))]:=⟨⟩;exact nz
theorem pW:∀n:Nat,Q_353 n:=by
  intro n
  induction n with
  |zero=>exact(fun a ec l=>⟨fun _ h=>by cases h⟩)
  |succ n b=>exact pX n b
instance yB(b:AZ)(a:Fp)(l:Fp):Ct prog (LR b a l) 353 [.undef,lI a,lI l] (fun r=>.bo (Bc b) (Bc r) 0 []):=⟨fun r h=>by
  obtain ⟨N,c⟩:=Ck h;exact((pW N) b a l).snd r (c N (az _))⟩
noncomputable def WQ:PC:=PC.of Uf f313.body (xq bT 0x5804d95f5804d969d93c005201e13048304737ff69d98a919a6c02a79a6c04a7ea5adf0a2030df80019a6c06a7589a6c06a7da786c04a75804d981ff3f0137c36c02a75c0b01ff8a08200137580309a70b030aa76202) [.AaF 353 [.s 32,.s 33,.c (.list 1 [])] 0]
theorem px:CK f313 WQ []:=by decide +kernel
theorem qP:PC.Aad WQ=true/\PC.Aaf 0 WQ=true:=by decide +kernel
abbrev Q_313(n:Nat):Prop:=∀(a:AZ)(l:Fp),Ct prog (B8 n a l) 313 [.undef,lI l] (fun r=>.bo (Bc a) (Bc r) 0 [])
theorem pT(n:Nat)(_ih_313:Q_313 n)(a:AZ)(l:Fp):Ct prog (B8 (n+1) a l) 313 [.undef,lI l] (fun r=>.bo (Bc a) (Bc r) 0 []):=gU px qP fun r h d c e=>by
  unfold WQ;unfold f313;unfold B8 at h;have:HW 0 fun(b:AZ×Int)=>[(0,.bx (Bc b.1)),(5,.tv (eI b.2))]:=⟨⟩;exact nz
theorem pS:∀n:Nat,Q_313 n:=by
  intro n
  induction n with
  |zero=>exact(fun a l=>⟨fun _ h=>by cases h⟩)
  |succ n b=>exact pT n b
instance xN(a:AZ)(l:Fp):Ct prog (IB a l) 313 [.undef,lI l] (fun r=>.bo (Bc a) (Bc r) 0 []):=⟨fun r h=>by
  obtain ⟨N,b⟩:=Ck h;exact((pS N) a l).snd r (b N (az _))⟩
instance wO(t:AC)(p:d4)(g:d4)(b:d5)(a:Bool)(d:Int):Ct prog (Nj t p g b a d) 256 [AN t,Aq p,Aq g,An b,eB a,eI d] (fun r=>.sh ((eL 2 An) r)):=Fj f256 0x82030a735a3f5a00c2bf1e4630cbcb024060606902 [.Abu [none,none,none,none,none,none,none,none,none,none,some ⟨true,.list 2 []⟩] (.s 20),.AaF 313 [.s 22,.c (.list 1 [])] 0] [.tmp 12] (h:=fun r h e f=>by
  unfold Nj at h;exact nz)
instance yZ(l:Fp)(a:Int)(n:Int):Ct prog (IQ l a n) 397 [lI l,eI a,eI n] (fun r=>.sh (eI r)):=Fj f397 0x92070200d4c6015ee8b900cf07020003a185f830026203 [] [.tmp 6] (h:=fun r h c d=>by
  unfold IQ at h;have:HA 0 7 0 0 fun(b:Int)(_:Unit)=>[(7,.tv (eI b))]:=⟨⟩;exact nz)
instance yR(t:AC)(p:d4)(g:d4)(b:d5)(a:Bool):Ct prog (Jx t p g b a) 376 [AN t,Aq p,Aq g,An b,eB a] (fun r=>.tp [(eL 2 An) r.1,eI r.2]):=Fj f376 0x8182d602c0c301820ed2cb8902c07efefe5b3802c07ee2e2593802c0b65bfe58e2e23802c07ecb84024060600401 [] [.tmp 10,.tmp 11] (h:=fun r h c d=>by
  unfold Jx at h;exact nz)
instance wL(a:j0)(b:Fp):Ct prog (EM a b) 250 [N9 a,lI b] (fun r=>.tp [eI r.1,eI r.2]):=Fj f250 0x7f0e018981b601f25930bb [] [.tmp 4,.tmp 5] (h:=fun r h c d=>by
  unfold EM at h;exact nz)
instance yS(q:ea)(b:AG)(m:d5)(a:Fp):Ct prog (J0 q b m a) 377 [BC q,Bl b,An m,lI a] (fun r=>.tp [lI r.1,eB r.2]):=Fj f377 0x8182180a01120a04d401c08a80e89080e8595c650120145503425c6501201484427707c972057df30a0178a875120a0403810a04020d0b0a0669069701c08571816501201455b20f0e0d0b0a0669080f0e0d0b0a0669083c01fb01fb057c02756cb2146cb2148a0817de6cb214586cb2815e5b5e5e59599ed508c9b1d89e0a040278e50d0b0a066906810b0a0669050c0b0a06690307b50c0b0a066903070c0b0a066903073c19014fb719c371fb6b71140b0a0669056176750c0b0a0669030781993fb499014f30563040936036 [.mkx 1 [.bool false] (.s 28)] [.tmp 8,.tmp 9] (h:=fun r h i j=>by
  unfold J0 at h;have:HA 0 12 4 3 fun(e:Int)(c:Fp×a5)=>[(10,.xo 1 (List.map eI c.1)),(11,.xo 1 (List.map eB c.2)),(12,.tv (eI e))]:=⟨⟩;have:HA 2 13 4 2 fun(f:Int)(d:Fp×a5)=>[(10,.xo 1 (List.map eI d.1)),(11,.xo 1 (List.map eB d.2)),(13,.tv (eI f))]:=⟨⟩;have:HA 4 18 4 4 fun(g:Int)(_:Unit)=>[(18,.tv (eI g))]:=⟨⟩;exact nz)
instance xz(t:AC)(c:d6)(b:AG)(m:AL)(a:Bool):Ct prog (Gl t c b m a) 351 [AN t,AJ c,Bl b,Be m,eB a] (fun r=>.tp [(eL 3 Be) r.1,eI r.2]):=Fj f351 0x818202100111100e0cbdb511100e0cbd11100e0cbd3c02034803470446d2024330027ffd9e5502433064721001cf11100e0cbd8103c03803c070fdd2a9a9559f0bc903e77c377cb20b7c370ec46cb20bc4770cc9720475034060600401 [] [.tmp 10,.tmp 11] (h:=fun r h f g=>by
  unfold Gl at h;have:HA 0 17 14 0 fun(e:Int)(d:List AL)=>[(16,.ow ((eL 3 Be) d)),(17,.tv (eI e))]:=⟨⟩;exact nz)
abbrev Q_310(n:Nat):Prop:=∀(t:AC)(c:d6)(b:AG)(m:AL)(a:Bool),Ct prog (Db n t c b m a) 310 [AN t,AJ c,Bl b,Be m,eB a] (fun r=>.tp [D8 r.1,eI r.2])
theorem pR(n:Nat)(_ih_310:Q_310 n)(t:AC)(c:d6)(d:AG)(m:AL)(a:Bool):Ct prog (Db (n+1) t c d m a) 310 [AN t,AJ c,Bl d,Be m,eB a] (fun r=>.tp [D8 r.1,eI r.2]):=Fj f310 0xdb10466d7710460a0117150ac56907b5ff0a013bdb011246054772d34330637711fc01d3433064a509435b550a01cf17150ac56907a1770110cafd016464a555b3db10460a01120abd69079777011146054772707711fc016464a509dd550a0178aa120abd69077f05db720e0a020f0e0abd6908b5f7e3054805477204e338770110ca7711fc016464a509dd550e0a0278aa0f0e0abd6908b35011c93fb3db0110463877104685d67710ca7711496f016464a509435b55b383df11c960600401 [.Aay [.z ⟨false,.int .i64 0⟩,.z ⟨true,.list 1 []⟩,.z ⟨true,.list 1 []⟩,.z ⟨true,.list 1 []⟩,.z ⟨true,.list 5 []⟩]] [.cell 10 (some 5),.tmp 11] (h:=fun r h k l=>by
  unfold Db at h;have:HA 1 15 6 1 fun(g:Int)(b:A0×A0)=>[(10,.bx [⟨false,eI b.1.AaB⟩,⟨true,lI b.1.o3.d5.ci⟩,⟨true,lI b.1.o3.d5.d3⟩,⟨true,lI b.1.o3.gt⟩,⟨true,G0 b.1.gn⟩]),(14,.bx [⟨false,eI b.2.AaB⟩,⟨true,lI b.2.o3.d5.ci⟩,⟨true,lI b.2.o3.d5.d3⟩,⟨true,lI b.2.o3.gt⟩,⟨true,G0 b.2.gn⟩]),(15,.tv (eI g))]:=⟨⟩;have:HA 3 18 6 1 fun(j:Int)(e:A0)=>[(10,.bx [⟨false,eI e.AaB⟩,⟨true,lI e.o3.d5.ci⟩,⟨true,lI e.o3.d5.d3⟩,⟨true,lI e.o3.gt⟩,⟨true,G0 e.gn⟩]),(18,.tv (eI j))]:=⟨⟩;have:HA 5 23 21 0 fun(i:Int)(f:A0)=>[(10,.bx [⟨false,eI f.AaB⟩,⟨true,lI f.o3.d5.ci⟩,⟨true,lI f.o3.d5.d3⟩,⟨true,lI f.o3.gt⟩,⟨true,G0 f.gn⟩]),(23,.tv (eI i))]:=⟨⟩;exact nz)
theorem pQ:∀n:Nat,Q_310 n:=by
  intro n
  induction n with
  |zero=>exact(fun t c a m ei=>⟨fun _ h=>by cases h⟩)
  |succ n b=>exact pR n b
instance xK(t:AC)(c:d6)(b:AG)(m:AL)(a:Bool):Ct prog (Pa t c b m a) 310 [AN t,AJ c,Bl b,Be m,eB a] (fun r=>.tp [D8 r.1,eI r.2]):=⟨fun r h=>by
  obtain ⟨N,d⟩:=Ck h;exact((pQ N) t c b m a).snd r (d N (az _))⟩
instance wG(t:AC)(c:d6)(b:AG)(m:AL)(a:Bool):Ct prog (Kr t c b m a) 245 [AN t,AJ c,Bl b,Be m,eB a] (fun r=>.tp [eB r.1,eI r.2]):=Fj f245 0x7f58d681637711496f016464a5553060600401 [] [.tmp 10,.tmp 11] (h:=fun r h d e=>by
  unfold Kr at h;exact nz)
instance uz(t:AC)(b:gp)(a:AG)(m:AL):Ct prog (KN t b a m) 178 [AN t,Bs b,Bl a,Be m] (fun r=>.tp [GE r.1,eI r.2]):=Fj f178 0x819fd20d0b08030d0b08033c018a08ad30816f030f426464a51042899ff84685309f0bfca9550b42a9899ff84685309f0afca9a9eac1899f0b46ace5389ff8cafda96472c1899f0b46850e030f42a9a9eac1840bc9609b [] [.cell 8 (some 2),.tmp 9] (h:=fun r h d e=>by
  unfold KN at h;have:HJ 95 fun(c:Int)=>[(11,.tv (eI c))]:=⟨⟩;exact nz)
instance wH(t:AC)(a:AG)(p:BA):Ct prog (I8 t a p) 246 [AN t,Bl a,GE p] (fun r=>.tp [Bl r.1,eI r.2]):=Fj f246 0x819d640d06020e0d0b060405b5f70275e101485e9a59e54704b20d060278596a0d0b06040581035005c93f899d0116ca9f9f0bc90ac9116f55a9389d0116cae6645558c9ec [.Aay [.v (.s 37) 0 2,.v (.s 37) 1 2,.z ⟨true,.list 1 []⟩]] [.cell 6 (some 3),.tmp 7] (h:=fun r h c d=>by
  unfold I8 at h;have:HW 0 fun(b:AG×Int)=>[(13,.bx [⟨false,lI b.1.d4.ci⟩,⟨false,lE b.1.d4.d3⟩,⟨true,(eL 1 lI) b.1.fd⟩]),(14,.tv (eI b.2))]:=⟨⟩;exact nz)
instance wJ(l:Fp)(n:Int):Ct prog (KJ l n) 248 [lI l,eI n] (fun r=>.own (lI r)):=Fj f248 0x8218e4fab5fac58c05b5c58c05c58c053c01fb30148501b9facfc58c058119014fb719e46130fad0ce01406202 [] [.tmp 4] (h:=fun r h e f=>by
  unfold KJ at h;have:HA 0 6 1 0 fun(b:Int)(a:Fp)=>[(5,.xo 1 (List.map eI a)),(6,.tv (eI b))]:=⟨⟩;have:HA 2 7 0 0 fun(c:Int)(d:Fp)=>[(5,.xo 1 (List.map eI d)),(7,.tv (eI c))]:=⟨⟩;exact nz)
instance wI(n:Int)(a:Fp):Ct prog (J2 n a) 247 [eI n,lI a] (fun r=>.own (lI r)):=Fj f247 0x820e71406202 [] [.tmp 4] (h:=fun r h b c=>by
  unfold J2 at h;exact nz)
instance u0(t:AC)(a:AG)(d:BA):Ct prog (LA t a d) 179 [AN t,Bl a,GE d] (fun r=>.tp [Bl r.1,An r.2]):=Fj f179 0xc5023b9f9d03e75b0b7c370e590bc464019d05fc5564550bc905c9ec [] [.cell 6 (some 3),.cell 7 (some 2)] (h:=fun r h b c=>by
  unfold LA at h;exact nz)
instance u7(a:Fp)(b:Fp):Ct prog (Gc a b) 180 [lI a,lI b] (fun r=>.own (lI r)):=Fj f180 0x8202e4fab5a6e15e5e7102e4cffad0c001406202 [] [.tmp 4] (h:=fun r h e f=>by
  unfold Gc at h;have:HA 0 6 0 0 fun(d:Int)(c:Fp)=>[(5,.ow (lI c)),(6,.tv (eI d))]:=⟨⟩;exact nz)
instance u9(c:Fp)(d:Fp)(b:Int)(f:Fp)(a:Int):Ct prog (E7 c d b f a) 181 [lI c,lI d,eI b,lI f,eI a] (fun r=>.own (lI r)):=Fj f181 0x82020c01cc0b045d0007b5cc0b045d00076ea6e1d7cc0b045d00073ca6e15e5eb9300285b90cf130cc0b045d0007d0c0820e7140045d6205 [] [.tmp 10] (h:=fun r h i j=>by
  unfold E7 at h;have:HA 0 13 2 0 fun(g:Int)(e:Int×Fp)=>[(4,.tv (eI e.1)),(12,.ow (lI e.2)),(13,.tv (eI g))]:=⟨⟩;exact nz)
instance wK(a:Fp)(b:Int):Ct prog (G5 a b) 249 [lI a,eI b] (fun r=>.sh (eB r)):=Fj f249 0x928cd48501b900cf8c0381ed [] [.tmp 4] (h:=fun r h d e=>by
  unfold G5 at h;have:HA 0 5 0 0 fun(c:Int)(_:Unit)=>[(5,.tv (eI c))]:=⟨⟩;exact nz)
noncomputable def aM:PC:=PC.of Uf f182.body (xq bT 0x35003530806020f09bd0506b50f09bd05060f09bd05063cf7014137034803470e465e9e595e5b5959040141379de9d3dd8e017c0d4208060278aa0f09bd05068109bd0505babd69076ebabd6907babd69073c1fb221221923b20dbabd69910d0bbabd690ab519014fb77cb830190dbabd6908cf0e0d0bbabd690ad0ce01fd9a59844a5adfe19a59045a37ffbabd6907ac016c0d4209bd05057890babd6907819f0ac9ead119c993ab9b) []
theorem pj:CK f182 aM [.cell 8 (some 3)]:=by decide +kernel
theorem qL:PC.Aad aM=true:=by decide +kernel
instance vA(t:AC)(b:gp)(a:AG)(c:d5):Ct prog (KM t b a c) 182 [AN t,Bs b,.agg [.undef,.undef,.undef],An c] (fun r=>.ag [⟨true,lI a.d4.ci⟩,⟨true,lE a.d4.d3⟩,⟨true,.xn (List.map lI a.fd)⟩] 2 (.oag [⟨true,lI r.d4.ci⟩,⟨true,lE r.d4.d3⟩,⟨true,.xn (List.map lI r.fd)⟩])):=sC pj qL fun r h j i k=>by
  unfold aM;unfold f182;unfold KM at h;have:HW 0 fun(d:AG×Int)=>[(6,.bx [⟨true,lI d.1.d4.ci⟩,⟨true,lE d.1.d4.d3⟩,⟨true,.xn (List.map lI d.1.fd)⟩]),(10,.tv (eI d.2))]:=⟨⟩;have:HA 2 14 11 0 fun(f:Int)(g:Fp)=>[(13,.xo 1 (List.map eI g)),(14,.tv (eI f))]:=⟨⟩;have:HW 4 fun(e:AG×Int)=>[(6,.bx [⟨true,lI e.1.d4.ci⟩,⟨true,lE e.1.d4.d3⟩,⟨true,.xn (List.map lI e.1.fd)⟩]),(15,.tv (eI e.2))]:=⟨⟩;exact nz
noncomputable def aN:PC:=PC.of Uf f183.body (xq bT 0x819d64073e0a0702130c0a746907b52624017cb83025240123b2389d1646c65d41b87cb871ad7cb87cb87130fd9ac455815e6cb830595c6fd20241b8300a0702cf130c0a746907810c0a746906cc0a746907b5cc0a746907100ecc0a746909979d1646c671807cb8307cb8e85e6cb830595e6cb830595c6fd20241b830cc0a7469076130100ecc0a746909815c6fd20241b8300c0a746906cfcc0a74690781825d41d158c993ab600401) []
theorem pk:CK f183 aN [.cell 10 (some 3),.tmp 11]:=by decide +kernel
theorem qM:PC.Aad aN=true:=by decide +kernel
instance vB(t:AC)(e:gp)(a:AG)(c:d5)(b:Fp):Ct prog (La t e a c b) 183 [AN t,Bs e,.agg [.undef,.undef,.undef],An c,lI b] (fun r=>.ag [⟨true,lI a.d4.ci⟩,⟨true,lE a.d4.d3⟩,⟨true,.xn (List.map lI a.fd)⟩] 2 (.tp [Bl r.1,eI r.2])):=sC pk qM fun r h m l n=>by
  unfold aN;unfold f183;unfold La at h;have:HA 0 13 12 0 fun(i:Int)(f:AG)=>[(10,.bx [⟨true,lI f.d4.ci⟩,⟨true,lE f.d4.d3⟩,⟨true,(eL 1 lI) f.fd⟩]),(13,.tv (eI i))]:=⟨⟩;have:HA 2 16 13 0 fun(j:Int)(g:AG)=>[(10,.bx [⟨true,lI g.d4.ci⟩,⟨true,lE g.d4.d3⟩,⟨true,(eL 1 lI) g.fd⟩]),(16,.tv (eI j))]:=⟨⟩;have:HA 4 19 12 0 fun(k:Int)(d:AG×AG)=>[(7,.bx [⟨true,lI d.1.d4.ci⟩,⟨true,lE d.1.d4.d3⟩,⟨true,.xn (List.map lI d.1.fd)⟩]),(10,.bx [⟨true,lI d.2.d4.ci⟩,⟨true,lE d.2.d4.d3⟩,⟨true,(eL 1 lI) d.2.fd⟩]),(19,.tv (eI k))]:=⟨⟩;exact nz
instance uI(t:AC)(b:gp)(a:AG)(m:AL):Ct prog (Kx t b a m) 127 [AN t,Bs b,Bl a,Be m] (fun r=>.tp [Lu r.1,eI r.2]):=Fj f127 0x81f61f46cb646464eb38f61446b67c37580bc438f601144685309d65d7579e550353eb550d013b03500257551b64eb559f0bc903e7fe5b0b3673d17c0d427c0b420ee2590b6c5ad16c0d426c0b429f0bc903e75b7c370e59c49f9d0bc919fc556489f60114ca9f0bfc6464eb89f60114ca0e64eb8413c9609b [] [.cell 8 (some 38),.tmp 9] (h:=fun r h c d=>by
  unfold Kx at h;exact nz)
instance c87(t:AC)(a:List gp)(b:AG)(m:zt):Ct prog (MN t a b m) 87 [AN t,(eL 25 Bs) a,Bl b,Et m] (fun r=>.tp [Lu r.1,eI r.2]):=Fj f87 0x8013b81f6650e64c164eb19439089f61446b601f29013c9936030 [] [.cell 8 (some 38),.tmp 9] (h:=fun r h c d=>by
  unfold MN at h;exact nz)
instance zg(t:AC)(a:List gp)(d:AW):Ct prog (J4 t a d) 49 [AN t,(eL 25 Bs) a,De d] (fun r=>.tp [(eL 38 Lu) r.1,eI r.2.1,eI r.2.2]):=Fj f49 0x7f820bd70a010c0b803606b59d641f420226482647264402388126c03063f613fcb1d8b464d20a017876750c0b803606819d05c9643726c0388126c0c3b4388126c07e6437d23026406030 [] [.tmp 6,.tmp 7,.tmp 8] (h:=fun r h e f=>by
  unfold J4 at h;have:HA 0 12 5 3 fun(c:Int)(b:List Ar×AG)=>[(10,.ow ((eL 38 Lu) b.1)),(11,.bx [⟨false,lI b.2.d4.ci⟩,⟨false,lE b.2.d4.d3⟩,⟨false,(eL 1 lI) b.2.fd⟩]),(12,.tv (eI c))]:=⟨⟩;exact nz)
instance zh(a:AU):Ct prog (K3 a) 50 [B3 a] (fun r=>.sh (eI r)):=Fj f50 0x92360297c65ee4f39af358d6b67641379af3589af30078a8753602a1c3a875a2 [] [.tmp 2] (h:=fun r h c d=>by
  unfold K3 at h;have:HA 0 3 1 4 fun(b:Int)(_:Unit)=>[(3,.tv (eI b))]:=⟨⟩;exact nz)
instance zF(t:AC)(a:List gp)(b:AU):Ct prog (K0 t a b) 18 [AN t,(eL 25 Bs) a,B3 b] (fun r=>.sh (eI r)):=Fj f18 0x810e723870d7116fb1df846030 [] [.tmp 6] (h:=fun r h c d=>by
  unfold K0 at h;exact nz)
end Go.Sf.Sc
