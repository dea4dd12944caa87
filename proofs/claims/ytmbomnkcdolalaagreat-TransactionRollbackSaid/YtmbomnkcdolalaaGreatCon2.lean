/- Contracts of the functions. -/
import Derived.Test.YtmbomnkcdolalaaGreatCon0
import Derived.Test.YtmbomnkcdolalaaGreatTryzShelf
import Derived.Test.YtmbomnkcdolalaaGreatTw
set_option linter.all false
set_option maxRecDepth 100000
set_option maxHeartbeats 4000000
namespace Go.Sf.Sc
open Go Go.Sf Go.Proofs.Tryz
instance c35:Ct prog (Oa ) 35 [] (fun r=>.oag [⟨true,lN r.d3⟩,⟨true,lX r.d5⟩]):=Fj f35 0x2503f07473f3f04473f3f04473f3f3f3f04473f17c900 [.bld [.str ⟨#[]⟩,.int .i64 0,.int .i64 0,.list 1 []] [(0,1,.c (.str ⟨#[98,97,108,97,110,99,101]⟩)),(1,1,.c (.int .i64 (-1000))),(2,1,.c (.int .i64 1000))],.bld [.str ⟨#[]⟩,.int .i64 0,.bool false,.list 4 []] [(0,1,.c (.str ⟨#[65,99,99,111,117,110,116]⟩)),(1,1,.c (.int .i64 (-1))),(2,1,.c (.bool true)),(3,1,.s 2)],.bld [.str ⟨#[]⟩,.int .i64 0,.bool false,.list 4 []] [(0,1,.c (.str ⟨#[67,97,115,104]⟩)),(1,1,.c (.int .i64 0))],.lst 1 [.c (.str ⟨#[111,112,101,110]⟩),.c (.str ⟨#[99,108,111,115,101,100]⟩)],.bld [.str ⟨#[]⟩,.int .i64 0,.int .i64 0,.list 1 []] [(0,1,.c (.str ⟨#[115,116,97,116,101]⟩)),(2,1,.c (.int .i64 1)),(3,1,.s 5)],.bld [.str ⟨#[]⟩,.int .i64 0,.bool false,.list 4 []] [(0,1,.c (.str ⟨#[76,111,97,110]⟩)),(1,1,.c (.int .i64 0)),(3,1,.s 7)],.bld [.str ⟨#[]⟩,.int .i64 0,.bool false,.list 4 []] [(0,1,.c (.str ⟨#[80,101,114,115,111,110]⟩)),(1,1,.c (.int .i64 (-1)))],.bld [.str ⟨#[]⟩,.int .i64 0,.int .i64 0,.int .i64 0,.int .i64 0,.int .i64 0,.int .i64 0] [(0,1,.c (.str ⟨#[111,119,110,115]⟩)),(1,1,.c (.int .i64 3)),(2,1,.c (.int .i64 0)),(4,1,.c (.int .i64 (-1))),(5,1,.c (.int .i64 1)),(6,1,.c (.int .i64 1))],.bld [.str ⟨#[]⟩,.int .i64 0,.int .i64 0,.int .i64 0,.int .i64 0,.int .i64 0,.int .i64 0] [(0,1,.c (.str ⟨#[112,97,121,115]⟩)),(1,1,.c (.int .i64 1)),(2,1,.c (.int .i64 1)),(4,1,.c (.int .i64 (-1))),(6,1,.c (.int .i64 (-1)))],.Aau [.w 10,.w 13]] [.cell 0 (some 2)] (h:=fun r h a b=>by
  unfold Oa at h;exact nz)
instance c66(t:AC):Ct prog (KW t) 66 [AQ t] (fun r=>.sh (eB r)):=Fj f66 0x9608d79d850c6d07e10078b308d78130043603b1043603693604b1693604bd6936069d850c9eb5693604787674bd693606a6b9b5580c59d202c9a8dc7641dc59043603787641dcf7043604a6cd0c6ddcf7306b7641dc597378910436037d38b95c580b919f [] [.tmp 2] (h:=fun r h f g=>by
  unfold KW at h;have:HA 0 4 1 0 fun(e:Int)(d:Int)=>[(3,.tv (eI d)),(4,.tv (eI e))]:=⟨⟩;have:HW 2 fun(c:Int)=>[(5,.tv (eI c))]:=⟨⟩;have:HW 4 fun(b:Int)=>[(7,.tv (eI b))]:=⟨⟩;have:HA 6 8 1 1 fun(a:Int)(_:Unit)=>[(8,.tv (eI a))]:=⟨⟩;exact nz)
instance c99(g:d4):Ct prog (H1 g) 99 [At g] (fun r=>.sh (eB r)):=Fj f99 0xb86b5c580b919f [] [.tmp 2] (h:=fun r h a b=>by
  unfold H1 at h;exact nz)
instance c67(a:AH):Ct prog (Gp a) 67 [Bn a] (fun r=>.sh (eB r)):=Fj f67 0x9636029dbc9e9b0078e93602a6b9e990aa019f [] [.tmp 2] (h:=fun r h c d=>by
  unfold Gp at h;have:HA 0 3 1 2 fun(b:Int)(_:Unit)=>[(3,.tv (eI b))]:=⟨⟩;exact nz)
instance c53(m:d6)(n:Int):Ct prog (KX m n) 53 [Aq m,eI n] (fun r=>.sh (eB r)):=Fj f53 0xac58fc0b91c3 [] [.tmp 4] (h:=fun r h a b=>by
  unfold KX at h;exact nz)
instance xm(p:ec):Ct prog (JC p) 144 [BF p] (fun r=>.sh (eB r)):=Fj f144 0xb86ba5740a6b9b6aaa019f [] [.tmp 2] (h:=fun r h a b=>by
  unfold JC at h;exact nz)
instance xr(p:BH)(n:Int):Ct prog (Qh p n) 145 [Fr p,eI n] (fun r=>.sh (eB r)):=Fj f145 0xac58fc0b91c3 [] [.tmp 4] (h:=fun r h a b=>by
  unfold Qh at h;exact nz)
abbrev Q_195(n:Nat):Prop:=∀(c:d7)(a:Int),Ct prog (Cj n c a) 195 [AK c,eI a] (fun r=>.sh (eI r))
theorem te(n:Nat)(_ih_195:Q_195 n)(c:d7)(a:Int):Ct prog (Cj (n+1) c a) 195 [AK c,eI a] (fun r=>.sh (eI r)):=Fj f195 0x81eba203b16a01a709e130ffcd306b5c58a203a68a90550274906ce45830c3 [] [.tmp 4] (h:=fun r h d e=>by
  unfold Cj at h;have:HW 0 fun(b:Int×Int)=>[(1,.tv (eI b.1)),(5,.tv (eI b.2))]:=⟨⟩;exact nz)
theorem td:∀n:Nat,Q_195 n:=by
  intro n
  induction n with
  |zero=>exact(fun c up=>⟨fun _ h=>by cases h⟩)
  |succ n a=>exact te n a
instance yk(c:d7)(a:Int):Ct prog (Ox c a) 195 [AK c,eI a] (fun r=>.sh (eI r)):=⟨fun r h=>by
  obtain ⟨N,b⟩:=C1 h;exact((td N) c a).snd r (b N (az _))⟩
instance xt(c:d7):Ct prog (JE c) 146 [AK c] (fun r=>.sh (eB r)):=Fj f146 0xac0ea7019f [] [.tmp 2] (h:=fun r h a b=>by
  unfold JE at h;exact nz)
instance xD(a:f0):Ct prog (OO a) 100 [Bc a] (fun r=>.sh (eB r)):=Fj f100 0xb80ea71074f9550d74f9550b74f96c0674f96cc1580c919f [] [.tmp 2] (h:=fun r h b c=>by
  unfold OO at h;exact nz)
instance y6(t:Ee):Ct prog (Ov t) 213 [WK t] (fun r=>.sh (eS r)):=Fj f213 0x815c383f3f5c85593f9f [.mv (.c (.str ⟨#[]⟩)),.bin (.s) .add (.c (.str ⟨#[34]⟩)) (.s 7),.bin (.s) .add (.s 8) (.c (.str ⟨#[34]⟩))] [.tmp 2] (h:=fun r h a b=>by
  unfold Ov at h;exact nz)
instance AAI(c:Int):Ct prog (KU c) 275 [WL c] (fun r=>.sh (eB r)):=Fj f275 0xb889b23089b230d8 [] [.tmp 2] (h:=fun r h a b=>by
  unfold KU at h;exact nz)
instance AAJ(c:Int):Ct prog (IK c) 276 [WL c] (fun r=>.sh (eB r)):=Fj f276 0x8189b230d8 [] [.tmp 2] (h:=fun r h a b=>by
  unfold IK at h;exact nz)
instance AAK(b:ByteArray)(c:Int)(a:Bool):Ct prog (OK b c a) 277 [eS b,eI c,eB a] (fun r=>.sh (eI r)):=Fj f277 0xc80701ff0702d56f0701ff8a0a0a89120530300e1205303008300e120530b20c58300702d5c8026203 [] [.tmp 6] (h:=fun r h e f=>by
  unfold OK at h;have:HW 0 fun(d:Int)=>[(7,.tv (eI d))]:=⟨⟩;exact nz)
instance AAL(a:ByteArray)(b:Int):Ct prog (KV a b) 278 [eS a,eI b] (fun r=>.sh (eI r)):=Fj f278 0x968cd9cdb2e0d46312057300610c58308c0381ed [] [.tmp 4] (h:=fun r h d e=>by
  unfold KV at h;have:HW 0 fun(c:Int)=>[(5,.tv (eI c))]:=⟨⟩;exact nz)
instance AAM:Ct prog (Ns ) 279 [] (fun r=>.own (lB r)):=Fj f279 0x823f014000 [.lst 1 [.c (.str ⟨#[45,62]⟩),.c (.str ⟨#[60,61]⟩),.c (.str ⟨#[62,61]⟩),.c (.str ⟨#[61,61]⟩),.c (.str ⟨#[33,61]⟩),.c (.str ⟨#[123]⟩),.c (.str ⟨#[125]⟩),.c (.str ⟨#[40]⟩),.c (.str ⟨#[41]⟩),.c (.str ⟨#[91]⟩),.c (.str ⟨#[93]⟩),.c (.str ⟨#[44]⟩),.c (.str ⟨#[59]⟩),.c (.str ⟨#[58]⟩),.c (.str ⟨#[61]⟩),.c (.str ⟨#[43]⟩),.c (.str ⟨#[45]⟩),.c (.str ⟨#[42]⟩),.c (.str ⟨#[60]⟩),.c (.str ⟨#[62]⟩),.c (.str ⟨#[33]⟩),.c (.str ⟨#[38]⟩),.c (.str ⟨#[124]⟩),.c (.str ⟨#[46]⟩),.c (.str ⟨#[63]⟩)]] [.tmp 0] (h:=fun r h a b=>by
  unfold Ns at h;exact nz)
instance y7(a:ByteArray)(c:Int):Ct prog (OJ a c) 214 [eS a,eI c] (fun r=>.tp [WK r.1,eI r.2.1,eI r.2.2]):=Fj f214 0x7d971d460401c4046205b1ff04013b7d970cbb0046bb8a06bb0d050cbb30b20c580c5e730401cbc404620581820e38819762460d0505b2303881971d4685d43881971d46723085e0819762460d0573303881971d468530be08046206be080462063c308e5b7d0e0e738a0e300e5b12303018c96202 [] [.cell 4 (some 3),.tmp 5,.tmp 6] (h:=fun r h f g=>by
  unfold OJ at h;have:HJ 29 fun(d:Int×Int)=>[(9,.tv (eI d.1)),(10,.tv (eI d.2))]:=⟨⟩;have:HA 0 13 12 0 fun(e:Int)(b:Ee)=>[(4,.bx [⟨false,eI b.mo⟩,⟨false,eS b.AbU⟩,⟨false,eI b.Line⟩]),(13,.tv (eI e))]:=⟨⟩;exact nz)
instance yP(t:Ee):Ct prog (Nr t) 167 [WK t] (fun r=>.sh (eB r)):=Fj f167 0x81895991890ceb5b819718c91171e0bf5b0e65019f [.bin (.s) .eql (.s 9) (.c (.str ⟨#[]⟩))] [.tmp 2] (h:=fun r h a b=>by
  unfold Nr at h;exact nz)
instance xR(a:ByteArray):Ct prog (FK a) 114 [eS a] (fun r=>.sh (eB r)):=Fj f114 0x810e004630d8 [] [.tmp 2] (h:=fun r h b c=>by
  unfold FK at h;exact nz)
instance xS(n:Int)(b:Int)(a:Int):Ct prog (Db n b a) 115 [eI n,eI b,eI a] (fun r=>.sh (eB r)):=Fj f115 0x8189eb73026203 [] [.tmp 6] (h:=fun r h c d=>by
  unfold Db at h;exact nz)
abbrev Q_116(n:Nat):Prop:=∀(t:AC)(a:Int),Ct prog (F7 n t a) 116 [AQ t,eI a] (fun r=>.own (lA r))
theorem tS(n:Nat)(_ih_116:Q_116 n)(t:AC)(a:Int):Ct prog (F7 (n+1) t a) 116 [AQ t,eI a] (fun r=>.own (lA r)):=Fj f116 0x8204487641dc5904480e7cdc59550447ff04c085010440c3 [] [.tmp 4] (h:=fun r h b c=>by
  unfold F7 at h;exact nz)
theorem tR:∀n:Nat,Q_116 n:=by
  intro n
  induction n with
  |zero=>exact(fun t a=>⟨fun _ h=>by cases h⟩)
  |succ n b=>exact tS n b
instance xT(t:AC)(a:Int):Ct prog (Nt t a) 116 [AQ t,eI a] (fun r=>.own (lA r)):=⟨fun r h=>by
  obtain ⟨N,b⟩:=C1 h;exact((tR N) t a).snd r (b N (az _))⟩
instance yQ(l:List ByteArray):Ct prog (LK l) 168 [lB l] (fun r=>.sh (eI r)):=Fj f168 0x960392b10392040300d986bbbb0392613004030003a6b4bb00cb0392a6bc30d8 [] [.tmp 2] (h:=fun r h c d=>by
  unfold LK at h;have:HA 0 3 0 0 fun(a:Int)(_:Unit)=>[(3,.tv (eI a))]:=⟨⟩;have:HA 2 4 3 0 fun(b:Int)(_:Unit)=>[(4,.tv (eI b))]:=⟨⟩;exact nz)
instance xU(a:ns):Ct prog (H0 a) 117 [FI a] (fun r=>.sh (eI r)):=Fj f117 0xa6cd6bb59b585cf3b538388a905ce9905cbc76749f [] [.tmp 2] (h:=fun r h b c=>by
  unfold H0 at h;exact nz)
instance c78(t:AC)(a:Int):Ct prog (Mr t a) 78 [AQ t,eI a] (fun r=>.sh (eI r)):=Fj f78 0x9677029d80a8ba3077020977d9866dba306dba3077026130097703a6b46dba3000cb7702816bb50be0b9306bb5820e0184b4d45c05a2030605a2049d86596ddc5905a20361300605a204a6b459d200c9a8dc91c3 [] [.tmp 4] (h:=fun r h e f=>by
  unfold Mr at h;have:HA 0 6 1 0 fun(d:Int)(_:Unit)=>[(6,.tv (eI d))]:=⟨⟩;have:HA 2 8 7 0 fun(b:Int)(_:Unit)=>[(8,.tv (eI b))]:=⟨⟩;have:HA 4 9 8 0 fun(c:Int)(_:Unit)=>[(9,.tv (eI c))]:=⟨⟩;exact nz)
instance xV(b:Int)(a:Int):Ct prog (Js b a) 118 [eI b,eI a] (fun r=>.sh (eB r)):=Fj f118 0xb8f9eb300ede [] [.tmp 4] (h:=fun r h c d=>by
  unfold Js at h;exact nz)
instance c79(t:AC)(a:Int):Ct prog (Mq t a) 79 [AQ t,eI a] (fun r=>.sh (eI r)):=Fj f79 0xa68a9003d30305740a90df76740a9001e990015c816b590502020605a2049d86596d07e105020261300605a204a6b459074b01c90744077fb3c3 [] [.tmp 4] (h:=fun r h c d=>by
  unfold Mq at h;have:HA 0 6 1 0 fun(b:Int)(_:Unit)=>[(6,.tv (eI b))]:=⟨⟩;exact nz)
instance c42(t:AC):Ct prog (E7 t) 42 [AQ t] (fun r=>.tp [eS r.1,eI r.2]):=Fj f42 0x81bf0006d79dc86d07e172cc0078b306d7813004d79dc86ddc5972cc30789104d7a6bfb95c58e338bfbc913f9f [.mv (.c (.str ⟨#[]⟩)),.mv (.c (.str ⟨#[]⟩)),.mv (.c (.str ⟨#[]⟩)),.mv (.c (.str ⟨#[]⟩))] [.tmp 2,.tmp 3] (h:=fun r h d e=>by
  unfold E7 at h;have:HA 0 4 1 0 fun(a:Int)(_:Unit)=>[(4,.tv (eI a))]:=⟨⟩;have:HA 2 6 1 1 fun(b:Int)(_:Unit)=>[(6,.tv (eI b))]:=⟨⟩;exact nz)
instance xW(n:Int):Ct prog (Ks n) 119 [eI n] (fun r=>.sh (eB r)):=Fj f119 0x8189b230d8 [] [.tmp 2] (h:=fun r h a b=>by
  unfold Ks at h;exact nz)
instance xX(e:Bo)(a:Int):Ct prog (Nu e a) 120 [Bm e,eI a] (fun r=>.sh (eB r)):=Fj f120 0x818901e989e98901b3895c6a91c3 [] [.tmp 4] (h:=fun r h b c=>by
  unfold Nu at h;exact nz)
instance c80(g:d4):Ct prog (D1 g) 80 [At g] (fun r=>.sh (eI r)):=Fj f80 0x9604d79db4e3d6e10078b304d7813036029db49e593078913602a6b95c580b919f [] [.tmp 2] (h:=fun r h c d=>by
  unfold D1 at h;have:HA 0 3 1 0 fun(a:Int)(_:Unit)=>[(3,.tv (eI a))]:=⟨⟩;have:HA 2 4 1 1 fun(b:Int)(_:Unit)=>[(4,.tv (eI b))]:=⟨⟩;exact nz)
instance zw(t:AC)(g:d4):Ct prog (Gr t g) 260 [AQ t,At g] (fun r=>.sh (eB r)):=Fj f260 0x96065dd9b95c6d03e1586d03e10078b3065d03815d02055dd9b9599ef79e595d0278f75d03c8a1 [] [.tmp 4] (h:=fun r h c d=>by
  unfold Gr at h;have:HA 0 5 3 0 fun(a:Int)(_:Unit)=>[(5,.tv (eI a))]:=⟨⟩;have:HA 2 6 3 1 fun(b:Int)(_:Unit)=>[(6,.tv (eI b))]:=⟨⟩;exact nz)
instance xZ(t:AC)(a:Int)(b:Int):Ct prog (Jt t a b) 122 [AQ t,eI a,eI b] (fun r=>.sh (eI r)):=Fj f122 0xa68a906b5930906b91380163f47e93a202 [] [.tmp 6] (h:=fun r h c d=>by
  unfold Jt at h;exact nz)
instance xY(t:AC)(a:Int):Ct prog (Fv t a) 121 [AQ t,eI a] (fun r=>.tp [lA r.1,eI r.2]):=Fj f121 0x8182020701097703b10204480447a8a24a037448767447d202c9a8ba300701cb09770381820ecc04c03804c080307e0440c3 [] [.tmp 4,.tmp 5] (h:=fun r h d e=>by
  unfold Fv at h;have:HA 0 9 8 0 fun(c:Int)(b:List ns)=>[(7,.ow (lA b)),(9,.tv (eI c))]:=⟨⟩;exact nz)
instance zx(t:AC)(p:ec)(b:Int)(a:Int):Ct prog (Mv t p b a) 261 [AQ t,BF p,eI b,eI a] (fun r=>.tp [FI r.1,eB r.2]):=Fj f261 0x81d2a8ba3038d20946b97389b25b82719eca84d20946b9cab23002c95f5d02 [] [.cell 8 (some 4),.tmp 9] (h:=fun r h c d=>by
  unfold Mv at h;exact nz)
instance zy(n:Int):Ct prog (Lk n) 262 [eI n] (fun r=>.sh (eB r)):=Fj f262 0x8189b230d8 [] [.tmp 2] (h:=fun r h a b=>by
  unfold Lk at h;exact nz)
instance ABQ(n:Int)(t:kp):Ct prog (Iw n t) 355 [eI n,MU t] (fun r=>.sh (eI r)):=Fj f355 0xa6cdb389b38901f7919f01 [] [.tmp 4] (h:=fun r h a b=>by
  unfold Iw at h;exact nz)
instance AAt(n:Int)(a:Test):Ct prog (OL n a) 315 [eI n,FJ a] (fun r=>.sh (eI r)):=Fj f315 0x810e550374f37e7438cdf7919f01 [] [.tmp 4] (h:=fun r h b c=>by
  unfold OL at h;exact nz)
instance z1(n:Int)(l:List Test):Ct prog (LJ n l) 263 [eI n,lT l] (fun r=>.sh (eI r)):=Fj f263 0x968cd9806c05437300cb8c03a6bce0cdb2de [] [.tmp 4] (h:=fun r h b c=>by
  unfold LJ at h;have:HA 0 5 1 0 fun(a:Int)(_:Unit)=>[(5,.tv (eI a))]:=⟨⟩;exact nz)
instance z6(p:ec)(a:Int):Ct prog (Ka p a) 264 [BF p,eI a] (fun r=>.sh (eB r)):=Fj f264 0x9605a2d985016d0241dc9b00789b58a203c8c3 [] [.tmp 4] (h:=fun r h c d=>by
  unfold Ka at h;have:HA 0 5 2 2 fun(b:Int)(_:Unit)=>[(5,.tv (eI b))]:=⟨⟩;exact nz)
instance yl(t:AC)(p:ec):Ct prog (Gs t p) 196 [AQ t,BF p] (fun r=>.sh (eI r)):=Fj f196 0x960d5d9db45844006176740d5da680dfb536085dd98a907c027489b56d0274896d0274085bd20249715c596c55d208c9a8dc9b3678e9085d03a6b9df580b9b38cdb558b538b4aaf2aa380163f47ea1 [] [.tmp 4] (h:=fun r h c d=>by
  unfold Gs at h;have:HA 0 8 3 2 fun(a:Int)(_:Unit)=>[(8,.tv (eI a))]:=⟨⟩;have:HA 2 13 3 3 fun(b:Int)(_:Unit)=>[(13,.tv (eI b))]:=⟨⟩;exact nz)
instance ABR(c:d7):Ct prog (HD c) 356 [AK c] (fun r=>.sh (eB r)):=Fj f356 0x818976410474896ba541e40b5d41e430ac6b3675e46b6d5ae46b7cb60b6d02749f [] [.tmp 2] (h:=fun r h a b=>by
  unfold HD at h;exact nz)
instance AAu(c:d7):Ct prog (LU c) 316 [AK c] (fun r=>.sh (eB r)):=Fj f316 0x816e6b5cacb80ea758fc190401036019040103acb80ea758fcacb80ea758fcac83dd9f [] [.tmp 2] (h:=fun r h b d=>by
  unfold LU at h;have:HJ 25 fun(a:Bool)=>[(25,.tv (eB a))]:=⟨⟩;exact nz)
abbrev Q_265(n:Nat):Prop:=∀(c:d7),Ct prog (EO n c) 265 [AK c] (fun r=>.sh (eB r))
theorem tu(n:Nat)(_ih_265:Q_265 n)(c:d7):Ct prog (EO (n+1) c) 265 [AK c] (fun r=>.sh (eB r)):=Fj f265 0x9636029db4a709e10078b33602a6b4a7019f [] [.tmp 2] (h:=fun r h b d=>by
  unfold EO at h;have:HA 0 3 1 1 fun(a:Int)(_:Unit)=>[(3,.tv (eI a))]:=⟨⟩;exact nz)
theorem tq:∀n:Nat,Q_265 n:=by
  intro n
  induction n with
  |zero=>exact(fun c=>⟨fun _ h=>by cases h⟩)
  |succ n a=>exact tu n a
instance z7(c:d7):Ct prog (NY c) 265 [AK c] (fun r=>.sh (eB r)):=⟨fun r h=>by
  obtain ⟨N,a⟩:=C1 h;exact((tq N) c).snd r (a N (az _))⟩
abbrev Q_266(n:Nat):Prop:=∀(c:d7),Ct prog (E2 n c) 266 [AK c] (fun r=>.tp [eI r.1,eI r.2])
theorem tz(n:Nat)(_ih_266:Q_266 n)(c:d7):Ct prog (E2 (n+1) c) 266 [AK c] (fun r=>.tp [eI r.1,eI r.2]):=Fj f266 0x7d30690269026f855969010306690104b1302cb2307d71a709e169010378b306690104817d309f [] [.tmp 2,.tmp 3] (h:=fun r h e f=>by
  unfold E2 at h;have:HA 0 6 1 1 fun(d:Int)(a:Int×Int)=>[(4,.tv (eI a.1)),(5,.tv (eI a.2)),(6,.tv (eI d))]:=⟨⟩;have:HJ 33 fun(b:Int)=>[(5,.tv (eI b))]:=⟨⟩;exact nz)
theorem tw:∀n:Nat,Q_266 n:=by
  intro n
  induction n with
  |zero=>exact(fun c=>⟨fun _ h=>by cases h⟩)
  |succ n a=>exact tz n a
instance z8(c:d7):Ct prog (Oc c) 266 [AK c] (fun r=>.tp [eI r.1,eI r.2]):=⟨fun r h=>by
  obtain ⟨N,a⟩:=C1 h;exact((tw N) c).snd r (a N (az _))⟩
instance ym(c:d7):Ct prog (LS c) 197 [AK c] (fun r=>.sh (eI r)):=Fj f197 0xa6cdb25b8171a738b4a7019f [] [.tmp 2] (h:=fun r h a b=>by
  unfold LS at h;exact nz)
instance AAv(p:ec)(a:Int):Ct prog (Mw p a) 317 [BF p,eI a] (fun r=>.sh (eB r)):=Fj f317 0x9605a2d985016d0241dc9b00789b58a203c8c3 [] [.tmp 4] (h:=fun r h c d=>by
  unfold Mw at h;have:HA 0 5 2 2 fun(b:Int)(_:Unit)=>[(5,.tv (eI b))]:=⟨⟩;exact nz)
instance AAA(t:AC)(a:Int)(q:ec):Ct prog (LT t a q) 267 [AQ t,eI a,BF q] (fun r=>.sh (eI r)):=Fj f267 0x967705d901b4584400617674770503c8f36c84850176745f30 [] [.tmp 6] (h:=fun r h c d=>by
  unfold LT at h;have:HA 0 8 5 3 fun(b:Int)(_:Unit)=>[(8,.tv (eI b))]:=⟨⟩;exact nz)
instance AAB(a:d4)(b:d4)(m:d6):Ct prog (Gn a b m) 268 [At a,At b,Aq m] (fun r=>.sh (eI r)):=Fj f268 0x960a69a59dcd9b5e9bf75c5e5c59388559599797ececd6439e5c5cd6e138b95c9e5c589e5c0078b30a69a58169760969a59d859e595e9e595938b9599ef79e59697678910969a5a6b95cfc58e3e3f3f27ef1 [] [.tmp 6] (h:=fun r h e f=>by
  unfold Gn at h;have:HA 0 9 3 0 fun(c:Int)(_:Unit)=>[(9,.tv (eI c))]:=⟨⟩;have:HA 2 10 3 1 fun(d:Int)(_:Unit)=>[(10,.tv (eI d))]:=⟨⟩;exact nz)
instance yr(l:Fp):Ct prog (E1 l) 202 [lI l] (fun r=>.sh (eB r)):=Fj f202 0x960392b10392040300d985bbbb039261300403000396cb0392816201 [] [.tmp 2] (h:=fun r h c d=>by
  unfold E1 at h;have:HA 0 3 0 0 fun(a:Int)(_:Unit)=>[(3,.tv (eI a))]:=⟨⟩;have:HA 2 4 3 0 fun(b:Int)(_:Unit)=>[(4,.tv (eI b))]:=⟨⟩;exact nz)
instance AAC(a:d4)(b:d4)(m:d6):Ct prog (H2 a b m) 269 [At a,At b,Aq m] (fun r=>.sh (eB r)):=Fj f269 0xb80eb3f9f70eda7ef1 [] [.tmp 6] (h:=fun r h c d=>by
  unfold H2 at h;exact nz)
abbrev Q_198(n:Nat):Prop:=∀(t:AC)(p:ec)(c:d7),Ct prog (E8 n t p c) 198 [AQ t,BF p,AK c] (fun r=>.sh (eI r))
theorem th(n:Nat)(_ih_198:Q_198 n)(t:AC)(p:ec)(c:d7):Ct prog (E8 (n+1) t p c) 198 [AQ t,BF p,AK c] (fun r=>.sh (eI r)):=Fj f198 0x960a0705a59d80a709e16c550078b30a0705a5810705760705763c706ce438b455b6eae4aaf355b6eae4aaf36ce4b5558559700cc96c01f1 [] [.tmp 6] (h:=fun r h b d=>by
  unfold E8 at h;have:HA 0 10 5 1 fun(a:Int)(_:Unit)=>[(10,.tv (eI a))]:=⟨⟩;exact nz)
theorem tf:∀n:Nat,Q_198 n:=by
  intro n
  induction n with
  |zero=>exact(fun t p c=>⟨fun _ h=>by cases h⟩)
  |succ n a=>exact th n a
instance yn(t:AC)(p:ec)(c:d7):Ct prog (XD t p c) 198 [AQ t,BF p,AK c] (fun r=>.sh (eI r)):=⟨fun r h=>by
  obtain ⟨N,a⟩:=C1 h;exact((tf N) t p c).snd r (a N (az _))⟩
instance xu(t:AC)(p:ec)(c:d7):Ct prog (Ju t p c) 147 [AQ t,BF p,AK c] (fun r=>.sh (eI r)):=Fj f147 0x810ea76cf2a7f36c7ef1 [] [.tmp 6] (h:=fun r h a b=>by
  unfold Ju at h;exact nz)
instance zq(t:AC)(p:d4)(g:d4):Ct prog (IP t p g) 255 [AQ t,At p,At g] (fun r=>.sh (eI r)):=Fj f255 0xa68a90557e9055f2f2840163f47ef1 [] [.tmp 6] (h:=fun r h a b=>by
  unfold IP at h;exact nz)
instance yo(t:AC)(p:d4)(g:d4):Ct prog (LM t p g) 199 [AQ t,At p,At g] (fun r=>.sh (eB r)):=Fj f199 0xb80a0a6bb30a6bf76b5ce3580eda7ef97ef9556a7ef1 [] [.tmp 6] (h:=fun r h a b=>by
  unfold LM at h;exact nz)
instance xw(t:AC)(p:ec)(a:AH):Ct prog (Nx t p a) 148 [AQ t,BF p,Bn a] (fun r=>.sh (eB r)):=Fj f148 0xb80eaaaa7ef9656a6c01f1 [] [.tmp 6] (h:=fun r h b c=>by
  unfold Nx at h;exact nz)
abbrev Q_149(n:Nat):Prop:=∀(c:d7),Ct prog (FU n c) 149 [AK c] (fun r=>.sh (eB r))
theorem tW(n:Nat)(_ih_149:Q_149 n)(c:d7):Ct prog (FU (n+1) c) 149 [AK c] (fun r=>.sh (eB r)):=Fj f149 0xac6b3675e40b6d5ae43036029db4a709e13078b33602c89f [] [.tmp 2] (h:=fun r h b d=>by
  unfold FU at h;have:HA 0 3 1 1 fun(a:Int)(_:Unit)=>[(3,.tv (eI a))]:=⟨⟩;exact nz)
theorem tV:∀n:Nat,Q_149 n:=by
  intro n
  induction n with
  |zero=>exact(fun c=>⟨fun _ h=>by cases h⟩)
  |succ n a=>exact tW n a
instance xx(c:d7):Ct prog (Pj c) 149 [AK c] (fun r=>.sh (eB r)):=⟨fun r h=>by
  obtain ⟨N,a⟩:=C1 h;exact((tV N) c).snd r (a N (az _))⟩
abbrev Q_150(n:Nat):Prop:=∀(p:ec)(c:d7)(a:Int)(b:Int),Ct prog (D6 n p c a b) 150 [BF p,AK c,eI a,eI b] (fun r=>.sh (eB r))
theorem tY(n:Nat)(_ih_150:Q_150 n)(p:ec)(c:d7)(a:Int)(b:Int):Ct prog (D6 (n+1) p c a b) 150 [BF p,AK c,eI a,eI b] (fun r=>.sh (eB r)):=Fj f150 0xac010a010dbe055d069db430a709e16c0a0178b30dbe055d06b80905fb0cbe055d06b15830be05fb787cdd0cbe055d06810b7c37be695d060bbe695d07b15830be695d0678cafabe695d07810bca810969fb0969fb3c706ce48559700cc96c015f5d02 [] [.tmp 8] (h:=fun r h i j=>by
  unfold D6 at h;have:HJ 17 fun(d:ec)=>[(9,.bx [⟨false,lI d.d4.d3⟩,⟨false,lE d.d4.d5⟩,⟨false,lS d.gn⟩,⟨false,eI d.hV⟩,⟨false,lT d.sx⟩])]:=⟨⟩;have:HW 0 fun(f:Int×Int)=>[(10,.tv (eI f.1)),(11,.tv (eI f.2))]:=⟨⟩;have:HW 2 fun(e:Int×Int)=>[(10,.tv (eI e.1)),(12,.tv (eI e.2))]:=⟨⟩;have:HA 4 13 5 1 fun(g:Int)(_:Unit)=>[(13,.tv (eI g))]:=⟨⟩;exact nz)
theorem tX:∀n:Nat,Q_150 n:=by
  intro n
  induction n with
  |zero=>exact(fun p c ei ek=>⟨fun _ h=>by cases h⟩)
  |succ n a=>exact tY n a
instance xy(p:ec)(c:d7)(b:Int)(a:Int):Ct prog (Ob p c b a) 150 [BF p,AK c,eI b,eI a] (fun r=>.sh (eB r)):=⟨fun r h=>by
  obtain ⟨N,d⟩:=C1 h;exact((tX N) p c b a).snd r (d N (az _))⟩
instance xE(t:AC)(p:ec)(c:d7)(a:AH):Ct prog (LR t p c a) 101 [AQ t,BF p,AK c,Bn a] (fun r=>.sh (eB r)):=Fj f101 0xb8f9a76c010a6b7cdd0a6bca01f9a76a656c55580ea76c848a9065010a906c0190a7015fa1 [] [.tmp 8] (h:=fun r h b d=>by
  unfold LR at h;exact nz)
instance c68(t:AC)(b:f0)(a:AH):Ct prog (Jw t b a) 68 [AQ t,Bc b,Bn a] (fun r=>.sh (eB r)):=Fj f68 0xb80e65a710426cc17ef9ef6a7ef1 [] [.tmp 6] (h:=fun r h c d=>by
  unfold Jw at h;exact nz)
abbrev Q_69(n:Nat):Prop:=∀(p:ec)(c:d7)(a:Int),Ct prog (DE n p c a) 69 [BF p,AK c,eI a] (fun r=>.sh (eB r))
theorem wt(n:Nat)(_ih_69:Q_69 n)(p:ec)(c:d7)(a:Int):Ct prog (DE (n+1) p c a) 69 [BF p,AK c,eI a] (fun r=>.sh (eB r)):=Fj f69 0xac01a20a070402049db401a709e16ca2ffcd306bb30a0704020481070402030907040204b1580107040203ffcd306b7cdd0907040204810b7c3707045d047704fbb1580107045d04ffcd306bca017704fb810bca07045d0407045d043c706ce48559700cc96c015fa2 [] [.tmp 6] (h:=fun r h g i=>by
  unfold DE at h;have:HJ 14 fun(b:ec)=>[(7,.bx [⟨false,lI b.d4.d3⟩,⟨false,lE b.d4.d5⟩,⟨false,lS b.gn⟩,⟨false,eI b.hV⟩,⟨false,lT b.sx⟩])]:=⟨⟩;have:HW 0 fun(e:Int×Int)=>[(2,.tv (eI e.1)),(8,.tv (eI e.2))]:=⟨⟩;have:HW 2 fun(d:Int×Int)=>[(2,.tv (eI d.1)),(9,.tv (eI d.2))]:=⟨⟩;have:HW 4 fun(f:Int)=>[(10,.tv (eI f))]:=⟨⟩;exact nz)
theorem ws:∀n:Nat,Q_69 n:=by
  intro n
  induction n with
  |zero=>exact(fun p c a=>⟨fun _ h=>by cases h⟩)
  |succ n b=>exact wt n b
instance c69(p:ec)(c:d7)(a:Int):Ct prog (Ln p c a) 69 [BF p,AK c,eI a] (fun r=>.sh (eB r)):=⟨fun r h=>by
  obtain ⟨N,b⟩:=C1 h;exact((ws N) p c a).snd r (b N (az _))⟩
instance c81(t:AC)(a:Int)(b:Fp):Ct prog (Mu t a b) 81 [AQ t,eI a,lI b] (fun r=>.sh (eI r)):=Fj f81 0x96090702d9cd5d41ba305eeb7cba30bb00cb09070203a6bcfa3082710184830241dc5938bc593093a202 [] [.tmp 6] (h:=fun r h d e=>by
  unfold Mu at h;have:HA 0 9 7 0 fun(c:Int)(_:Unit)=>[(9,.tv (eI c))]:=⟨⟩;exact nz)
abbrev Q_123(n:Nat):Prop:=∀(t:AC)(a:Int)(b:Int),Ct prog (FT n t a b) 123 [AQ t,eI a,eI b] (fun r=>.sh (eB r))
theorem tU(n:Nat)(_ih_123:Q_123 n)(t:AC)(a:Int)(b:Int):Ct prog (FT (n+1) t a b) 123 [AQ t,eI a,eI b] (fun r=>.sh (eB r)):=Fj f123 0xb8f9017cdc595558b27393a202 [] [.tmp 6] (h:=fun r h c d=>by
  unfold FT at h;exact nz)
theorem tT:∀n:Nat,Q_123 n:=by
  intro n
  induction n with
  |zero=>exact(fun t a b=>⟨fun _ h=>by cases h⟩)
  |succ n c=>exact tU n c
instance xa(t:AC)(a:Int)(b:Int):Ct prog (G8 t a b) 123 [AQ t,eI a,eI b] (fun r=>.sh (eB r)):=⟨fun r h=>by
  obtain ⟨N,c⟩:=C1 h;exact((tT N) t a b).snd r (c N (az _))⟩
instance c82(t:AC)(b:Int)(a:Int)(c:Int):Ct prog (Kr t b a c) 82 [AQ t,eI b,eI a,eI c] (fun r=>.sh (eB r)):=Fj f82 0xb80e5d41077fb3556a7c077fb3848a906b5cb20e307e935d0103 [] [.tmp 8] (h:=fun r h d e=>by
  unfold Kr at h;exact nz)
instance c43(t:AC)(a:AH):Ct prog (Gq t a) 43 [AQ t,Bn a] (fun r=>.tp [eI r.1,eI r.2]):=Fj f43 0x7d000b5dd9c8b45e9bca5e5cca5984c8bc5c5997ecd67f7c3700787cdd0b5d03815d02095dd98130729e9b9eca555d0278ca01095d03a681bcca0b9b388180aa38c863f45530a1 [] [.tmp 4,.tmp 5] (h:=fun r h d e=>by
  unfold Gq at h;have:HA 0 9 3 0 fun(b:Int)(_:Unit)=>[(9,.tv (eI b))]:=⟨⟩;have:HA 2 11 3 1 fun(c:Int)(_:Unit)=>[(11,.tv (eI c))]:=⟨⟩;exact nz)
instance AAD(t:AC)(p:ec)(a:Int):Ct prog (Mx t p a) 270 [AQ t,BF p,eI a] (fun r=>.sh (eI r)):=Fj f270 0x960a070402049dcd5c7cdc9b58596ddc9b0061300a07040204a6cd7c0274897c027489b56d0274896d02740a6b015c58b382715e59ca84b9caf759d208c9a8dce95fa2 [] [.tmp 6] (h:=fun r h c d=>by
  unfold Mx at h;have:HA 0 10 2 0 fun(b:Int)(_:Unit)=>[(10,.tv (eI b))]:=⟨⟩;exact nz)
instance yp(t:AC)(a:f0):Ct prog (LV t a) 200 [AQ t,Bc a] (fun r=>.sh (eI r)):=Fj f200 0x96065dd9805844d35500785d410674065d03a6bc5d41d338b9a541d3587641c17641d338b4ead3f2ea0674a1 [] [.tmp 4] (h:=fun r h c d=>by
  unfold LV at h;have:HA 0 6 3 8 fun(b:Int)(_:Unit)=>[(6,.tv (eI b))]:=⟨⟩;exact nz)
instance AAp(l:Fp)(n:Int):Ct prog (GM l n) 311 [lI l,eI n] (fun r=>.sh (eI r)):=Fj f311 0x968cd9cd5e05305e73d438cd015eebbb00cb8c0381ed [] [.tmp 4] (h:=fun r h b c=>by
  unfold GM at h;have:HA 0 5 0 0 fun(a:Int)(_:Unit)=>[(5,.tv (eI a))]:=⟨⟩;exact nz)
instance AAq(l:Fp)(n:Int):Ct prog (OM l n) 312 [lI l,eI n] (fun r=>.sh (eB r)):=Fj f312 0x968cd98501bb00cb8c0381ed [] [.tmp 4] (h:=fun r h b c=>by
  unfold OM at h;have:HA 0 5 0 0 fun(a:Int)(_:Unit)=>[(5,.tv (eI a))]:=⟨⟩;exact nz)
instance zp(g:d4)(p:BH):Ct prog (Nv g p) 254 [At g,Fr p] (fun r=>.sh (eI r)):=Fj f254 0x96075dd98a909b91905c5997ecd6439e5c5c0078b3075d03a680fc5cf3e391a1 [] [.tmp 4] (h:=fun r h b c=>by
  unfold Nv at h;have:HA 0 7 3 1 fun(a:Int)(_:Unit)=>[(7,.tv (eI a))]:=⟨⟩;exact nz)
instance yg(g:d4)(p:BH):Ct prog (IL g p) 187 [At g,Fr p] (fun r=>.sh (eI r)):=Fj f187 0x810e55f27ea1 [] [.tmp 4] (h:=fun r h a b=>by
  unfold IL at h;exact nz)
instance yh(l:Fp)(n:Int):Ct prog (IM l n) 188 [lI l,eI n] (fun r=>.sh (eI r)):=Fj f188 0x968cd9018501bb00cb8c0381ed [] [.tmp 4] (h:=fun r h b c=>by
  unfold IM at h;have:HA 0 5 0 0 fun(a:Int)(_:Unit)=>[(5,.tv (eI a))]:=⟨⟩;exact nz)
instance xf(g:d4)(p:BH):Ct prog (Hd g p) 130 [At g,Fr p] (fun r=>.tp [At r.1,Aq r.2.1,eI r.2.2]):=Fj f130 0x69023b819a9a034601485cad0148914755f5a50af55d06b1e6c1034803470ee79b590e5c595904c197ecd6439e5c5cf5a578b30af55d0681f5fb09f55d06b1e6dddb5e9e59590437f5fb789109f55d06b8c9389a9afa460a4672557ef00ac9a1 [] [.cell 4 (some 2),.cell 5 (some 2),.tmp 6] (h:=fun r h e f=>by
  unfold Hd at h;have:HA 0 9 3 0 fun(c:Int)(b:d4)=>[(8,.bx [⟨true,lI b.d3⟩,⟨true,lE b.d5⟩]),(9,.tv (eI c))]:=⟨⟩;have:HA 2 10 3 1 fun(d:Int)(a:d4)=>[(8,.bx [⟨true,lI a.d3⟩,⟨true,lE a.d5⟩]),(10,.tv (eI d))]:=⟨⟩;exact nz)
instance yq(a:f0):Ct prog (My a) 201 [Bc a] (fun r=>.sh (eI r)):=Fj f201 0x810e550d42ead37e9a9a0b490ac91171550b42eac1f3550b42ea01749f [] [.tmp 2] (h:=fun r h b c=>by
  unfold My at h;exact nz)
instance AAw(l:Fp)(n:Int):Ct prog (Qi l n) 318 [lI l,eI n] (fun r=>.sh (eB r)):=Fj f318 0x968cd98501bb00cb8c0381ed [] [.tmp 4] (h:=fun r h b c=>by
  unfold Qi at h;have:HA 0 5 0 0 fun(a:Int)(_:Unit)=>[(5,.tv (eI a))]:=⟨⟩;exact nz)
instance AAE(n:Int)(l:Fp):Ct prog (Kv n l) 271 [eI n,lI l] (fun r=>.own (lI r)):=Fj f271 0x8202d4e8b1e8e83ca2dbd7b4b2f630e8c8c001406202 [] [.tmp 4] (h:=fun r h c d=>by
  unfold Kv at h;have:HA 0 6 0 0 fun(b:Int)(a:Fp)=>[(5,.ow (lI a)),(6,.tv (eI b))]:=⟨⟩;exact nz)
instance yt(a:f0):Ct prog (Jj a) 203 [Bc a] (fun r=>.tp [lI r.1,lI r.2]):=Fj f203 0x82820e7c0d420b3675d30e6d0d420b6d5a06744001409f [] [.tmp 2,.tmp 3] (h:=fun r h b c=>by
  unfold Jj at h;exact nz)
instance yu(t:AC)(g:d4)(b:Fp)(a:Fp):Ct prog (Kc t g b a) 204 [AQ t,At g,lI b,lI a] (fun r=>.sh (eB r)):=Fj f204 0x960a69a59db45e9b595e5c59595597ecd643bb5c00cb0a69a58169760969fb9d830241ba5ebb59596976cb0969fbc85f5d02 [] [.tmp 8] (h:=fun r h e f=>by
  unfold Kc at h;have:HA 0 9 2 0 fun(c:Int)(_:Unit)=>[(9,.tv (eI c))]:=⟨⟩;have:HA 2 10 3 0 fun(d:Int)(_:Unit)=>[(10,.tv (eI d))]:=⟨⟩;exact nz)
instance xz(t:AC)(a:f0):Ct prog (Jv t a) 151 [AQ t,Bc a] (fun r=>.sh (eI r)):=Fj f151 0x810ea710426cc184b430ead355828271ef388a907c0d74906d0d42f3eff3eff26cc184b459380163f47ea1 [] [.tmp 4] (h:=fun r h b c=>by
  unfold Jv at h;exact nz)
instance xF(t:AC)(a:List f0):Ct prog (La t a) 102 [AQ t,(eL 25 Bc) a] (fun r=>.sh (eI r)):=Fj f102 0x9607a2d980ef1943305500cb07a203a6bce00163f47ec3 [] [.tmp 4] (h:=fun r h c d=>by
  unfold La at h;have:HA 0 7 1 0 fun(b:Int)(_:Unit)=>[(7,.tv (eI b))]:=⟨⟩;exact nz)
instance c70(t:AC)(a:List f0)(b:AH):Ct prog (Jy t a b) 70 [AQ t,(eL 25 Bc) a,Bn b] (fun r=>.sh (eI r)):=Fj f70 0x815bf465f2017e5f30 [] [.tmp 6] (h:=fun r h c d=>by
  unfold Jy at h;exact nz)
instance c37(t:AC)(a:List f0)(b:AH):Ct prog (LZ t a b) 37 [AQ t,(eL 25 Bc) a,Bn b] (fun r=>.sh (eB r)):=Fj f37 0xb80a6b7cdd0a6bcaeb0e65cc0705360477053605b101f9a710411943306c01411943730a6b6d5a06411943730a6b367501411943730a6b6d5a01411943303038b465ef1943305507053604cb770536057d388a9065010a907e0a6b300a6b306b305f30 [] [.tmp 6] (h:=fun r h e f=>by
  unfold LZ at h;have:HA 0 8 1 0 fun(d:Int)(c:Bool)=>[(7,.tv (eB c)),(8,.tv (eI d))]:=⟨⟩;exact nz)
instance c23(m:AO)(n:Int):Ct prog (E3 m n) 23 [Bf m,eI n] (fun r=>.sh (eB r)):=Fj f23 0x8189fa9b6a01aa01c3 [] [.tmp 4] (h:=fun r h a b=>by
  unfold E3 at h;exact nz)
instance c71(d:AR)(a:Int):Ct prog (OP d a) 71 [Ch d,eI a] (fun r=>.sh (eB r)):=Fj f71 0x960502029db4650141dcb50078b5580202a6cdfa76749065ddc3 [] [.tmp 4] (h:=fun r h c e=>by
  unfold OP at h;have:HA 0 5 2 3 fun(b:Int)(_:Unit)=>[(5,.tv (eI b))]:=⟨⟩;exact nz)
instance c38(b:AI)(a:Int):Ct prog (Qj b a) 38 [BL b,eI a] (fun r=>.sh (eB r)):=Fj f38 0xb86ba574f9a8dd0a6b76413758fa7641ddc3 [] [.tmp 4] (h:=fun r h c d=>by
  unfold Qj at h;exact nz)
instance c45(a:Fp)(b:Fp):Ct prog (Gz a b) 45 [lI a,lI b] (fun r=>.sh (eB r)):=Fj f45 0x968cd985bbbb00cb8c03a6bcfade [] [.tmp 4] (h:=fun r h d e=>by
  unfold Gz at h;have:HA 0 5 0 0 fun(c:Int)(_:Unit)=>[(5,.tv (eI c))]:=⟨⟩;exact nz)
instance c62(a:d4)(b:d4):Ct prog (Ms a b) 62 [At a,At b] (fun r=>.sh (eB r)):=Fj f62 0x96055dd9bfd6e1d6e100785c585d03a6b95c0bb3905991a1 [.bin (.a [0,0,0]) .neq (.s 32) (.s 37)] [.tmp 4] (h:=fun r h d e=>by
  unfold Ms at h;have:HA 0 5 2 1 fun(c:Int)(_:Unit)=>[(5,.tv (eI c))]:=⟨⟩;exact nz)
instance c63(a:Fp)(b:Fp):Ct prog (Ji a b) 63 [lI a,lI b] (fun r=>.sh (eI r)):=Fj f63 0x816bfaed8cd905bbbb85bb5edeffb9736b308c0381ed [] [.tmp 4] (h:=fun r h d e=>by
  unfold Ji at h;have:HW 0 fun(c:Int)=>[(5,.tv (eI c))]:=⟨⟩;exact nz)
instance c32(a:AH)(b:AH):Ct prog (Mt a b) 32 [Bn a,Bn b] (fun r=>.sh (eB r)):=Fj f32 0x96055dd9850e9e9b9e9b00789b585d03a6b99b0be990aaaa01a1 [] [.tmp 4] (h:=fun r h d e=>by
  unfold Mt at h;have:HA 0 5 2 2 fun(c:Int)(_:Unit)=>[(5,.tv (eI c))]:=⟨⟩;exact nz)
instance yR(a:Fp)(b:Fp):Ct prog (Gy a b) 169 [lI a,lI b] (fun r=>.sh (eB r)):=Fj f169 0x968cd985bbbb00cb8c03a6bcfade [] [.tmp 4] (h:=fun r h d e=>by
  unfold Gy at h;have:HA 0 5 0 0 fun(c:Int)(_:Unit)=>[(5,.tv (eI c))]:=⟨⟩;exact nz)
instance xb(a:d6)(b:d6):Ct prog (Ow a b) 124 [Aq a,Aq b] (fun r=>.sh (eB r)):=Fj f124 0xb80e5c5c6a5991a1 [] [.tmp 4] (h:=fun r h c d=>by
  unfold Ow at h;exact nz)
instance c83(a:List tg)(b:List tg):Ct prog (H3 a b) 83 [(eL 4 CZ) a,(eL 4 CZ) b] (fun r=>.sh (eB r)):=Fj f83 0x968cd98a905d410141ba305d410141ba730a90ea0141ba30ea0141baeb6dba306dba3000cb8c03a6bcfade [] [.tmp 4] (h:=fun r h d e=>by
  unfold H3 at h;have:HA 0 5 0 0 fun(c:Int)(_:Unit)=>[(5,.tv (eI c))]:=⟨⟩;exact nz)
instance c44(a:AR)(b:AR):Ct prog (Mz a b) 44 [Ch a,Ch b] (fun r=>.sh (eB r)):=Fj f44 0xb80eb5b56a653765dda1 [] [.tmp 4] (h:=fun r h c d=>by
  unfold Mz at h;exact nz)
instance c14(a:AI)(b:AI):Ct prog (JU a b) 14 [BL a,BL b] (fun r=>.sh (eB r)):=Fj f14 0xb80edfdf6aa837a8dda1 [] [.tmp 4] (h:=fun r h c d=>by
  unfold JU at h;exact nz)
instance c41(g:d4):Ct prog (Ix g) 41 [At g] (fun r=>.oag [⟨true,lI r.d3⟩,⟨true,lE r.d5⟩]):=Fj f41 0xa23b02503f03485c0347014891470ac99f [.Aau [.w 6,.w 10]] [.cell 2 (some 2)] (h:=fun r h a b=>by
  unfold Ix at h;exact nz)
instance c12(a:AH):Ct prog (G9 a) 12 [Bn a] (fun r=>.oag [⟨true,lI r.d4.d3⟩,⟨true,lE r.d4.d5⟩,⟨true,.xn (List.map lI r.fd)⟩]):=Fj f12 0x35003535d02045d0104b11fb62122014f9ee95623b65d0278e9045d010481035019c93f1baa19c99f [.Aau [.g 7 0 2,.g 7 1 2,.z ⟨true,.xn []⟩]] [.cell 2 (some 3)] (h:=fun r h d e=>by
  unfold G9 at h;have:HA 0 4 1 2 fun(c:Int)(b:AH)=>[(3,.bx [⟨true,lI b.d4.d3⟩,⟨true,lE b.d4.d5⟩,⟨true,.xn (List.map lI b.fd)⟩]),(4,.tv (eI c))]:=⟨⟩;exact nz)
instance c86(m:AO):Ct prog (IR m) 86 [Bf m] (fun r=>.sh (Bf r)):=Fj f86 0xa23b9704460148e947034601487c37ad0148caad12c99f [] [.cell 2 (some 3)] (h:=fun r h a b=>by
  unfold IR at h;exact nz)
instance c48(d:AR):Ct prog (I3 d) 48 [Ch d] (fun r=>.oag [⟨true,lI r.kg.d4.d3⟩,⟨true,lE r.kg.d4.d5⟩,⟨true,.xn (List.map lI r.kg.fd)⟩,⟨true,(eL 4 CZ) r.j4⟩]):=Fj f48 0x45004535d02045d0104b1e603420448044705e7650141dcb56ddcb50403425d02787674045d010481045015c93f1b653715c99f [.Aau [.g 7 0 3,.g 7 1 3,.g 7 2 3,.z ⟨true,.list 4 []⟩]] [.cell 2 (some 4)] (h:=fun r h c e=>by
  unfold I3 at h;have:HA 0 4 1 3 fun(b:Int)(a:AR)=>[(3,.bx [⟨true,lI a.kg.d4.d3⟩,⟨true,lE a.kg.d4.d5⟩,⟨true,.xn (List.map lI a.kg.fd)⟩,⟨true,(eL 4 CZ) a.j4⟩]),(4,.tv (eI b))]:=⟨⟩;exact nz)
instance c17(a:AI):Ct prog (Dy a) 17 [BL a] (fun r=>.oag [⟨true,lI r.ff.kg.d4.d3⟩,⟨true,lE r.ff.kg.d4.d5⟩,⟨true,.xn (List.map lI r.ff.kg.fd)⟩,⟨true,(eL 4 CZ) r.ff.j4⟩,⟨true,lI r.kl⟩]):=Fj f17 0xa23b05503f0148a574471ba837cf9f [.Aau [.g 5 0 4,.g 5 1 4,.g 5 2 4,.g 5 3 4,.w 9]] [.cell 2 (some 5)] (h:=fun r h b c=>by
  unfold Dy at h;exact nz)
instance xh(t:AC)(b:f0)(a:AH):Ct prog (Ny t b a) 139 [AQ t,Bc b,Bn a] (fun r=>.sh (eI r)):=Fj f139 0x815bf465f2ef7ef1 [] [.tmp 6] (h:=fun r h c d=>by
  unfold Ny at h;exact nz)
instance ABK(l:Fp):Ct prog (I0 l) 349 [lI l] (fun r=>.sh (eB r)):=Fj f349 0x960392b10392040300d985bbbb039261300403000396cb0392816201 [] [.tmp 2] (h:=fun r h c d=>by
  unfold I0 at h;have:HA 0 3 0 0 fun(a:Int)(_:Unit)=>[(3,.tv (eI a))]:=⟨⟩;have:HA 2 4 3 0 fun(b:Int)(_:Unit)=>[(4,.tv (eI b))]:=⟨⟩;exact nz)
instance AAi(t:AC)(p:d4)(g:d4)(m:d6)(a:Bool):Ct prog (LN t p g m a) 304 [AQ t,At p,At g,Aq m,eB a] (fun r=>.sh (eI r)):=Fj f304 0xa68a0a90b39059300804020cc504059dcd9b5e9bf75c5e5c59388559599797ececd6439e5c5cd6e138b95c9e5c589e5c08040278b30cc5040581c504040bc569069db49e595e9e595984b9599ef79e59c5040478910bc56906a6b95cfc58e30b915f5f0401 [] [.tmp 10] (h:=fun r h d e=>by
  unfold LN at h;have:HA 0 11 8 0 fun(b:Int)(_:Unit)=>[(11,.tv (eI b))]:=⟨⟩;have:HA 2 12 8 1 fun(c:Int)(_:Unit)=>[(12,.tv (eI c))]:=⟨⟩;exact nz)
instance zc(t:AC)(p:d4)(g:d4)(m:d6)(a:Bool):Ct prog (IN t p g m a) 241 [AQ t,At p,At g,Aq m,eB a] (fun r=>.sh (eI r)):=Fj f241 0x810eccdaf2da7e5f5f0401 [] [.tmp 10] (h:=fun r h b c=>by
  unfold IN at h;exact nz)
instance yi(t:AC)(p:ec)(a:AH):Ct prog (LP t p a) 192 [AQ t,BF p,Bn a] (fun r=>.sh (eI r)):=Fj f192 0x815bf465f26c7ef1 [] [.tmp 6] (h:=fun r h b c=>by
  unfold LP at h;exact nz)
instance zu(a:kp)(b:Fp):Ct prog (IQ a b) 258 [MU a,lI b] (fun r=>.sh (eI r)):=Fj f258 0xac5c5e91385c8591c3 [] [.tmp 4] (h:=fun r h c d=>by
  unfold IQ at h;exact nz)
instance AAs(t:kp)(a:Fp):Ct prog (Jr t a) 314 [MU t,lI a] (fun r=>.tp [eI r.1,eB r.2]):=Fj f314 0x7d055c5e913881b901f75938815c855930c3 [] [.tmp 4,.tmp 5] (h:=fun r h b c=>by
  unfold Jr at h;exact nz)
instance zv(a:Test)(b:Fp):Ct prog (LI a b) 259 [FJ a,lI b] (fun r=>.sh (eB r)):=Fj f259 0xb889eb9189eb59388a0830085b8171cc03427d71017e74c3 [] [.tmp 4] (h:=fun r h c d=>by
  unfold LI at h;exact nz)
instance yj(p:ec)(a:AH)(m:d6):Ct prog (KZ p a m) 194 [BF p,Bn a,Aq m] (fun r=>.tp [lI r.1,eI r.2]):=Fj f194 0x818218086a08769d01c08820146c057fdf080178df6a087681085dbef503069d01c08501201455b60c0bbef503080c0bbef503083c01fd057cb6301401fd01148a0817e20114585b6db6815e5c5e5e59599bd208c9a8dc9b085d78e9bef5030681993fb5993fb53040f1 [.mkx 1 [.int .i64 0] (.s 16),.mkx 1 [.bool false] (.s 19)] [.tmp 6,.tmp 7] (h:=fun r h e f=>by
  unfold KZ at h;have:HA 0 10 3 2 fun(c:Int)(b:Fp×a5)=>[(8,.xo 1 (List.map eI b.1)),(9,.xo 1 (List.map eB b.2)),(10,.tv (eI c))]:=⟨⟩;have:HA 2 14 3 4 fun(d:Int)(_:Unit)=>[(14,.tv (eI d))]:=⟨⟩;exact nz)
instance ze(t:AC)(p:ec)(a:AH)(m:d6):Ct prog (LO t p a m) 242 [AQ t,BF p,Bn a,Aq m] (fun r=>.tp [lI r.1,eI r.2]):=Fj f242 0x8182640e55656c3801c08055aaaa8401c080656c5530405fa1 [] [.tmp 8,.tmp 9] (h:=fun r h b c=>by
  unfold LO at h;exact nz)
instance zf(t:AC)(p:d4)(g:d4)(m:d6):Ct prog (Iz t p g m) 243 [AQ t,At p,At g,Aq m] (fun r=>.tp [At r.1,eI r.2]):=Fj f243 0x819a550b3e0b08020c0bc505b101fd5e9e59911d370b080261151ddd0c0bc5058102501ac927849a010a467255da7e0ac95fa1 [] [.cell 8 (some 2),.tmp 9] (h:=fun r h b c=>by
  unfold Iz at h;have:HW 0 fun(a:d4×Int)=>[(11,.bx [⟨true,.xl 1 (List.map eI a.1.d3)⟩,⟨true,.xl 3 (List.map Bm a.1.d5)⟩]),(12,.tv (eI a.2))]:=⟨⟩;exact nz)
instance AAj(l:d4)(g:d4)(a:BH)(m:d6):Ct prog (Nw l g a m) 305 [At l,At g,Fr a,Aq m] (fun r=>.sh (eI r)):=Fj f305 0x810e55f2da7e5fa1 [] [.tmp 8] (h:=fun r h b c=>by
  unfold Nw at h;exact nz)
instance ABL(l:Fp)(n:Int):Ct prog (Dw l n) 350 [lI l,eI n] (fun r=>.sh (eB r)):=Fj f350 0x968cd98501bb00cb8c0381ed [] [.tmp 4] (h:=fun r h b c=>by
  unfold Dw at h;have:HA 0 5 0 0 fun(a:Int)(_:Unit)=>[(5,.tv (eI a))]:=⟨⟩;exact nz)
instance AAk(a:Fp)(b:Fp):Ct prog (Fk a b) 306 [lI a,lI b] (fun r=>.own ((eL 2 QT) r)):=Fj f306 0x8202d4e8b1e8bd8c05b1bd8c05bd8c053c02024802470c4630028a0a907390ebbbbbe8cbbd8c05ac5801cbe88102c002406202 [] [.tmp 4] (h:=fun r h g i=>by
  unfold Fk at h;have:HA 0 6 0 0 fun(e:Int)(d:List GP)=>[(5,.ow ((eL 2 QT) d)),(6,.tv (eI e))]:=⟨⟩;have:HA 2 7 0 0 fun(f:Int)(c:List GP)=>[(5,.ow ((eL 2 QT) c)),(7,.tv (eI f))]:=⟨⟩;exact nz)
instance AAn(a:Fp)(b:Fp):Ct prog (JT a b) 309 [lI a,lI b] (fun r=>.own (lI r)):=Fj f309 0x8202d4e8b1e8e83ca2dbbb02b4b201cbe8c8c001406202 [] [.tmp 4] (h:=fun r h e f=>by
  unfold JT at h;have:HA 0 6 0 0 fun(d:Int)(c:Fp)=>[(5,.ow (lI c)),(6,.tv (eI d))]:=⟨⟩;exact nz)
instance AAl(l:d4)(g:d4)(a:BH)(m:d6):Ct prog (Iy l g a m) 307 [At l,At g,Fr a,Aq m] (fun r=>.own (lI r)):=Fj f307 0x820209fabe070505b10bbe07056bbe0705053ca2dbd78af95d4103e1300e7c03e13090015c090178b30bbe07050581820e5991c00140935f1300 [] [.tmp 8] (h:=fun r h d e=>by
  unfold Iy at h;have:HA 0 11 5 1 fun(c:Int)(b:Fp)=>[(9,.ow (lI b)),(11,.tv (eI c))]:=⟨⟩;exact nz)
instance AAm(n:Int)(l:Fp):Ct prog (Ku n l) 308 [eI n,lI l] (fun r=>.own (lI r)):=Fj f308 0x8202d4e8b1e8e83ca2dbd7b4b2f630e8c8c001406202 [] [.tmp 4] (h:=fun r h c d=>by
  unfold Ku at h;have:HA 0 6 0 0 fun(b:Int)(a:Fp)=>[(5,.ow (lI a)),(6,.tv (eI b))]:=⟨⟩;exact nz)
instance zg(l:d4)(g:d4)(a:BH)(m:d6):Ct prog (Ph l g a m) 244 [At l,At g,Fr a,Aq m] (fun r=>.tp [Fr r.1,eI r.2]):=Fj f244 0x8013b819a03e70e5c5cfc0e0e5959e3389a0b46bc0e55da849a0b46856b0e5c5c0b0e5959389afa467255da7ef05fa1 [] [.cell 8 (some 2),.tmp 9] (h:=fun r h b c=>by
  unfold Ph at h;exact nz)
instance ABd(n:Int)(a:Fp)(m:Fp):Ct prog (I2 n a m) 375 [eI n,lI a,lI m] (fun r=>.own (lI r)):=Fj f375 0x821807010907a204b101fdbbbb140701cb0907a2048107a20377026205b119014fad1907a203613077026205c8ce0140026203 [] [.tmp 6] (h:=fun r h f g=>by
  unfold I2 at h;have:HA 0 8 0 0 fun(d:Int)(c:Fp)=>[(7,.xo 1 (List.map eI c)),(8,.tv (eI d))]:=⟨⟩;have:HA 2 9 1 0 fun(e:Int)(b:Fp)=>[(7,.xo 1 (List.map eI b)),(9,.tv (eI e))]:=⟨⟩;exact nz)
instance ABN(b:Ag)(a:Fp):Ct prog (FE b a) 352 [.pt (SN b).cells,lI a] (fun r=>.sh (eB r)):=Fj f352 0x968c03605862038c0381880107e5c58c06b1010a895ee9e9895eb35c5859593097ecd67f7c04750107e5787c047530c58c067dff8c03b9019b580b015c97ecd67f7c027562787c0275308c0381ed [] [.tmp 4] (h:=fun r h f g=>by
  unfold FE at h;have:HA 0 5 0 3 fun(d:Int)(_:Unit)=>[(5,.tv (eI d))]:=⟨⟩;have:HA 2 8 0 5 fun(e:Int)(c:Bool)=>[(7,.tv (eB c)),(8,.tv (eI e))]:=⟨⟩;exact nz)
instance ABP(a:Ag)(l:Fp)(n:Int):Ct prog (Cp a l n) 354 [.pt (SN a).cells,lI l,eI n] (fun r=>.sh (eB r)):=Fj f354 0x960702d59d8501bb00ff8a030875306b300702d5c8026203 [] [.tmp 6] (h:=fun r h c d=>by
  unfold Cp at h;have:HW 0 fun(b:Int)=>[(7,.tv (eI b))]:=⟨⟩;exact nz)
noncomputable def ZG:PC:=PC.of XL f353.body (xq bT 0x1c50262066fc5026206c50262063c005201db304830470137ffc5026206cd5ee9e9895eb3b38959910a2030dd89019e7c06a9589e7c06a997ecd67f7c04a9d8787c04a901c50262068197ecd67f7c02a9ffe60a750248024703460148304701483047040aa937bc7c02a95b0bf60309a90b030aa9026203) []
theorem uR:CK f353 ZG []:=by decide +kernel
theorem uo:PC.Aae ZG=true/\PC.Aaf 0 ZG=true:=by decide +kernel
abbrev Q_353(n:Nat):Prop:=∀(b:Ag)(a:Fp)(l:Fp),Ct prog (CE n b a l) 353 [.undef,lI a,lI l] (fun r=>.bo (Bl b) (Bl r) 0 [])
theorem uF(n:Nat)(_ih_353:Q_353 n)(b:Ag)(a:Fp)(l:Fp):Ct prog (CE (n+1) b a l) 353 [.undef,lI a,lI l] (fun r=>.bo (Bl b) (Bl r) 0 []):=mH uR uo fun r h e d f=>by
  unfold ZG;unfold f353;unfold CE at h;have:HW 0 fun(c:Ag×Int)=>[(0,.bx (Bl c.1)),(8,.tv (eI c.2))]:=⟨⟩;exact nz
theorem uE:∀n:Nat,Q_353 n:=by
  intro n
  induction n with
  |zero=>exact(fun a ei l=>⟨fun _ h=>by cases h⟩)
  |succ n b=>exact uF n b
instance ABO(b:Ag)(a:Fp)(l:Fp):Ct prog (L3 b a l) 353 [.undef,lI a,lI l] (fun r=>.bo (Bl b) (Bl r) 0 []):=⟨fun r h=>by
  obtain ⟨N,c⟩:=C1 h;exact((uE N) b a l).snd r (c N (az _))⟩
noncomputable def ZE:PC:=PC.of XL f313.body (xq bT 0x5804d5605804d569d53c005201db3048304737ff69d58a909e6d02a99e6d04a9ea5add0a2030dd89019e6d06a9589e6d06a9d8786d04a95804d581ff3f0137bc6d02a95b0b01ff8a08200137580309a90b030aa96202) [.AaG 353 [.s 32,.s 33,.c (.list 1 [])] 0]
theorem uQ:CK f313 ZE []:=by decide +kernel
theorem um:PC.Aae ZE=true/\PC.Aaf 0 ZE=true:=by decide +kernel
abbrev Q_313(n:Nat):Prop:=∀(a:Ag)(l:Fp),Ct prog (CF n a l) 313 [.undef,lI l] (fun r=>.bo (Bl a) (Bl r) 0 [])
theorem uB(n:Nat)(_ih_313:Q_313 n)(a:Ag)(l:Fp):Ct prog (CF (n+1) a l) 313 [.undef,lI l] (fun r=>.bo (Bl a) (Bl r) 0 []):=mH uQ um fun r h d c e=>by
  unfold ZE;unfold f313;unfold CF at h;have:HW 0 fun(b:Ag×Int)=>[(0,.bx (Bl b.1)),(5,.tv (eI b.2))]:=⟨⟩;exact nz
theorem uA:∀n:Nat,Q_313 n:=by
  intro n
  induction n with
  |zero=>exact(fun a l=>⟨fun _ h=>by cases h⟩)
  |succ n b=>exact uB n b
instance AAr(a:Ag)(l:Fp):Ct prog (Ij a l) 313 [.undef,lI l] (fun r=>.bo (Bl a) (Bl r) 0 []):=⟨fun r h=>by
  obtain ⟨N,b⟩:=C1 h;exact((uA N) a l).snd r (b N (az _))⟩
instance zr(t:AC)(p:d4)(g:d4)(b:d6)(a:Bool)(d:Int):Ct prog (ON t p g b a d) 256 [AQ t,At p,At g,Aq b,eB a,eI d] (fun r=>.sh ((eL 2 Aq) r)):=Fj f256 0x82030a755a3f5a00c2bf1e4630dada02405f5f6902 [.Abw [none,none,none,none,none,none,none,none,none,none,some ⟨true,.list 2 []⟩] (.s 20),.AaG 313 [.s 22,.c (.list 1 [])] 0] [.tmp 12] (h:=fun r h e f=>by
  unfold ON at h;exact nz)
instance ABm(l:Fp)(a:Int)(n:Int):Ct prog (I1 l a n) 397 [lI l,eI a,eI n] (fun r=>.sh (eI r)):=Fj f397 0x96070200d9cd015eebbb00cb07020003a685fa30026203 [] [.tmp 6] (h:=fun r h c d=>by
  unfold I1 at h;have:HA 0 7 0 0 fun(b:Int)(_:Unit)=>[(7,.tv (eI b))]:=⟨⟩;exact nz)
instance ABe(t:AC)(p:d4)(g:d4)(b:d6)(a:Bool):Ct prog (KY t p g b a) 376 [AQ t,At p,At g,Aq b,eB a] (fun r=>.tp [(eL 2 Aq) r.1,eI r.2]):=Fj f376 0x8182e002c0bc01820eccda8402c080fcfc5c3802c080e3e3593802c0b95cfc58e3e33802c080da7e02405f5f0401 [] [.tmp 10,.tmp 11] (h:=fun r h c d=>by
  unfold KY at h;exact nz)
instance zm(a:kp)(b:Fp):Ct prog (Ek a b) 250 [MU a,lI b] (fun r=>.tp [eI r.1,eI r.2]):=Fj f250 0x7d0e018481b901f75930c3 [] [.tmp 4,.tmp 5] (h:=fun r h c d=>by
  unfold Ek at h;exact nz)
instance ABf(q:ec)(b:AH)(m:d6)(a:Fp):Ct prog (Kb q b m a) 377 [BF q,Bn b,Aq m,lI a] (fun r=>.tp [lI r.1,eB r.2]):=Fj f377 0x8182180a01120a04d901c08a89eb9189eb595b640120145503425b640120147e427007c96c057fdf0a0178a574120a0403b804020d0b0a0669069d01c08573816401201455b60f0e0d0b0a0669080f0e0d0b0a0669083c01fd01fd057c02746db6146db6148a0817e26db614586db6815e5c5e5e59599bd208c9a8dc9b0a040278e90d0b0a066906810b0a0669050c0b0a06690307b10c0b0a066903070c0b0a066903073c19014fad19bc73fd6b73140b0a0669056176740c0b0a0669030781993fb599014f30563040935f36 [.mkx 1 [.bool false] (.s 28)] [.tmp 8,.tmp 9] (h:=fun r h i j=>by
  unfold Kb at h;have:HA 0 12 4 3 fun(f:Int)(d:Fp×a5)=>[(10,.xo 1 (List.map eI d.1)),(11,.xo 1 (List.map eB d.2)),(12,.tv (eI f))]:=⟨⟩;have:HA 2 13 4 2 fun(g:Int)(c:Fp×a5)=>[(10,.xo 1 (List.map eI c.1)),(11,.xo 1 (List.map eB c.2)),(13,.tv (eI g))]:=⟨⟩;have:HA 4 18 4 4 fun(e:Int)(_:Unit)=>[(18,.tv (eI e))]:=⟨⟩;exact nz)
instance ABM(t:AC)(c:d7)(b:AH)(m:AO)(a:Bool):Ct prog (HC t c b m a) 351 [AQ t,AK c,Bn b,Bf m,eB a] (fun r=>.tp [(eL 3 Bf) r.1,eI r.2]):=Fj f351 0x818202100111100e0cc5b111100e0cc511100e0cc53c02034803470446cc024330027d82719b55024330656c1001cb11100e0cc58103c03803c001638271ccaaaa559af003e77c377cb60b7c370eca6db60bca700cc96c047403405f5f0401 [] [.tmp 10,.tmp 11] (h:=fun r h f g=>by
  unfold HC at h;have:HA 0 17 14 0 fun(e:Int)(d:List AO)=>[(16,.ow ((eL 3 Bf) d)),(17,.tv (eI e))]:=⟨⟩;exact nz)
abbrev Q_310(n:Nat):Prop:=∀(t:AC)(c:d7)(b:AH)(m:AO)(a:Bool),Ct prog (Dx n t c b m a) 310 [AQ t,AK c,Bn b,Bf m,eB a] (fun r=>.tp [EX r.1,eI r.2])
theorem t8(n:Nat)(_ih_310:Q_310 n)(t:AC)(c:d7)(f:AH)(m:AO)(a:Bool):Ct prog (Dx (n+1) t c f m a) 310 [AQ t,AK c,Bn f,Bf m,eB a] (fun r=>.tp [EX r.1,eI r.2]):=Fj f310 0xb710466e7010460a0117150abd6907b1ff0a013bb701124605476cd64330637011c97101d6433065a709435c550a01cb17150abd6907a670011046638271016565a755acb710460a01120ac569079d7001114605476c01637011c971016565a709e1550a0178b3120ac569077d05b76c0e0a020f0e0ac56908b1e6e4054805476c04e43870011046637011c971016565a709e1550e0a0278b30f0e0ac56908ac5011c93facb70110463870104685e07010466370114971016565a709435c55ac83dd11c95f5f0401 [.Aau [.z ⟨false,.int .i64 0⟩,.z ⟨true,.list 1 []⟩,.z ⟨true,.list 1 []⟩,.z ⟨true,.list 1 []⟩,.z ⟨true,.list 5 []⟩]] [.cell 10 (some 5),.tmp 11] (h:=fun r h k l=>by
  unfold Dx at h;have:HA 1 15 6 1 fun(i:Int)(b:A6×A6)=>[(10,.bx [⟨false,eI b.1.AaB⟩,⟨true,lI b.1.o3.d6.d3⟩,⟨true,lI b.1.o3.d6.d5⟩,⟨true,lI b.1.o3.hV⟩,⟨true,Ha b.1.hT⟩]),(14,.bx [⟨false,eI b.2.AaB⟩,⟨true,lI b.2.o3.d6.d3⟩,⟨true,lI b.2.o3.d6.d5⟩,⟨true,lI b.2.o3.hV⟩,⟨true,Ha b.2.hT⟩]),(15,.tv (eI i))]:=⟨⟩;have:HA 3 18 6 1 fun(g:Int)(d:A6)=>[(10,.bx [⟨false,eI d.AaB⟩,⟨true,lI d.o3.d6.d3⟩,⟨true,lI d.o3.d6.d5⟩,⟨true,lI d.o3.hV⟩,⟨true,Ha d.hT⟩]),(18,.tv (eI g))]:=⟨⟩;have:HA 5 23 21 0 fun(j:Int)(e:A6)=>[(10,.bx [⟨false,eI e.AaB⟩,⟨true,lI e.o3.d6.d3⟩,⟨true,lI e.o3.d6.d5⟩,⟨true,lI e.o3.hV⟩,⟨true,Ha e.hT⟩]),(23,.tv (eI j))]:=⟨⟩;exact nz)
theorem t7:∀n:Nat,Q_310 n:=by
  intro n
  induction n with
  |zero=>exact(fun t c a m ej=>⟨fun _ h=>by cases h⟩)
  |succ n b=>exact t8 n b
instance AAo(t:AC)(c:d7)(b:AH)(m:AO)(a:Bool):Ct prog (Qz t c b m a) 310 [AQ t,AK c,Bn b,Bf m,eB a] (fun r=>.tp [EX r.1,eI r.2]):=⟨fun r h=>by
  obtain ⟨N,d⟩:=C1 h;exact((t7 N) t c b m a).snd r (d N (az _))⟩
instance zh(t:AC)(c:d7)(b:AH)(m:AO)(a:Bool):Ct prog (LQ t c b m a) 245 [AQ t,AK c,Bn b,Bf m,eB a] (fun r=>.tp [eB r.1,eI r.2]):=Fj f245 0x7d58e0816370114971016565a755305f5f0401 [] [.tmp 10,.tmp 11] (h:=fun r h d e=>by
  unfold LQ at h;exact nz)
instance ya(t:AC)(a:f0)(b:AH)(m:AO):Ct prog (Kx t a b m) 178 [AQ t,Bc a,Bn b,Bf m] (fun r=>.tp [Fr r.1,eI r.2]):=Fj f178 0x819acc0d0b08030d0b08033c018a08b2308171030f426565a71042849afa4685309af071aa550b42aa849afa4685309a0ac971aaaaeac1849a0b46b4e9389afa46638271aa656cc1849a0b46850e030f42aaaaeac17ef05fa1 [] [.cell 8 (some 2),.tmp 9] (h:=fun r h d e=>by
  unfold Kx at h;have:HJ 95 fun(c:Int)=>[(11,.tv (eI c))]:=⟨⟩;exact nz)
instance zi(t:AC)(a:AH)(p:BH):Ct prog (Jh t a p) 246 [AQ t,Bn a,Fr p] (fun r=>.tp [Bn r.1,eI r.2]):=Fj f246 0x8197650d06020e0d0b060405b1e60274db01485e9e59e94704b60d060278596a0d0b06040581035005c93f8497011646639a9af00ac9117155aa389701164663f4655558c9f1 [.Aau [.v (.s 37) 0 2,.v (.s 37) 1 2,.z ⟨true,.list 1 []⟩]] [.cell 6 (some 3),.tmp 7] (h:=fun r h c d=>by
  unfold Jh at h;have:HW 0 fun(b:AH×Int)=>[(13,.bx [⟨false,lI b.1.d4.d3⟩,⟨false,lE b.1.d4.d5⟩,⟨true,(eL 1 lI) b.1.fd⟩]),(14,.tv (eI b.2))]:=⟨⟩;exact nz)
instance zk(l:Fp)(n:Int):Ct prog (Kt l n) 248 [lI l,eI n] (fun r=>.own (lI r)):=Fj f248 0x8218d4e8b1e8bd8c05b1bd8c05bd8c053c01fd30148501bbe8cbbd8c058119014fad19d46130e8c8ce01406202 [] [.tmp 4] (h:=fun r h e f=>by
  unfold Kt at h;have:HA 0 6 1 0 fun(c:Int)(b:Fp)=>[(5,.xo 1 (List.map eI b)),(6,.tv (eI c))]:=⟨⟩;have:HA 2 7 0 0 fun(d:Int)(a:Fp)=>[(5,.xo 1 (List.map eI a)),(7,.tv (eI d))]:=⟨⟩;exact nz)
instance zj(n:Int)(a:Fp):Ct prog (Kd n a) 247 [eI n,lI a] (fun r=>.own (lI r)):=Fj f247 0x820e73406202 [] [.tmp 4] (h:=fun r h b c=>by
  unfold Kd at h;exact nz)
instance yb(t:AC)(a:AH)(d:BH):Ct prog (Ll t a d) 179 [AQ t,Bn a,Fr d] (fun r=>.tp [Bn r.1,Aq r.2]):=Fj f179 0xbd023b9a9703e75c0b7c370e590bca65019705c971556555f005c9f1 [] [.cell 6 (some 3),.cell 7 (some 2)] (h:=fun r h b c=>by
  unfold Ll at h;exact nz)
instance yc(a:Fp)(b:Fp):Ct prog (G0 a b) 180 [lI a,lI b] (fun r=>.own (lI r)):=Fj f180 0x8202d4e8b1a2db5e5e7302d4cbe8c8c001406202 [] [.tmp 4] (h:=fun r h e f=>by
  unfold G0 at h;have:HA 0 6 0 0 fun(d:Int)(c:Fp)=>[(5,.ow (lI c)),(6,.tv (eI d))]:=⟨⟩;exact nz)
instance yd(c:Fp)(d:Fp)(b:Int)(e:Fp)(a:Int):Ct prog (FV c d b e a) 181 [lI c,lI d,eI b,lI e,eI a] (fun r=>.own (lI r)):=Fj f181 0x82020c01c40b045d0007b1c40b045d00076fa2dbd7c40b045d00073ca2db5e5ebb300285bb0cf630c40b045d0007c8c0820e7340045d6205 [] [.tmp 10] (h:=fun r h i j=>by
  unfold FV at h;have:HA 0 13 2 0 fun(g:Int)(f:Int×Fp)=>[(4,.tv (eI f.1)),(12,.ow (lI f.2)),(13,.tv (eI g))]:=⟨⟩;exact nz)
instance zl(a:Fp)(b:Int):Ct prog (He a b) 249 [lI a,eI b] (fun r=>.sh (eB r)):=Fj f249 0x968cd98501bb00cb8c0381ed [] [.tmp 4] (h:=fun r h d e=>by
  unfold He at h;have:HA 0 5 0 0 fun(c:Int)(_:Unit)=>[(5,.tv (eI c))]:=⟨⟩;exact nz)
noncomputable def fD:PC:=PC.of XL f182.body (xq bT 0x35003530806020f09c50506b10f09c505060f09c505063ce6014137034803470e465e9b595e5c59590401413797ecd6e18e017c0d4208060278b30f09c505068109c50505bec569076fbec56907bec569073c1fb621221923b60dbec569900d0bbec5690ab119014fad7cba30190dbec56908cb0e0d0bbec5690ac8ce0182719e597e4a5adddb9e59045a37ffbec56907b4016d0d4209c505057891bec56907819a0ac9ead319c993aba1) []
theorem uL:CK f182 fD [.cell 8 (some 3)]:=by decide +kernel
theorem ui:PC.Aae fD=true:=by decide +kernel
instance ye(t:AC)(b:f0)(a:AH)(c:d6):Ct prog (Kw t b a c) 182 [AQ t,Bc b,.agg [.undef,.undef,.undef],Aq c] (fun r=>.ag [⟨true,lI a.d4.d3⟩,⟨true,lE a.d4.d5⟩,⟨true,.xn (List.map lI a.fd)⟩] 2 (.oag [⟨true,lI r.d4.d3⟩,⟨true,lE r.d4.d5⟩,⟨true,.xn (List.map lI r.fd)⟩])):=wO uL ui fun r h j i k=>by
  unfold fD;unfold f182;unfold Kw at h;have:HW 0 fun(e:AH×Int)=>[(6,.bx [⟨true,lI e.1.d4.d3⟩,⟨true,lE e.1.d4.d5⟩,⟨true,.xn (List.map lI e.1.fd)⟩]),(10,.tv (eI e.2))]:=⟨⟩;have:HA 2 14 11 0 fun(g:Int)(f:Fp)=>[(13,.xo 1 (List.map eI f)),(14,.tv (eI g))]:=⟨⟩;have:HW 4 fun(d:AH×Int)=>[(6,.bx [⟨true,lI d.1.d4.d3⟩,⟨true,lE d.1.d4.d5⟩,⟨true,.xn (List.map lI d.1.fd)⟩]),(15,.tv (eI d.2))]:=⟨⟩;exact nz
noncomputable def fE:PC:=PC.of XL f183.body (xq bT 0x819765073e0a0702130c0a776907b12624017cba3025240123b638971646cd5d41ba7cba73b27cba7cba733082719eca55815e6dba30595b71cc0241ba300a0702cb130c0a776907810c0a776906c40a776907b1c40a776907100ec40a7769099d971646cd73897cba307cbaeb5e6dba30595e6dba30595b71cc0241ba30c40a7769076130100ec40a776909815b71cc0241ba300c0a776906cbc40a77690781825d41d358c993ab5f0401) []
theorem uM:CK f183 fE [.cell 10 (some 3),.tmp 11]:=by decide +kernel
theorem uj:PC.Aae fE=true:=by decide +kernel
instance yf(t:AC)(e:f0)(a:AH)(c:d6)(b:Fp):Ct prog (MC t e a c b) 183 [AQ t,Bc e,.agg [.undef,.undef,.undef],Aq c,lI b] (fun r=>.ag [⟨true,lI a.d4.d3⟩,⟨true,lE a.d4.d5⟩,⟨true,.xn (List.map lI a.fd)⟩] 2 (.tp [Bn r.1,eI r.2])):=wO uM uj fun r h m l n=>by
  unfold fE;unfold f183;unfold MC at h;have:HA 0 13 12 0 fun(j:Int)(g:AH)=>[(10,.bx [⟨true,lI g.d4.d3⟩,⟨true,lE g.d4.d5⟩,⟨true,(eL 1 lI) g.fd⟩]),(13,.tv (eI j))]:=⟨⟩;have:HA 2 16 13 0 fun(k:Int)(f:AH)=>[(10,.bx [⟨true,lI f.d4.d3⟩,⟨true,lE f.d4.d5⟩,⟨true,(eL 1 lI) f.fd⟩]),(16,.tv (eI k))]:=⟨⟩;have:HA 4 19 12 0 fun(i:Int)(d:AH×AH)=>[(7,.bx [⟨true,lI d.1.d4.d3⟩,⟨true,lE d.1.d4.d5⟩,⟨true,.xn (List.map lI d.1.fd)⟩]),(10,.bx [⟨true,lI d.2.d4.d3⟩,⟨true,lE d.2.d4.d5⟩,⟨true,(eL 1 lI) d.2.fd⟩]),(19,.tv (eI i))]:=⟨⟩;exact nz
instance xe(t:AC)(a:f0)(b:AH)(m:AO):Ct prog (LX t a b m) 127 [AQ t,Bc a,Bn b,Bf m] (fun r=>.tp [MT r.1,eI r.2]):=Fj f127 0x81f81f46da656565ef38f81446b97c37580bca38f801144685309764d7579b550353ef550d013b03500257551b65ef559af003e7fc5c0b3675d37c0d427c0b420ee3590b6d5ad36d0d426d0b429af003e75c7c370e59ca9a97f019c971556584f8011446639af0716565ef84f80114467265ef7e13c95fa1 [] [.cell 8 (some 38),.tmp 9] (h:=fun r h c d=>by
  unfold LX at h;exact nz)
instance c87(t:AC)(a:List f0)(b:AH)(m:tg):Ct prog (Ky t a b m) 87 [AQ t,(eL 25 Bc) a,Bn b,CZ m] (fun r=>.tp [MT r.1,eI r.2]):=Fj f87 0x8013b81f8640e65c165ef19439184f81446b901f79113c9935f30 [] [.cell 8 (some 38),.tmp 9] (h:=fun r h c d=>by
  unfold Ky at h;exact nz)
instance c49(t:AC)(a:List f0)(d:AR):Ct prog (I4 t a d) 49 [AQ t,(eL 25 Bc) a,Ch d] (fun r=>.tp [(eL 38 MT) r.1,eI r.2.1,eI r.2.2]):=Fj f49 0x7d820bd70a010c0b893606b197651f420226482647264402388126c03063f813c971a8dcb565cc0a017876740c0b893606819705c9653726c0388126c0bcb5388126c0806537cc3026405f30 [] [.tmp 6,.tmp 7,.tmp 8] (h:=fun r h e f=>by
  unfold I4 at h;have:HA 0 12 5 3 fun(c:Int)(b:List Ax×AH)=>[(10,.ow ((eL 38 MT) b.1)),(11,.bx [⟨false,lI b.2.d4.d3⟩,⟨false,lE b.2.d4.d5⟩,⟨false,(eL 1 lI) b.2.fd⟩]),(12,.tv (eI c))]:=⟨⟩;exact nz)
instance c50(a:AI):Ct prog (IT a) 50 [BL a] (fun r=>.sh (eI r)):=Fj f50 0x9636029dcd5ed4df9edf58e0b97641379edf589edf0078a5743602a6bca5749f [] [.tmp 2] (h:=fun r h c d=>by
  unfold IT at h;have:HA 0 3 1 4 fun(b:Int)(_:Unit)=>[(3,.tv (eI b))]:=⟨⟩;exact nz)
instance c18(t:AC)(a:List f0)(b:AI):Ct prog (IS t a b) 18 [AQ t,(eL 25 Bc) a,BL b] (fun r=>.sh (eI r)):=Fj f18 0x810e6c380163d71171a8dd7e5f30 [] [.tmp 6] (h:=fun r h c d=>by
  unfold IS at h;exact nz)
instance c20(t:AC)(a:List f0)(b:AI):Ct prog (G2 t a b) 20 [AQ t,(eL 25 Bc) a,BL b] (fun r=>.tp [BL r.1,eI r.2]):=Fj f20 0xb76ce6047445d4a5744a03413704455ed4df76413770cf0e6c3870ee630bdf387001ee726c017ecf5f30 [] [.cell 6 (some 5),.tmp 7] (h:=fun r h c d=>by
  unfold G2 at h;exact nz)
instance xg(n:Int):Ct prog (Iv n) 138 [eI n] (fun r=>.own (lI r)):=Fj f138 0x82023604030003b1a2dbd736613004030003c8c00140d8 [] [.tmp 2] (h:=fun r h c d=>by
  unfold Iv at h;have:HA 0 4 0 0 fun(a:Int)(b:Fp)=>[(3,.ow (lI b)),(4,.tv (eI a))]:=⟨⟩;exact nz)
instance c94(g:d4):Ct prog (Pg g) 94 [At g] (fun r=>.oag [⟨true,lI r.d3⟩,⟨true,lI r.d5⟩]):=Fj f94 0xa23b02503f0efc0ee3f09f [.Aau [.w 6,.w 10]] [.cell 2 (some 2)] (h:=fun r h a b=>by
  unfold Pg at h;exact nz)
instance c95(l:Fp)(a:Fp):Ct prog (Jx l a) 95 [lI l,lI a] (fun r=>.own (lI r)):=Fj f95 0x8202d4e8b1e83ca2db5e5e7302e83ca2db02855eb201cbe8c8c001406202 [] [.tmp 4] (h:=fun r h d e=>by
  unfold Jx at h;have:HA 0 6 0 0 fun(c:Int)(b:Fp)=>[(5,.ow (lI b)),(6,.tv (eI c))]:=⟨⟩;exact nz)
instance c57(t:AC)(a:List f0)(d:AR):Ct prog (LY t a d) 57 [AQ t,(eL 25 Bc) a,Ch d] (fun r=>.tp [Bn r.1,Aq r.2.1,eI r.2.2]):=Fj f57 0xbd023b819a97550e65c4bd040ec409bd06b19a03e77c22412643305c0e6d22412643305997651f41264330c4bd04cb0ec409bd06819a97f005c90eea376537389a97fa4616466301821171a8017ef005c95f30 [] [.cell 6 (some 3),.cell 7 (some 2),.tmp 8] (h:=fun r h e f=>by
  unfold LY at h;have:HA 0 14 9 0 fun(c:Int)(b:AH×d6)=>[(12,.bx [⟨false,lI b.1.d4.d3⟩,⟨false,lE b.1.d4.d5⟩,⟨false,(eL 1 lI) b.1.fd⟩]),(13,.bx [⟨false,lI b.2.d3⟩,⟨false,lI b.2.d5⟩]),(14,.tv (eI c))]:=⟨⟩;exact nz)
instance c65(t:AC)(a:List f0)(d:AR)(m:tg):Ct prog (Ke t a d m) 65 [AQ t,(eL 25 Bc) a,Ch d,CZ m] (fun r=>.tp [Ch r.1,eI r.2]):=Fj f65 0x81d2a80f3ee603420448044705e765c159040342045015c91ba838d201174663f8134971a8650184d21746bcb538d2011746639a970b4905c91171a8017e15c9935f30 [] [.cell 8 (some 4),.tmp 9] (h:=fun r h b c=>by
  unfold Ke at h;exact nz)
instance c34(t:AC)(a:List f0)(b:AI)(m:tg):Ct prog (NZ t a b m) 34 [AQ t,(eL 25 Bc) a,BL b,CZ m] (fun r=>.tp [BL r.1,eI r.2]):=Fj f34 0x8013bb718460148a57447a8387001ee63d215c971a8a8dd847001ee726c017ecf935f30 [] [.cell 8 (some 5),.tmp 9] (h:=fun r h c d=>by
  unfold NZ at h;exact nz)
instance c88(a:AI):Ct prog (Lb a) 88 [BL a] (fun r=>.tp [BL r.1,eI r.2]):=Fj f88 0xb76c053ee60474db0b76413704e40550cf1b6c3870eebcdf387001ee726c01cf9f [] [.cell 2 (some 5),.tmp 3] (h:=fun r h b c=>by
  unfold Lb at h;exact nz)
instance c89(a:AI):Ct prog (Kf a) 89 [BL a] (fun r=>.tp [BL r.1,eI r.2]):=Fj f89 0xb76ce60474456bdfdf70cf0e6c3870eebcdf387001ee726c01cf9f [] [.cell 2 (some 5),.tmp 3] (h:=fun r h b c=>by
  unfold Kf at h;exact nz)
instance c55(t:AC)(b:List f0)(c:AI)(a:BJ):Ct prog (OR t b c a) 55 [AQ t,(eL 25 Bc) b,BL c,Dk a] (fun r=>.tp [BL r.1,eI r.2]):=Fj f55 0xb7ee6e70640e6cccacb7640e6cacb7640e6cacb7640ea8c16cccac83ddcf935f30 [] [.cell 8 (some 5),.tmp 9] (h:=fun r h d e=>by
  unfold OR at h;exact nz)
instance c26(t:AC)(a:List f0)(c:AI)(l:List BJ):Ct prog (OQ t a c l) 26 [AQ t,(eL 25 Bc) a,BL c,(eL 5 Dk) l] (fun r=>.tp [BL r.1,eI r.2.1,eI r.2.2]):=Fj f26 0x7d700b58440806760c0806043606b1706c38b730ee6370cf716c0543306ccc080676cb0c0806043606b70e6c38b7eebce0b701ee726ccc30cfbf933602 [.Abz (.s 2)] [.cell 8 (some 5),.tmp 9,.tmp 10] (h:=fun r h e f=>by
  unfold OQ at h;have:HA 0 12 3 0 fun(d:Int)(b:AI×AI)=>[(6,.bx [⟨false,lI b.1.ff.kg.d4.d3⟩,⟨false,lE b.1.ff.kg.d4.d5⟩,⟨false,(eL 1 lI) b.1.ff.kg.fd⟩,⟨false,(eL 4 CZ) b.1.ff.j4⟩,⟨false,lI b.1.kl⟩]),(8,.bx [⟨true,lI b.2.ff.kg.d4.d3⟩,⟨true,lE b.2.ff.kg.d4.d5⟩,⟨true,(eL 1 lI) b.2.ff.kg.fd⟩,⟨true,(eL 4 CZ) b.2.ff.j4⟩,⟨true,lI b.2.kl⟩]),(12,.tv (eI d))]:=⟨⟩;exact nz)
end Go.Sf.Sc
