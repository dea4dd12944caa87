/- Contracts of the functions. -/
import Derived.Test.YtdnblcjdhbadaaaGreatCon0
import Derived.Test.YtdnblcjdhbadaaaGreatTryzShelf
import Derived.Test.YtdnblcjdhbadaaaGreatTw
set_option linter.all false
set_option maxRecDepth 100000
set_option maxHeartbeats 4000000
namespace Go.Sf.Sc
open Go Go.Sf Go.Proofs.Tryz
instance c45(b:ByteArray)(a:Int)(c:Int):Ct prog (Hj b a c) 45 [eS b,eI a,eI c] (fun r=>.sh (EG r)):=Fj f45 0x74b0046018dc902c6 [] [.cell 6 (some 7)] (h:=fun r h d e=>by
  unfold Hj at h;exact nz)
instance c12:Ct prog (Lc ) 12 [] (fun r=>.tp [AO r.1,C2 r.2]):=Fj f12 0xa7a70246b1b138a701c9014607473f3f3f3f3f3f04473f3f3f3f3fdf01c900 [.bld [.str ⟨#[]⟩,.int .i64 0,.bool false,.list 4 []] [(0,1,.c (.str ⟨#[67,108,97,115,115]⟩)),(1,1,.c (.int .i64 (-1)))],.bld [.str ⟨#[]⟩,.int .i64 0,.bool false,.list 4 []] [(0,1,.c (.str ⟨#[65,116,116,114,105,98,117,116,101]⟩)),(1,1,.c (.int .i64 (-1)))],.bld [.str ⟨#[]⟩,.int .i64 0,.bool false,.list 4 []] [(0,1,.c (.str ⟨#[84,97,98,108,101]⟩)),(1,1,.c (.int .i64 (-1)))],.bld [.str ⟨#[]⟩,.int .i64 0,.bool false,.list 4 []] [(0,1,.c (.str ⟨#[67,111,108,117,109,110]⟩)),(1,1,.c (.int .i64 (-1)))],.bld [.str ⟨#[]⟩,.int .i64 0,.bool false,.list 4 []] [(0,1,.c (.str ⟨#[77,97,112]⟩)),(1,1,.c (.int .i64 (-1)))],.call 45 [.c (.str ⟨#[104,97,115]⟩),.c (.int .i64 0),.c (.int .i64 1)],.call 45 [.c (.str ⟨#[119,105,116,104]⟩),.c (.int .i64 2),.c (.int .i64 3)],.call 45 [.c (.str ⟨#[111,102,67,108,97,115,115]⟩),.c (.int .i64 4),.c (.int .i64 0)],.call 45 [.c (.str ⟨#[111,102,65,116,116,114,105,98,117,116,101]⟩),.c (.int .i64 4),.c (.int .i64 1)],.call 45 [.c (.str ⟨#[116,111,84,97,98,108,101]⟩),.c (.int .i64 4),.c (.int .i64 2)],.call 45 [.c (.str ⟨#[116,111,67,111,108,117,109,110]⟩),.c (.int .i64 4),.c (.int .i64 3)]] [.cell 0 (some 2),.cell 1 (some 2)] (h:=fun r h a b=>by
  unfold Lc at h;exact nz)
instance c6(a:Ao):Ct prog (QO a) 6 [C2 a] (fun r=>.sh (eB r)):=Fj f6 0xb8785c0b92c8 [] [.tmp 2] (h:=fun r h b c=>by
  unfold QO at h;exact nz)
instance c52(t:AC):Ct prog (L9 t) 52 [AO t] (fun r=>.sh (eB r)):=Fj f52 0xa6080102ac850c6c07dc008cb40801028131043003c10430036b3004c16b3004766b3006ac850c84d76b30048ca16a766b3006b5d3d7580c59f304c9f6e1a141e1590430038ca141e15958043004b58a050c6ce159583178a141e192318c92043003a855d3f80b92c8 [] [.tmp 2] (h:=fun r h f g=>by
  unfold L9 at h;have:HA 0 4 1 0 fun(a:Int)(d:Int)=>[(3,.tv (eI d)),(4,.tv (eI a))]:=⟨⟩;have:HW 2 fun(b:Int)=>[(5,.tv (eI b))]:=⟨⟩;have:HW 4 fun(e:Int)=>[(7,.tv (eI e))]:=⟨⟩;have:HA 6 8 1 1 fun(c:Int)(_:Unit)=>[(8,.tv (eI c))]:=⟨⟩;exact nz)
instance c26(m:d7)(n:Int):Ct prog (Hc m n) 26 [As m,eI n] (fun r=>.sh (eB r)):=Fj f26 0xb8580b5c0b92de [] [.tmp 4] (h:=fun r h a b=>by
  unfold Hc at h;exact nz)
instance c63(g:d6):Ct prog (Hb g) 63 [Am g] (fun r=>.sh (eB r)):=Fj f63 0xf578f80b92c8 [] [.tmp 2] (h:=fun r h a b=>by
  unfold Hb at h;exact nz)
instance c92(p:ec):Ct prog (Ih p) 92 [BG p] (fun r=>.sh (eB r)):=Fj f92 0xf578d26a0a78e96fb3c8 [] [.tmp 2] (h:=fun r h a b=>by
  unfold Ih at h;exact nz)
instance c93(p:Ak)(n:Int):Ct prog (QM p n) 93 [Da p,eI n] (fun r=>.sh (eB r)):=Fj f93 0xb8580b5c0b92de [] [.tmp 4] (h:=fun r h a b=>by
  unfold QM at h;exact nz)
abbrev Q_149(n:Nat):Prop:=∀(c:ea)(a:Int),Ct prog (CW n c a) 149 [AH c,eI a] (fun r=>.sh (eI r))
theorem rj(n:Nat)(_ih_149:Q_149 n)(c:ea)(a:Int):Ct prog (CW (n+1) c a) 149 [AH c,eI a] (fun r=>.sh (eI r)):=Fj f149 0xd991bd03c101a5b209dc31ff8a053178f8bd03b58a086f026ad09a04425831de [] [.tmp 4] (h:=fun r h d e=>by
  unfold CW at h;have:HW 0 fun(b:Int×Int)=>[(1,.tv (eI b.1)),(5,.tv (eI b.2))]:=⟨⟩;exact nz)
theorem ri:∀n:Nat,Q_149 n:=by
  intro n
  induction n with
  |zero=>exact(fun c t1=>⟨fun _ h=>by cases h⟩)
  |succ n a=>exact rj n a
instance xJ(c:ea)(a:Int):Ct prog (Oz c a) 149 [AH c,eI a] (fun r=>.sh (eI r)):=⟨fun r h=>by
  obtain ⟨N,b⟩:=CZ h;exact((ri N) c a).snd r (b N (az _))⟩
instance c94(c:ea):Ct prog (Ii c) 94 [AH c] (fun r=>.sh (eB r)):=Fj f94 0xb80eb201c8 [] [.tmp 2] (h:=fun r h a b=>by
  unfold Ii at h;exact nz)
instance c53(a:em):Ct prog (ON a) 53 [Bq a] (fun r=>.sh (eB r)):=Fj f53 0x81b7b2106a0a6f0d6a0a6f0b6ab79a066ab79aaa580c92c8 [] [.tmp 2] (h:=fun r h b c=>by
  unfold ON at h;exact nz)
instance c24(a:AG):Ct prog (Hf a) 24 [CD a] (fun r=>.sh (eB r)):=Fj f24 0xa63002acec84a2008ce93002b5d3e9086fb3c8 [] [.tmp 2] (h:=fun r h c d=>by
  unfold Hf at h;have:HA 0 3 1 2 fun(b:Int)(_:Unit)=>[(3,.tv (eI b))]:=⟨⟩;exact nz)
instance c87(n:Int)(b:Int)(a:Int):Ct prog (DI n b a) 87 [eI n,eI b,eI a] (fun r=>.sh (eB r)):=Fj f87 0x819f0191013102c6 [] [.tmp 6] (h:=fun r h c d=>by
  unfold DI at h;exact nz)
abbrev Q_91(n:Nat):Prop:=∀(t:AC)(a:Int),Ct prog (FT n t a) 91 [AO t,eI a] (fun r=>.own (lA r))
theorem vS(n:Nat)(_ih_91:Q_91 n)(t:AC)(a:Int):Ct prog (FT (n+1) t a) 91 [AO t,eI a] (fun r=>.own (lA r)):=Fj f91 0x820448a141e15904480e77e159380447ff04c085010440de [] [.tmp 4] (h:=fun r h b c=>by
  unfold FT at h;exact nz)
theorem vR:∀n:Nat,Q_91 n:=by
  intro n
  induction n with
  |zero=>exact(fun t a=>⟨fun _ h=>by cases h⟩)
  |succ n b=>exact vS n b
instance c91(t:AC)(a:Int):Ct prog (Np t a) 91 [AO t,eI a] (fun r=>.own (lA r)):=⟨fun r h=>by
  obtain ⟨N,b⟩:=CZ h;exact((vR N) t a).snd r (b N (az _))⟩
instance ze(t:EO):Ct prog (Ox t) 278 [U8 t] (fun r=>.sh (eS r)):=Fj f278 0x815c553f3f5c85593fc8 [.mv (.c (.str ⟨#[]⟩)),.bin (.s) .add (.c (.str ⟨#[34]⟩)) (.s 7),.bin (.s) .add (.s 8) (.c (.str ⟨#[34]⟩))] [.tmp 2] (h:=fun r h a b=>by
  unfold Ox at h;exact nz)
instance AAW(c:Int):Ct prog (KA c) 326 [U9 c] (fun r=>.sh (eB r)):=Fj f326 0xf59f91319f918d01 [] [.tmp 2] (h:=fun r h a b=>by
  unfold KA at h;exact nz)
instance AAX(c:Int):Ct prog (Hv c) 327 [U9 c] (fun r=>.sh (eB r)):=Fj f327 0x819f918d01 [] [.tmp 2] (h:=fun r h a b=>by
  unfold Hv at h;exact nz)
instance AAY(b:ByteArray)(c:Int)(a:Bool):Ct prog (OJ b c a) 328 [eS b,eI c,eB a] (fun r=>.sh (eI r)):=Fj f328 0xd90701ff0702ad750701ff8a0a0a9f120531310e1205313108310e120531910c58310702add902c6 [] [.tmp 6] (h:=fun r h e f=>by
  unfold OJ at h;have:HW 0 fun(d:Int)=>[(7,.tv (eI d))]:=⟨⟩;exact nz)
instance AAZ(a:ByteArray)(b:Int):Ct prog (KB a b) 329 [eS a,eI b] (fun r=>.sh (eI r)):=Fj f329 0xa605c6ac8a05910155058912da8d650c5891c681bb [] [.tmp 4] (h:=fun r h d e=>by
  unfold KB at h;have:HW 0 fun(c:Int)=>[(5,.tv (eI c))]:=⟨⟩;exact nz)
instance AAa:Ct prog (Nn ) 330 [] (fun r=>.own (lB r)):=Fj f330 0x823f014000 [.lst 1 [.c (.str ⟨#[45,62]⟩),.c (.str ⟨#[60,61]⟩),.c (.str ⟨#[62,61]⟩),.c (.str ⟨#[61,61]⟩),.c (.str ⟨#[33,61]⟩),.c (.str ⟨#[123]⟩),.c (.str ⟨#[125]⟩),.c (.str ⟨#[40]⟩),.c (.str ⟨#[41]⟩),.c (.str ⟨#[91]⟩),.c (.str ⟨#[93]⟩),.c (.str ⟨#[44]⟩),.c (.str ⟨#[59]⟩),.c (.str ⟨#[58]⟩),.c (.str ⟨#[61]⟩),.c (.str ⟨#[43]⟩),.c (.str ⟨#[45]⟩),.c (.str ⟨#[42]⟩),.c (.str ⟨#[60]⟩),.c (.str ⟨#[62]⟩),.c (.str ⟨#[33]⟩),.c (.str ⟨#[38]⟩),.c (.str ⟨#[124]⟩),.c (.str ⟨#[46]⟩),.c (.str ⟨#[63]⟩)]] [.tmp 0] (h:=fun r h a b=>by
  unfold Nn at h;exact nz)
instance zf(a:ByteArray)(c:Int):Ct prog (OI a c) 279 [eS a,eI c] (fun r=>.tp [U8 r.1,eI r.2.1,eI r.2.2]):=Fj f279 0xa8b90d46e3ba046905c1ffe33ba8b90ce80346e88a06e80d050ce831910c580c8431e38c31ba04690581820e5581b90103460d050591315581b90d4685da5581b90df00e3185015581b90103460dda31315581b90d468531db046906db0469063c318e5fa80ea5318a0e310e5f1231310fc96902 [] [.cell 4 (some 3),.tmp 5,.tmp 6] (h:=fun r h f g=>by
  unfold OI at h;have:HJ 29 fun(d:Int×Int)=>[(9,.tv (eI d.1)),(10,.tv (eI d.2))]:=⟨⟩;have:HA 0 13 12 0 fun(e:Int)(b:EO)=>[(4,.bx [⟨false,eI b.l3⟩,⟨false,eS b.AbI⟩,⟨false,eI b.Line⟩]),(13,.tv (eI e))]:=⟨⟩;exact nz)
instance yG(t:EO):Ct prog (Nl t) 195 [U8 t] (fun r=>.sh (eB r)):=Fj f195 0x819f59929f0c01915f81b90fc9117ca555bf5f0e6e01c8 [.bin (.s) .eql (.s 9) (.c (.str ⟨#[]⟩))] [.tmp 2] (h:=fun r h a b=>by
  unfold Nl at h;exact nz)
instance wx(a:ByteArray):Ct prog (Eg a) 131 [eS a] (fun r=>.sh (eB r)):=Fj f131 0x810e03468d01 [] [.tmp 2] (h:=fun r h b c=>by
  unfold Eg at h;exact nz)
instance zv(l:List ByteArray):Ct prog (K8 l) 291 [lB l] (fun r=>.sh (eI r)):=Fj f291 0xa6fa02c1fa0204fa03ac86e8e8fa02653104fa03b5cf5d8d8c31fa02b5ec8d01 [] [.tmp 2] (h:=fun r h c d=>by
  unfold K8 at h;have:HA 0 3 0 0 fun(b:Int)(_:Unit)=>[(3,.tv (eI b))]:=⟨⟩;have:HA 2 4 3 0 fun(a:Int)(_:Unit)=>[(4,.tv (eI a))]:=⟨⟩;exact nz)
instance yg(a:mo):Ct prog (Ha a) 222 [GB a] (fun r=>.sh (eI r)):=Fj f222 0xb58a0578d7a2585c55d4d755558ad05ce9d05ceca16ac8 [] [.tmp 2] (h:=fun r h b c=>by
  unfold Ha at h;exact nz)
instance xP(t:AC)(a:Int):Ct prog (Mh t a) 156 [AO t,eI a] (fun r=>.sh (eI r)):=Fj f156 0xa6d102acd4f6f431d1029b0703ac866cf4316cf431d10265319b0703b5cf6cf48d8c31d1028178d70b0155d33178d782a5a9cfda5c05bd03c3bd04ac86596ce15905bd036531c3bd04b5cf59f303c9f6e192de [] [.tmp 4] (h:=fun r h e f=>by
  unfold Mh at h;have:HA 0 6 1 0 fun(c:Int)(_:Unit)=>[(6,.tv (eI c))]:=⟨⟩;have:HA 2 8 7 0 fun(b:Int)(_:Unit)=>[(8,.tv (eI b))]:=⟨⟩;have:HA 4 9 8 0 fun(d:Int)(_:Unit)=>[(9,.tv (eI d))]:=⟨⟩;exact nz)
instance yh(b:Int)(a:Int):Ct prog (JZ b a) 223 [eI b,eI a] (fun r=>.sh (eB r)):=Fj f223 0xf50aa59131a5bb [] [.tmp 4] (h:=fun r h c d=>by
  unfold JZ at h;exact nz)
instance xQ(t:AC)(a:Int):Ct prog (Mg t a) 157 [AO t,eI a] (fun r=>.sh (eI r)):=Fj f157 0xb58ad003cd03056a0ad0d242a16a0a08a5e908a55c817859050202c3bd04ac86596c07dc0502026531c3bd04b5cf59074b00c907440780b4de [] [.tmp 4] (h:=fun r h c d=>by
  unfold Mg at h;have:HA 0 6 1 0 fun(b:Int)(_:Unit)=>[(6,.tv (eI b))]:=⟨⟩;exact nz)
instance wM(t:AC):Ct prog (EW t) 100 [AO t] (fun r=>.tp [eS r.1,eI r.2]):=Fj f100 0x81bf00060102acd96c07dc6da538008cb40601028131e302acd96ce1596da538318c92e302b5bfd3f8e555bfec923fc8 [.mv (.c (.str ⟨#[]⟩)),.mv (.c (.str ⟨#[]⟩)),.mv (.c (.str ⟨#[]⟩)),.mv (.c (.str ⟨#[]⟩))] [.tmp 2,.tmp 3] (h:=fun r h d e=>by
  unfold EW at h;have:HA 0 4 1 0 fun(b:Int)(_:Unit)=>[(4,.tv (eI b))]:=⟨⟩;have:HA 2 6 1 1 fun(a:Int)(_:Unit)=>[(6,.tv (eI a))]:=⟨⟩;exact nz)
instance xR(n:Int):Ct prog (Ka n) 158 [eI n] (fun r=>.sh (eB r)):=Fj f158 0x819f918d01 [] [.tmp 2] (h:=fun r h a b=>by
  unfold Ka at h;exact nz)
instance xS(e:BY)(a:Int):Ct prog (Nq e a) 159 [B1 e,eI a] (fun r=>.sh (eB r)):=Fj f159 0x819f01e99fe99f01b49fb40e92de [] [.tmp 4] (h:=fun r h b c=>by
  unfold Nq at h;exact nz)
instance wN(g:d6):Ct prog (DZ g) 101 [Am g] (fun r=>.sh (eI r)):=Fj f101 0xa6e302accfe5d8dc008cb4e30281313002accfe4318c923002b5d3f80b92c8 [] [.tmp 2] (h:=fun r h c d=>by
  unfold DZ at h;have:HA 0 3 1 0 fun(b:Int)(_:Unit)=>[(3,.tv (eI b))]:=⟨⟩;have:HA 2 4 1 1 fun(a:Int)(_:Unit)=>[(4,.tv (eI a))]:=⟨⟩;exact nz)
instance yH(t:AC)(g:d6):Ct prog (GL t g) 196 [AO t,Am g] (fun r=>.sh (eB r)):=Fj f196 0xa606e7acd35c6c03dc586c03dc008cb406e7815b0205e7acd359e458e45b028c5958e7d990 [] [.tmp 4] (h:=fun r h c d=>by
  unfold GL at h;have:HA 0 5 3 0 fun(b:Int)(_:Unit)=>[(5,.tv (eI b))]:=⟨⟩;have:HA 2 6 3 1 fun(a:Int)(_:Unit)=>[(6,.tv (eI a))]:=⟨⟩;exact nz)
instance c86(t:AC)(a:Int)(b:Int):Ct prog (Ja t a b) 86 [AO t,eI a,eI b] (fun r=>.sh (eI r)):=Fj f86 0xb58ad0785931d078925589017c6f0193bd02 [] [.tmp 6] (h:=fun r h c d=>by
  unfold Ja at h;exact nz)
instance c51(t:AC)(a:Int):Ct prog (FJ t a) 51 [AO t,eI a] (fun r=>.tp [lA r.1,eI r.2]):=Fj f51 0x81820207019b0703c10204480447f6bd4a036a48a16a47f304c9f6f43107018c319b07038182a53804c05504c0d431b60440de [] [.tmp 4,.tmp 5] (h:=fun r h d e=>by
  unfold FJ at h;have:HA 0 9 8 0 fun(b:Int)(c:List mo)=>[(7,.ow (lA c)),(9,.tv (eI b))]:=⟨⟩;exact nz)
instance yI(t:AC)(p:ec)(b:Int)(a:Int):Ct prog (Mj t p b a) 197 [AO t,BG p,eI b,eI a] (fun r=>.tp [GB r.1,eB r.2]):=Fj f197 0x81f3f6f43155f30446d301319f915f82bc84eaa9f30446d3ea913104c95e5b02 [] [.cell 8 (some 4),.tmp 9] (h:=fun r h c d=>by
  unfold Mj at h;exact nz)
instance yJ(n:Int):Ct prog (La n) 198 [eI n] (fun r=>.sh (eB r)):=Fj f198 0x819f918d01 [] [.tmp 2] (h:=fun r h a b=>by
  unfold La at h;exact nz)
instance AAb(n:Int)(t:j4):Ct prog (IL n t) 331 [eI n,Om t] (fun r=>.sh (eI r)):=Fj f331 0xb58a05b49fb49f01595892c801 [] [.tmp 4] (h:=fun r h a b=>by
  unfold IL at h;exact nz)
instance zg(n:Int)(a:Test):Ct prog (OK n a) 280 [eI n,Ee a] (fun r=>.sh (eI r)):=Fj f280 0x816f036a55ef016a558a05595892c801 [] [.tmp 4] (h:=fun r h b c=>by
  unfold OK at h;exact nz)
instance yK(n:Int)(l:List Test):Ct prog (K7 n l) 199 [eI n,lT l] (fun r=>.sh (eI r)):=Fj f199 0xa605c6acd49a05808d8c91c6b5ec01558a059101bb [] [.tmp 4] (h:=fun r h b c=>by
  unfold K7 at h;have:HA 0 5 1 0 fun(a:Int)(_:Unit)=>[(5,.tv (eI a))]:=⟨⟩;exact nz)
instance yL(p:ec)(a:Int):Ct prog (KF p a) 200 [BG p,eI a] (fun r=>.sh (eB r)):=Fj f200 0xa605bd03ac85016c0241e1a2008ca258bd03d9de [] [.tmp 4] (h:=fun r h c d=>by
  unfold KF at h;have:HA 0 5 2 2 fun(b:Int)(_:Unit)=>[(5,.tv (eI b))]:=⟨⟩;exact nz)
instance wy(t:AC)(p:ec):Ct prog (GM t p) 132 [AO t,BG p] (fun r=>.sh (eI r)):=Fj f132 0xa60d5baccf58440065a16a0d5bb5d4d242d73008e7ac8ad077026a9fd76c026a9f6c026a085ff30449bc5c599a38f306c9f6e1a2308ce908e7b5d3d242580ba2558a05d758d755886f32a9ef325589017c6f0190 [] [.tmp 4] (h:=fun r h c d=>by
  unfold GM at h;have:HA 0 8 3 2 fun(b:Int)(_:Unit)=>[(8,.tv (eI b))]:=⟨⟩;have:HA 2 13 3 3 fun(a:Int)(_:Unit)=>[(13,.tv (eI a))]:=⟨⟩;exact nz)
instance AAh(c:ea):Ct prog (Gc c) 337 [AH c] (fun r=>.sh (eB r)):=Fj f337 0x819fa141046a9f78d24104420b5b41044231b878775a044278fd04427877c40b6c026ac8 [] [.tmp 2] (h:=fun r h a b=>by
  unfold Gc at h;exact nz)
instance zp(c:ea):Ct prog (LH c) 287 [AH c] (fun r=>.sh (eB r)):=Fj f287 0x8174785cb881b7b2580b5c19e3036019e303b881b7b2580b5cb881b7b2580b5cb883b3c8 [] [.tmp 2] (h:=fun r h b d=>by
  unfold LH at h;have:HJ 25 fun(a:Bool)=>[(25,.tv (eB a))]:=⟨⟩;exact nz)
abbrev Q_215(n:Nat):Prop:=∀(c:ea),Ct prog (Dq n c) 215 [AH c] (fun r=>.sh (eB r))
theorem ru(n:Nat)(_ih_215:Q_215 n)(c:ea):Ct prog (Dq (n+1) c) 215 [AH c] (fun r=>.sh (eB r)):=Fj f215 0xa63002accfb209dc008cb43002b5cfb201c8 [] [.tmp 2] (h:=fun r h b d=>by
  unfold Dq at h;have:HA 0 3 1 1 fun(a:Int)(_:Unit)=>[(3,.tv (eI a))]:=⟨⟩;exact nz)
theorem rt:∀n:Nat,Q_215 n:=by
  intro n
  induction n with
  |zero=>exact(fun c=>⟨fun _ h=>by cases h⟩)
  |succ n a=>exact ru n a
instance ya(c:ea):Ct prog (NY c) 215 [AH c] (fun r=>.sh (eB r)):=⟨fun r h=>by
  obtain ⟨N,a⟩:=CZ h;exact((rt N) c).snd r (a N (az _))⟩
abbrev Q_216(n:Nat):Prop:=∀(c:ea),Ct prog (EM n c) 216 [AH c] (fun r=>.tp [eI r.1,eI r.2])
theorem ry(n:Nat)(_ih_216:Q_216 n)(c:ea):Ct prog (EM (n+1) c) 216 [AH c] (fun r=>.tp [eI r.1,eI r.2]):=Fj f216 0xa8316b026b027585596b0103066b0104c1312c9131a8bcb209dc6b01038cb4066b010481a831c8 [] [.tmp 2,.tmp 3] (h:=fun r h e f=>by
  unfold EM at h;have:HA 0 6 1 1 fun(b:Int)(a:Int×Int)=>[(4,.tv (eI a.1)),(5,.tv (eI a.2)),(6,.tv (eI b))]:=⟨⟩;have:HJ 33 fun(d:Int)=>[(5,.tv (eI d))]:=⟨⟩;exact nz)
theorem rx:∀n:Nat,Q_216 n:=by
  intro n
  induction n with
  |zero=>exact(fun c=>⟨fun _ h=>by cases h⟩)
  |succ n a=>exact ry n a
instance yb(c:ea):Ct prog (Oc c) 216 [AH c] (fun r=>.tp [eI r.1,eI r.2]):=⟨fun r h=>by
  obtain ⟨N,a⟩:=CZ h;exact((rx N) c).snd r (a N (az _))⟩
instance xK(c:ea):Ct prog (LF c) 150 [AH c] (fun r=>.sh (eI r)):=Fj f150 0xb58a05915f81bcb255cfb201c8 [] [.tmp 2] (h:=fun r h a b=>by
  unfold LF at h;exact nz)
instance yP(a:d6)(b:d6)(m:d7):Ct prog (GK a b m) 204 [Am a,Am b,As m] (fun r=>.sh (eI r)):=Fj f204 0xa60a6bd2ac8a05a25da259585c5d5c5955855959b9b9eefb43845c5cd8dc55d35c84f8845c008cb40a6bd2816ba1096bd2ac85e45de45955d359e458e46ba18c92096bd2b5d35c0bf8e5e555ef55ef01f2 [] [.tmp 6] (h:=fun r h e f=>by
  unfold GK at h;have:HA 0 9 3 0 fun(d:Int)(_:Unit)=>[(9,.tv (eI d))]:=⟨⟩;have:HA 2 10 3 1 fun(c:Int)(_:Unit)=>[(10,.tv (eI c))]:=⟨⟩;exact nz)
instance zq(p:ec)(a:Int):Ct prog (Mk p a) 288 [BG p,eI a] (fun r=>.sh (eB r)):=Fj f288 0xa605bd03ac85016c0241e1a2008ca258bd03d9de [] [.tmp 4] (h:=fun r h c d=>by
  unfold Mk at h;have:HA 0 5 2 2 fun(b:Int)(_:Unit)=>[(5,.tv (eI b))]:=⟨⟩;exact nz)
instance yc(t:AC)(a:Int)(q:ec):Ct prog (LG t a q) 217 [AO t,eI a,BG q] (fun r=>.sh (eI r)):=Fj f217 0xa6d10503ac01cf58440065a16ad10503d955d49aa98501a16a5e31 [] [.tmp 6] (h:=fun r h c d=>by
  unfold LG at h;have:HA 0 8 5 3 fun(b:Int)(_:Unit)=>[(8,.tv (eI b))]:=⟨⟩;exact nz)
instance w5(l:Fp):Ct prog (EL l) 135 [lI l] (fun r=>.sh (eB r)):=Fj f135 0xa6fa02c1fa0204fa03ac85e8e8fa02653104fa03a68c31fa02816901 [] [.tmp 2] (h:=fun r h c d=>by
  unfold EL at h;have:HA 0 3 0 0 fun(b:Int)(_:Unit)=>[(3,.tv (eI b))]:=⟨⟩;have:HA 2 4 3 0 fun(a:Int)(_:Unit)=>[(4,.tv (eI a))]:=⟨⟩;exact nz)
instance yd(a:d6)(b:d6)(m:d7):Ct prog (Hd a b m) 218 [Am a,Am b,As m] (fun r=>.sh (eB r)):=Fj f218 0x81b7b4b759586f38b6f2 [] [.tmp 6] (h:=fun r h c d=>by
  unfold Hd at h;exact nz)
abbrev Q_151(n:Nat):Prop:=∀(t:AC)(p:ec)(c:ea),Ct prog (EX n t p c) 151 [AO t,BG p,AH c] (fun r=>.sh (eI r))
theorem rl(n:Nat)(_ih_151:Q_151 n)(t:AC)(p:ec)(c:ea):Ct prog (EX (n+1) t p c) 151 [AO t,BG p,AH c] (fun r=>.sh (eI r)):=Fj f151 0xa60a0705d2acd4b209dc9a38008cb40a0705d2810705a10705a13cdd9a044255886fc4f10442eb55efc4f10442eb55d49a0442d7388559dd0ac99a01f2 [] [.tmp 6] (h:=fun r h b d=>by
  unfold EX at h;have:HA 0 10 5 1 fun(a:Int)(_:Unit)=>[(10,.tv (eI a))]:=⟨⟩;exact nz)
theorem rk:∀n:Nat,Q_151 n:=by
  intro n
  induction n with
  |zero=>exact(fun t p c=>⟨fun _ h=>by cases h⟩)
  |succ n a=>exact rl n a
instance xL(t:AC)(p:ec)(c:ea):Ct prog (Vl t p c) 151 [AO t,BG p,AH c] (fun r=>.sh (eI r)):=⟨fun r h=>by
  obtain ⟨N,a⟩:=CZ h;exact((rk N) t p c).snd r (a N (az _))⟩
instance c95(t:AC)(p:ec)(c:ea):Ct prog (Jb t p c) 95 [AO t,BG p,AH c] (fun r=>.sh (eI r)):=Fj f95 0x810eb29aa9d4b255d49ab6f2 [] [.tmp 6] (h:=fun r h a b=>by
  unfold Jb at h;exact nz)
instance yR(t:AC)(p:d6)(g:d6):Ct prog (H0 t p g) 206 [AO t,Am p,Am g] (fun r=>.sh (eI r)):=Fj f206 0xb58a086fb6086fa9ef55ef5589017c6f01f2 [] [.tmp 6] (h:=fun r h a b=>by
  unfold H0 at h;exact nz)
instance xM(t:AC)(p:d6)(g:d6):Ct prog (K9 t p g) 152 [AO t,Am p,Am g] (fun r=>.sh (eB r)):=Fj f152 0xf50a0a78b40a785958785ce5586f38b60a6f010a6f016f01f2 [] [.tmp 6] (h:=fun r h a b=>by
  unfold K9 at h;exact nz)
instance c96(t:AC)(p:ec)(a:AG):Ct prog (Nt t p a) 96 [AO t,BG p,CD a] (fun r=>.sh (eB r)):=Fj f96 0xf56f32ebb6b76e010e9a01f2 [] [.tmp 6] (h:=fun r h b c=>by
  unfold Nt at h;exact nz)
abbrev Q_97(n:Nat):Prop:=∀(c:ea),Ct prog (Ew n c) 97 [AH c] (fun r=>.sh (eB r))
theorem vU(n:Nat)(_ih_97:Q_97 n)(c:ea):Ct prog (Ew (n+1) c) 97 [AH c] (fun r=>.sh (eB r)):=Fj f97 0xb878775a04420bfd0442313002accfb209dc318cb43002d9c8 [] [.tmp 2] (h:=fun r h b d=>by
  unfold Ew at h;have:HA 0 3 1 1 fun(a:Int)(_:Unit)=>[(3,.tv (eI a))]:=⟨⟩;exact nz)
theorem vT:∀n:Nat,Q_97 n:=by
  intro n
  induction n with
  |zero=>exact(fun c=>⟨fun _ h=>by cases h⟩)
  |succ n a=>exact vU n a
instance c97(c:ea):Ct prog (Pn c) 97 [AH c] (fun r=>.sh (eB r)):=⟨fun r h=>by
  obtain ⟨N,a⟩:=CZ h;exact((vT N) c).snd r (a N (az _))⟩
abbrev Q_98(n:Nat):Prop:=∀(p:ec)(c:ea)(a:Int)(b:Int),Ct prog (De n p c a b) 98 [BG p,AH c,eI a,eI b] (fun r=>.sh (eB r))
theorem vW(n:Nat)(_ih_98:Q_98 n)(p:ec)(c:ea)(a:Int)(b:Int):Ct prog (De (n+1) p c a b) 98 [BG p,AH c,eI a,eI b] (fun r=>.sh (eB r)):=Fj f98 0xb8010a010d0a09055b06accf31b209dc9a0a018cb40d0a09055b06f509055b050c0a09055b06c158310a09055b058c77b30c0a09055b06810b77320a09e2060b0a09e207c158310a09e2068c6cb30b0a09e207810bea8109e20509e2053cdd9a04428559dd0ac99a015e5b02 [] [.tmp 8] (h:=fun r h i j=>by
  unfold De at h;have:HJ 17 fun(d:ec)=>[(9,.bx [⟨false,lI d.d6.d4⟩,⟨false,lE d.d6.d5⟩,⟨false,lS d.ff⟩,⟨false,eI d.gn⟩,⟨false,lT d.l4⟩])]:=⟨⟩;have:HW 0 fun(f:Int×Int)=>[(10,.tv (eI f.1)),(11,.tv (eI f.2))]:=⟨⟩;have:HW 2 fun(e:Int×Int)=>[(10,.tv (eI e.1)),(12,.tv (eI e.2))]:=⟨⟩;have:HA 4 13 5 1 fun(g:Int)(_:Unit)=>[(13,.tv (eI g))]:=⟨⟩;exact nz)
theorem vV:∀n:Nat,Q_98 n:=by
  intro n
  induction n with
  |zero=>exact(fun p c ej fd=>⟨fun _ h=>by cases h⟩)
  |succ n a=>exact vW n a
instance c98(p:ec)(c:ea)(a:Int)(b:Int):Ct prog (Ob p c a b) 98 [BG p,AH c,eI a,eI b] (fun r=>.sh (eB r)):=⟨fun r h=>by
  obtain ⟨N,d⟩:=CZ h;exact((vV N) p c a b).snd r (d N (az _))⟩
instance c54(t:AC)(p:ec)(c:ea)(a:AG):Ct prog (LE t p c a) 54 [AO t,BG p,AH c,CD a] (fun r=>.sh (eB r)):=Fj f54 0xf5b7b29a010a7877b30a786cb3b7b2010e6e9a38580eb29aa98ad06e010ad09a01d0b2015e90 [] [.tmp 8] (h:=fun r h b d=>by
  unfold LE at h;exact nz)
instance c15(t:AC)(b:em)(a:AG):Ct prog (H3 t b a) 15 [AO t,Bq b,CD a] (fun r=>.sh (eB r)):=Fj f15 0x81b76eb210429aaab6b7cb016f01f2 [] [.tmp 6] (h:=fun r h c d=>by
  unfold H3 at h;exact nz)
instance c25(m:AJ)(n:Int):Ct prog (Kf m n) 25 [Bg m,eI n] (fun r=>.sh (eB r)):=Fj f25 0x819f010be9a538b3de [] [.tmp 4] (h:=fun r h a b=>by
  unfold Kf at h;exact nz)
instance c7(t:AC)(a:Ai):Ct prog (Hh t a) 7 [AO t,C1 a] (fun r=>.sh (eB r)):=Fj f7 0xf56f246a0a6f226ab76e196ab76e1f6a0e6e1c42cb32b690 [] [.tmp 4] (h:=fun r h b c=>by
  unfold Hh at h;exact nz)
instance c84(a:Fp)(b:Fp):Ct prog (Dd a b) 84 [lI a,lI b] (fun r=>.sh (eB r)):=Fj f84 0xa605c6ac85e85d8d8c91c6b5ec010b01bb [] [.tmp 4] (h:=fun r h d e=>by
  unfold Dd at h;have:HA 0 5 0 0 fun(c:Int)(_:Unit)=>[(5,.tv (eI c))]:=⟨⟩;exact nz)
instance c56(a:d6)(b:d6):Ct prog (KZ a b) 56 [Am a,Am b] (fun r=>.sh (eB r)):=Fj f56 0xa605e7acbfd8dcd8dc008cf8e7b5d35c0bb4d0599290 [.bin (.a [0,0,0]) .neq (.s 32) (.s 37)] [.tmp 4] (h:=fun r h d e=>by
  unfold KZ at h;have:HA 0 5 2 1 fun(c:Int)(_:Unit)=>[(5,.tv (eI c))]:=⟨⟩;exact nz)
instance c57(a:Fp)(b:Fp):Ct prog (JN a b) 57 [lI a,lI b] (fun r=>.sh (eI r)):=Fj f57 0x8178010bbb05c6ac05e8e885e884bbffd301317891c681bb [] [.tmp 4] (h:=fun r h d e=>by
  unfold JN at h;have:HW 0 fun(c:Int)=>[(5,.tv (eI c))]:=⟨⟩;exact nz)
instance c17(a:AG)(b:AG):Ct prog (Kd a b) 17 [CD a,CD b] (fun r=>.sh (eB r)):=Fj f17 0xa605e7ac850e84a284a2008ca258e7b5d3a20be9086f3238b390 [] [.tmp 4] (h:=fun r h d e=>by
  unfold Kd at h;have:HA 0 5 2 2 fun(c:Int)(_:Unit)=>[(5,.tv (eI c))]:=⟨⟩;exact nz)
instance c85(a:Fp)(b:Fp):Ct prog (GR a b) 85 [lI a,lI b] (fun r=>.sh (eB r)):=Fj f85 0xa605c6ac85e85d8d8c91c6b5ec010b01bb [] [.tmp 4] (h:=fun r h d e=>by
  unfold GR at h;have:HA 0 5 0 0 fun(c:Int)(_:Unit)=>[(5,.tv (eI c))]:=⟨⟩;exact nz)
instance c44(a:d7)(b:d7):Ct prog (He a b) 44 [As a,As b] (fun r=>.sh (eB r)):=Fj f44 0x81b75cb40e599290 [] [.tmp 4] (h:=fun r h c d=>by
  unfold He at h;exact nz)
instance c81(a:ec)(b:ec):Ct prog (I2 a b) 81 [BG a,BG b] (fun r=>.sh (eB r)):=Fj f81 0xa606e7acbf9a0580d2429a0580d242008cd26a06e7815b0205e7acbff6e1a2f6e1a25b028ca258e7b5d3d2420bd26a0a78a20be99fd7a16a086f3238b390 [.bin (.a [0,0,0,0]) .neq (.s 49) (.s 54),.bin (.a [0,0,0,0,0]) .neq (.s 67) (.s 72)] [.tmp 4] (h:=fun r h e f=>by
  unfold I2 at h;have:HA 0 5 2 2 fun(d:Int)(_:Unit)=>[(5,.tv (eI d))]:=⟨⟩;have:HA 2 6 2 4 fun(c:Int)(_:Unit)=>[(6,.tv (eI c))]:=⟨⟩;exact nz)
instance c82(p:Ak)(q:Ak):Ct prog (Oy p q) 82 [Da p,Da q] (fun r=>.sh (eB r)):=Fj f82 0x81b75cb40e599290 [] [.tmp 4] (h:=fun r h a b=>by
  unfold Oy at h;exact nz)
abbrev Q_83(n:Nat):Prop:=∀(a:ea)(b:ea),Ct prog (GN n a b) 83 [AH a,AH b] (fun r=>.sh (eB r))
theorem vO(n:Nat)(_ih_83:Q_83 n)(a:ea)(b:ea):Ct prog (GN (n+1) a b) 83 [AH a,AH b] (fun r=>.sh (eB r)):=Fj f83 0xa605e7accfb209dcb209dc008cf8e7b58ad09a04429a046a0a086fc438026a0a785c0bf8599290 [] [.tmp 4] (h:=fun r h d e=>by
  unfold GN at h;have:HA 0 5 2 1 fun(c:Int)(_:Unit)=>[(5,.tv (eI c))]:=⟨⟩;exact nz)
theorem vN:∀n:Nat,Q_83 n:=by
  intro n
  induction n with
  |zero=>exact(fun a b=>⟨fun _ h=>by cases h⟩)
  |succ n c=>exact vO n c
instance c83(a:ea)(b:ea):Ct prog (Rh a b) 83 [AH a,AH b] (fun r=>.sh (eB r)):=⟨fun r h=>by
  obtain ⟨N,c⟩:=CZ h;exact((vN N) a b).snd r (c N (az _))⟩
instance c42(a:em)(b:em):Ct prog (Mm a b) 42 [Bq a,Bq b] (fun r=>.sh (eB r)):=Fj f42 0x81b7b21042b2106a0a6ff7380d6a0a6f0b42380b6ab79acd9a066ab79aaa9a016a0a07030f42030f6a06599290 [] [.tmp 4] (h:=fun r h c d=>by
  unfold Mm at h;exact nz)
instance c43(a:AJ)(b:AJ):Ct prog (Hg a b) 43 [Bg a,Bg b] (fun r=>.sh (eB r)):=Fj f43 0x81b7a2e9b7773277b30eea6cb390 [] [.tmp 4] (h:=fun r h c d=>by
  unfold Hg at h;exact nz)
instance c10(a:Ai)(b:Ai):Ct prog (I3 a b) 10 [C1 a,C1 b] (fun r=>.sh (eB r)):=Fj f10 0xf56f244238246a0a6f224238226ab76e19426e196ab7cb32cb323181b76e1f426e1f6a0e6e1c426e1c6a90 [] [.tmp 4] (h:=fun r h c d=>by
  unfold I3 at h;exact nz)
abbrev Q_88(n:Nat):Prop:=∀(t:AC)(a:Int)(b:Int),Ct prog (Et n t a b) 88 [AO t,eI a,eI b] (fun r=>.sh (eB r))
theorem vQ(n:Nat)(_ih_88:Q_88 n)(t:AC)(a:Int)(b:Int):Ct prog (Et (n+1) t a b) 88 [AO t,eI a,eI b] (fun r=>.sh (eB r)):=Fj f88 0xf50aa577e159385891013193bd02 [] [.tmp 6] (h:=fun r h c d=>by
  unfold Et at h;exact nz)
theorem vP:∀n:Nat,Q_88 n:=by
  intro n
  induction n with
  |zero=>exact(fun t a b=>⟨fun _ h=>by cases h⟩)
  |succ n c=>exact vQ n c
instance c88(t:AC)(a:Int)(b:Int):Ct prog (Ga t a b) 88 [AO t,eI a,eI b] (fun r=>.sh (eB r)):=⟨fun r h=>by
  obtain ⟨N,c⟩:=CZ h;exact((vP N) t a b).snd r (c N (az _))⟩
instance c47(t:AC)(b:Int)(a:Int)(c:Int):Ct prog (I0 t b a c) 47 [AO t,eI b,eI a,eI c] (fun r=>.sh (eB r)):=Fj f47 0x81b75b410780b4b60e770780b4a98ad0785c910e31b6935b0103 [] [.tmp 8] (h:=fun r h d e=>by
  unfold I0 at h;exact nz)
instance wO(t:AC)(a:Int)(b:Fp):Ct prog (Mi t a b) 102 [AO t,eI a,lI b] (fun r=>.sh (eI r)):=Fj f102 0xa609070203ac8a055b41f431849177f4315d8d8c3109070203b5ec010b31827ca5a9830241e1595585e53193bd02 [] [.tmp 6] (h:=fun r h d e=>by
  unfold Mi at h;have:HA 0 9 7 0 fun(c:Int)(_:Unit)=>[(9,.tv (eI c))]:=⟨⟩;exact nz)
instance c58(t:AC)(a:AG):Ct prog (Hy t a) 58 [AO t,CD a] (fun r=>.tp [eI r.1,eI r.2]):=Fj f58 0x81a60be7acd9cf5da2ea5d5cea59a9d9ec5c59b9fb807732008c77b30be7815b0209e7ac81316d0e84a284ea385b028c6cb309e7b581ecea0ba25581ef32558189017c6f3190 [] [.tmp 4,.tmp 5] (h:=fun r h d e=>by
  unfold Hy at h;have:HA 0 9 3 0 fun(c:Int)(_:Unit)=>[(9,.tv (eI c))]:=⟨⟩;have:HA 2 11 3 1 fun(b:Int)(_:Unit)=>[(11,.tv (eI b))]:=⟨⟩;exact nz)
instance yM(t:AC)(p:ec)(a:Int):Ct prog (Mn t p a) 201 [AO t,BG p,eI a] (fun r=>.sh (eI r)):=Fj f201 0xa60a07040204ac8a055c77e1a258596ce1a20065310a07040204b58a0577026a9f77026a9fd76c026a9f6c026a0a7801f8b482bc5d59eaa9d3ea595859f306c9f6e1e95ebd [] [.tmp 6] (h:=fun r h c d=>by
  unfold Mn at h;have:HA 0 10 2 0 fun(b:Int)(_:Unit)=>[(10,.tv (eI b))]:=⟨⟩;exact nz)
instance wz(t:AC)(a:em):Ct prog (LI t a) 133 [AO t,Bq a] (fun r=>.sh (eI r)):=Fj f133 0xa606e7acd45844cd38008c5b41066a06e7b5ec5b41cd55d3d241cd58a141aaa141cd55886f5acda9ef5a066a90 [] [.tmp 4] (h:=fun r h c d=>by
  unfold LI at h;have:HA 0 6 3 8 fun(b:Int)(_:Unit)=>[(6,.tv (eI b))]:=⟨⟩;exact nz)
instance AAc(l:Fp)(n:Int):Ct prog (Ff l n) 332 [lI l,eI n] (fun r=>.sh (eI r)):=Fj f332 0xa605c6ac8a055d0531849101558ada84915d8d8c91c681bb [] [.tmp 4] (h:=fun r h b c=>by
  unfold Ff at h;have:HA 0 5 0 0 fun(a:Int)(_:Unit)=>[(5,.tv (eI a))]:=⟨⟩;exact nz)
instance AAd(l:Fp)(n:Int):Ct prog (OL l n) 333 [lI l,eI n] (fun r=>.sh (eB r)):=Fj f333 0xa605c6ac85015d8d8c91c681bb [] [.tmp 4] (h:=fun r h b c=>by
  unfold OL at h;have:HA 0 5 0 0 fun(a:Int)(_:Unit)=>[(5,.tv (eI a))]:=⟨⟩;exact nz)
instance zh(g:d6)(p:Ak):Ct prog (Nr g p) 281 [Am g,Da p] (fun r=>.sh (eI r)):=Fj f281 0xa607e7ac8ad0a292d05c59b9fb43845c5c008cb407e7b5d40b5c5c55d4e59290 [] [.tmp 4] (h:=fun r h b c=>by
  unfold Nr at h;have:HA 0 7 3 1 fun(a:Int)(_:Unit)=>[(7,.tv (eI a))]:=⟨⟩;exact nz)
instance yN(g:d6)(p:Ak):Ct prog (Hw g p) 202 [Am g,Da p] (fun r=>.sh (eI r)):=Fj f202 0x816fa9ef0190 [] [.tmp 4] (h:=fun r h a b=>by
  unfold Hw at h;exact nz)
instance zi(l:Fp)(n:Int):Ct prog (Hx l n) 282 [lI l,eI n] (fun r=>.sh (eI r)):=Fj f282 0xa605c6ac0185015d8d8c91c681bb [] [.tmp 4] (h:=fun r h b c=>by
  unfold Hx at h;have:HA 0 5 0 0 fun(a:Int)(_:Unit)=>[(5,.tv (eI a))]:=⟨⟩;exact nz)
instance yO(g:d6)(p:Ak):Ct prog (G3 g p) 203 [Am g,Da p] (fun r=>.tp [Am r.1,As r.2.1,eI r.2.2]):=Fj f203 0x6b023b81a7a7024601485cb10148924738086bd20a08e206c1e6aa0348034707460ea2590e5c595904aab9fb43845c5c086bd28cb40a08e2068108e2059be206c1e6b3be5de459043208e2058c929be2068108c955a7a701064605f06fb6df08c990 [] [.cell 4 (some 2),.cell 5 (some 2),.tmp 6] (h:=fun r h e f=>by
  unfold G3 at h;have:HA 0 9 3 0 fun(d:Int)(b:d6)=>[(8,.bx [⟨true,lI b.d4⟩,⟨true,lE b.d5⟩]),(9,.tv (eI d))]:=⟨⟩;have:HA 2 10 3 1 fun(c:Int)(a:d6)=>[(8,.bx [⟨true,lI a.d4⟩,⟨true,lE a.d5⟩]),(10,.tv (eI c))]:=⟨⟩;exact nz)
instance w4(a:em):Ct prog (Mo a) 134 [Bq a] (fun r=>.sh (eI r)):=Fj f134 0x816ff7f1cdb6a7a7024908c9117c6f0b42f1aa55ef0b42f1016ac8 [] [.tmp 2] (h:=fun r h b c=>by
  unfold Mo at h;exact nz)
instance zj(l:Fp)(n:Int):Ct prog (QN l n) 283 [lI l,eI n] (fun r=>.sh (eB r)):=Fj f283 0xa605c6ac85015d8d8c91c681bb [] [.tmp 4] (h:=fun r h b c=>by
  unfold QN at h;have:HA 0 5 0 0 fun(a:Int)(_:Unit)=>[(5,.tv (eI a))]:=⟨⟩;exact nz)
instance yQ(n:Int)(l:Fp):Ct prog (Ke n l) 205 [eI n,lI l] (fun r=>.own (lI r)):=Fj f205 0x8202dafec1fefe3cbdbe0102cf91016531fed9c001406902 [] [.tmp 4] (h:=fun r h c d=>by
  unfold Ke at h;have:HA 0 6 0 0 fun(a:Int)(b:Fp)=>[(5,.ow (lI b)),(6,.tv (eI a))]:=⟨⟩;exact nz)
instance w6(a:em):Ct prog (JO a) 136 [Bq a] (fun r=>.tp [lI r.1,lI r.2]):=Fj f136 0x82820e77f70b775acd0e6cf70bfd066a400140c8 [] [.tmp 2,.tmp 3] (h:=fun r h b c=>by
  unfold JO at h;exact nz)
instance w7(t:AC)(g:d6)(b:Fp)(a:Fp):Ct prog (KH t g b a) 137 [AO t,Am g,lI b,lI a] (fun r=>.sh (eB r)):=Fj f137 0xa60a6bd2accf5da2595d5c595938b9fb43e85c008c310a6bd2816ba109e205ac830241f45de859596ba18c3109e205d95e5b02 [] [.tmp 8] (h:=fun r h e f=>by
  unfold KH at h;have:HA 0 9 2 0 fun(d:Int)(_:Unit)=>[(9,.tv (eI d))]:=⟨⟩;have:HA 2 10 3 0 fun(c:Int)(_:Unit)=>[(10,.tv (eI c))]:=⟨⟩;exact nz)
instance c68(t:AC)(a:em):Ct prog (Jc t a) 68 [AO t,Bq a] (fun r=>.sh (eI r)):=Fj f68 0x810eb210429aaaa9cf31f1cd388282bccb558ad0770d6ad06cf755d4cb55d4cba9d49aaaa9cf595589017c6f0190 [] [.tmp 4] (h:=fun r h b c=>by
  unfold Jc at h;exact nz)
instance c72(t:AC)(b:em)(a:AG):Ct prog (Nu t b a) 72 [AO t,Bq b,CD a] (fun r=>.sh (eI r)):=Fj f72 0x815f01bc6ea9d4cbb6f2 [] [.tmp 6] (h:=fun r h c d=>by
  unfold Nu at h;exact nz)
instance zk(l:Fp):Ct prog (IP l) 284 [lI l] (fun r=>.sh (eB r)):=Fj f284 0xa6fa02c1fa0204fa03ac85e8e8fa02653104fa03a68c31fa02816901 [] [.tmp 2] (h:=fun r h c d=>by
  unfold IP at h;have:HA 0 3 0 0 fun(b:Int)(_:Unit)=>[(3,.tv (eI b))]:=⟨⟩;have:HA 2 4 3 0 fun(a:Int)(_:Unit)=>[(4,.tv (eI a))]:=⟨⟩;exact nz)
instance yS(t:AC)(p:d6)(g:d6)(m:d7)(a:Bool):Ct prog (LA t p g m a) 207 [AO t,Am p,Am g,As m,eB a] (fun r=>.sh (eI r)):=Fj f207 0xb58a0ad0b4d059310804020c08760405ac8a05a25da259585c5d5c5955855959b9b9eefb43845c5cd8dc55d35c84f8845c0804028cb40c0876040581087604040b08766b06accfe45de459a9d359e458e4087604048c920b08766b06b5d35c0bf8e50b925e5ee3 [] [.tmp 10] (h:=fun r h d e=>by
  unfold LA at h;have:HA 0 11 8 0 fun(c:Int)(_:Unit)=>[(11,.tv (eI c))]:=⟨⟩;have:HA 2 12 8 1 fun(b:Int)(_:Unit)=>[(12,.tv (eI b))]:=⟨⟩;exact nz)
instance w8(t:AC)(p:d6)(g:d6)(m:d7)(a:Bool):Ct prog (Hz t p g m a) 138 [AO t,Am p,Am g,As m,eB a] (fun r=>.sh (eI r)):=Fj f138 0x81a5383838a9ef38b65e5ee3 [] [.tmp 10] (h:=fun r h b c=>by
  unfold Hz at h;exact nz)
instance xN(t:AC)(p:ec)(a:AG):Ct prog (LC t p a) 153 [AO t,BG p,CD a] (fun r=>.sh (eI r)):=Fj f153 0x815f01bc6ea9d49ab6f2 [] [.tmp 6] (h:=fun r h b c=>by
  unfold LC at h;exact nz)
instance yZ(a:j4)(b:Fp):Ct prog (H1 a b) 214 [Om a,lI b] (fun r=>.sh (eI r)):=Fj f214 0xb85c5d92555c8592de [] [.tmp 4] (h:=fun r h c d=>by
  unfold H1 at h;exact nz)
instance zu(t:j4)(a:Fp):Ct prog (JY t a) 290 [Om t,lI a] (fun r=>.tp [eI r.1,eB r.2]):=Fj f290 0xa8055c5d925581d30159585955815c855931de [] [.tmp 4,.tmp 5] (h:=fun r h b c=>by
  unfold JY at h;exact nz)
instance yf(a:Test)(b:Fp):Ct prog (K6 a b) 221 [Ee a,lI b] (fun r=>.sh (eB r)):=Fj f221 0xf59f0191929f019159558a0831085f817ca5380342a87ca5b66ade [] [.tmp 4] (h:=fun r h c d=>by
  unfold K6 at h;exact nz)
instance xO(p:ec)(a:AG)(m:d7):Ct prog (KE p a m) 155 [BG p,CD a,As m] (fun r=>.tp [lI r.1,eI r.2]):=Fj f155 0x81821808010e08a1ac01c08820149a0580d24208018cd26a0e08a181085bdb6b0306ac01c08501201438c40c0bdb6b03080c0bdb6b03083c014df90577c43114014df901148a0817f90114585f6cc4fc5c5d5d5959a2f306c9f6e1a2085b8ce9db6b030681993fd7993fd73140f2 [.mkx 1 [.int .i64 0] (.s 16),.mkx 1 [.bool false] (.s 19)] [.tmp 6,.tmp 7] (h:=fun r h e f=>by
  unfold KE at h;have:HA 0 10 3 2 fun(d:Int)(b:Fp×a5)=>[(8,.xo 1 (List.map eI b.1)),(9,.xo 1 (List.map eB b.2)),(10,.tv (eI d))]:=⟨⟩;have:HA 2 14 3 4 fun(c:Int)(_:Unit)=>[(14,.tv (eI c))]:=⟨⟩;exact nz)
instance w9(t:AC)(p:ec)(a:AG)(m:d7):Ct prog (LB t p a m) 139 [AO t,BG p,CD a,As m] (fun r=>.tp [lI r.1,eI r.2]):=Fj f139 0x8182736f6e9a5501c0efebeba901c0d46e9a3831405e90 [] [.tmp 8,.tmp 9] (h:=fun r h b c=>by
  unfold LB at h;exact nz)
instance c46(g:d6):Ct prog (Dx g) 46 [Am g] (fun r=>.oag [⟨true,lI r.d4⟩,⟨true,lE r.d5⟩]):=Fj f46 0xbd3b02503f03485c03470148924708c9c8 [.Aaj [.w 6,.w 10]] [.cell 2 (some 2)] (h:=fun r h a b=>by
  unfold Dx at h;exact nz)
instance xA(t:AC)(p:d6)(g:d6)(m:d7):Ct prog (IN t p g m) 140 [AO t,Am p,Am g,As m] (fun r=>.tp [Am r.1,eI r.2]):=Fj f140 0x81a7380b3e0b08020c0b08edc1014df95de4921d320b080265151db30c0b08ed81025016c927a9a758f06f3838b608c95e90 [] [.cell 8 (some 2),.tmp 9] (h:=fun r h b c=>by
  unfold IN at h;have:HW 0 fun(a:d6×Int)=>[(11,.bx [⟨true,.xl 1 (List.map eI a.1.d4)⟩,⟨true,.xl 3 (List.map B1 a.1.d5)⟩]),(12,.tv (eI a.2))]:=⟨⟩;exact nz)
instance yT(l:d6)(g:d6)(a:Ak)(m:d7):Ct prog (Ns l g a m) 208 [Am l,Am g,Da a,As m] (fun r=>.sh (eI r)):=Fj f208 0x816fa9ef38b65e90 [] [.tmp 8] (h:=fun r h b c=>by
  unfold Ns at h;exact nz)
instance zl(l:Fp)(n:Int):Ct prog (DT l n) 285 [lI l,eI n] (fun r=>.sh (eB r)):=Fj f285 0xa605c6ac85015d8d8c91c681bb [] [.tmp 4] (h:=fun r h b c=>by
  unfold DT at h;have:HA 0 5 0 0 fun(a:Int)(_:Unit)=>[(5,.tv (eI a))]:=⟨⟩;exact nz)
instance yU(a:Fp)(b:Fp):Ct prog (E9 a b) 209 [lI a,lI b] (fun r=>.own ((eL 2 P2) r)):=Fj f209 0x8202dafec1feed6905c1ed6905ed69053c02024802470e4631028a0a08a53108a591e8e8fe8c31ed6905b858018c31fe8102c002406902 [] [.tmp 4] (h:=fun r h g i=>by
  unfold E9 at h;have:HA 0 6 0 0 fun(d:Int)(f:List Fk)=>[(5,.ow ((eL 2 P2) f)),(6,.tv (eI d))]:=⟨⟩;have:HA 2 7 0 0 fun(c:Int)(e:List Fk)=>[(5,.ow ((eL 2 P2) e)),(7,.tv (eI c))]:=⟨⟩;exact nz)
instance yX(a:Fp)(b:Fp):Ct prog (I1 a b) 212 [lI a,lI b] (fun r=>.own (lI r)):=Fj f212 0x8202dafec1fefe3cbdbee802cf91018c31fed9c001406902 [] [.tmp 4] (h:=fun r h e f=>by
  unfold I1 at h;have:HA 0 6 0 0 fun(c:Int)(d:Fp)=>[(5,.ow (lI d)),(6,.tv (eI c))]:=⟨⟩;exact nz)
instance yV(l:d6)(g:d6)(a:Ak)(m:d7):Ct prog (IM l g a m) 210 [Am l,Am g,Da a,As m] (fun r=>.own (lI r)):=Fj f210 0x820209010b0a09070505c10b0a090705780a090705053cbdbe01028ab75b4103dc310e7703dc3108a55c09018cb40b0a0907050581820e5992c00140935e1300 [] [.tmp 8] (h:=fun r h d e=>by
  unfold IM at h;have:HA 0 11 5 1 fun(b:Int)(c:Fp)=>[(9,.ow (lI c)),(11,.tv (eI b))]:=⟨⟩;exact nz)
instance yW(n:Int)(l:Fp):Ct prog (Kc n l) 211 [eI n,lI l] (fun r=>.own (lI r)):=Fj f211 0x8202dafec1fefe3cbdbe0102cf91016531fed9c001406902 [] [.tmp 4] (h:=fun r h c d=>by
  unfold Kc at h;have:HA 0 6 0 0 fun(a:Int)(b:Fp)=>[(5,.ow (lI b)),(6,.tv (eI a))]:=⟨⟩;exact nz)
instance xB(l:d6)(g:d6)(a:Ak)(m:d7):Ct prog (Pm l g a m) 141 [Am l,Am g,Da a,As m] (fun r=>.tp [Da r.1,eI r.2]):=Fj f141 0x8013b81a702460e0e5c5c0b5c0e0e5959e555a70646ec6f3838a9a7064685780e5c5c0b0e595955a70106f06f3838b6df5e90 [] [.cell 8 (some 2),.tmp 9] (h:=fun r h b c=>by
  unfold Pm at h;exact nz)
instance AAe(n:Int)(a:Fp)(m:Fp):Ct prog (IR n a m) 334 [eI n,lI a,lI m] (fun r=>.own (lI r)):=Fj f334 0x821807010907bd04c1014df9e8e81407018c310907bd048107bd03d1026905c119014fb11907bd036531d1026905d9ce014002c6 [] [.tmp 6] (h:=fun r h f g=>by
  unfold IR at h;have:HA 0 8 0 0 fun(c:Int)(e:Fp)=>[(7,.xo 1 (List.map eI e)),(8,.tv (eI c))]:=⟨⟩;have:HA 2 9 1 0 fun(b:Int)(d:Fp)=>[(7,.xo 1 (List.map eI d)),(9,.tv (eI b))]:=⟨⟩;exact nz)
instance AAi(b:Ah)(a:Fp):Ct prog (Ec b a) 338 [.pt (R4 b).cells,lI a] (fun r=>.sh (eB r)):=Fj f338 0xa605c66058c605c68188010705ad08ed6906c1010a9f5de9e99f5db4f8595931b9fb80770496010705ad8c7704963108ed6906a8ff05c6d301a2580b015cb9fb80770296698c77029691c681bb [] [.tmp 4] (h:=fun r h f g=>by
  unfold Ec at h;have:HA 0 5 0 3 fun(d:Int)(_:Unit)=>[(5,.tv (eI d))]:=⟨⟩;have:HA 2 8 0 5 fun(c:Int)(e:Bool)=>[(7,.tv (eB e)),(8,.tv (eI c))]:=⟨⟩;exact nz)
instance AAk(a:Ah)(l:Fp)(n:Int):Ct prog (Ce a l n) 340 [.pt (R4 a).cells,lI l,eI n] (fun r=>.sh (eB r)):=Fj f340 0xa60702adac85015d8dff8a0308963178310702add902c6 [] [.tmp 6] (h:=fun r h c d=>by
  unfold Ce at h;have:HW 0 fun(b:Int)=>[(7,.tv (eI b))]:=⟨⟩;exact nz)
noncomputable def Xw:PC:=PC.of Vs f339.body (xq bT 0x1087602690675087602690608760269063c005201be314831470132ff08760269068a055de9e99f5db4b49f59920a2031b39f01847706cc58847706ccb9fb807704cc00018c770496b3087602690681b9fb807702ccffe60a960248024702460148314701483147040acc32ec7702cc5f0b01650309cc0b030acc02c6) []
theorem sT:CK f339 Xw []:=by decide +kernel
theorem sz:PC.x6 Xw=true/\PC.x9 0 Xw=true:=by decide +kernel
abbrev Q_339(n:Nat):Prop:=∀(b:Ah)(a:Fp)(l:Fp),Ct prog (B9 n b a l) 339 [.undef,lI a,lI l] (fun r=>.bo (Bf b) (Bf r) 0 [])
theorem sI(n:Nat)(_ih_339:Q_339 n)(b:Ah)(a:Fp)(l:Fp):Ct prog (B9 (n+1) b a l) 339 [.undef,lI a,lI l] (fun r=>.bo (Bf b) (Bf r) 0 []):=kR sT sz fun r h e d f=>by
  unfold Xw;unfold f339;unfold B9 at h;have:HW 0 fun(c:Ah×Int)=>[(0,.bx (Bf c.1)),(8,.tv (eI c.2))]:=⟨⟩;exact nz
theorem sH:∀n:Nat,Q_339 n:=by
  intro n
  induction n with
  |zero=>exact(fun a ej l=>⟨fun _ h=>by cases h⟩)
  |succ n b=>exact sI n b
instance AAj(b:Ah)(a:Fp)(l:Fp):Ct prog (Lu b a l) 339 [.undef,lI a,lI l] (fun r=>.bo (Bf b) (Bf r) 0 []):=⟨fun r h=>by
  obtain ⟨N,c⟩:=CZ h;exact((sH N) b a l).snd r (c N (az _))⟩
noncomputable def Xv:PC:=PC.of Vs f289.body (xq bT 0x5804ad605804ad6bad3c005201be3148314732ff6bad8ad0846c02cc846c04ccf15ab30a2031b39f01846c06cc58846c06cc00018c6c04cc5804ad81ff3f0132ec6c02cc5f0b01ff8a08200132580309cc0b030acc6902) [.Aaw 339 [.s 32,.s 33,.c (.list 1 [])] 0]
theorem sS:CK f289 Xv []:=by decide +kernel
theorem sw:PC.x6 Xv=true/\PC.x9 0 Xv=true:=by decide +kernel
abbrev Q_289(n:Nat):Prop:=∀(a:Ah)(l:Fp),Ct prog (CA n a l) 289 [.undef,lI l] (fun r=>.bo (Bf a) (Bf r) 0 [])
theorem sB(n:Nat)(_ih_289:Q_289 n)(a:Ah)(l:Fp):Ct prog (CA (n+1) a l) 289 [.undef,lI l] (fun r=>.bo (Bf a) (Bf r) 0 []):=kR sS sw fun r h d c e=>by
  unfold Xv;unfold f289;unfold CA at h;have:HW 0 fun(b:Ah×Int)=>[(0,.bx (Bf b.1)),(5,.tv (eI b.2))]:=⟨⟩;exact nz
theorem sA:∀n:Nat,Q_289 n:=by
  intro n
  induction n with
  |zero=>exact(fun a l=>⟨fun _ h=>by cases h⟩)
  |succ n b=>exact sB n b
instance zr(a:Ah)(l:Fp):Ct prog (ID a l) 289 [.undef,lI l] (fun r=>.bo (Bf a) (Bf r) 0 []):=⟨fun r h=>by
  obtain ⟨N,b⟩:=CZ h;exact((sA N) a l).snd r (b N (az _))⟩
instance ye(t:AC)(p:d6)(g:d6)(b:d7)(a:Bool)(d:Int):Ct prog (OM t p g b a d) 219 [AO t,Am p,Am g,As b,eB a,eI d] (fun r=>.sh ((eL 2 As) r)):=Fj f219 0x82030a965a3f5a00c2bf1946313838383802405e5e6b02 [.Abg [none,none,none,none,none,none,none,none,none,none,some ⟨true,.list 2 []⟩] (.s 20),.Aaw 289 [.s 22,.c (.list 1 [])] 0] [.tmp 12] (h:=fun r h e f=>by
  unfold OM at h;exact nz)
instance AA9(l:Fp)(a:Int)(n:Int):Ct prog (IQ l a n) 370 [lI l,eI a,eI n] (fun r=>.sh (eI r)):=Fj f370 0xa607020003ac8ada84915d8d8c3107020003b585010b3102c6 [] [.tmp 6] (h:=fun r h c d=>by
  unfold IQ at h;have:HA 0 7 0 0 fun(b:Int)(_:Unit)=>[(7,.tv (eI b))]:=⟨⟩;exact nz)
instance AAf(t:AC)(p:d6)(g:d6)(b:d7)(a:Bool):Ct prog (KD t p g b a) 335 [AO t,Am p,Am g,As b,eB a] (fun r=>.tp [(eL 2 As) r.1,eI r.2]):=Fj f335 0x8182015502c0ec0182a5383838a902c0d40b5c0b5c5c5502c0d4e5e5595502c0d35c0bf8e5e55502c0ef38b602405e5ee3 [] [.tmp 10,.tmp 11] (h:=fun r h c d=>by
  unfold KD at h;exact nz)
instance xH(a:j4)(b:Fp):Ct prog (D8 a b) 147 [Om a,lI b] (fun r=>.tp [eI r.1,eI r.2]):=Fj f147 0xa8a5a981d30159585931de [] [.tmp 4,.tmp 5] (h:=fun r h c d=>by
  unfold D8 at h;exact nz)
instance AAg(q:ec)(b:AG)(m:d7)(a:Fp):Ct prog (KG q b m a) 336 [BG q,CD b,As m,lI a] (fun r=>.tp [lI r.1,eB r.2]):=Fj f336 0x8182180a01120a0403ac01c08a9f0191929f0191595f7c20143803425f7c201438aadd05c99a0580d2420a018cd26a120a0403f504020d0b0a066b06ac01c0850131817c201438c40f0e0d0b0a066b080f0e0d0b0a066b083c014df9014df90577026a6cc4146cc4148a0817f96cc414586cc4fc5c5d5d5959a2f306c9f6e1a20a04028ce90d0b0a066b06810b0a066b050c0b0a066b0307c10c0b0a066b03070c0b0a066b03073c19014fb119ec01314df9780131140b0a066b0565a16a0c0b0a066b030781993fd799014f31563140935e30 [.mkx 1 [.bool false] (.s 28)] [.tmp 8,.tmp 9] (h:=fun r h i j=>by
  unfold KG at h;have:HA 0 12 4 3 fun(f:Int)(d:Fp×a5)=>[(10,.xo 1 (List.map eI d.1)),(11,.xo 1 (List.map eB d.2)),(12,.tv (eI f))]:=⟨⟩;have:HA 2 13 4 2 fun(e:Int)(c:Fp×a5)=>[(10,.xo 1 (List.map eI c.1)),(11,.xo 1 (List.map eB c.2)),(13,.tv (eI e))]:=⟨⟩;have:HA 4 18 4 4 fun(g:Int)(_:Unit)=>[(18,.tv (eI g))]:=⟨⟩;exact nz)
instance zm(t:AC)(c:ea)(b:AG)(m:AJ)(a:Bool):Ct prog (Gb t c b m a) 286 [AO t,AH c,CD b,Bg m,eB a] (fun r=>.tp [(eL 3 Bg) r.1,eI r.2]):=Fj f286 0x818202100111100e0c0876c111100e0c087611100e0c08763c02034803471146013802433102a882bca2380243316e9a10018c3111100e0c08768103c05503c089827ca538ebeb38a7df02460e773277c40b77320eea6cc40beadd0ac99a046a03405e5ee3 [] [.tmp 10,.tmp 11] (h:=fun r h f g=>by
  unfold Gb at h;have:HA 0 17 14 0 fun(d:Int)(e:List AJ)=>[(16,.ow ((eL 3 Bg) e)),(17,.tv (eI d))]:=⟨⟩;exact nz)
abbrev Q_213(n:Nat):Prop:=∀(t:AC)(c:ea)(b:AG)(m:AJ)(a:Bool),Ct prog (DU n t c b m a) 213 [AO t,AH c,CD b,Bg m,eB a] (fun r=>.tp [Du r.1,eI r.2])
theorem rr(n:Nat)(_ih_213:Q_213 n)(t:AC)(c:ea)(d:AG)(m:AJ)(a:Bool):Ct prog (DU (n+1) t c d m a) 213 [AO t,AH c,CD d,Bg m,eB a] (fun r=>.tp [Du r.1,eI r.2]):=Fj f213 0xb84b124674dd12460a0117150a766b07c1ff0a013bb84b01144605479ad843316ddd11c97ca5d843316eb209435c380a018c3117150a766b07b5dd0112f0827ca56e6eb238b8b84b12460a01120a08766b07acdd01134605479a89dd11c97ca56e6eb209dc380a018cb4120a08766b07a805b84b9a0e0a020f0e0a08766b08c1e60442054805479a04044255dd0112f0dd11c97ca56e6eb209dc380e0a028cb40f0e0a08766b08b85011c93fb8b84b01124655dd1246850155dd12f0dd11497ca56e6eb209435c38b883b311c95e5ee3 [.Aaj [.z ⟨false,.int .i64 0⟩,.z ⟨true,.list 1 []⟩,.z ⟨true,.list 1 []⟩,.z ⟨true,.list 1 []⟩,.z ⟨true,.list 5 []⟩]] [.cell 10 (some 5),.tmp 11] (h:=fun r h k l=>by
  unfold DU at h;have:HA 1 15 6 1 fun(i:Int)(b:A0×A0)=>[(10,.bx [⟨false,eI b.1.Aar⟩,⟨true,lI b.1.kp.d7.d4⟩,⟨true,lI b.1.kp.d7.d5⟩,⟨true,lI b.1.kp.gn⟩,⟨true,Gz b.1.gp⟩]),(14,.bx [⟨false,eI b.2.Aar⟩,⟨true,lI b.2.kp.d7.d4⟩,⟨true,lI b.2.kp.d7.d5⟩,⟨true,lI b.2.kp.gn⟩,⟨true,Gz b.2.gp⟩]),(15,.tv (eI i))]:=⟨⟩;have:HA 3 18 6 1 fun(j:Int)(f:A0)=>[(10,.bx [⟨false,eI f.Aar⟩,⟨true,lI f.kp.d7.d4⟩,⟨true,lI f.kp.d7.d5⟩,⟨true,lI f.kp.gn⟩,⟨true,Gz f.gp⟩]),(18,.tv (eI j))]:=⟨⟩;have:HA 5 23 21 0 fun(g:Int)(e:A0)=>[(10,.bx [⟨false,eI e.Aar⟩,⟨true,lI e.kp.d7.d4⟩,⟨true,lI e.kp.d7.d5⟩,⟨true,lI e.kp.gn⟩,⟨true,Gz e.gp⟩]),(23,.tv (eI g))]:=⟨⟩;exact nz)
theorem rq:∀n:Nat,Q_213 n:=by
  intro n
  induction n with
  |zero=>exact(fun t c a m gt=>⟨fun _ h=>by cases h⟩)
  |succ n b=>exact rr n b
instance yY(t:AC)(c:ea)(b:AG)(m:AJ)(a:Bool):Ct prog (Qb t c b m a) 213 [AO t,AH c,CD b,Bg m,eB a] (fun r=>.tp [Du r.1,eI r.2]):=⟨fun r h=>by
  obtain ⟨N,d⟩:=CZ h;exact((rq N) t c b m a).snd r (d N (az _))⟩
instance xC(t:AC)(c:ea)(b:AG)(m:AJ)(a:Bool):Ct prog (LD t c b m a) 142 [AO t,AH c,CD b,Bg m,eB a] (fun r=>.tp [eB r.1,eI r.2]):=Fj f142 0xa8580155816ddd11497ca56e6eb238315e5ee3 [] [.tmp 10,.tmp 11] (h:=fun r h d e=>by
  unfold LD at h;exact nz)
instance c73(t:AC)(b:em)(a:AG)(m:AJ):Ct prog (Kh t b a m) 73 [AO t,Bq b,CD a,Bg m] (fun r=>.tp [Da r.1,eI r.2]):=Fj f73 0x81a701380d0b08030d0b08033c018a08913181bc030f426e6eb21042a9a70106468531a7df7c6f32380b42eba9a70106468531a708c97c6f32ebf1aaa9a70646cfe955a70106f0827c6f326e9aaaa9a70646850e030f42ebebf1aab6df5e90 [] [.cell 8 (some 2),.tmp 9] (h:=fun r h d e=>by
  unfold Kh at h;have:HJ 95 fun(c:Int)=>[(11,.tv (eI c))]:=⟨⟩;exact nz)
instance xD(t:AC)(a:AG)(p:Ak):Ct prog (JM t a p) 143 [AO t,CD a,Da p] (fun r=>.tp [CD r.1,eI r.2]):=Fj f143 0x81b96e0d06020e0d0b060405c1e6026abe01485de4e94704c40d06028c920e0d0b06040581035013c93fa9b9011af0a7a7df08c9117c6feb55b9011af001bc6eb613c9f2 [.Aaj [.v (.s 37) 0 2,.v (.s 37) 1 2,.z ⟨true,.list 1 []⟩]] [.cell 6 (some 3),.tmp 7] (h:=fun r h c d=>by
  unfold JM at h;have:HW 0 fun(b:AG×Int)=>[(13,.bx [⟨false,lI b.1.d6.d4⟩,⟨false,lE b.1.d6.d5⟩,⟨true,(eL 1 lI) b.1.hT⟩]),(14,.tv (eI b.2))]:=⟨⟩;exact nz)
instance xF(l:Fp)(n:Int):Ct prog (Kb l n) 145 [lI l,eI n] (fun r=>.own (lI r)):=Fj f145 0x8218dafec1feed6905c1ed6905ed69053c014df931148501e8fe8c31ed69058119014fb119da6531fed9ce01406902 [] [.tmp 4] (h:=fun r h e f=>by
  unfold Kb at h;have:HA 0 6 1 0 fun(b:Int)(d:Fp)=>[(5,.xo 1 (List.map eI d)),(6,.tv (eI b))]:=⟨⟩;have:HA 2 7 0 0 fun(a:Int)(c:Fp)=>[(5,.xo 1 (List.map eI c)),(7,.tv (eI a))]:=⟨⟩;exact nz)
instance xE(n:Int)(a:Fp):Ct prog (KI n a) 144 [eI n,lI a] (fun r=>.own (lI r)):=Fj f144 0x82a531406902 [] [.tmp 4] (h:=fun r h b c=>by
  unfold KI at h;exact nz)
instance c74(t:AC)(a:AG)(d:Ak):Ct prog (Lb t a d) 74 [AO t,CD a,Da d] (fun r=>.tp [CD r.1,As r.2]):=Fj f74 0x76023ba7b902460e5c0b77320e590bea6e01b913c97c6f6e38df13c9f2 [] [.cell 6 (some 3),.cell 7 (some 2)] (h:=fun r h b c=>by
  unfold Lb at h;exact nz)
instance c75(a:Fp)(b:Fp):Ct prog (GT a b) 75 [lI a,lI b] (fun r=>.own (lI r)):=Fj f75 0x8202dafec1bdbe5d843102da8c31fed9c001406902 [] [.tmp 4] (h:=fun r h e f=>by
  unfold GT at h;have:HA 0 6 0 0 fun(c:Int)(d:Fp)=>[(5,.ow (lI d)),(6,.tv (eI c))]:=⟨⟩;exact nz)
instance c76(d:Fp)(c:Fp)(b:Int)(f:Fp)(a:Int):Ct prog (Ey d c b f a) 76 [lI d,lI c,eI b,lI f,eI a] (fun r=>.own (lI r)):=Fj f76 0x82020c01ba0b045b0007c1ba0b045b000775bdbe0102ba0b045b00073cbdbe5d5de8310285e80c016531ba0b045b0007d9c082a53140045b6905 [] [.tmp 10] (h:=fun r h i j=>by
  unfold Ey at h;have:HA 0 13 2 0 fun(g:Int)(e:Int×Fp)=>[(4,.tv (eI e.1)),(12,.ow (lI e.2)),(13,.tv (eI g))]:=⟨⟩;exact nz)
instance xG(a:Fp)(b:Int):Ct prog (G4 a b) 146 [lI a,eI b] (fun r=>.sh (eB r)):=Fj f146 0xa605c6ac85015d8d8c91c681bb [] [.tmp 4] (h:=fun r h d e=>by
  unfold G4 at h;have:HA 0 5 0 0 fun(c:Int)(_:Unit)=>[(5,.tv (eI c))]:=⟨⟩;exact nz)
noncomputable def iv:PC:=PC.of Vs f77.body (xq bT 0x35003530806020f9bed06c10f9bed060f9bed063ce60141320348034707465da2595d5c5959e34132b9fbdc8e0177f70806028cb40f9bed06819bed05db766b0775db766b07db766b073c1fc421221923c40ddb766bd00d0bdb766b0ac119014fb177f431190ddb766b088c310e0d0bdb766b0ad9ce0182bce4b64a5ab3bee4045a32ffdb766b0788a56cf79bed058c92db766b0781a708c9f1cd17c993ab90) []
theorem vX:CK f77 iv [.cell 8 (some 3)]:=by decide +kernel
theorem ve:PC.x6 iv=true:=by decide +kernel
instance c77(t:AC)(b:em)(a:AG)(c:d7):Ct prog (Kg t b a c) 77 [AO t,Bq b,.agg [.undef,.undef,.undef],As c] (fun r=>.ag [⟨true,lI a.d6.d4⟩,⟨true,lE a.d6.d5⟩,⟨true,.xn (List.map lI a.hT)⟩] 2 (.oag [⟨true,lI r.d6.d4⟩,⟨true,lE r.d6.d5⟩,⟨true,.xn (List.map lI r.hT)⟩])):=um vX ve fun r h j i k=>by
  unfold iv;unfold f77;unfold Kg at h;have:HW 0 fun(d:AG×Int)=>[(6,.bx [⟨true,lI d.1.d6.d4⟩,⟨true,lE d.1.d6.d5⟩,⟨true,.xn (List.map lI d.1.hT)⟩]),(10,.tv (eI d.2))]:=⟨⟩;have:HA 2 14 11 0 fun(f:Int)(g:Fp)=>[(13,.xo 1 (List.map eI g)),(14,.tv (eI f))]:=⟨⟩;have:HW 4 fun(e:AG×Int)=>[(6,.bx [⟨true,lI e.1.d6.d4⟩,⟨true,lE e.1.d6.d5⟩,⟨true,.xn (List.map lI e.1.hT)⟩]),(15,.tv (eI e.2))]:=⟨⟩;exact nz
instance c78(a:AG):Ct prog (KC a) 78 [CD a] (fun r=>.oag [⟨true,lI r.d6.d4⟩,⟨true,lE r.d6.d5⟩,⟨true,.xn (List.map lI r.hT)⟩]):=Fj f78 0x35003535b02045b0104c11fc42122014f84e95623c45b028ce9045b010481035017c93f1beb17c9c8 [.Aaj [.g 7 0 2,.g 7 1 2,.z ⟨true,.xn []⟩]] [.cell 2 (some 3)] (h:=fun r h d e=>by
  unfold KC at h;have:HA 0 4 1 2 fun(c:Int)(b:AG)=>[(3,.bx [⟨true,lI b.d6.d4⟩,⟨true,lE b.d6.d5⟩,⟨true,.xn (List.map lI b.hT)⟩]),(4,.tv (eI c))]:=⟨⟩;exact nz)
noncomputable def iw:PC:=PC.of Vs f79.body (xq bT 0x81b96e073e0a0702130c0ad16b07c126240177f43125240123c455b91a468a055b41f477e1319177f477e1313182bc84ea38fc6cf431595f7ca5380241f4310a07028c31130c0ad16b07810c0ad16b06ba0ad16b07c1ba0ad16b07100eba0ad16b09acb91a468ada319f77f43177e1915d6cf431595d6cf431595f7ca5380241f431ba0ad16b076531100eba0ad16b09815f7ca5380241f4310c0ad16b068c31ba0ad16b0781825b41066a13c993ab5ee3) []
theorem vY:CK f79 iw [.cell 10 (some 3),.tmp 11]:=by decide +kernel
theorem vf:PC.x6 iw=true:=by decide +kernel
instance c79(t:AC)(e:em)(a:AG)(c:d7)(b:Fp):Ct prog (MA t e a c b) 79 [AO t,Bq e,.agg [.undef,.undef,.undef],As c,lI b] (fun r=>.ag [⟨true,lI a.d6.d4⟩,⟨true,lE a.d6.d5⟩,⟨true,.xn (List.map lI a.hT)⟩] 2 (.tp [CD r.1,eI r.2])):=um vY vf fun r h m l n=>by
  unfold iw;unfold f79;unfold MA at h;have:HA 0 13 12 0 fun(j:Int)(g:AG)=>[(10,.bx [⟨true,lI g.d6.d4⟩,⟨true,lE g.d6.d5⟩,⟨true,(eL 1 lI) g.hT⟩]),(13,.tv (eI j))]:=⟨⟩;have:HA 2 16 13 0 fun(i:Int)(f:AG)=>[(10,.bx [⟨true,lI f.d6.d4⟩,⟨true,lE f.d6.d5⟩,⟨true,(eL 1 lI) f.hT⟩]),(16,.tv (eI i))]:=⟨⟩;have:HA 4 19 12 0 fun(k:Int)(d:AG×AG)=>[(7,.bx [⟨true,lI d.1.d6.d4⟩,⟨true,lE d.1.d6.d5⟩,⟨true,.xn (List.map lI d.1.hT)⟩]),(10,.bx [⟨true,lI d.2.d6.d4⟩,⟨true,lE d.2.d6.d5⟩,⟨true,(eL 1 lI) d.2.hT⟩]),(19,.tv (eI k))]:=⟨⟩;exact nz
instance c38(t:AC)(b:em)(a:AG)(m:AJ):Ct prog (H2 t b a m) 38 [AO t,Bq b,CD a,Bg m] (fun r=>.tp [C1 r.1,eI r.2]):=Fj f38 0x81ca1b4638386e6e6ecb55ca1646d37732580bea55ca0116468531b97c0257a2380353cb380d013b03500257381b6ecb38a7df02460e0b5c5c0b775acd77f7770b420ee5590bfdcd6cf76c0b42a7df02460e5c77320e59eaa7b9df17c97c6f6ea9ca0116f0a7dfbc6e6ecba9ca0116f00e6ecbb614c95e90 [] [.cell 8 (some 38),.tmp 9] (h:=fun r h c d=>by
  unfold H2 at h;exact nz)
instance c18(t:AC)(a:Ai):Ct prog (LJ t a) 18 [AO t,C1 a] (fun r=>.sh (eB r)):=Fj f18 0x81b726442644585fca14c9bc6e19426e1c42cb32b690 [] [.tmp 4] (h:=fun r h b c=>by
  unfold LJ at h;exact nz)
instance ww(n:Int):Ct prog (Ki n) 130 [eI n] (fun r=>.sh (eB r)):=Fj f130 0x819f918d01 [] [.tmp 2] (h:=fun r h a b=>by
  unfold Ki at h;exact nz)
instance c67(t:AC)(a:Ao):Ct prog (LK t a) 67 [AO t,C2 a] (fun r=>.sh (eI r)):=Fj f67 0xa609e7ac8a9f9184b40a9f845c9184f8845c5ffc5b4107dc595d7707dc5955cf845c008cb409e7815b0207e7ac8a05e4e4585f77e15955cfe45b028c9207e7b5d35c0bf8e5e55589017c6f0190 [] [.tmp 4] (h:=fun r h d e=>by
  unfold LK at h;have:HA 0 7 2 0 fun(c:Int)(_:Unit)=>[(7,.tv (eI c))]:=⟨⟩;have:HA 2 9 2 1 fun(b:Int)(_:Unit)=>[(9,.tv (eI b))]:=⟨⟩;exact nz)
instance c69(a:em):Ct prog (IS a) 69 [Bq a] (fun r=>.sh (eB r)):=Fj f69 0xf57877320b770b6a0a78ea0b6c0b6a9f6c106a0a030f6a9fd75878d242785b41cd0ba2dd0ac99a016ac8 [] [.tmp 2] (h:=fun r h b c=>by
  unfold IS at h;exact nz)
instance c70(t:AC)(g:d6):Ct prog (IT t g) 70 [AO t,Am g] (fun r=>.sh (eB r)):=Fj f70 0xa605e7c105e7c35b04ac85e477e15905e78c92c35b04a68c5958e7d990 [] [.tmp 4] (h:=fun r h c d=>by
  unfold IT at h;have:HA 0 5 3 0 fun(b:Int)(_:Unit)=>[(5,.tv (eI b))]:=⟨⟩;have:HA 2 6 2 0 fun(a:Int)(_:Unit)=>[(6,.tv (eI a))]:=⟨⟩;exact nz)
instance c71(t:AC)(g:d6):Ct prog (Mp t g) 71 [AO t,Am g] (fun r=>.sh (eB r)):=Fj f71 0xa605e7accf5da2595d5c595938b9fbdc008cf8e7d990 [] [.tmp 4] (h:=fun r h b c=>by
  unfold Mp at h;have:HA 0 5 3 1 fun(a:Int)(_:Unit)=>[(5,.tv (eI a))]:=⟨⟩;exact nz)
instance c35(t:AC)(a:Ao)(b:em):Ct prog (LM t a b) 35 [AO t,C2 a,Bq b] (fun r=>.sh (eI r)):=Fj f35 0xb58a086f5aaab60a086f5acdb6086f5aaaa9cfcb55d4cba9efb6f2 [] [.tmp 6] (h:=fun r h c d=>by
  unfold LM at h;exact nz)
instance c36(b:Ao)(g:d6)(a:Int):Ct prog (Hi b g a) 36 [C2 b,Am g,eI a] (fun r=>.sh (Da r)):=Fj f36 0xa73876020976045b06c10976045b060976045b063ce6016abe0104aa85015d6c03dc5c76028cb40976045b068176045b050876045b06c10876045b060876045b063ce6b3be01043285015de45976045b058c920876045b0681dfdf5ebd [] [.cell 6 (some 2)] (h:=fun r h i j=>by
  unfold Hi at h;have:HA 0 8 4 0 fun(f:Int)(d:Ak)=>[(7,.bx [⟨true,lI d.d4⟩,⟨true,lI d.d5⟩]),(8,.tv (eI f))]:=⟨⟩;have:HA 2 9 4 1 fun(e:Int)(c:Ak)=>[(7,.bx [⟨true,lI c.d4⟩,⟨true,lI c.d5⟩]),(9,.tv (eI e))]:=⟨⟩;exact nz)
instance c37(l:Fp)(a:Fp):Ct prog (Eu l a) 37 [lI l,lI a] (fun r=>.own (lI r)):=Fj f37 0x8202dafec1bdbe5d843102da8c31fed9c001406902 [] [.tmp 4] (h:=fun r h d e=>by
  unfold Eu at h;have:HA 0 6 0 0 fun(b:Int)(c:Fp)=>[(5,.ow (lI c)),(6,.tv (eI b))]:=⟨⟩;exact nz)
instance c41(l:Fp)(n:Int):Ct prog (Cl l n) 41 [lI l,eI n] (fun r=>.sh (eI r)):=Fj f41 0xa605c6ac0185015d8d8c91c681bb [] [.tmp 4] (h:=fun r h b c=>by
  unfold Cl at h;have:HA 0 5 0 0 fun(a:Int)(_:Unit)=>[(5,.tv (eI a))]:=⟨⟩;exact nz)
instance xI(b:Int)(a:Int):Ct prog (G2 b a) 148 [eI b,eI a] (fun r=>.own (lI r)):=Fj f148 0x8202dafec1bdbe053102da6531fed9c001406902 [] [.tmp 4] (h:=fun r h e f=>by
  unfold G2 at h;have:HA 0 6 1 0 fun(c:Int)(d:Fp)=>[(5,.ow (lI d)),(6,.tv (eI c))]:=⟨⟩;exact nz)
instance c89(g:d6):Ct prog (LN g) 89 [Am g] (fun r=>.oag [⟨true,lI r.d4⟩,⟨true,lI r.d5⟩]):=Fj f89 0xbd3b02503f0e0b5c0ee5dfc8 [.Aaj [.w 6,.w 10]] [.cell 2 (some 2)] (h:=fun r h a b=>by
  unfold LN at h;exact nz)
instance c48(d:em)(c:d6)(a:d6)(b:d7):Ct prog (Kk d c a b) 48 [Bq d,Am c,Am a,As b] (fun r=>.sh (Bq r)):=Fj f48 0x8013b194b0a460946386f084638084638590ec95e90 [] [.cell 8 (some 25)] (h:=fun r h e f=>by
  unfold Kk at h;exact nz)
instance c80(g:d6)(p:Ak):Ct prog (Kj g p) 80 [Am g,Da p] (fun r=>.sh (Am r)):=Fj f80 0xa7386b0207e205c1e6aa0348034707460ea2590e5c595904aab9fb43845c5c6b028cb407e20581e20406e205c1e6b3be5de4590432e2048c9206e2058108c908c990 [] [.cell 4 (some 2)] (h:=fun r h e f=>by
  unfold Kj at h;have:HA 0 6 3 0 fun(d:Int)(b:d6)=>[(5,.bx [⟨true,lI b.d4⟩,⟨true,lE b.d5⟩]),(6,.tv (eI d))]:=⟨⟩;have:HA 2 7 3 1 fun(c:Int)(a:d6)=>[(5,.bx [⟨true,lI a.d4⟩,⟨true,lE a.d5⟩]),(7,.tv (eI c))]:=⟨⟩;exact nz)
instance c39(c:Ao)(b:em)(a:Int):Ct prog (Mq c b a) 39 [C2 c,Bq b,eI a] (fun r=>.sh (Bq r)):=Fj f39 0x6013b194b6f6ff1cd6ff1aacb9b7604789b760406c1e6016abe0e5d845c77f75c04aa9b7604058cb40b9b760406819b760405db760406c1e6b3be0e5de46cf75904329b7604058c92db76040681dfa7a7dfdfa5f1cd38a5f1aa380ec95ebd [] [.cell 6 (some 25)] (h:=fun r h f g=>by
  unfold Mq at h;have:HW 0 fun(e:d7×Int)=>[(9,.bx [⟨true,lI e.1.d4⟩,⟨true,lI e.1.d5⟩]),(10,.tv (eI e.2))]:=⟨⟩;have:HW 2 fun(d:d7×Int)=>[(9,.bx [⟨true,lI d.1.d4⟩,⟨true,lI d.1.d5⟩]),(11,.tv (eI d.2))]:=⟨⟩;exact nz)
instance c40(f:Ao)(e:em)(a:Bool)(b:Bool):Ct prog (F4 f e a b) 40 [C2 f,Bq e,eB a,eB b] (fun r=>.tp [Bq r.1,Da r.2]):=Fj f40 0x9b023ba7194b386f6f38cbba0bdb050710ba0bdbe20bc110ba0bdbe20b10ba0bdbe20b3ce6016abe01e36a4aaa0348034707460ea2590e5c5959e36a4a016abe0b5c04aa8a0a0a91310a9191a577f7fc595cb9fbdcba0bdb05078cb410ba0bdbe20b81ba0bdbe2b7ba0bdbe20bc10eba0bdbe20b0eba0bdbe20b3ce6b3be0104b34ab3bee404b34ab3bee504328a0a0a91310a9191a56cf7fce459ba0bdbe20a8c920eba0bdbe20b81df0250df3f0148770d6a4701486c0d6a47a7025008c908c9f1cd1bf1aadf0ec95e5b02 [.Aaj [.w 30,.w 35]] [.cell 8 (some 25),.cell 9 (some 2)] (h:=fun r h g i=>by
  unfold F4 at h;have:HW 0 fun(d:d6×d7×Ak×Int)=>[(10,.bx [⟨true,lI d.1.d4⟩,⟨true,lE d.1.d5⟩]),(12,.bx [⟨true,lI d.2.1.d4⟩,⟨true,lI d.2.1.d5⟩]),(13,.bx [⟨true,lI d.2.2.1.d4⟩,⟨true,lI d.2.2.1.d5⟩]),(14,.tv (eI d.2.2.2))]:=⟨⟩;have:HW 2 fun(c:d6×d7×Ak×Int)=>[(10,.bx [⟨true,lI c.1.d4⟩,⟨true,lE c.1.d5⟩]),(12,.bx [⟨true,lI c.2.1.d4⟩,⟨true,lI c.2.1.d5⟩]),(13,.bx [⟨true,lI c.2.2.1.d4⟩,⟨true,lI c.2.2.1.d5⟩]),(16,.tv (eI c.2.2.2))]:=⟨⟩;exact nz)
instance c9(t:AC)(a:Ao)(d:Ai):Ct prog (LL t a d) 9 [AO t,C2 a,C1 d] (fun r=>.tp [C1 r.1,C1 r.2.1,eI r.2.2]):=Fj f9 0x76023b81caca2644264455caca01164616f0ca14c9bc6e6e1f42cb3812100d7603061412100f0d760308c1e60141b3be5d0e8477f75c772442e3413212100d7603068c775a016a1412100f0d760308810b775aaa12100f0d097603081312100f0d09760309c1e65ab3be5d0e846cf7596c2442045a3212100f0d097603088cfd016a1312100f0d09760309810bfdaa035012c93f3f0e772242775a19420e6c2242fd1942a7194b02490ec9bccb38a7df6f5acda9caca01164616f0ca14c9bc6e6e1c420ecb3838b912c9184602460e775a19425c0efd194259a7df6f5aaaa9caca16461646cf2644a9caca01164616f00ecb3838194b0ec9cbb314c914c9f2 [.Aaj [.w 94,.w 102],.Aaj [.g 103 0 2,.g 103 1 2,.z ⟨true,.list 1 []⟩]] [.cell 6 (some 38),.cell 7 (some 38),.tmp 8] (h:=fun r h e f=>by
  unfold LL at h;have:HW 0 fun(c:AJ×Int)=>[(18,.bx [⟨true,lI c.1.d7.d4⟩,⟨true,lI c.1.d7.d5⟩,⟨true,lI c.1.gn⟩]),(19,.tv (eI c.2))]:=⟨⟩;have:HW 2 fun(b:AJ×Int)=>[(18,.bx [⟨true,lI b.1.d7.d4⟩,⟨true,lI b.1.d7.d5⟩,⟨true,lI b.1.gn⟩]),(20,.tv (eI b.2))]:=⟨⟩;exact nz)
end Go.Sf.Sc
