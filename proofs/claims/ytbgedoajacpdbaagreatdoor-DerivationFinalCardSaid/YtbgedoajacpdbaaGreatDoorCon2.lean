/- Contracts of the functions. -/
import Derived.Test.YtbgedoajacpdbaaGreatDoorCon0
import Derived.Test.YtbgedoajacpdbaaGreatDoorTryzShelf
import Derived.Test.YtbgedoajacpdbaaGreatDoorFo
set_option linter.all false
set_option maxRecDepth 100000
set_option maxHeartbeats 4000000
namespace Go.Sf.Sc
open Go Go.Sf Go.Proofs.Tryz
instance c36:Ct prog (Nu ) 36 [] (fun r=>.oag [⟨true,lN r.d3⟩,⟨true,lX r.d4⟩]):=Fj f36 0x2503f07473f3f04473f3f04473f3f3f3f04473f15c900 [.bld [.str ⟨#[]⟩,.int .i64 0,.int .i64 0,.list 1 []] [(0,1,.c (.str ⟨#[98,97,108,97,110,99,101]⟩)),(1,1,.c (.int .i64 (-1000))),(2,1,.c (.int .i64 1000))],.bld [.str ⟨#[]⟩,.int .i64 0,.bool false,.list 4 []] [(0,1,.c (.str ⟨#[65,99,99,111,117,110,116]⟩)),(1,1,.c (.int .i64 (-1))),(2,1,.c (.bool true)),(3,1,.s 2)],.bld [.str ⟨#[]⟩,.int .i64 0,.bool false,.list 4 []] [(0,1,.c (.str ⟨#[67,97,115,104]⟩)),(1,1,.c (.int .i64 0))],.lst 1 [.c (.str ⟨#[111,112,101,110]⟩),.c (.str ⟨#[99,108,111,115,101,100]⟩)],.bld [.str ⟨#[]⟩,.int .i64 0,.int .i64 0,.list 1 []] [(0,1,.c (.str ⟨#[115,116,97,116,101]⟩)),(2,1,.c (.int .i64 1)),(3,1,.s 5)],.bld [.str ⟨#[]⟩,.int .i64 0,.bool false,.list 4 []] [(0,1,.c (.str ⟨#[76,111,97,110]⟩)),(1,1,.c (.int .i64 0)),(3,1,.s 7)],.bld [.str ⟨#[]⟩,.int .i64 0,.bool false,.list 4 []] [(0,1,.c (.str ⟨#[80,101,114,115,111,110]⟩)),(1,1,.c (.int .i64 (-1)))],.bld [.str ⟨#[]⟩,.int .i64 0,.int .i64 0,.int .i64 0,.int .i64 0,.int .i64 0,.int .i64 0] [(0,1,.c (.str ⟨#[111,119,110,115]⟩)),(1,1,.c (.int .i64 3)),(2,1,.c (.int .i64 0)),(4,1,.c (.int .i64 (-1))),(5,1,.c (.int .i64 1)),(6,1,.c (.int .i64 1))],.bld [.str ⟨#[]⟩,.int .i64 0,.int .i64 0,.int .i64 0,.int .i64 0,.int .i64 0,.int .i64 0] [(0,1,.c (.str ⟨#[112,97,121,115]⟩)),(1,1,.c (.int .i64 1)),(2,1,.c (.int .i64 1)),(4,1,.c (.int .i64 (-1))),(6,1,.c (.int .i64 (-1)))],.Aaz [.w 10,.w 13]] [.cell 0 (some 2)] (h:=fun r h a b=>by
  unfold Nu at h;exact nz)
instance c67(g:d5):Ct prog (HZ g) 67 [Am g] (fun r=>.sh (eB r)):=Fj f67 0xa2d938bbef [] [.tmp 2] (h:=fun r h a b=>by
  unfold HZ at h;exact nz)
instance c30(a:AG):Ct prog (GU a) 30 [Bc a] (fun r=>.sh (eB r)):=Fj f30 0x9b3102add5a17600757601310281966c760197b1ef [] [.tmp 2] (h:=fun r h c d=>by
  unfold GU at h;have:HA 0 3 1 2 fun(b:Int)(_:Unit)=>[(3,.tv (eI b))]:=⟨⟩;exact nz)
abbrev Q_155(n:Nat):Prop:=∀(t:AC)(a:Int),Ct prog (Fa n t a) 155 [AQ t,eI a] (fun r=>.own (lA r))
theorem p5(n:Nat)(_ih_155:Q_155 n)(t:AC)(a:Int):Ct prog (Fa (n+1) t a) 155 [AQ t,eI a] (fun r=>.own (lA r)):=Fj f155 0x8204487c41d75504480e7dd755360447ff04c085e4409330 [] [.tmp 4] (h:=fun r h b c=>by
  unfold Fa at h;exact nz)
theorem p0:∀n:Nat,Q_155 n:=by
  intro n
  induction n with
  |zero=>exact(fun t a=>⟨fun _ h=>by cases h⟩)
  |succ n b=>exact p5 n b
instance vQ(t:AC)(a:Int):Ct prog (M7 t a) 155 [AQ t,eI a] (fun r=>.own (lA r)):=⟨fun r h=>by
  obtain ⟨N,b⟩:=Cl h;exact((p0 N) t a).snd r (b N (bk _))⟩
instance vR(n:Int)(b:Int)(a:Int):Ct prog (DM n b a) 156 [eI n,eI b,eI a] (fun r=>.sh (eB r)):=Fj f156 0xa205fb72026303 [] [.tmp 6] (h:=fun r h c d=>by
  unfold DM at h;exact nz)
instance yw(t:EG):Ct prog (OB t) 363 [T1 t] (fun r=>.sh (eS r)):=Fj f363 0x815c373f3f5c85553ff5 [.mv (.c (.str ⟨#[]⟩)),.bin (.s) .add (.c (.str ⟨#[34]⟩)) (.s 7),.bin (.s) .add (.s 8) (.c (.str ⟨#[34]⟩))] [.tmp 2] (h:=fun r h a b=>by
  unfold OB at h;exact nz)
instance zQ(c:Int):Ct prog (Jq c) 403 [T3 c] (fun r=>.sh (eB r)):=Fj f403 0xa20aa9a90aa9a9bd [] [.tmp 2] (h:=fun r h a b=>by
  unfold Jq at h;exact nz)
instance zR(c:Int):Ct prog (Hu c) 404 [T3 c] (fun r=>.sh (eB r)):=Fj f404 0xa2a9a9bd [] [.tmp 2] (h:=fun r h a b=>by
  unfold Hu at h;exact nz)
instance zS(b:ByteArray)(c:Int)(a:Bool):Ct prog (Nc b c a) 405 [eS b,eI c,eB a] (fun r=>.sh (eI r)):=Fj f405 0x8101076d0702d66001076d8a0a0a0a0512a9300e12a93008300e12a930050c38300702d681b36303 [] [.tmp 6] (h:=fun r h e f=>by
  unfold Nc at h;have:HW 0 fun(d:Int)=>[(7,.tv (eI d))]:=⟨⟩;exact nz)
instance zT(a:ByteArray)(b:Int):Ct prog (Jr a b) 406 [eS a,eI b] (fun r=>.sh (eI r)):=Fj f406 0x9b8c036f96a9b737057012057200620c38308ccde7 [] [.tmp 4] (h:=fun r h d e=>by
  unfold Jr at h;have:HW 0 fun(c:Int)=>[(5,.tv (eI c))]:=⟨⟩;exact nz)
instance zU:Ct prog (M6 ) 407 [] (fun r=>.own (lB r)):=Fj f407 0x823ff800 [.lst 1 [.c (.str ⟨#[45,62]⟩),.c (.str ⟨#[60,61]⟩),.c (.str ⟨#[62,61]⟩),.c (.str ⟨#[61,61]⟩),.c (.str ⟨#[33,61]⟩),.c (.str ⟨#[123]⟩),.c (.str ⟨#[125]⟩),.c (.str ⟨#[40]⟩),.c (.str ⟨#[41]⟩),.c (.str ⟨#[91]⟩),.c (.str ⟨#[93]⟩),.c (.str ⟨#[44]⟩),.c (.str ⟨#[59]⟩),.c (.str ⟨#[58]⟩),.c (.str ⟨#[61]⟩),.c (.str ⟨#[43]⟩),.c (.str ⟨#[45]⟩),.c (.str ⟨#[42]⟩),.c (.str ⟨#[60]⟩),.c (.str ⟨#[62]⟩),.c (.str ⟨#[33]⟩),.c (.str ⟨#[38]⟩),.c (.str ⟨#[124]⟩),.c (.str ⟨#[46]⟩),.c (.str ⟨#[63]⟩)]] [.tmp 0] (h:=fun r h a b=>by
  unfold M6 at h;exact nz)
instance yx(a:ByteArray)(c:Int):Ct prog (Nb a c) 364 [eS a,eI c] (fun r=>.tp [T1 r.1,eI r.2.1,eI r.2.2]):=Fj f364 0x899117460401c30463056fff04013b89910cb50046b58a06b50d050cb53030050c380c5f720401cbc304630581820ec59163460d05a9a9c591174685b7c59117dc0e308501c59163460d057230c59117468530c408046306c4080463063c308e5d890e0e728a0e300e5d12303016c96302 [] [.cell 4 (some 3),.tmp 5,.tmp 6] (h:=fun r h f g=>by
  unfold Nb at h;have:HJ 29 fun(d:Int×Int)=>[(9,.tv (eI d.1)),(10,.tv (eI d.2))]:=⟨⟩;have:HA 0 13 12 0 fun(e:Int)(b:EG)=>[(4,.bx [⟨false,eI b.ns⟩,⟨false,eS b.AbV⟩,⟨false,eI b.Line⟩]),(13,.tv (eI e))]:=⟨⟩;exact nz)
instance yA(t:EG):Ct prog (M5 t) 302 [T1 t] (fun r=>.sh (eB r)):=Fj f302 0xa205d3fa0cfb5d819116c91171eebf5d0e65ef [.bin (.s) .eql (.s 9) (.c (.str ⟨#[]⟩))] [.tmp 2] (h:=fun r h a b=>by
  unfold M5 at h;exact nz)
instance wv(a:ByteArray):Ct prog (Eu a) 232 [eS a] (fun r=>.sh (eB r)):=Fj f232 0x810e004630bd [] [.tmp 2] (h:=fun r h b c=>by
  unfold Eu at h;exact nz)
instance yP(l:List ByteArray):Ct prog (Kg l) 321 [lB l] (fun r=>.sh (eI r)):=Fj f321 0x9b039a6f039a040300f086b5b5039a6230040300cd37b2b500cb039af2d530bd [] [.tmp 2] (h:=fun r h c d=>by
  unfold Kg at h;have:HA 0 3 0 0 fun(a:Int)(_:Unit)=>[(3,.tv (eI a))]:=⟨⟩;have:HA 2 4 3 0 fun(b:Int)(_:Unit)=>[(4,.tv (eI b))]:=⟨⟩;exact nz)
instance xF(a:kq):Ct prog (HV a) 255 [GI a] (fun r=>.sh (eI r)):=Fj f255 0x8196056ca776385cd1a73796975c7601975cd5a7ef [] [.tmp 2] (h:=fun r h b c=>by
  unfold HV at h;exact nz)
instance vn(t:AC)(a:Int):Ct prog (MA t a) 175 [AQ t,eI a] (fun r=>.sh (eI r)):=Fj f175 0x9b7302ad78c1c63073020973f0866ec6306ec630730262300973cd37b26ec63000cb7302816ca70b01966c306ca7820e0180b2b75c05a6030605a604ad86556ed75505a60362300605a604f2b255d200c9c1d755e1 [] [.tmp 4] (h:=fun r h e f=>by
  unfold MA at h;have:HA 0 6 1 0 fun(b:Int)(_:Unit)=>[(6,.tv (eI b))]:=⟨⟩;have:HA 2 8 7 0 fun(c:Int)(_:Unit)=>[(8,.tv (eI c))]:=⟨⟩;have:HA 4 9 8 0 fun(d:Int)(_:Unit)=>[(9,.tv (eI d))]:=⟨⟩;exact nz)
instance xG(b:Int)(a:Int):Ct prog (JF b a) 256 [eI b,eI a] (fun r=>.sh (eB r)):=Fj f256 0xa20a0e72a90edf [] [.tmp 4] (h:=fun r h c d=>by
  unfold JF at h;exact nz)
instance vo(t:AC)(a:Int):Ct prog (L9 t a) 176 [AQ t,eI a] (fun r=>.sh (eI r)):=Fj f176 0x81969703b9030542779703baa7779701760197015c816c550502020605a604ad86556e07ca05020262300605a604f2b255074b01c9074407cae1 [] [.tmp 4] (h:=fun r h c d=>by
  unfold L9 at h;have:HA 0 6 1 0 fun(b:Int)(_:Unit)=>[(6,.tv (eI b))]:=⟨⟩;exact nz)
instance ul(t:AC):Ct prog (Eh t) 112 [AQ t] (fun r=>.tp [eS r.1,eI r.2]):=Fj f112 0x81bf0006b3ad81016e07ca640ebc0075fe06b3813004b3ad81016ed755640ebc307555e4b3f2bf8ad938bb37bf85bb013ff5 [.mv (.c (.str ⟨#[]⟩)),.mv (.c (.str ⟨#[]⟩)),.mv (.c (.str ⟨#[]⟩)),.mv (.c (.str ⟨#[]⟩))] [.tmp 2,.tmp 3] (h:=fun r h d e=>by
  unfold Eh at h;have:HA 0 4 1 0 fun(a:Int)(_:Unit)=>[(4,.tv (eI a))]:=⟨⟩;have:HA 2 6 1 1 fun(b:Int)(_:Unit)=>[(6,.tv (eI b))]:=⟨⟩;exact nz)
instance vP(t:AC)(a:Int)(b:Int):Ct prog (JG t a b) 154 [AQ t,eI a,eI b] (fun r=>.sh (eI r)):=Fj f154 0x8196976c5530976c55ee70f1367fa602 [] [.tmp 6] (h:=fun r h c d=>by
  unfold JG at h;exact nz)
abbrev Q_157(n:Nat):Prop:=∀(t:AC)(a:Int)(b:Int),Ct prog (E6 n t a b) 157 [AQ t,eI a,eI b] (fun r=>.sh (eB r))
theorem p7(n:Nat)(_ih_157:Q_157 n)(t:AC)(a:Int)(b:Int):Ct prog (E6 (n+1) t a b) 157 [AQ t,eI a,eI b] (fun r=>.sh (eB r)):=Fj f157 0xa20a0e017dd755363830057293a602 [] [.tmp 6] (h:=fun r h c d=>by
  unfold E6 at h;exact nz)
theorem p6:∀n:Nat,Q_157 n:=by
  intro n
  induction n with
  |zero=>exact(fun t a b=>⟨fun _ h=>by cases h⟩)
  |succ n c=>exact p7 n c
instance vS(t:AC)(a:Int)(b:Int):Ct prog (Gl t a b) 157 [AQ t,eI a,eI b] (fun r=>.sh (eB r)):=⟨fun r h=>by
  obtain ⟨N,c⟩:=Cl h;exact((p6 N) t a b).snd r (c N (bk _))⟩
instance ue(t:AC)(b:Int)(a:Int)(c:Int):Ct prog (KD t b a c) 104 [AQ t,eI b,eI a,eI c] (fun r=>.sh (eB r)):=Fj f104 0xa20e5e4107cabc6a7d07ca01808a97d930050e30367f5ee5 [] [.tmp 8] (h:=fun r h d e=>by
  unfold KD at h;exact nz)
instance vp(n:Int):Ct prog (KF n) 177 [eI n] (fun r=>.sh (eB r)):=Fj f177 0xa2a9a9bd [] [.tmp 2] (h:=fun r h a b=>by
  unfold KF at h;exact nz)
instance vq(e:Bf)(a:Int):Ct prog (M8 e a) 178 [Br e,eI a] (fun r=>.sh (eB r)):=Fj f178 0xa2b776fa7677b75cfa5c6a55e1 [] [.tmp 4] (h:=fun r h b c=>by
  unfold M8 at h;exact nz)
instance um(g:d5):Ct prog (Dk g) 113 [Am g] (fun r=>.sh (eI r)):=Fj f113 0x9b04b3adb2bbcfca00755ce4b381303102adb2a1553075550131028196d938bbef [] [.tmp 2] (h:=fun r h c d=>by
  unfold Dk at h;have:HA 0 3 1 0 fun(a:Int)(_:Unit)=>[(3,.tv (eI a))]:=⟨⟩;have:HA 2 4 1 1 fun(b:Int)(_:Unit)=>[(4,.tv (eI b))]:=⟨⟩;exact nz)
instance ud(t:AC)(a:Int):Ct prog (FR t a) 103 [AQ t,eI a] (fun r=>.tp [lA r.1,eI r.2]):=Fj f103 0x81f407010973036f0204480447c1a64a03420148a7acd202c9c1c6300701cb0973cd820ebc04c03704c0783036e4409330 [] [.tmp 4,.tmp 5] (h:=fun r h d e=>by
  unfold FR at h;have:HA 0 9 8 0 fun(b:Int)(c:List kq)=>[(7,.ow (lA c)),(9,.tv (eI b))]:=⟨⟩;exact nz)
instance uo(t:AC)(a:Int)(b:Fp):Ct prog (ME t a b) 114 [AQ t,eI a,lI b] (fun r=>.sh (eI r)):=Fj f114 0x9b090702036f96055e41c6305ffb7dc630b500cb090702cd37d5010b30e00180830241d7553785bb3093a602 [] [.tmp 6] (h:=fun r h d e=>by
  unfold ME at h;have:HA 0 9 7 0 fun(c:Int)(_:Unit)=>[(9,.tv (eI c))]:=⟨⟩;exact nz)
instance c71(t:AC)(a:AG):Ct prog (GV t a) 71 [AQ t,Bc a] (fun r=>.tp [eI r.1,eI r.2]):=Fj f71 0x89000b5ef08101b25f76c85f5cc855808101d55c5591fd7ef30075f3010b5ecd5e02095ef08130640ea176a1c8365e0275c801095ecdc5d5c80b76c578b1c570f136309f [] [.tmp 4,.tmp 5] (h:=fun r h d e=>by
  unfold GV at h;have:HA 0 9 3 0 fun(b:Int)(_:Unit)=>[(9,.tv (eI b))]:=⟨⟩;have:HA 2 11 3 1 fun(c:Int)(_:Unit)=>[(11,.tv (eI c))]:=⟨⟩;exact nz)
instance yB(t:AC)(g:d5):Ct prog (GW t g) 303 [AQ t,Am g] (fun r=>.sh (eB r)):=Fj f303 0x9b065e036f96d96e03ca386e03ca0075fe065ecd5e02055e036f966c55a1eda1555e0275ed5ecd019f [] [.tmp 4] (h:=fun r h c d=>by
  unfold GW at h;have:HA 0 5 3 0 fun(a:Int)(_:Unit)=>[(5,.tv (eI a))]:=⟨⟩;have:HA 2 6 3 1 fun(b:Int)(_:Unit)=>[(6,.tv (eI b))]:=⟨⟩;exact nz)
instance yC(t:AC)(p:ec)(b:Int)(a:Int):Ct prog (MF t p b a) 304 [AQ t,A9 p,eI b,eI a] (fun r=>.tp [GI r.1,eB r.2]):=Fj f304 0x81d2c1c63037d201468a6c720aa9055de0a1c880d201468a6cc830a902c9615e02 [] [.cell 8 (some 4),.tmp 9] (h:=fun r h c d=>by
  unfold MF at h;exact nz)
instance yD(n:Int):Ct prog (K3 n) 305 [eI n] (fun r=>.sh (eB r)):=Fj f305 0xa2a9a9bd [] [.tmp 2] (h:=fun r h a b=>by
  unfold K3 at h;exact nz)
instance zV(n:Int)(t:j4):Ct prog (IM n t) 408 [eI n,N6 t] (fun r=>.sh (eI r)):=Fj f408 0x8196055cfa5c77b7ed557fbd [] [.tmp 4] (h:=fun r h a b=>by
  unfold IM at h;exact nz)
instance yy(n:Int)(a:Test):Ct prog (Nd n a) 365 [eI n,GK a] (fun r=>.sh (eI r)):=Fj f365 0x810e36034201d136b8019605ed557fbd [] [.tmp 4] (h:=fun r h b c=>by
  unfold Nd at h;exact nz)
instance yE(n:Int)(l:List Test):Ct prog (Kf n l) 306 [eI n,lT l] (fun r=>.sh (eI r)):=Fj f306 0x9b8cf0788d05437200cb8ccd37d50196a905df [] [.tmp 4] (h:=fun r h b c=>by
  unfold Kf at h;have:HA 0 5 1 0 fun(a:Int)(_:Unit)=>[(5,.tv (eI a))]:=⟨⟩;exact nz)
instance yF(p:ec)(a:Int):Ct prog (Jw p a) 307 [A9 p,eI a] (fun r=>.sh (eB r)):=Fj f307 0x9b05a6f085016e0241d77600757638a6cde1 [] [.tmp 4] (h:=fun r h c d=>by
  unfold Jw at h;have:HA 0 5 2 2 fun(b:Int)(_:Unit)=>[(5,.tv (eI b))]:=⟨⟩;exact nz)
instance ww(t:AC)(p:ec):Ct prog (GX t p) 233 [AQ t,A9 p] (fun r=>.sh (eI r)):=Fj f233 0x9b0d5eadb238440062a7010d5e81d103baa731085e036f96977d9dfaa76e9dfa6e9d01085dd20249715c558d36d205c9c1d77631757601085ecd966c03ba380b769605a738a737b2b1eab13770f136019f [] [.tmp 4] (h:=fun r h c d=>by
  unfold GX at h;have:HA 0 8 3 2 fun(a:Int)(_:Unit)=>[(8,.tv (eI a))]:=⟨⟩;have:HA 2 13 3 3 fun(b:Int)(_:Unit)=>[(13,.tv (eI b))]:=⟨⟩;exact nz)
instance zZ(c:d7):Ct prog (Gp c) 412 [AJ c] (fun r=>.sh (eB r)):=Fj f412 0xa2057c41bafa6c030441ba0b5e41ba30aa6c3174ba6c6e5bba6c7d9d0b6e9def [] [.tmp 2] (h:=fun r h a b=>by
  unfold Gp at h;exact nz)
instance y6(c:d7):Ct prog (Kq c) 369 [AJ c] (fun r=>.sh (eB r)):=Fj f369 0x81ff37d9aaa20ea538e91904e5601904e5aaa20ea538e9aaa20ea538e9aa8332ef [] [.tmp 2] (h:=fun r h b d=>by
  unfold Kq at h;have:HJ 25 fun(a:Bool)=>[(25,.tv (eB a))]:=⟨⟩;exact nz)
abbrev Q_315(n:Nat):Prop:=∀(c:d7),Ct prog (D2 n c) 315 [AJ c] (fun r=>.sh (eB r))
theorem qR(n:Nat)(_ih_315:Q_315 n)(c:d7):Ct prog (D2 (n+1) c) 315 [AJ c] (fun r=>.sh (eB r)):=Fj f315 0x9b3102adb2a509ca0075fe3102f2b2a5ef [] [.tmp 2] (h:=fun r h b d=>by
  unfold D2 at h;have:HA 0 3 1 1 fun(a:Int)(_:Unit)=>[(3,.tv (eI a))]:=⟨⟩;exact nz)
theorem qQ:∀n:Nat,Q_315 n:=by
  intro n
  induction n with
  |zero=>exact(fun c=>⟨fun _ h=>by cases h⟩)
  |succ n a=>exact qR n a
instance yM(c:d7):Ct prog (Mr c) 315 [AJ c] (fun r=>.sh (eB r)):=⟨fun r h=>by
  obtain ⟨N,a⟩:=Cl h;exact((qQ N) c).snd r (a N (bk _))⟩
abbrev Q_316(n:Nat):Prop:=∀(c:d7),Ct prog (Eb n c) 316 [AJ c] (fun r=>.tp [eI r.1,eI r.2])
theorem qT(n:Nat)(_ih_316:Q_316 n)(c:d7):Ct prog (Eb (n+1) c) 316 [AJ c] (fun r=>.tp [eI r.1,eI r.2]):=Fj f316 0x8930690269026001855569e50669e46f302c30a98971a509ca69e575fe0669e4818930f5 [] [.tmp 2,.tmp 3] (h:=fun r h e f=>by
  unfold Eb at h;have:HA 0 6 1 1 fun(b:Int)(a:Int×Int)=>[(4,.tv (eI a.1)),(5,.tv (eI a.2)),(6,.tv (eI b))]:=⟨⟩;have:HJ 33 fun(d:Int)=>[(5,.tv (eI d))]:=⟨⟩;exact nz)
theorem qS:∀n:Nat,Q_316 n:=by
  intro n
  induction n with
  |zero=>exact(fun c=>⟨fun _ h=>by cases h⟩)
  |succ n a=>exact qT n a
instance yN(c:d7):Ct prog (Nw c) 316 [AJ c] (fun r=>.tp [eI r.1,eI r.2]):=⟨fun r h=>by
  obtain ⟨N,a⟩:=Cl h;exact((qS N) c).snd r (a N (bk _))⟩
instance w8(c:d7):Ct prog (Kn c) 246 [AJ c] (fun r=>.sh (eI r)):=Fj f246 0x8196a9055d8171a537b2a5ef [] [.tmp 2] (h:=fun r h a b=>by
  unfold Kn at h;exact nz)
instance vr(a:d5)(b:d5)(m:d6):Ct prog (GT a b m) 179 [Am a,Am b,Ap m] (fun r=>.sh (eI r)):=Fj f179 0x9b0acc046f9605765f76ed5c5f5c553785d39191e6fd43a15c5ccfca96d9a15c38a15c00755c77cc0481697c09cc04ad85a1555fa1d3966c55a1eda155697c75550109cc048196d9e938bbbbd1ea367f9f [] [.tmp 6] (h:=fun r h e f=>by
  unfold GT at h;have:HA 0 9 3 0 fun(c:Int)(_:Unit)=>[(9,.tv (eI c))]:=⟨⟩;have:HA 2 10 3 1 fun(d:Int)(_:Unit)=>[(10,.tv (eI d))]:=⟨⟩;exact nz)
instance vt(l:Fp):Ct prog (Ea l) 180 [lI l] (fun r=>.sh (eB r)):=Fj f180 0x9b039a6f039a040300f085b5b5039a6230040300039bcb039a816301 [] [.tmp 2] (h:=fun r h c d=>by
  unfold Ea at h;have:HA 0 3 0 0 fun(a:Int)(_:Unit)=>[(3,.tv (eI a))]:=⟨⟩;have:HA 2 4 3 0 fun(b:Int)(_:Unit)=>[(4,.tv (eI b))]:=⟨⟩;exact nz)
instance uq(a:d5)(b:d5)(m:d6):Ct prog (Ha a b m) 115 [Am a,Am b,Ap m] (fun r=>.sh (eB r)):=Fj f115 0xa20e5c770eed0e369e7f9f [] [.tmp 6] (h:=fun r h c d=>by
  unfold Ha at h;exact nz)
instance y7(p:ec)(a:Int):Ct prog (MG p a) 370 [A9 p,eI a] (fun r=>.sh (eB r)):=Fj f370 0x9b05a6f085016e0241d77600757638a6cde1 [] [.tmp 4] (h:=fun r h c d=>by
  unfold MG at h;have:HA 0 5 2 2 fun(b:Int)(_:Unit)=>[(5,.tv (eI b))]:=⟨⟩;exact nz)
instance yO(t:AC)(a:Int)(q:ec):Ct prog (Ko t a q) 317 [AQ t,eI a,A9 q] (fun r=>.sh (eI r)):=Fj f317 0x9b7305f001b238440062a7017305cd01d18d808501a7016130 [] [.tmp 6] (h:=fun r h c d=>by
  unfold Ko at h;have:HA 0 8 5 3 fun(b:Int)(_:Unit)=>[(8,.tv (eI b))]:=⟨⟩;exact nz)
abbrev Q_247(n:Nat):Prop:=∀(t:AC)(p:ec)(c:d7),Ct prog (Ei n t p c) 247 [AQ t,A9 p,AJ c] (fun r=>.sh (eI r))
theorem qK(n:Nat)(_ih_247:Q_247 n)(t:AC)(p:ec)(c:d7):Ct prog (Ei (n+1) t p c) 247 [AQ t,A9 p,AJ c] (fun r=>.sh (eI r)):=Fj f247 0x9b0a07050304ad78a509ca8d3600755c77070503048107057c07057c3cbe8dba37b2369debbab1d1369debbab1d18dbaa7368555be09c98d7f9f [] [.tmp 6] (h:=fun r h b d=>by
  unfold Ei at h;have:HA 0 10 5 1 fun(a:Int)(_:Unit)=>[(10,.tv (eI a))]:=⟨⟩;exact nz)
theorem qJ:∀n:Nat,Q_247 n:=by
  intro n
  induction n with
  |zero=>exact(fun t p c=>⟨fun _ h=>by cases h⟩)
  |succ n a=>exact qK n a
instance w9(t:AC)(p:ec)(c:d7):Ct prog (Ug t p c) 247 [AQ t,A9 p,AJ c] (fun r=>.sh (eI r)):=⟨fun r h=>by
  obtain ⟨N,a⟩:=Cl h;exact((qJ N) t p c).snd r (a N (bk _))⟩
instance vW(t:AC)(p:ec)(c:d7):Ct prog (JH t p c) 161 [AQ t,A9 p,AJ c] (fun r=>.sh (eI r)):=Fj f161 0x810ea58deaa5d18d367f9f [] [.tmp 6] (h:=fun r h a b=>by
  unfold JH at h;exact nz)
instance yG(t:AC)(p:ec)(a:Int):Ct prog (MH t p a) 308 [AQ t,A9 p,eI a] (fun r=>.sh (eI r)):=Fj f308 0x9b0a070402046f96055c7dd77638556ed7760062300a070402048196057d9dfa7d9dfaa76e9dfa6e9d776c015c38fee05f55c8808a6cc8ed55d205c9c1d7760161a6 [] [.tmp 6] (h:=fun r h c d=>by
  unfold MH at h;have:HA 0 10 2 0 fun(b:Int)(_:Unit)=>[(10,.tv (eI b))]:=⟨⟩;exact nz)
instance wx(t:AC)(a:hT):Ct prog (Kr t a) 234 [AQ t,B3 a] (fun r=>.sh (eI r)):=Fj f234 0x9b065ef0783844b93600755e41b901065ecd37d55e41b9966c030441b9387c41b87c41b937b2ebb9eaebb9019f [] [.tmp 4] (h:=fun r h c d=>by
  unfold Kr at h;have:HA 0 6 3 8 fun(b:Int)(_:Unit)=>[(6,.tv (eI b))]:=⟨⟩;exact nz)
instance yK(l:Fp)(n:Int):Ct prog (Fx l n) 313 [lI l,eI n] (fun r=>.sh (eI r)):=Fj f313 0x9b8c036f96055fa95f72b796b75ffbb500cb8ccde7 [] [.tmp 4] (h:=fun r h b c=>by
  unfold Fx at h;have:HA 0 5 0 0 fun(a:Int)(_:Unit)=>[(5,.tv (eI a))]:=⟨⟩;exact nz)
instance yL(l:Fp)(n:Int):Ct prog (Nf l n) 314 [lI l,eI n] (fun r=>.sh (eB r)):=Fj f314 0x9b8cf08501b500cb8ccde7 [] [.tmp 4] (h:=fun r h b c=>by
  unfold Nf at h;have:HA 0 5 0 0 fun(a:Int)(_:Unit)=>[(5,.tv (eI a))]:=⟨⟩;exact nz)
instance w6(g:d5)(p:BB):Ct prog (M9 g p) 244 [Am g,GJ p] (fun r=>.sh (eI r)):=Fj f244 0x9b075e036f9697765501975c5591fd43a15c5c0075fe075ecdd1e95cd1bb55019f [] [.tmp 4] (h:=fun r h b c=>by
  unfold M9 at h;have:HA 0 7 3 1 fun(a:Int)(_:Unit)=>[(7,.tv (eI a))]:=⟨⟩;exact nz)
instance vN(g:d5)(p:BB):Ct prog (Hv g p) 151 [Am g,GJ p] (fun r=>.sh (eI r)):=Fj f151 0x810e36ea36019f [] [.tmp 4] (h:=fun r h a b=>by
  unfold Hv at h;exact nz)
instance vO(l:Fp)(n:Int):Ct prog (Hw l n) 152 [lI l,eI n] (fun r=>.sh (eI r)):=Fj f152 0x9b8cf0018501b500cb8ccde7 [] [.tmp 4] (h:=fun r h b c=>by
  unfold Hw at h;have:HA 0 5 0 0 fun(a:Int)(_:Unit)=>[(5,.tv (eI a))]:=⟨⟩;exact nz)
instance c97(g:d5)(p:BB):Ct prog (G6 g p) 97 [Am g,GJ p] (fun r=>.tp [Am r.1,Ap r.2.1,eI r.2.2]):=Fj f97 0x69023b819292044601485cac014855ac3608cc040a08695e066ff7b80348034707460e76550e5cd304b891fd43a15c5c08cc04755c7708695e06810869fc0908695e066ff73201db5fa1d304320869fc7555010908695e068107c9379292e54602dc0e9e01de07c99f [] [.cell 4 (some 2),.cell 5 (some 2),.tmp 6] (h:=fun r h e f=>by
  unfold G6 at h;have:HA 0 9 3 0 fun(c:Int)(b:d5)=>[(8,.bx [⟨true,lI b.d3⟩,⟨true,lE b.d4⟩]),(9,.tv (eI c))]:=⟨⟩;have:HA 2 10 3 1 fun(d:Int)(a:d5)=>[(8,.bx [⟨true,lI a.d3⟩,⟨true,lE a.d4⟩]),(10,.tv (eI d))]:=⟨⟩;exact nz)
instance wy(a:hT):Ct prog (MI a) 235 [B3 a] (fun r=>.sh (eI r)):=Fj f235 0x810e360d42ebb936019292084907c91171360b42ebb8d1360b42ebb8ef [] [.tmp 2] (h:=fun r h b c=>by
  unfold MI at h;exact nz)
instance yz(l:Fp)(n:Int):Ct prog (PG l n) 366 [lI l,eI n] (fun r=>.sh (eB r)):=Fj f366 0x9b8cf08501b500cb8ccde7 [] [.tmp 4] (h:=fun r h b c=>by
  unfold PG at h;have:HA 0 5 0 0 fun(a:Int)(_:Unit)=>[(5,.tv (eI a))]:=⟨⟩;exact nz)
instance yH(n:Int)(l:Fp):Ct prog (KI n l) 309 [eI n,lI l] (fun r=>.own (lI r)):=Fj f309 0xf4b7e26fe2e23ca6dbb3b230b76230e281d8f86302 [] [.tmp 4] (h:=fun r h c d=>by
  unfold KI at h;have:HA 0 6 0 0 fun(a:Int)(b:Fp)=>[(5,.ow (lI b)),(6,.tv (eI a))]:=⟨⟩;exact nz)
instance wz(a:hT):Ct prog (I4 a) 236 [B3 a] (fun r=>.tp [lI r.1,lI r.2]):=Fj f236 0x82820e7d0d420b3174b90e6e0d420b6e5bb9f8f8f5 [] [.tmp 2,.tmp 3] (h:=fun r h b c=>by
  unfold I4 at h;exact nz)
instance w3(t:AC)(g:d5)(a:Fp)(b:Fp):Ct prog (Jy t g a b) 237 [AQ t,Am g,lI a,lI b] (fun r=>.sh (eB r)):=Fj f237 0x9b0acc04adb25f76555f5cd33691fd43b55c00cb0acc0481697c0969fcad830241c65fb5d3697ccb0969fc8101615e02 [] [.tmp 8] (h:=fun r h e f=>by
  unfold Jy at h;have:HA 0 9 2 0 fun(c:Int)(_:Unit)=>[(9,.tv (eI c))]:=⟨⟩;have:HA 2 10 3 0 fun(d:Int)(_:Unit)=>[(10,.tv (eI d))]:=⟨⟩;exact nz)
instance vM(t:AC)(a:hT):Ct prog (JI t a) 146 [AQ t,B3 a] (fun r=>.sh (eI r)):=Fj f146 0x810ea510428db880b230ebb93682e0d496977d0d4201976e0d42d1d4d1d4ea8db880b2553770f136019f [] [.tmp 4] (h:=fun r h b c=>by
  unfold JI at h;exact nz)
instance c93(t:AC)(a:List hT):Ct prog (Kv t a) 93 [AQ t,(eL 25 B3) a] (fun r=>.sh (eI r)):=Fj f93 0x9b07a6f078d41943303600cb07a6cd37d5ee70f136e1 [] [.tmp 4] (h:=fun r h c d=>by
  unfold Kv at h;have:HA 0 7 1 0 fun(b:Int)(_:Unit)=>[(7,.tv (eI b))]:=⟨⟩;exact nz)
instance c53(t:AC)(a:List hT)(b:AG):Ct prog (JL t a b) 53 [AQ t,(eL 25 B3) a,Bc b] (fun r=>.sh (eI r)):=Fj f53 0x815df165eabc016130 [] [.tmp 6] (h:=fun r h c d=>by
  unfold JL at h;exact nz)
instance c63(t:AC):Ct prog (Js t) 63 [AQ t] (fun r=>.sh (eB r)):=Fj f63 0x9b08b3ad850c6e07ca0075fe08b381300431036f0431036931046f693104b6693106ad850ca1a769310475a701b669310681966ca7380c55d202c9c1d77c41d755043103757c41d7ed0431048196050c6ed7ed306c7c41d755727555e431038996d938bbef [] [.tmp 2] (h:=fun r h f g=>by
  unfold Js at h;have:HA 0 4 1 0 fun(c:Int)(e:Int)=>[(3,.tv (eI e)),(4,.tv (eI c))]:=⟨⟩;have:HW 2 fun(a:Int)=>[(5,.tv (eI a))]:=⟨⟩;have:HW 4 fun(d:Int)=>[(7,.tv (eI d))]:=⟨⟩;have:HA 6 8 1 1 fun(b:Int)(_:Unit)=>[(8,.tv (eI b))]:=⟨⟩;exact nz)
instance c31(m:d6)(n:Int):Ct prog (Jt m n) 31 [Ap m,eI n] (fun r=>.sh (eB r)):=Fj f31 0xaa38e9bbe1 [] [.tmp 4] (h:=fun r h a b=>by
  unfold Jt at h;exact nz)
instance vT(p:ec):Ct prog (Ia p) 158 [A9 p] (fun r=>.sh (eB r)):=Fj f158 0xa26c03ba776c766ab1ef [] [.tmp 2] (h:=fun r h a b=>by
  unfold Ia at h;exact nz)
instance vU(p:BB)(n:Int):Ct prog (PF p n) 159 [GJ p,eI n] (fun r=>.sh (eB r)):=Fj f159 0xaa38e9bbe1 [] [.tmp 4] (h:=fun r h a b=>by
  unfold PF at h;exact nz)
abbrev Q_245(n:Nat):Prop:=∀(c:d7)(a:Int),Ct prog (CX n c a) 245 [AJ c,eI a] (fun r=>.sh (eI r))
theorem qI(n:Nat)(_ih_245:Q_245 n)(c:d7)(a:Int):Ct prog (CX (n+1) c a) 245 [AJ c,eI a] (fun r=>.sh (eI r)):=Fj f245 0x81fba6036f6a01a509ca30ff8aa9d938a6cd9697369d01978dba38309330 [] [.tmp 4] (h:=fun r h d e=>by
  unfold CX at h;have:HW 0 fun(b:Int×Int)=>[(1,.tv (eI b.1)),(5,.tv (eI b.2))]:=⟨⟩;exact nz)
theorem qH:∀n:Nat,Q_245 n:=by
  intro n
  induction n with
  |zero=>exact(fun c up=>⟨fun _ h=>by cases h⟩)
  |succ n a=>exact qI n a
instance w7(c:d7)(a:Int):Ct prog (OC c a) 245 [AJ c,eI a] (fun r=>.sh (eI r)):=⟨fun r h=>by
  obtain ⟨N,b⟩:=Cl h;exact((qH N) c a).snd r (b N (bk _))⟩
instance vV(c:d7):Ct prog (Ib c) 160 [AJ c] (fun r=>.sh (eB r)):=Fj f160 0xaa0ea5ef [] [.tmp 2] (h:=fun r h a b=>by
  unfold Ib at h;exact nz)
instance uf(a:hT):Ct prog (Nh a) 105 [B3 a] (fun r=>.sh (eB r)):=Fj f105 0xa20ea51042770e360d42770e360b42770e8db9770e8db8380c55ef [] [.tmp 2] (h:=fun r h b c=>by
  unfold Nh at h;exact nz)
instance xH(t:AC)(p:d5)(g:d5):Ct prog (Hy t p g) 257 [AQ t,Am p,Am g] (fun r=>.sh (eI r)):=Fj f257 0x8196979e019736eaea8070f1367f9f [] [.tmp 6] (h:=fun r h a b=>by
  unfold Hy at h;exact nz)
instance xA(t:AC)(p:d5)(g:d5):Ct prog (Kh t p g) 248 [AQ t,Am p,Am g] (fun r=>.sh (eB r)):=Fj f248 0xa20a0ad9776cedd9bb380e369e770e36770e366a367f9f [] [.tmp 6] (h:=fun r h a b=>by
  unfold Kh at h;exact nz)
instance vX(t:AC)(p:ec)(a:AG):Ct prog (NB t p a) 162 [AQ t,A9 p,Bc a] (fun r=>.sh (eB r)):=Fj f162 0xa20eb1b136770e656a8d7f9f [] [.tmp 6] (h:=fun r h b c=>by
  unfold NB at h;exact nz)
abbrev Q_163(n:Nat):Prop:=∀(c:d7),Ct prog (E7 n c) 163 [AJ c] (fun r=>.sh (eB r))
theorem p9(n:Nat)(_ih_163:Q_163 n)(c:d7):Ct prog (E7 (n+1) c) 163 [AJ c] (fun r=>.sh (eB r)):=Fj f163 0xaa6c3174ba0b6e5bba303102adb2a509ca3075fe310281ef [] [.tmp 2] (h:=fun r h b d=>by
  unfold E7 at h;have:HA 0 3 1 1 fun(a:Int)(_:Unit)=>[(3,.tv (eI a))]:=⟨⟩;exact nz)
theorem p8:∀n:Nat,Q_163 n:=by
  intro n
  induction n with
  |zero=>exact(fun c=>⟨fun _ h=>by cases h⟩)
  |succ n a=>exact p9 n a
instance vY(c:d7):Ct prog (Ok c) 163 [AJ c] (fun r=>.sh (eB r)):=⟨fun r h=>by
  obtain ⟨N,a⟩:=Cl h;exact((p8 N) c).snd r (a N (bk _))⟩
abbrev Q_164(n:Nat):Prop:=∀(p:ec)(c:d7)(a:Int)(b:Int),Ct prog (Dp n p c a b) 164 [A9 p,AJ c,eI a,eI b] (fun r=>.sh (eB r))
theorem qB(n:Nat)(_ih_164:Q_164 n)(p:ec)(c:d7)(a:Int)(b:Int):Ct prog (Dp (n+1) p c a b) 164 [A9 p,AJ c,eI a,eI b] (fun r=>.sh (eB r)):=Fj f164 0xaa77010dc4055e06adb230a509ca8d0a0175fe0dc4055e06a20905fc0cc4055e066f3830c405fc75f3010cc4055e06810bf3c4695e060bc4695e076f3830c4695e0675c8010bc4695e07810bc8810969fc0969fc3cbe8dba8555be09c98d01615e02 [] [.tmp 8] (h:=fun r h i j=>by
  unfold Dp at h;have:HJ 17 fun(d:ec)=>[(9,.bx [⟨false,lI d.d5.d3⟩,⟨false,lE d.d5.d4⟩,⟨false,lS d.ff⟩,⟨false,eI d.hV⟩,⟨false,lT d.sc⟩])]:=⟨⟩;have:HW 0 fun(f:Int×Int)=>[(10,.tv (eI f.1)),(11,.tv (eI f.2))]:=⟨⟩;have:HW 2 fun(e:Int×Int)=>[(10,.tv (eI e.1)),(12,.tv (eI e.2))]:=⟨⟩;have:HA 4 13 5 1 fun(g:Int)(_:Unit)=>[(13,.tv (eI g))]:=⟨⟩;exact nz)
theorem qA:∀n:Nat,Q_164 n:=by
  intro n
  induction n with
  |zero=>exact(fun p c ei em=>⟨fun _ h=>by cases h⟩)
  |succ n a=>exact qB n a
instance vZ(p:ec)(c:d7)(a:Int)(b:Int):Ct prog (Nv p c a b) 164 [A9 p,AJ c,eI a,eI b] (fun r=>.sh (eB r)):=⟨fun r h=>by
  obtain ⟨N,d⟩:=Cl h;exact((qA N) p c a b).snd r (d N (bk _))⟩
instance ug(t:AC)(p:ec)(c:d7)(a:AG):Ct prog (Km t p c a) 106 [AQ t,A9 p,AJ c,Bc a] (fun r=>.sh (eB r)):=Fj f106 0xa20a0ea58d776cf3776cc8770ea56a658d36380ea58d808a976577978d0197a501619f [] [.tmp 8] (h:=fun r h b d=>by
  unfold Km at h;exact nz)
instance c64(t:AC)(a:hT)(b:AG):Ct prog (JJ t a b) 64 [AQ t,B3 a,Bc b] (fun r=>.sh (eB r)):=Fj f64 0xa20e65a510428db836770ed46a367f9f [] [.tmp 6] (h:=fun r h c d=>by
  unfold JJ at h;exact nz)
abbrev Q_65(n:Nat):Prop:=∀(p:ec)(c:d7)(a:Int),Ct prog (Cz n p c a) 65 [A9 p,AJ c,eI a] (fun r=>.sh (eB r))
theorem tz(n:Nat)(_ih_65:Q_65 n)(p:ec)(c:d7)(a:Int):Ct prog (Cz (n+1) p c a) 65 [A9 p,AJ c,eI a] (fun r=>.sh (eB r)):=Fj f65 0xaab37707040204adb201a509ca8d026d8aa9d97707040204810704020309070402046f380107040203ff8aa96cf3010907040204810bf307045e047304fc6f380107045e04ff8aa96cc8017304fc810bc807045e0407045e043cbe8dba8555be09c98d0161a6 [] [.tmp 6] (h:=fun r h g i=>by
  unfold Cz at h;have:HJ 14 fun(b:ec)=>[(7,.bx [⟨false,lI b.d5.d3⟩,⟨false,lE b.d5.d4⟩,⟨false,lS b.ff⟩,⟨false,eI b.hV⟩,⟨false,lT b.sc⟩])]:=⟨⟩;have:HW 0 fun(e:Int×Int)=>[(2,.tv (eI e.1)),(8,.tv (eI e.2))]:=⟨⟩;have:HW 2 fun(d:Int×Int)=>[(2,.tv (eI d.1)),(9,.tv (eI d.2))]:=⟨⟩;have:HW 4 fun(f:Int)=>[(10,.tv (eI f))]:=⟨⟩;exact nz)
theorem tw:∀n:Nat,Q_65 n:=by
  intro n
  induction n with
  |zero=>exact(fun p c a=>⟨fun _ h=>by cases h⟩)
  |succ n b=>exact tz n b
instance c65(p:ec)(c:d7)(a:Int):Ct prog (K5 p c a) 65 [A9 p,AJ c,eI a] (fun r=>.sh (eB r)):=⟨fun r h=>by
  obtain ⟨N,b⟩:=Cl h;exact((tw N) p c a).snd r (b N (bk _))⟩
instance c26(t:AC)(a:List hT)(b:AG):Ct prog (Ku t a b) 26 [AQ t,(eL 25 B3) a,Bc b] (fun r=>.sh (eB r)):=Fj f26 0xa20a6cf3776cc8fb0e65bc07053104730531056f770ea510411943308d01411943720a6c6e5b06411943720a6c317401411943720a6c6e5b01411943303037b265d41943303607053104cb7305310589969765779736776c300a6c306c306130 [] [.tmp 6] (h:=fun r h e f=>by
  unfold Ku at h;have:HA 0 8 1 0 fun(c:Int)(d:Bool)=>[(7,.tv (eB d)),(8,.tv (eI c))]:=⟨⟩;exact nz)
instance c22(m:AM)(n:Int):Ct prog (Ge m n) 22 [BW m,eI n] (fun r=>.sh (eB r)):=Fj f22 0xa2b70b766a01b1e1 [] [.tmp 4] (h:=fun r h a b=>by
  unfold Ge at h;exact nz)
instance c39(d:AY)(a:Int):Ct prog (Ni d a) 39 [C2 d,eI a] (fun r=>.sh (eB r)):=Fj f39 0x9b050202adb2650141d7a70075a73802028196b70ba701976532e1 [] [.tmp 4] (h:=fun r h c e=>by
  unfold Ni at h;have:HA 0 5 2 3 fun(b:Int)(_:Unit)=>[(5,.tv (eI b))]:=⟨⟩;exact nz)
instance c52(g:d5):Ct prog (IN g) 52 [Am g] (fun r=>.oag [⟨true,lI r.d3⟩,⟨true,lE r.d4⟩]):=Fj f52 0xa63b02503f03485c0347014855ac07c9f5 [.Aaz [.w 6,.w 10]] [.cell 2 (some 2)] (h:=fun r h a b=>by
  unfold IN at h;exact nz)
instance c18(a:AG):Ct prog (Gm a) 18 [Bc a] (fun r=>.oag [⟨true,lI r.d5.d3⟩,⟨true,lE r.d5.d4⟩,⟨true,.xn (List.map lI r.gn)⟩]):=Fj f18 0x35003535e02045ee46f1f9d2122014fa1760156239d5e027576e45ee481035017c93f1bb117c9f5 [.Aaz [.g 7 0 2,.g 7 1 2,.z ⟨true,.xn []⟩]] [.cell 2 (some 3)] (h:=fun r h d e=>by
  unfold Gm at h;have:HA 0 4 1 2 fun(c:Int)(b:AG)=>[(3,.bx [⟨true,lI b.d5.d3⟩,⟨true,lE b.d5.d4⟩,⟨true,.xn (List.map lI b.gn)⟩]),(4,.tv (eI c))]:=⟨⟩;exact nz)
instance c43(m:AM):Ct prog (JM m) 43 [BW m] (fun r=>.sh (BW r)):=Fj f43 0xa63b910946014876ac04460148f3ac0148c8ac0fc9f5 [] [.cell 2 (some 3)] (h:=fun r h a b=>by
  unfold JM at h;exact nz)
instance c13(d:AY):Ct prog (J0 d) 13 [C2 d] (fun r=>.sh (C2 r)):=Fj f13 0xd2c1033e5e02045ee46ff703420448044712460e0359015ad7a76ed7a70403425e0275a7e45ee481045014c93f1b653214c9f5 [.Aaz [.g 7 0 3,.g 7 1 3,.g 7 2 3,.z ⟨true,.list 4 []⟩]] [.cell 2 (some 4)] (h:=fun r h c e=>by
  unfold J0 at h;have:HA 0 4 1 3 fun(b:Int)(a:AY)=>[(3,.bx [⟨true,lI a.o3.d5.d3⟩,⟨true,lE a.o3.d5.d4⟩,⟨true,.xn (List.map lI a.o3.gn)⟩,⟨true,(eL 4 Ft) a.kg⟩]),(4,.tv (eI b))]:=⟨⟩;exact nz)
instance c66(n:Int):Ct prog (IL n) 66 [eI n] (fun r=>.own (lI r)):=Fj f66 0xf431040300036fa6dbb3316230040300cdd8f8bd [] [.tmp 2] (h:=fun r h c d=>by
  unfold IL at h;have:HA 0 4 0 0 fun(b:Int)(a:Fp)=>[(3,.ow (lI a)),(4,.tv (eI b))]:=⟨⟩;exact nz)
instance c28(g:d5):Ct prog (Oi g) 28 [Am g] (fun r=>.oag [⟨true,lI r.d3⟩,⟨true,lI r.d4⟩]):=Fj f28 0xa63b02503f0ee90ebbdef5 [.Aaz [.w 6,.w 10]] [.cell 2 (some 2)] (h:=fun r h a b=>by
  unfold Oi at h;exact nz)
instance ur(t:AC)(a:hT)(b:AG):Ct prog (NC t a b) 118 [AQ t,B3 a,Bc b] (fun r=>.sh (eI r)):=Fj f118 0x815df165ead4367f9f [] [.tmp 6] (h:=fun r h c d=>by
  unfold NC at h;exact nz)
instance c48(a:Fp)(b:Fp):Ct prog (Gd a b) 48 [lI a,lI b] (fun r=>.sh (eB r)):=Fj f48 0x9b8cf085b5b500cb8ccd37d5010bdf [] [.tmp 4] (h:=fun r h d e=>by
  unfold Gd at h;have:HA 0 5 0 0 fun(c:Int)(_:Unit)=>[(5,.tv (eI c))]:=⟨⟩;exact nz)
instance yQ(l:Fp):Ct prog (IR l) 322 [lI l] (fun r=>.sh (eB r)):=Fj f322 0x9b039a6f039a040300f085b5b5039a6230040300039bcb039a816301 [] [.tmp 2] (h:=fun r h c d=>by
  unfold IR at h;have:HA 0 3 0 0 fun(a:Int)(_:Unit)=>[(3,.tv (eI a))]:=⟨⟩;have:HA 2 4 3 0 fun(b:Int)(_:Unit)=>[(4,.tv (eI b))]:=⟨⟩;exact nz)
instance xI(t:AC)(p:d5)(g:d5)(m:d6)(a:Bool):Ct prog (Ki t p g m a) 258 [AQ t,Am p,Am g,Ap m,eB a] (fun r=>.sh (eI r)):=Fj f258 0x81960a97fe9755300804020cb404056f9605765f76ed5c5f5c553785d39191e6fd43a15c5ccfca96d9a15c38a15c08040275fe0cb4040581b404040bb46906adb2a1555fa1d3808a6c55a1eda155b404047555010bb469068196d9e938bbbb0161610401 [] [.tmp 10] (h:=fun r h d e=>by
  unfold Ki at h;have:HA 0 11 8 0 fun(b:Int)(_:Unit)=>[(11,.tv (eI b))]:=⟨⟩;have:HA 2 12 8 1 fun(c:Int)(_:Unit)=>[(12,.tv (eI c))]:=⟨⟩;exact nz)
instance vu(t:AC)(p:d5)(g:d5)(m:d6)(a:Bool):Ct prog (Hx t p g m a) 182 [AQ t,Am p,Am g,Ap m,eB a] (fun r=>.sh (eI r)):=Fj f182 0x810ebc9eea369e0161610401 [] [.tmp 10] (h:=fun r h b c=>by
  unfold Hx at h;exact nz)
instance w4(t:AC)(p:ec)(a:AG):Ct prog (Kk t p a) 238 [AQ t,A9 p,Bc a] (fun r=>.sh (eI r)):=Fj f238 0x815df165ea8d367f9f [] [.tmp 6] (h:=fun r h b c=>by
  unfold Kk at h;exact nz)
instance xP(a:j4)(b:Fp):Ct prog (Hz a b) 265 [N6 a,lI b] (fun r=>.sh (eI r)):=Fj f265 0xaa5c5f55ee5c8555e1 [] [.tmp 4] (h:=fun r h c d=>by
  unfold Hz at h;exact nz)
instance y5(t:j4)(a:Fp):Ct prog (JE t a) 368 [N6 t,lI a] (fun r=>.tp [eI r.1,eB r.2]):=Fj f368 0x89055c5f5501c58a6c01ed55c55c8555309330 [] [.tmp 4,.tmp 5] (h:=fun r h b c=>by
  unfold JE at h;exact nz)
instance yJ(a:Test)(b:Fp):Ct prog (Ke a b) 312 [GK a,lI b] (fun r=>.sh (eB r)):=Fj f312 0xa20a05fb55fafb55960830085d8171bc03428971bcb8e1 [] [.tmp 4] (h:=fun r h c d=>by
  unfold Ke at h;exact nz)
instance w5(p:ec)(a:AG)(m:d6):Ct prog (Jv p a m) 240 [A9 p,Bc a,Ap m] (fun r=>.tp [lI r.1,eI r.2]):=Fj f240 0x818218086a087cadd88820148d057e03ba08017503ba6a087c81085ec408cc06add885012014369d0c0bc408cc080c0bc408cc083c01f6057d9d301401f601148a0817da0114385d6e9d815f5c5f5fd376d205c9c1d776085e7576770908cc0681993fa7993fa73040939f [.mkx 1 [.int .i64 0] (.s 16),.mkx 1 [.bool false] (.s 19)] [.tmp 6,.tmp 7] (h:=fun r h e f=>by
  unfold Jv at h;have:HA 0 10 3 2 fun(c:Int)(b:Fp×a6)=>[(8,.xo 1 (List.map eI b.1)),(9,.xo 1 (List.map eB b.2)),(10,.tv (eI c))]:=⟨⟩;have:HA 2 14 3 4 fun(d:Int)(_:Unit)=>[(14,.tv (eI d))]:=⟨⟩;exact nz)
instance vw(t:AC)(p:ec)(a:AG)(m:d6):Ct prog (Kj t p a m) 183 [AQ t,A9 p,Bc a,Ap m] (fun r=>.tp [lI r.1,eI r.2]):=Fj f183 0x81826b0e36658d37d8789e32b180d878658d363040619f [] [.tmp 8,.tmp 9] (h:=fun r h b c=>by
  unfold Kj at h;exact nz)
instance vz(t:AC)(p:d5)(g:d5)(m:d6):Ct prog (IQ t p g m) 184 [AQ t,Am p,Am g,Ap m] (fun r=>.tp [Am r.1,eI r.2]):=Fj f184 0x8192360b3e0b08020c0bb4056f01f65fa1d3011d320b080262151d32010c0bb40581025018c9278092b3dc0e9e9e0107c9619f [] [.cell 8 (some 2),.tmp 9] (h:=fun r h b c=>by
  unfold IQ at h;have:HW 0 fun(a:d5×Int)=>[(11,.bx [⟨true,.xl 1 (List.map eI a.1.d3)⟩,⟨true,.xl 3 (List.map Br a.1.d4)⟩]),(12,.tv (eI a.2))]:=⟨⟩;exact nz)
instance xJ(l:d5)(g:d5)(a:BB)(m:d6):Ct prog (NA l g a m) 259 [Am l,Am g,GJ a,Ap m] (fun r=>.sh (eI r)):=Fj f259 0x810e36ea369e01619f [] [.tmp 8] (h:=fun r h b c=>by
  unfold NA at h;exact nz)
instance yR(l:Fp)(n:Int):Ct prog (De l n) 323 [lI l,eI n] (fun r=>.sh (eB r)):=Fj f323 0x9b8cf08501b500cb8ccde7 [] [.tmp 4] (h:=fun r h b c=>by
  unfold De at h;have:HA 0 5 0 0 fun(a:Int)(_:Unit)=>[(5,.tv (eI a))]:=⟨⟩;exact nz)
instance xK(a:Fp)(b:Fp):Ct prog (FL a b) 260 [lI a,lI b] (fun r=>.own ((eL 2 O0) r)):=Fj f260 0xf4b7e26fe2b68c056fb68c05b68c053c0202480247054630028a0a977297fbb5b5e2cbb68c05aa3801cbe28102c002406302 [] [.tmp 4] (h:=fun r h g i=>by
  unfold FL at h;have:HA 0 6 0 0 fun(d:Int)(f:List F2)=>[(5,.ow ((eL 2 O0) f)),(6,.tv (eI d))]:=⟨⟩;have:HA 2 7 0 0 fun(e:Int)(c:List F2)=>[(5,.ow ((eL 2 O0) c)),(7,.tv (eI e))]:=⟨⟩;exact nz)
instance xN(a:Fp)(b:Fp):Ct prog (It a b) 263 [lI a,lI b] (fun r=>.own (lI r)):=Fj f263 0xf4b7e26fe2e23ca6dbb502b230b7cbe281d8f86302 [] [.tmp 4] (h:=fun r h e f=>by
  unfold It at h;have:HA 0 6 0 0 fun(c:Int)(d:Fp)=>[(5,.ow (lI d)),(6,.tv (eI c))]:=⟨⟩;exact nz)
instance xL(l:d5)(g:d5)(a:BB)(m:d6):Ct prog (IP l g a m) 261 [Am l,Am g,GJ a,Ap m] (fun r=>.own (lI r)):=Fj f261 0xf409010bc40705056f0bc407056cc40705053ca6dbb38a0a0e5e4103ca300e7d03ca3097015c090175fe0bc407050581820ed3d8f893611300 [] [.tmp 8] (h:=fun r h d e=>by
  unfold IP at h;have:HA 0 11 5 1 fun(b:Int)(c:Fp)=>[(9,.ow (lI c)),(11,.tv (eI b))]:=⟨⟩;exact nz)
instance xM(n:Int)(l:Fp):Ct prog (KH n l) 262 [eI n,lI l] (fun r=>.own (lI r)):=Fj f262 0xf4b7e26fe2e23ca6dbb3b230b76230e281d8f86302 [] [.tmp 4] (h:=fun r h c d=>by
  unfold KH at h;have:HA 0 6 0 0 fun(a:Int)(b:Fp)=>[(5,.ow (lI b)),(6,.tv (eI a))]:=⟨⟩;exact nz)
instance v7(l:d5)(g:d5)(a:BB)(m:d6):Ct prog (Oj l g a m) 185 [Am l,Am g,GJ a,Ap m] (fun r=>.tp [GJ r.1,eI r.2]):=Fj f185 0x8013b819204460e0e5c5ce90e0ed3bb37920346d50e369e80920346856c0e5c5c0b0ed33792e5dc0e9e9e01de619f [] [.cell 8 (some 2),.tmp 9] (h:=fun r h b c=>by
  unfold Oj at h;exact nz)
instance y8(n:Int)(a:Fp)(m:Fp):Ct prog (IT n a m) 380 [eI n,lI a,lI m] (fun r=>.own (lI r)):=Fj f380 0x821807010907a6046f01f6b5b5140701cb0907a6048107a603730263056f19014fac1907a6036230730263058101cef8026303 [] [.tmp 6] (h:=fun r h f g=>by
  unfold IT at h;have:HA 0 8 0 0 fun(c:Int)(e:Fp)=>[(7,.xo 1 (List.map eI e)),(8,.tv (eI c))]:=⟨⟩;have:HA 2 9 1 0 fun(d:Int)(b:Fp)=>[(7,.xo 1 (List.map eI b)),(9,.tv (eI d))]:=⟨⟩;exact nz)
instance zW(b:AX)(a:Fp):Ct prog (Ep b a) 409 [.pt (Qt b).cells,lI a] (fun r=>.sh (eB r)):=Fj f409 0x9b8c03603863038ccd880107ddb48c066f770a055f760176fa5ffe5c38d33091fd7e7d04740107dd757d047430b48c0689ff8c038a6c0176380b015c91fd7e7d027463757d0274308ccde7 [] [.tmp 4] (h:=fun r h f g=>by
  unfold Ep at h;have:HA 0 5 0 3 fun(d:Int)(_:Unit)=>[(5,.tv (eI d))]:=⟨⟩;have:HA 2 8 0 5 fun(e:Int)(c:Bool)=>[(7,.tv (eB c)),(8,.tv (eI e))]:=⟨⟩;exact nz)
instance zY(a:AX)(l:Fp)(n:Int):Ct prog (Cc a l n) 411 [.pt (Qt a).cells,lI l,eI n] (fun r=>.sh (eB r)):=Fj f411 0x9b0702d6ad8501b500ff8a030874306c300702d681b36303 [] [.tmp 6] (h:=fun r h c d=>by
  unfold Cc at h;have:HW 0 fun(b:Int)=>[(7,.tv (eI b))]:=⟨⟩;exact nz)
noncomputable def We:PC:=PC.of Un f410.body (xq bT 0x1b40263066001b4026306b40263063c005201db304830470132ffb40263068a055f760176fa5ffe5cfad37720303277b7a17d06a838a17d06a891fd7e7d04a8bd757d04a801b40263068191fd7e7d02a8fff70a740248024704460148304701483047040aa832d57d02a85d0be80309a80b030aa8026303) []
theorem qv:CK f410 We []:=by decide +kernel
theorem rS:PC.Aaf We=true/\PC.Aag 0 We=true:=by decide +kernel
abbrev Q_410(n:Nat):Prop:=∀(b:AX)(a:Fp)(l:Fp),Ct prog (B7 n b a l) 410 [.undef,lI a,lI l] (fun r=>.bo (Be b) (Be r) 0 [])
theorem qe(n:Nat)(_ih_410:Q_410 n)(b:AX)(a:Fp)(l:Fp):Ct prog (B7 (n+1) b a l) 410 [.undef,lI a,lI l] (fun r=>.bo (Be b) (Be r) 0 []):=iP qv rS fun r h e d f=>by
  unfold We;unfold f410;unfold B7 at h;have:HW 0 fun(c:AX×Int)=>[(0,.bx (Be c.1)),(8,.tv (eI c.2))]:=⟨⟩;exact nz
theorem qc:∀n:Nat,Q_410 n:=by
  intro n
  induction n with
  |zero=>exact(fun a ei l=>⟨fun _ h=>by cases h⟩)
  |succ n b=>exact qe n b
instance zX(b:AX)(a:Fp)(l:Fp):Ct prog (LK b a l) 410 [.undef,lI a,lI l] (fun r=>.bo (Be b) (Be r) 0 []):=⟨fun r h=>by
  obtain ⟨N,c⟩:=Cl h;exact((qc N) b a l).snd r (c N (bk _))⟩
noncomputable def Wc:PC:=PC.of Un f367.body (xq bT 0x3804d6603804d669d63c005201db3048304732ff69d68a97a16e02a8a16e04a8eb5b327720303277b7a16e06a838a16e06a8bd756e04a83804d681ff3f0132d56e02a85d0b6d8a08200132380309a80b030aa86302) [.AaF 410 [.s 32,.s 33,.c (.list 1 [])] 0]
theorem qt:CK f367 Wc []:=by decide +kernel
theorem rQ:PC.Aaf Wc=true/\PC.Aag 0 Wc=true:=by decide +kernel
abbrev Q_367(n:Nat):Prop:=∀(a:AX)(l:Fp),Ct prog (B8 n a l) 367 [.undef,lI l] (fun r=>.bo (Be a) (Be r) 0 [])
theorem qX(n:Nat)(_ih_367:Q_367 n)(a:AX)(l:Fp):Ct prog (B8 (n+1) a l) 367 [.undef,lI l] (fun r=>.bo (Be a) (Be r) 0 []):=iP qt rQ fun r h d c e=>by
  unfold Wc;unfold f367;unfold B8 at h;have:HW 0 fun(b:AX×Int)=>[(0,.bx (Be b.1)),(5,.tv (eI b.2))]:=⟨⟩;exact nz
theorem qW:∀n:Nat,Q_367 n:=by
  intro n
  induction n with
  |zero=>exact(fun a l=>⟨fun _ h=>by cases h⟩)
  |succ n b=>exact qX n b
instance y4(a:AX)(l:Fp):Ct prog (ID a l) 367 [.undef,lI l] (fun r=>.bo (Be a) (Be r) 0 []):=⟨fun r h=>by
  obtain ⟨N,b⟩:=Cl h;exact((qW N) a l).snd r (b N (bk _))⟩
instance yI(t:AC)(p:d5)(g:d5)(b:d6)(a:Bool)(d:Int):Ct prog (Ng t p g b a d) 310 [AQ t,Am p,Am g,Ap b,eB a,eI d] (fun r=>.sh ((eL 2 Ap) r)):=Fj f310 0x82030a745b3f5b00c2bf1846309e9e024061616902 [.Abu [none,none,none,none,none,none,none,none,none,none,some ⟨true,.list 2 []⟩] (.s 20),.AaF 367 [.s 22,.c (.list 1 [])] 0] [.tmp 12] (h:=fun r h e f=>by
  unfold Ng at h;exact nz)
instance za(l:Fp)(a:Int)(n:Int):Ct prog (IS l a n) 418 [lI l,eI a,eI n] (fun r=>.sh (eI r)):=Fj f418 0x9b070200036f96b75ffbb500cb070200cd3785010b30026303 [] [.tmp 6] (h:=fun r h c d=>by
  unfold IS at h;have:HA 0 7 0 0 fun(b:Int)(_:Unit)=>[(7,.tv (eI b))]:=⟨⟩;exact nz)
instance y9(t:AC)(p:d5)(g:d5)(b:d6)(a:Bool):Ct prog (Ju t p g b a) 381 [AQ t,Am p,Am g,Ap b,eB a] (fun r=>.tp [(eL 2 Ap) r.1,eI r.2]):=Fj f381 0x8182ee02c0d501820ebc9e8002c078e9e95c3702c078bbbb553702c08ad9e938bbbb3702c078369eb34061610401 [] [.tmp 10,.tmp 11] (h:=fun r h c d=>by
  unfold Ju at h;exact nz)
instance wE(a:j4)(b:Fp):Ct prog (EK a b) 191 [N6 a,lI b] (fun r=>.tp [eI r.1,eI r.2]):=Fj f191 0x890e0180818a6c01ed55309330 [] [.tmp 4,.tmp 5] (h:=fun r h c d=>by
  unfold EK at h;exact nz)
instance zA(q:ec)(b:AG)(m:d6)(a:Fp):Ct prog (Jx q b m a) 382 [A9 q,Bc b,Ap m,lI a] (fun r=>.tp [lI r.1,eB r.2]):=Fj f382 0x8182180a01120a04f0d88a0a05fb55fafb555d6b0120143603425d6b01201436b8be04c98d057e03ba0a017503ba01120a0403a204020de3066906add88572816b012014369d0f0e0de30669080f0e0de30669083c01f601f6057d9d016e9d146e9d148a0817da6e9d14386e9d815f5c5f5fd376d205c9c1d7760a04027576010de306690681e30669050ce306cc076f0ce306cc070ce306cc073c19014fac19d572f66c7214e306690562a7010ce306cc0781993fa799014f30563040936131 [.mkx 1 [.bool false] (.s 28)] [.tmp 8,.tmp 9] (h:=fun r h i j=>by
  unfold Jx at h;have:HA 0 12 4 3 fun(e:Int)(d:Fp×a6)=>[(10,.xo 1 (List.map eI d.1)),(11,.xo 1 (List.map eB d.2)),(12,.tv (eI e))]:=⟨⟩;have:HA 2 13 4 2 fun(f:Int)(c:Fp×a6)=>[(10,.xo 1 (List.map eI c.1)),(11,.xo 1 (List.map eB c.2)),(13,.tv (eI f))]:=⟨⟩;have:HA 4 18 4 4 fun(g:Int)(_:Unit)=>[(18,.tv (eI g))]:=⟨⟩;exact nz)
instance yS(t:AC)(c:d7)(b:AG)(m:AM)(a:Bool):Ct prog (Gn t c b m a) 324 [AQ t,AJ c,Bc b,BW m,eB a] (fun r=>.tp [(eL 3 BW) r.1,eI r.2]):=Fj f324 0x81f4100111100e0cb46f11100e0cb411100e0cb43c02034803470946bc0243300289e07636024330658d1001cb11100e0cb48103c03703c070e0019e32b13692de04460ef37d9d0bf30ec86e9d0bc8be09c98dbae54061610401 [] [.tmp 10,.tmp 11] (h:=fun r h f g=>by
  unfold Gn at h;have:HA 0 17 14 0 fun(d:Int)(e:List AM)=>[(16,.ow ((eL 3 BW) e)),(17,.tv (eI d))]:=⟨⟩;exact nz)
abbrev Q_264(n:Nat):Prop:=∀(t:AC)(c:d7)(b:AG)(m:AM)(a:Bool),Ct prog (Df n t c b m a) 264 [AQ t,AJ c,Bc b,BW m,eB a] (fun r=>.tp [D9 r.1,eI r.2])
theorem qM(n:Nat)(_ih_264:Q_264 n)(t:AC)(c:d7)(e:AG)(m:AM)(a:Bool):Ct prog (Df (n+1) t c e m a) 264 [AQ t,AJ c,Bc e,BW m,eB a] (fun r=>.tp [D9 r.1,eI r.2]):=Fj f264 0xaa4b0a46ff37be0a460a0117150ab669076fff0a013baa4b010c4605478dcf433064be0ec97101cf433065a509435c360a01cb17150ab66907f2be77dce0016565a536aaaa4b0a460a01120ab46907adbe010b4605478d70be0ec971016565a509ca360a0175fe120ab469078905aa4b8d0e0a020f0e0ab469086ff7ba054805478d04ba37be77dcbe0ec971016565a509ca360e0a0275fe0f0e0ab46908aa500ec93faaaa4b774637be0a4685eebe0adcbe0e4971016565a509435c36aa83326ac961610401 [.Aaz [.z ⟨false,.int .i64 0⟩,.z ⟨true,.list 1 []⟩,.z ⟨true,.list 1 []⟩,.z ⟨true,.list 1 []⟩,.z ⟨true,.list 5 []⟩]] [.cell 10 (some 5),.tmp 11] (h:=fun r h k l=>by
  unfold Df at h;have:HA 1 15 6 1 fun(j:Int)(b:Az×Az)=>[(10,.bx [⟨false,eI b.1.AaC⟩,⟨true,lI b.1.pc.d6.d3⟩,⟨true,lI b.1.pc.d6.d4⟩,⟨true,lI b.1.pc.hV⟩,⟨true,G3 b.1.gt⟩]),(14,.bx [⟨false,eI b.2.AaC⟩,⟨true,lI b.2.pc.d6.d3⟩,⟨true,lI b.2.pc.d6.d4⟩,⟨true,lI b.2.pc.hV⟩,⟨true,G3 b.2.gt⟩]),(15,.tv (eI j))]:=⟨⟩;have:HA 3 18 6 1 fun(i:Int)(f:Az)=>[(10,.bx [⟨false,eI f.AaC⟩,⟨true,lI f.pc.d6.d3⟩,⟨true,lI f.pc.d6.d4⟩,⟨true,lI f.pc.hV⟩,⟨true,G3 f.gt⟩]),(18,.tv (eI i))]:=⟨⟩;have:HA 5 23 21 0 fun(g:Int)(d:Az)=>[(10,.bx [⟨false,eI d.AaC⟩,⟨true,lI d.pc.d6.d3⟩,⟨true,lI d.pc.d6.d4⟩,⟨true,lI d.pc.hV⟩,⟨true,G3 d.gt⟩]),(23,.tv (eI g))]:=⟨⟩;exact nz)
theorem qL:∀n:Nat,Q_264 n:=by
  intro n
  induction n with
  |zero=>exact(fun t c a m ej=>⟨fun _ h=>by cases h⟩)
  |succ n b=>exact qM n b
instance xO(t:AC)(c:d7)(b:AG)(m:AM)(a:Bool):Ct prog (PW t c b m a) 264 [AQ t,AJ c,Bc b,BW m,eB a] (fun r=>.tp [D9 r.1,eI r.2]):=⟨fun r h=>by
  obtain ⟨N,d⟩:=Cl h;exact((qL N) t c b m a).snd r (d N (bk _))⟩
instance v8(t:AC)(c:d7)(b:AG)(m:AM)(a:Bool):Ct prog (Kl t c b m a) 186 [AQ t,AJ c,Bc b,BW m,eB a] (fun r=>.tp [eB r.1,eI r.2]):=Fj f186 0x893801c564be0e4971016565a5363061610401 [] [.tmp 10,.tmp 11] (h:=fun r h d e=>by
  unfold Kl at h;exact nz)
instance ut(t:AC)(b:hT)(a:AG)(m:AM):Ct prog (KK t b a m) 119 [AQ t,B3 b,Bc a,BW m] (fun r=>.tp [GJ r.1,eI r.2]):=Fj f119 0x8192bc0d0b08030d0b08033c018a0830a98171030f426565a510428092e546853092de71b1360b42b18092e54685309207c971b1b1ebb880920346b276ee92e5dce0b1658db880920346850e030f42b1b1ebb83601de619f [] [.cell 8 (some 2),.tmp 9] (h:=fun r h d e=>by
  unfold KK at h;have:HJ 95 fun(c:Int)=>[(11,.tv (eI c))]:=⟨⟩;exact nz)
instance wA(t:AC)(a:AG)(p:BB):Ct prog (I2 t a p) 187 [AQ t,Bc a,GJ p] (fun r=>.tp [Bc r.1,eI r.2]):=Fj f187 0x8191650d06020e0d0b0604056ff79d01db01485fa15576ac049d0d060275556a0d0b06040581035010c93f80910110dc9292de07c911719e3237910110dcf165360110c9939f [.Aaz [.v (.s 37) 0 2,.v (.s 37) 1 2,.z ⟨true,.list 1 []⟩]] [.cell 6 (some 3),.tmp 7] (h:=fun r h c d=>by
  unfold I2 at h;have:HW 0 fun(b:AG×Int)=>[(13,.bx [⟨false,lI b.1.d5.d3⟩,⟨false,lE b.1.d5.d4⟩,⟨true,(eL 1 lI) b.1.gn⟩]),(14,.tv (eI b.2))]:=⟨⟩;exact nz)
instance wC(l:Fp)(n:Int):Ct prog (KG l n) 189 [lI l,eI n] (fun r=>.own (lI r)):=Fj f189 0x8218b7e26fe2b68c056fb68c05b68c053c01f630148501b5e2cbb68c058119014fac19b76230e28101cef86302 [] [.tmp 4] (h:=fun r h e f=>by
  unfold KG at h;have:HA 0 6 1 0 fun(b:Int)(d:Fp)=>[(5,.xo 1 (List.map eI d)),(6,.tv (eI b))]:=⟨⟩;have:HA 2 7 0 0 fun(c:Int)(a:Fp)=>[(5,.xo 1 (List.map eI a)),(7,.tv (eI c))]:=⟨⟩;exact nz)
instance wB(n:Int)(a:Fp):Ct prog (Jz n a) 188 [eI n,lI a] (fun r=>.own (lI r)):=Fj f188 0x820e72406302 [] [.tmp 4] (h:=fun r h b c=>by
  unfold Jz at h;exact nz)
instance uu(t:AC)(a:AG)(d:BB):Ct prog (K4 t a d) 120 [AQ t,Bc a,GJ d] (fun r=>.tp [Bc r.1,Ap r.2]):=Fj f120 0xb6023b929104460e5c0bf30e550bc865019110c971366536de10c9939f [] [.cell 6 (some 3),.cell 7 (some 2)] (h:=fun r h b c=>by
  unfold K4 at h;exact nz)
instance uv(a:Fp)(b:Fp):Ct prog (Gf a b) 121 [lI a,lI b] (fun r=>.own (lI r)):=Fj f121 0xf4b7e26fa6db5f5f7202b7cbe281d8f86302 [] [.tmp 4] (h:=fun r h e f=>by
  unfold Gf at h;have:HA 0 6 0 0 fun(c:Int)(d:Fp)=>[(5,.ow (lI d)),(6,.tv (eI c))]:=⟨⟩;exact nz)
instance uw(d:Fp)(c:Fp)(b:Int)(e:Fp)(a:Int):Ct prog (E8 d c b e a) 122 [lI d,lI c,eI b,lI e,eI a] (fun r=>.own (lI r)):=Fj f122 0xf40c01c30b045e00076fc30b045e00076001a6dbb3c30b045e00073ca6db5f5fb5300285b50ce830c30b045e000781d8820e7240045e6305 [] [.tmp 10] (h:=fun r h i j=>by
  unfold E8 at h;have:HA 0 13 2 0 fun(g:Int)(f:Int×Fp)=>[(4,.tv (eI f.1)),(12,.ow (lI f.2)),(13,.tv (eI g))]:=⟨⟩;exact nz)
instance wD(a:Fp)(b:Int):Ct prog (G7 a b) 190 [lI a,eI b] (fun r=>.sh (eB r)):=Fj f190 0x9b8cf08501b500cb8ccde7 [] [.tmp 4] (h:=fun r h d e=>by
  unfold G7 at h;have:HA 0 5 0 0 fun(c:Int)(_:Unit)=>[(5,.tv (eI c))]:=⟨⟩;exact nz)
noncomputable def av:PC:=PC.of Un f123.body (xq bT 0x35003530806020f09b405066f0f09b405060f09b405063cf70141320348034707465f76555f5cd30401413291fdca8e017d0d4208060275fe0f09b405068109b40505c4b46907607709b46907c4b469073c1f9d212219239d0dc4b469970d0bc4b4690a6f19014fac7dc630190dc4b46908cb0e0d0bc4b4690a8101ce01e0a15536f75b3201dba155045b32ffc4b46907b2016e0d4209b4050575557709b46907819207c9ebb917c993ab9f) []
theorem qj:CK f123 av [.cell 8 (some 3)]:=by decide +kernel
theorem rM:PC.Aaf av=true:=by decide +kernel
instance ux(t:AC)(b:hT)(a:AG)(c:d6):Ct prog (KJ t b a c) 123 [AQ t,B3 b,.agg [.undef,.undef,.undef],Ap c] (fun r=>.ag [⟨true,lI a.d5.d3⟩,⟨true,lE a.d5.d4⟩,⟨true,.xn (List.map lI a.gn)⟩] 2 (.oag [⟨true,lI r.d5.d3⟩,⟨true,lE r.d5.d4⟩,⟨true,.xn (List.map lI r.gn)⟩])):=tI qj rM fun r h j i k=>by
  unfold av;unfold f123;unfold KJ at h;have:HW 0 fun(e:AG×Int)=>[(6,.bx [⟨true,lI e.1.d5.d3⟩,⟨true,lE e.1.d5.d4⟩,⟨true,.xn (List.map lI e.1.gn)⟩]),(10,.tv (eI e.2))]:=⟨⟩;have:HA 2 14 11 0 fun(g:Int)(f:Fp)=>[(13,.xo 1 (List.map eI f)),(14,.tv (eI g))]:=⟨⟩;have:HW 4 fun(d:AG×Int)=>[(6,.bx [⟨true,lI d.1.d5.d3⟩,⟨true,lE d.1.d5.d4⟩,⟨true,.xn (List.map lI d.1.gn)⟩]),(15,.tv (eI d.2))]:=⟨⟩;exact nz
noncomputable def aw:PC:=PC.of Un f124.body (xq bT 0x819165073e0a0702130c0a7369076f2624017dc630252401239d379110468a055e41c67dc67230057dc67dc67230e0a1c836815f6ec630555d71bc0241c6300a0702cb130c0a736907810c0a736906c30a7369076fc30a736907100ec30a736909ad9110468a05720a057dc6307dc6fb5f6ec630555f6ec630555d71bc0241c630c30a7369076230100ec30a736909815d71bc0241c6300c0a736906cbc30a73690781825e41b90110c993ab610401) []
theorem qk:CK f124 aw [.cell 10 (some 3),.tmp 11]:=by decide +kernel
theorem rN:PC.Aaf aw=true:=by decide +kernel
instance uy(t:AC)(e:hT)(a:AG)(c:d6)(b:Fp):Ct prog (LU t e a c b) 124 [AQ t,B3 e,.agg [.undef,.undef,.undef],Ap c,lI b] (fun r=>.ag [⟨true,lI a.d5.d3⟩,⟨true,lE a.d5.d4⟩,⟨true,.xn (List.map lI a.gn)⟩] 2 (.tp [Bc r.1,eI r.2])):=tI qk rN fun r h m l n=>by
  unfold aw;unfold f124;unfold LU at h;have:HA 0 13 12 0 fun(i:Int)(g:AG)=>[(10,.bx [⟨true,lI g.d5.d3⟩,⟨true,lE g.d5.d4⟩,⟨true,(eL 1 lI) g.gn⟩]),(13,.tv (eI i))]:=⟨⟩;have:HA 2 16 13 0 fun(j:Int)(f:AG)=>[(10,.bx [⟨true,lI f.d5.d3⟩,⟨true,lE f.d5.d4⟩,⟨true,(eL 1 lI) f.gn⟩]),(16,.tv (eI j))]:=⟨⟩;have:HA 4 19 12 0 fun(k:Int)(d:AG×AG)=>[(7,.bx [⟨true,lI d.1.d5.d3⟩,⟨true,lE d.1.d5.d4⟩,⟨true,.xn (List.map lI d.1.gn)⟩]),(10,.bx [⟨true,lI d.2.d5.d3⟩,⟨true,lE d.2.d5.d4⟩,⟨true,(eL 1 lI) d.2.gn⟩]),(19,.tv (eI k))]:=⟨⟩;exact nz
instance c74(t:AC)(b:hT)(a:AG)(m:AM):Ct prog (Ks t b a m) 74 [AQ t,B3 b,Bc a,BW m] (fun r=>.tp [Lq r.1,eI r.2]):=Fj f74 0x81ec19469e656565d437ec0e468a6cf3380bc837ec6a468530916bb35776360353d4360d013b03500257361b65d43692de04460ee95c0b3174b97d0d427d0b420ebb550b6e5bb96e0d426e0b4292de04460e5cf30e55c89291de17c971366580ec6adc92de716565d480ec6adc0e65d4360111c9619f [] [.cell 8 (some 38),.tmp 9] (h:=fun r h c d=>by
  unfold Ks at h;exact nz)
instance c55(t:AC)(a:List hT)(b:AG)(m:C4):Ct prog (MJ t a b m) 55 [AQ t,(eL 25 B3) a,Bc b,Ft m] (fun r=>.tp [Lq r.1,eI r.2]):=Fj f55 0x8013b81ec6b0e65b865d41943550180ec0e468a6c01ed550111c9936130 [] [.cell 8 (some 38),.tmp 9] (h:=fun r h c d=>by
  unfold MJ at h;exact nz)
instance c44(t:AC)(a:List hT)(d:AY):Ct prog (J1 t a d) 44 [AQ t,(eL 25 B3) a,C2 d] (fun r=>.tp [(eL 38 Lq) r.1,eI r.2.1,eI r.2.2]):=Fj f44 0x89820bb30a010ce30531066f91651f420226482647264402c526c03064ec11c971c1d7a765bc0a0175a7010ce3053106819110c9653226c0c526c0d5a7c526c0786532bc3026406130 [] [.tmp 6,.tmp 7,.tmp 8] (h:=fun r h e f=>by
  unfold J1 at h;have:HA 0 12 5 3 fun(c:Int)(b:List Ar×AG)=>[(10,.ow ((eL 38 Lq) b.1)),(11,.bx [⟨false,lI b.2.d5.d3⟩,⟨false,lE b.2.d5.d4⟩,⟨false,(eL 1 lI) b.2.gn⟩]),(12,.tv (eI c))]:=⟨⟩;exact nz)
instance c45(l:Fp)(a:Fp):Ct prog (JK l a) 45 [lI l,lI a] (fun r=>.own (lI r)):=Fj f45 0xf4b7e26fe23ca6db5f5f7202e23ca6db0285b5b7cbe281d8f86302 [] [.tmp 4] (h:=fun r h d e=>by
  unfold JK at h;have:HA 0 6 0 0 fun(b:Int)(c:Fp)=>[(5,.ow (lI c)),(6,.tv (eI b))]:=⟨⟩;exact nz)
instance c14(t:AC)(a:List hT)(d:AY):Ct prog (Kt t a d) 14 [AQ t,(eL 25 B3) a,C2 d] (fun r=>.tp [Bc r.1,Ap r.2.1,eI r.2.2]):=Fj f14 0xb6023b819291360e65c3b6040ec309b6066f9204460e7d22412643305c0e6e22412643305591651f41264330c3b604cb0ec309b606819291de10c90eeb326532379291e54610dc01821171c1bc01de10c96130 [] [.cell 6 (some 3),.cell 7 (some 2),.tmp 8] (h:=fun r h e f=>by
  unfold Kt at h;have:HA 0 14 9 0 fun(c:Int)(b:AG×d6)=>[(12,.bx [⟨false,lI b.1.d5.d3⟩,⟨false,lE b.1.d5.d4⟩,⟨false,(eL 1 lI) b.1.gn⟩]),(13,.bx [⟨false,lI b.2.d3⟩,⟨false,lI b.2.d4⟩]),(14,.tv (eI c))]:=⟨⟩;exact nz)
instance c88(a:Fp)(b:Fp):Ct prog (KE a b) 88 [lI a,lI b] (fun r=>.sh (eB r)):=Fj f88 0x9b8cf085b5b500cb8ccd37d5010bdf [] [.tmp 4] (h:=fun r h d e=>by
  unfold KE at h;have:HA 0 5 0 0 fun(c:Int)(_:Unit)=>[(5,.tv (eI c))]:=⟨⟩;exact nz)
instance c46(a:d5)(b:d5):Ct prog (MB a b) 46 [Am a,Am b] (fun r=>.sh (eB r)):=Fj f46 0x9b055ef0bfcfcacfca00755c385ecd96d9e90197d3019f [.bin (.a [0,0,0]) .neq (.s 32) (.s 37)] [.tmp 4] (h:=fun r h d e=>by
  unfold MB at h;have:HA 0 5 2 1 fun(c:Int)(_:Unit)=>[(5,.tv (eI c))]:=⟨⟩;exact nz)
instance c47(a:Fp)(b:Fp):Ct prog (I3 a b) 47 [lI a,lI b] (fun r=>.sh (eI r)):=Fj f47 0x816c010be78cf005b5b585b55fdfff8a6c726c308ccde7 [] [.tmp 4] (h:=fun r h d e=>by
  unfold I3 at h;have:HW 0 fun(c:Int)=>[(5,.tv (eI c))]:=⟨⟩;exact nz)
instance c15(a:AG)(b:AG):Ct prog (MD a b) 15 [Bc a,Bc b] (fun r=>.sh (eB r)):=Fj f15 0x9b055ef0850ea176a176007576385ecd966c760b760197b1b1019f [] [.tmp 4] (h:=fun r h d e=>by
  unfold MD at h;have:HA 0 5 2 2 fun(c:Int)(_:Unit)=>[(5,.tv (eI c))]:=⟨⟩;exact nz)
instance c16(a:d6)(b:d6):Ct prog (MC a b) 16 [Ap a,Ap b] (fun r=>.sh (eB r)):=Fj f16 0xa20e5c5c6ad3019f [] [.tmp 4] (h:=fun r h c d=>by
  unfold MC at h;exact nz)
end Go.Sf.Sc
