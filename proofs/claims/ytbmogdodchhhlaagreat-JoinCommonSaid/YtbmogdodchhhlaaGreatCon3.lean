/- Contracts of the functions. -/
import Derived.Test.YtbmogdodchhhlaaGreatCon0
import Derived.Test.YtbmogdodchhhlaaGreatTryzShelf
import Derived.Test.YtbmogdodchhhlaaGreatTw
set_option linter.all false
set_option maxRecDepth 100000
set_option maxHeartbeats 4000000
namespace Go.Sf.Sc
open Go Go.Sf Go.Proofs.Tryz
instance c9:Ct prog (Kr ) 9 [] (fun r=>.sO [⟨true,lN r.ff⟩,⟨true,lX r.gt⟩]):=Fj f9 0x2503f07473f3f04473f3f04473f3f3f3f04473f01c900 [.uy [.str ⟨#[]⟩,.int .i64 0,.int .i64 0,.list 1 []] [(0,1,.c (.str ⟨#[98,97,108,97,110,99,101]⟩)),(1,1,.c (.int .i64 (-1000))),(2,1,.c (.int .i64 1000))],.uy [.str ⟨#[]⟩,.int .i64 0,.bool false,.list 4 []] [(0,1,.c (.str ⟨#[65,99,99,111,117,110,116]⟩)),(1,1,.c (.int .i64 (-1))),(2,1,.c (.bool true)),(3,1,.s 2)],.uy [.str ⟨#[]⟩,.int .i64 0,.bool false,.list 4 []] [(0,1,.c (.str ⟨#[67,97,115,104]⟩)),(1,1,.c (.int .i64 0))],.uS 1 [.c (.str ⟨#[111,112,101,110]⟩),.c (.str ⟨#[99,108,111,115,101,100]⟩)],.uy [.str ⟨#[]⟩,.int .i64 0,.int .i64 0,.list 1 []] [(0,1,.c (.str ⟨#[115,116,97,116,101]⟩)),(2,1,.c (.int .i64 1)),(3,1,.s 5)],.uy [.str ⟨#[]⟩,.int .i64 0,.bool false,.list 4 []] [(0,1,.c (.str ⟨#[76,111,97,110]⟩)),(1,1,.c (.int .i64 0)),(3,1,.s 7)],.uy [.str ⟨#[]⟩,.int .i64 0,.bool false,.list 4 []] [(0,1,.c (.str ⟨#[80,101,114,115,111,110]⟩)),(1,1,.c (.int .i64 (-1)))],.uy [.str ⟨#[]⟩,.int .i64 0,.int .i64 0,.int .i64 0,.int .i64 0,.int .i64 0,.int .i64 0] [(0,1,.c (.str ⟨#[111,119,110,115]⟩)),(1,1,.c (.int .i64 3)),(2,1,.c (.int .i64 0)),(4,1,.c (.int .i64 (-1))),(5,1,.c (.int .i64 1)),(6,1,.c (.int .i64 1))],.uy [.str ⟨#[]⟩,.int .i64 0,.int .i64 0,.int .i64 0,.int .i64 0,.int .i64 0,.int .i64 0] [(0,1,.c (.str ⟨#[112,97,121,115]⟩)),(1,1,.c (.int .i64 1)),(2,1,.c (.int .i64 1)),(4,1,.c (.int .i64 (-1))),(6,1,.c (.int .i64 (-1)))],.sZ [.w 10,.w 13]] [.cell 0 (some 2)] (h:=fun r h a b=>by
  unfold Kr at h;exact nz)
instance mK(t:Db):Ct prog (NQ t) 194 [Po t] (fun r=>.sh (eS r)):=Fj f194 0x815a373f3f5a85593fba [.mv (.c (.str ⟨#[]⟩)),.bin (.s) .add (.c (.str ⟨#[34]⟩)) (.s 7),.bin (.s) .add (.s 8) (.c (.str ⟨#[34]⟩))] [.tmp 2] (h:=fun r h a b=>by
  unfold NQ at h;exact nz)
instance nY(c:Int):Ct prog (Jf c) 260 [Pp c] (fun r=>.sh (eB r)):=Fj f260 0xf980a93080a930e2 [] [.tmp 2] (h:=fun r h a b=>by
  unfold Jf at h;exact nz)
instance nZ(c:Int):Ct prog (G2 c) 261 [Pp c] (fun r=>.sh (eB r)):=Fj f261 0x8180a930e2 [] [.tmp 2] (h:=fun r h a b=>by
  unfold G2 at h;exact nz)
instance na(b:ByteArray)(c:Int)(a:Bool):Ct prog (JC b c a) 262 [eS b,eI c,eB a] (fun r=>.sh (eI r)):=Fj f262 0xcd0701ff0702a77c0701ff8a0a0a80120530300e1205303008300e120530a90c55300702a7cd02bb [] [.tmp 6] (h:=fun r h e f=>by
  unfold JC at h;have:HW 0 fun(d:Int)=>[(7,.tv (eI d))]:=⟨⟩;exact nz)
instance nc(a:ByteArray)(b:Int):Ct prog (GA a b) 263 [eS a,eI b] (fun r=>.sh (eI r)):=Fj f263 0x9e05bbadc3a9d9057412057700610c55a9bb81f6 [] [.tmp 4] (h:=fun r h d e=>by
  unfold GA at h;have:HW 0 fun(c:Int)=>[(5,.tv (eI c))]:=⟨⟩;exact nz)
instance nd:Ct prog (MQ ) 264 [] (fun r=>.own (lB r)):=Fj f264 0x823f014000 [.uS 1 [.c (.str ⟨#[45,62]⟩),.c (.str ⟨#[60,61]⟩),.c (.str ⟨#[62,61]⟩),.c (.str ⟨#[61,61]⟩),.c (.str ⟨#[33,61]⟩),.c (.str ⟨#[123]⟩),.c (.str ⟨#[125]⟩),.c (.str ⟨#[40]⟩),.c (.str ⟨#[41]⟩),.c (.str ⟨#[91]⟩),.c (.str ⟨#[93]⟩),.c (.str ⟨#[44]⟩),.c (.str ⟨#[59]⟩),.c (.str ⟨#[58]⟩),.c (.str ⟨#[61]⟩),.c (.str ⟨#[43]⟩),.c (.str ⟨#[45]⟩),.c (.str ⟨#[42]⟩),.c (.str ⟨#[60]⟩),.c (.str ⟨#[62]⟩),.c (.str ⟨#[33]⟩),.c (.str ⟨#[38]⟩),.c (.str ⟨#[124]⟩),.c (.str ⟨#[46]⟩),.c (.str ⟨#[63]⟩)]] [.tmp 0] (h:=fun r h a b=>by
  unfold MQ at h;exact nz)
instance mL(a:ByteArray)(d:Int):Ct prog (JB a d) 195 [eS a,eI d] (fun r=>.tp [Po r.1,eI r.2.1,eI r.2.2]):=Fj f195 0x8ca208460401b3045e05c8ff04013b8ca20cb90946b98a06b90d050cb930a90c550c5c7704019130b3045e05e90e3781a20109460d0505a9303781a208468505d981a208ee0e3085d981a20109460d0577303781a208468530e508045e06e508045e063c308e5b8c0e0e778a0e300e5b12303004c95e02 [] [.cell 4 (some 3),.tmp 5,.tmp 6] (h:=fun r h f g=>by
  unfold JB at h;have:HJ 29 fun(c:Int×Int)=>[(9,.tv (eI c.1)),(10,.tv (eI c.2))]:=⟨⟩;have:HA 0 13 12 0 fun(e:Int)(b:Db)=>[(4,.bx [⟨false,eI b.rt⟩,⟨false,eS b.vl⟩,⟨false,eI b.Line⟩]),(13,.tv (eI e))]:=⟨⟩;exact nz)
instance k7(t:Db):Ct prog (G0 t) 137 [Po t] (fun r=>.sh (eB r)):=Fj f137 0x8180599d800c77055b81a204c91172d9bf5b0e6201ba [.bin (.s) .eql (.s 9) (.c (.str ⟨#[]⟩))] [.tmp 2] (h:=fun r h a b=>by
  unfold G0 at h;exact nz)
instance rV(a:ByteArray):Ct prog (DD a) 93 [eS a] (fun r=>.sh (eB r)):=Fj f93 0x810e094630e2 [] [.tmp 2] (h:=fun r h b c=>by
  unfold DD at h;exact nz)
abbrev Q_118(n:Nat):Prop:=∀(t:AB)(a:Int),Ct prog (Di n t a) 118 [AO t,eI a] (fun r=>.own (lA r))
theorem eZ(n:Nat)(_ih_118:Q_118 n)(t:AB)(a:Int):Ct prog (Di (n+1) t a) 118 [AO t,eI a] (fun r=>.own (lA r)):=Fj f118 0x8204489041049b5904480e7d049b59360447ff04c085fb40dc [] [.tmp 4] (h:=fun r h b c=>by
  unfold Di at h;exact nz)
theorem eY:∀n:Nat,Q_118 n:=by
  intro n
  induction n with
  |zero=>exact(fun t a=>⟨fun _ h=>by cases h⟩)
  |succ n b=>exact eZ n b
instance kX(t:AB)(a:Int):Ct prog (Il t a) 118 [AO t,eI a] (fun r=>.own (lA r)):=⟨fun r h=>by
  obtain ⟨N,b⟩:=CO h;exact((eY N) t a).snd r (b N (bk _))⟩
instance lQ(n:Int)(b:Int)(a:Int):Ct prog (EZ n b a) 151 [eI n,eI b,eI a] (fun r=>.sh (eB r)):=Fj f151 0x818077057702bb [] [.tmp 6] (h:=fun r h c d=>by
  unfold EZ at h;exact nz)
instance nX(l:List ByteArray):Ct prog (G3 l) 259 [lB l] (fun r=>.sh (eI r)):=Fj f259 0x9e039ac8039a04ec03ad86b9b9039a613004ec03acbeb9e730039aacc130e2 [] [.tmp 2] (h:=fun r h c d=>by
  unfold G3 at h;have:HA 0 3 0 0 fun(b:Int)(_:Unit)=>[(3,.tv (eI b))]:=⟨⟩;have:HA 2 4 3 0 fun(a:Int)(_:Unit)=>[(4,.tv (eI a))]:=⟨⟩;exact nz)
instance mI(a:ri):Ct prog (ER a) 192 [Fw a] (fun r=>.sh (eI r)):=Fj f192 0xacc378d5a6555a3789d537378aa15aeda15ac19076ba [] [.tmp 2] (h:=fun r h b c=>by
  unfold ER at h;exact nz)
instance kw(t:AB)(a:Int):Ct prog (ID t a) 135 [AO t,eI a] (fun r=>.sh (eI r)):=Fj f135 0x9e7502ad89facb7502097503ad866c04cb6c04cb75026130097503acbe6c04cbe73075028178d50bd9ca3078d5820e0184be05015a05b10392b104ad86596c049b5905b103613092b104acbe59044b05c9fa9b9ddc [] [.tmp 4] (h:=fun r h e f=>by
  unfold ID at h;have:HA 0 6 1 0 fun(d:Int)(_:Unit)=>[(6,.tv (eI d))]:=⟨⟩;have:HA 2 8 7 0 fun(c:Int)(_:Unit)=>[(8,.tv (eI c))]:=⟨⟩;have:HA 4 9 8 0 fun(b:Int)(_:Unit)=>[(9,.tv (eI b))]:=⟨⟩;exact nz)
instance mJ(b:Int)(a:Int):Ct prog (KS b a) 193 [eI b,eI a] (fun r=>.sh (eB r)):=Fj f193 0xf9b87705300edf [] [.tmp 4] (h:=fun r h c d=>by
  unfold KS at h;exact nz)
instance kz(t:AB)(a:Int):Ct prog (IC t a) 136 [AO t,eI a] (fun r=>.sh (eI r)):=Fj f136 0xac8aa103d80305760aa103d190760aa101eda1015a81785905020292b104ad86596c079b5a050202613092b104acbe59074b06c90744079bbcdc [] [.tmp 4] (h:=fun r h c d=>by
  unfold IC at h;have:HA 0 6 1 0 fun(b:Int)(_:Unit)=>[(6,.tv (eI b))]:=⟨⟩;exact nz)
instance rU(t:AB):Ct prog (DU t) 92 [AO t] (fun r=>.tp [eS r.1,eI r.2]):=Fj f92 0x81bf0006d7adcd6c079b5a650eebe7bc06d7813004d7adcd6c049b59650eeb30919d04d7acbfca5a55f737bfc19d3fba [.mv (.c (.str ⟨#[]⟩)),.mv (.c (.str ⟨#[]⟩)),.mv (.c (.str ⟨#[]⟩)),.mv (.c (.str ⟨#[]⟩))] [.tmp 2,.tmp 3] (h:=fun r h d e=>by
  unfold DU at h;have:HA 0 4 1 0 fun(b:Int)(_:Unit)=>[(4,.tv (eI b))]:=⟨⟩;have:HA 2 6 1 1 fun(a:Int)(_:Unit)=>[(6,.tv (eI a))]:=⟨⟩;exact nz)
instance lO(n:Int):Ct prog (LD n) 149 [eI n] (fun r=>.sh (eB r)):=Fj f149 0x8180a930e2 [] [.tmp 2] (h:=fun r h a b=>by
  unfold LD at h;exact nz)
instance lP(e:Bh)(a:Int):Ct prog (MT e a) 150 [BN e,eI a] (fun r=>.sh (eB r)):=Fj f150 0x818001ed80ed8001bc805a6a9ddc [] [.tmp 4] (h:=fun r h b c=>by
  unfold MT at h;exact nz)
instance kG(g:fq):Ct prog (DV g) 101 [Am g] (fun r=>.sh (eI r)):=Fj f101 0x9e04d7adbef7bd9b5ae7bc04d781303102adbe8d5930919d3102acca5a550b9dba [] [.tmp 2] (h:=fun r h c d=>by
  unfold DV at h;have:HA 0 3 1 0 fun(b:Int)(_:Unit)=>[(3,.tv (eI b))]:=⟨⟩;have:HA 2 4 1 1 fun(a:Int)(_:Unit)=>[(4,.tv (eI a))]:=⟨⟩;exact nz)
instance k8(t:AB)(g:fq):Ct prog (G5 t g) 138 [AO t,Am g] (fun r=>.sh (eB r)):=Fj f138 0x9e065d03adca5a6c039b5a556c039b5ae7bc065d03815d02055d03adca598d59558d595d029159555d03cd96 [] [.tmp 4] (h:=fun r h c d=>by
  unfold G5 at h;have:HA 0 5 3 0 fun(b:Int)(_:Unit)=>[(5,.tv (eI b))]:=⟨⟩;have:HA 2 6 3 1 fun(a:Int)(_:Unit)=>[(6,.tv (eI a))]:=⟨⟩;exact nz)
instance kW(t:AB)(a:Int)(b:Int):Ct prog (Ff t a b) 117 [AO t,eI a,eI b] (fun r=>.sh (eI r)):=Fj f117 0xac8aa1785930a1789d37740172b293b102 [] [.tmp 6] (h:=fun r h c d=>by
  unfold Ff at h;exact nz)
instance rC(t:AB)(a:Int):Ct prog (DT t a) 74 [AO t,eI a] (fun r=>.tp [lA r.1,eI r.2]):=Fj f74 0xe9020701097503c80204480447e4b14a037648907647044b07c9facb07019130097503e90eeb04c03704c08930b20440dc [] [.tmp 4,.tmp 5] (h:=fun r h d e=>by
  unfold DT at h;have:HA 0 9 8 0 fun(c:Int)(b:List ri)=>[(7,.ow (lA b)),(9,.tv (eI c))]:=⟨⟩;exact nz)
instance k9(t:AB)(p:j0)(b:Int)(a:Int):Ct prog (IH t p b a) 139 [AO t,BI p,eI b,eI a] (fun r=>.tp [Fw r.1,eB r.2]):=Fj f139 0x81044bfacb37044b0a46ca7780a95bda8dcc84044b0a46cacca93007c95f5d02 [] [.cell 8 (some 4),.tmp 9] (h:=fun r h c d=>by
  unfold IH at h;exact nz)
instance lC(n:Int):Ct prog (Ks n) 140 [eI n] (fun r=>.sh (eB r)):=Fj f140 0x8180a930e2 [] [.tmp 2] (h:=fun r h a b=>by
  unfold Ks at h;exact nz)
instance nf(n:Int)(t:rg):Ct prog (Jg n t) 265 [eI n,K8 t] (fun r=>.sh (eI r)):=Fj f265 0xacc3bc80bc800159559dba01 [] [.tmp 4] (h:=fun r h a b=>by
  unfold Jg at h;exact nz)
instance mM(n:Int)(a:Test):Ct prog (OG n a) 196 [eI n,Dh a] (fun r=>.sh (eI r)):=Fj f196 0x810e3603763789b27637c359559dba01 [] [.tmp 4] (h:=fun r h b c=>by
  unfold OG at h;exact nz)
instance lD(n:Int)(l:List Test):Ct prog (MS n l) 141 [eI n,lT l] (fun r=>.sh (eI r)):=Fj f141 0x9e05bbad899f054377e7a9bbacc1d9c3a9df [] [.tmp 4] (h:=fun r h b c=>by
  unfold MS at h;have:HA 0 5 1 0 fun(a:Int)(_:Unit)=>[(5,.tv (eI a))]:=⟨⟩;exact nz)
instance lF(p:j0)(a:Int):Ct prog (Lh p a) 142 [BI p,eI a] (fun r=>.sh (eB r)):=Fj f142 0x9e05b103ad85016c0241049ba6e7a655b103cddc [] [.tmp 4] (h:=fun r h c d=>by
  unfold Lh at h;have:HA 0 5 2 2 fun(b:Int)(_:Unit)=>[(5,.tv (eI b))]:=⟨⟩;exact nz)
instance rW(t:AB)(p:j0):Ct prog (EB t p) 94 [AO t,BI p] (fun r=>.sh (eI r)):=Fj f94 0x9e0d5dadbe5544006190760d5dac8903d1d531085d03ad8aa17d027680d56c0276806c0276085b044b0749725a599f36044b08c9fa9ba63191ed085d03acca03d1550ba637c3d555d537beb78489b737740172b296 [] [.tmp 4] (h:=fun r h c d=>by
  unfold EB at h;have:HA 0 8 3 2 fun(b:Int)(_:Unit)=>[(8,.tv (eI b))]:=⟨⟩;have:HA 2 13 3 3 fun(a:Int)(_:Unit)=>[(13,.tv (eI a))]:=⟨⟩;exact nz)
instance lG(t:AB)(p:j0)(a:Int):Ct prog (IJ t p a) 143 [AO t,BI p,eI a] (fun r=>.sh (eI r)):=Fj f143 0x9e0a07040204adc35a7d049ba655596c049ba60061300a07040204acc37d0276807d027680d56c0276806c02760a78015a55bcda5c59cc84cacc595559044b08c9fa9bed5fb1 [] [.tmp 6] (h:=fun r h c d=>by
  unfold IJ at h;have:HA 0 10 2 0 fun(b:Int)(_:Unit)=>[(10,.tv (eI b))]:=⟨⟩;exact nz)
instance rX(t:AB)(a:o4):Ct prog (HF t a) 95 [AO t,CH a] (fun r=>.sh (eI r)):=Fj f95 0x9e065d03ad895544d836e75d410676065d03acc15d41d837ca030441d8559041cf9041d837bef1d88489f1067696 [] [.tmp 4] (h:=fun r h c d=>by
  unfold HF at h;have:HA 0 6 3 8 fun(b:Int)(_:Unit)=>[(6,.tv (eI b))]:=⟨⟩;exact nz)
instance ng(l:Fp)(n:Int):Ct prog (Hi l n) 266 [lI l,eI n] (fun r=>.sh (eI r)):=Fj f266 0x9e05bbadc35c05305c7705d9c3015c7705b9e7a9bb81f6 [] [.tmp 4] (h:=fun r h b c=>by
  unfold Hi at h;have:HA 0 5 0 0 fun(a:Int)(_:Unit)=>[(5,.tv (eI a))]:=⟨⟩;exact nz)
instance ni(l:Fp)(n:Int):Ct prog (MG l n) 267 [lI l,eI n] (fun r=>.sh (eB r)):=Fj f267 0x9e05bbad8501b9e7a9bb81f6 [] [.tmp 4] (h:=fun r h b c=>by
  unfold MG at h;have:HA 0 5 0 0 fun(a:Int)(_:Unit)=>[(5,.tv (eI a))]:=⟨⟩;exact nz)
instance mN(g:fq)(p:At):Ct prog (MU g p) 197 [Am g,Dw p] (fun r=>.sh (eI r)):=Fj f197 0x9e075d03ad8aa1a69da15a59a2fc438d5a5ae7bc075d03ac890b5a5a3789f79d96 [] [.tmp 4] (h:=fun r h b c=>by
  unfold MU at h;have:HA 0 7 3 1 fun(a:Int)(_:Unit)=>[(7,.tv (eI a))]:=⟨⟩;exact nz)
instance lH(g:fq)(p:At):Ct prog (Im g p) 144 [Am g,Dw p] (fun r=>.sh (eI r)):=Fj f144 0x810e368489b296 [] [.tmp 4] (h:=fun r h a b=>by
  unfold Im at h;exact nz)
instance lb(l:Fp)(n:Int):Ct prog (KT l n) 158 [lI l,eI n] (fun r=>.sh (eI r)):=Fj f158 0x9e05bbad018501b9e7a9bb81f6 [] [.tmp 4] (h:=fun r h b c=>by
  unfold KT at h;have:HA 0 5 0 0 fun(a:Int)(_:Unit)=>[(5,.tv (eI a))]:=⟨⟩;exact nz)
instance kV(g:fq)(p:At):Ct prog (Iu g p) 116 [Am g,Dw p] (fun r=>.tp [Am r.1,An r.2.1,eI r.2.2]):=Fj f116 0x70023b817e7e0d4601485aaa01489d473608c4040a08705d06c8014acf034803470c460ea6590e5aea04cfa2fc438d5a5a08c40491bc0a08705d068108705d050908705d06c8014a3201de5c8dea043208705d05919d0908705d068103c9377e7e5e460bee0ea55ec903c996 [] [.cell 4 (some 2),.cell 5 (some 2),.tmp 6] (h:=fun r h e f=>by
  unfold Iu at h;have:HA 0 9 3 0 fun(d:Int)(a:fq)=>[(8,.bx [⟨true,lI a.ff⟩,⟨true,lE a.gt⟩]),(9,.tv (eI d))]:=⟨⟩;have:HA 2 10 3 1 fun(c:Int)(b:fq)=>[(8,.bx [⟨true,lI b.ff⟩,⟨true,lE b.gt⟩]),(10,.tv (eI c))]:=⟨⟩;exact nz)
instance lJ(a:fq)(b:fq)(m:hT):Ct prog (G4 a b m) 145 [Am a,Am b,An m] (fun r=>.sh (eI r)):=Fj f145 0x9e0ac404adc3a65ca659555a5c5a593785eaa2a2e6fc438d5a5abd9b5a37ca5a8d5a558d5ae7bc0ac40481709009c404ad858d595c8dea37ca598d59558d597090919d09c404acca5a0b5a55f7f737898489b2fd [] [.tmp 6] (h:=fun r h e f=>by
  unfold G4 at h;have:HA 0 9 3 0 fun(d:Int)(_:Unit)=>[(9,.tv (eI d))]:=⟨⟩;have:HA 2 10 3 1 fun(c:Int)(_:Unit)=>[(10,.tv (eI c))]:=⟨⟩;exact nz)
instance rY(a:o4):Ct prog (NR a) 96 [CH a] (fun r=>.sh (eI r)):=Fj f96 0x810e360d42f1d8b27ee34903c91172360b42f1cf3789360b42f10176ba [] [.tmp 2] (h:=fun r h b c=>by
  unfold NR at h;exact nz)
instance rZ(l:Fp):Ct prog (Ey l) 97 [lI l] (fun r=>.sh (eB r)):=Fj f97 0x9e039ac8039a04ec03ad85b9b9039a613004ec039e9130039a815e01 [] [.tmp 2] (h:=fun r h c d=>by
  unfold Ey at h;have:HA 0 3 0 0 fun(b:Int)(_:Unit)=>[(3,.tv (eI b))]:=⟨⟩;have:HA 2 4 3 0 fun(a:Int)(_:Unit)=>[(4,.tv (eI a))]:=⟨⟩;exact nz)
instance mO(l:Fp)(n:Int):Ct prog (OH l n) 198 [lI l,eI n] (fun r=>.sh (eB r)):=Fj f198 0x9e05bbad8501b9e7a9bb81f6 [] [.tmp 4] (h:=fun r h b c=>by
  unfold OH at h;have:HA 0 5 0 0 fun(a:Int)(_:Unit)=>[(5,.tv (eI a))]:=⟨⟩;exact nz)
instance lK(n:Int)(l:Fp):Ct prog (LH n l) 146 [eI n,lI l] (fun r=>.own (lI r)):=Fj f146 0x8202050192a7c892a792a73cb1ded7bea9db3092a7cdc001405e02 [] [.tmp 4] (h:=fun r h c d=>by
  unfold LH at h;have:HA 0 6 0 0 fun(b:Int)(a:Fp)=>[(5,.ow (lI a)),(6,.tv (eI b))]:=⟨⟩;exact nz)
instance ra(a:o4):Ct prog (Kt a) 98 [CH a] (fun r=>.tp [lI r.1,lI r.2]):=Fj f98 0x82820e7d0d420b3171d80e6c0d420b6c380676400140ba [] [.tmp 2,.tmp 3] (h:=fun r h b c=>by
  unfold Kt at h;exact nz)
abbrev Q_152(n:Nat):Prop:=∀(t:AB)(a:Int)(b:Int),Ct prog (DK n t a b) 152 [AO t,eI a,eI b] (fun r=>.sh (eB r))
theorem eg(n:Nat)(_ih_152:Q_152 n)(t:AB)(a:Int)(b:Int):Ct prog (DK (n+1) t a b) 152 [AO t,eI a,eI b] (fun r=>.sh (eB r)):=Fj f152 0xf9b8017d049b593655a97793b102 [] [.tmp 6] (h:=fun r h c d=>by
  unfold DK at h;exact nz)
theorem ef:∀n:Nat,Q_152 n:=by
  intro n
  induction n with
  |zero=>exact(fun t a b=>⟨fun _ h=>by cases h⟩)
  |succ n c=>exact eg n c
instance lR(t:AB)(a:Int)(b:Int):Ct prog (E4 t a b) 152 [AO t,eI a,eI b] (fun r=>.sh (eB r)):=⟨fun r h=>by
  obtain ⟨N,c⟩:=CO h;exact((ef N) t a b).snd r (c N (bk _))⟩
instance kI(t:AB)(b:Int)(a:Int)(c:Int):Ct prog (Gg t b a c) 103 [AO t,eI b,eI a,eI c] (fun r=>.sh (eB r)):=Fj f103 0x81b85d41079bbc366a7d079bbc848aa1785aa90e30b2935d0103 [] [.tmp 8] (h:=fun r h d e=>by
  unfold Gg at h;exact nz)
instance rb(t:AB)(g:fq)(a:Fp)(b:Fp):Ct prog (GD t g a b) 99 [AO t,Am g,lI a,lI b] (fun r=>.sh (eB r)):=Fj f99 0x9e0ac404adbe5ca6595c5aea36a2fc43b95ae7300ac40481709009705d05ad83024104435cb9ea7090913009705d05cd5f5d02 [] [.tmp 8] (h:=fun r h e f=>by
  unfold GD at h;have:HA 0 9 2 0 fun(c:Int)(_:Unit)=>[(9,.tv (eI c))]:=⟨⟩;have:HA 2 10 3 0 fun(d:Int)(_:Unit)=>[(10,.tv (eI d))]:=⟨⟩;exact nz)
instance oX(c:hV):Ct prog (Hw c) 307 [AL c] (fun r=>.sh (eB r)):=Fj f307 0x8180904104768078030441d10b5d41d130d6783171d1786c38d1787db50b6c0276ba [] [.tmp 2] (h:=fun r h a b=>by
  unfold Hw at h;exact nz)
instance nj(c:hV):Ct prog (MW c) 268 [AL c] (fun r=>.sh (eB r)):=Fj f268 0x8173785ad681b8a8550b5a190401036019040103d681b8a8550b5ad681b8a8550b5ad6833201ba [] [.tmp 2] (h:=fun r h b d=>by
  unfold MW at h;have:HJ 25 fun(a:Bool)=>[(25,.tv (eB a))]:=⟨⟩;exact nz)
abbrev Q_199(n:Nat):Prop:=∀(c:hV),Ct prog (Cl n c) 199 [AL c] (fun r=>.sh (eB r))
theorem en(n:Nat)(_ih_199:Q_199 n)(c:hV):Ct prog (Cl (n+1) c) 199 [AL c] (fun r=>.sh (eB r)):=Fj f199 0x9e3102adbea8099b5ae7bc3102acbea801ba [] [.tmp 2] (h:=fun r h b d=>by
  unfold Cl at h;have:HA 0 3 1 1 fun(a:Int)(_:Unit)=>[(3,.tv (eI a))]:=⟨⟩;exact nz)
theorem em:∀n:Nat,Q_199 n:=by
  intro n
  induction n with
  |zero=>exact(fun c=>⟨fun _ h=>by cases h⟩)
  |succ n a=>exact en n a
instance mP(c:hV):Ct prog (II c) 199 [AL c] (fun r=>.sh (eB r)):=⟨fun r h=>by
  obtain ⟨N,a⟩:=CO h;exact((em N) c).snd r (a N (bk _))⟩
abbrev Q_200(n:Nat):Prop:=∀(c:hV),Ct prog (C1 n c) 200 [AL c] (fun r=>.tp [eI r.1,eI r.2])
theorem eu(n:Nat)(_ih_200:Q_200 n)(c:hV):Ct prog (C1 (n+1) c) 200 [AL c] (fun r=>.tp [eI r.1,eI r.2]):=Fj f200 0x8c30700270027c85597001030670fbc8302ca9308c72a8099b5a70010391bc0670fb818c30ba [] [.tmp 2,.tmp 3] (h:=fun r h e f=>by
  unfold C1 at h;have:HA 0 6 1 1 fun(d:Int)(a:Int×Int)=>[(4,.tv (eI a.1)),(5,.tv (eI a.2)),(6,.tv (eI d))]:=⟨⟩;have:HJ 33 fun(b:Int)=>[(5,.tv (eI b))]:=⟨⟩;exact nz)
theorem eo:∀n:Nat,Q_200 n:=by
  intro n
  induction n with
  |zero=>exact(fun c=>⟨fun _ h=>by cases h⟩)
  |succ n a=>exact eu n a
instance mQ(c:hV):Ct prog (Iv c) 200 [AL c] (fun r=>.tp [eI r.1,eI r.2]):=⟨fun r h=>by
  obtain ⟨N,a⟩:=CO h;exact((eo N) c).snd r (a N (bk _))⟩
instance lL(c:hV):Ct prog (G9 c) 147 [AL c] (fun r=>.sh (eI r)):=Fj f147 0xacc3a95b8172a837bea801ba [] [.tmp 2] (h:=fun r h a b=>by
  unfold G9 at h;exact nz)
instance nk(p:j0)(a:Int):Ct prog (Lk p a) 269 [BI p,eI a] (fun r=>.sh (eB r)):=Fj f269 0x9e05b103ad85016c0241049ba6e7a655b103cddc [] [.tmp 4] (h:=fun r h c d=>by
  unfold Lk at h;have:HA 0 5 2 2 fun(b:Int)(_:Unit)=>[(5,.tv (eI b))]:=⟨⟩;exact nz)
instance mR(t:AB)(a:Int)(q:j0):Ct prog (HD t a q) 201 [AO t,eI a,BI q] (fun r=>.sh (eI r)):=Fj f201 0x9e750503ad01be554400619076750503cd37899f84850190765f30 [] [.tmp 6] (h:=fun r h c d=>by
  unfold HD at h;have:HA 0 8 5 3 fun(b:Int)(_:Unit)=>[(8,.tv (eI b))]:=⟨⟩;exact nz)
instance mS(a:fq)(b:fq)(m:hT):Ct prog (Jj a b m) 202 [Am a,Am b,An m] (fun r=>.sh (eB r)):=Fj f202 0x81b8bcb859550e36a501fd [] [.tmp 6] (h:=fun r h c d=>by
  unfold Jj at h;exact nz)
abbrev Q_148(n:Nat):Prop:=∀(t:AB)(p:j0)(c:hV),Ct prog (DW n t p c) 148 [AO t,BI p,AL c] (fun r=>.sh (eI r))
theorem ee(n:Nat)(_ih_148:Q_148 n)(t:AB)(p:j0)(c:hV):Ct prog (DW (n+1) t p c) 148 [AO t,BI p,AL c] (fun r=>.sh (eI r)):=Fj f148 0x9e0a07050304ad89a8099b5a9f36e7bc0a07050304810705900705903cb49fd137be36b5f1d1b7378936b5f1d1b737899fd1d5368559b40ac99f01fd [] [.tmp 6] (h:=fun r h b d=>by
  unfold DW at h;have:HA 0 10 5 1 fun(a:Int)(_:Unit)=>[(10,.tv (eI a))]:=⟨⟩;exact nz)
theorem ed:∀n:Nat,Q_148 n:=by
  intro n
  induction n with
  |zero=>exact(fun t p c=>⟨fun _ h=>by cases h⟩)
  |succ n a=>exact ee n a
instance lM(t:AB)(p:j0)(c:hV):Ct prog (LG t p c) 148 [AO t,BI p,AL c] (fun r=>.sh (eI r)):=⟨fun r h=>by
  obtain ⟨N,a⟩:=CO h;exact((ed N) t p c).snd r (a N (bk _))⟩
instance kF(t:AB)(p:j0)(c:hV):Ct prog (HC t p c) 100 [AO t,BI p,AL c] (fun r=>.sh (eI r)):=Fj f100 0x810ea89f8489a837899fb2fd [] [.tmp 6] (h:=fun r h a b=>by
  unfold HC at h;exact nz)
instance ql(t:AB)(a:o4):Ct prog (HE t a) 59 [AO t,CH a] (fun r=>.sh (eI r)):=Fj f59 0x810ea810429fcf84be30f1d83682dae1378aa17d0d76a16c0d423789e13789e184899fcf84be5937740172b296 [] [.tmp 4] (h:=fun r h b c=>by
  unfold HE at h;exact nz)
instance kH(t:AB)(a:Int)(b:Fp):Ct prog (IE t a b) 102 [AO t,eI a,lI b] (fun r=>.sh (eI r)):=Fj f102 0x9e09070203adc35d4104cb5c77057d04cbb9e73009070203acc1f330da0184830241049b5937c1593093b102 [] [.tmp 6] (h:=fun r h d e=>by
  unfold IE at h;have:HA 0 9 7 0 fun(c:Int)(_:Unit)=>[(9,.tv (eI c))]:=⟨⟩;exact nz)
instance qn(t:AB)(a:AF):Ct prog (Eo t a) 60 [AO t,BH a] (fun r=>.tp [eI r.1,eI r.2]):=Fj f60 0x8c000b5d03adcdbe5ca6cc5c5acc5984cdc15a59a2fc9bf2e7f2f35d03815d02095d03ad8130650e8da68dcc365d0291cc01095d03ac81c1cc0ba6378189b73781740172363096 [] [.tmp 4,.tmp 5] (h:=fun r h d e=>by
  unfold Eo at h;have:HA 0 9 3 0 fun(c:Int)(_:Unit)=>[(9,.tv (eI c))]:=⟨⟩;have:HA 2 11 3 1 fun(b:Int)(_:Unit)=>[(11,.tv (eI b))]:=⟨⟩;exact nz)
instance qJ(t:AB)(a:o4)(b:AF):Ct prog (Fk t a b) 34 [AO t,CH a,BH b] (fun r=>.sh (eI r)):=Fj f34 0x815b0172628489e1b2fd [] [.tmp 6] (h:=fun r h c d=>by
  unfold Fk at h;exact nz)
instance kJ(t:AB)(p:fq)(g:fq):Ct prog (Er t p g) 104 [AO t,Am p,Am g] (fun r=>.sh (eI r)):=Fj f104 0xac8aa1a501a1368489848984740172b2fd [] [.tmp 6] (h:=fun r h a b=>by
  unfold Er at h;exact nz)
instance lW(l:Fp):Ct prog (IF l) 155 [lI l] (fun r=>.sh (eB r)):=Fj f155 0x9e039ac8039a04ec03ad85b9b9039a613004ec039e9130039a815e01 [] [.tmp 2] (h:=fun r h c d=>by
  unfold IF at h;have:HA 0 3 0 0 fun(b:Int)(_:Unit)=>[(3,.tv (eI b))]:=⟨⟩;have:HA 2 4 3 0 fun(a:Int)(_:Unit)=>[(4,.tv (eI a))]:=⟨⟩;exact nz)
instance kO(t:AB)(p:fq)(g:fq)(m:hT)(a:Bool):Ct prog (G6 t p g m a) 109 [AO t,Am p,Am g,An m,eB a] (fun r=>.sh (eI r)):=Fj f109 0xac8a0aa1bca159300804020cdd0405adc3a65ca659555a5c5a593785eaa2a2e6fc438d5a5abd9b5a37ca5a8d5a558d5a08040291bc0cdd040581dd04040bdd7006adbe8d595c8dea84ca598d59558d59dd0404919d0bdd7006acca5a0b5a55f70b9d5f5f0401 [] [.tmp 10] (h:=fun r h d e=>by
  unfold G6 at h;have:HA 0 11 8 0 fun(b:Int)(_:Unit)=>[(11,.tv (eI b))]:=⟨⟩;have:HA 2 12 8 1 fun(c:Int)(_:Unit)=>[(12,.tv (eI c))]:=⟨⟩;exact nz)
instance qu(t:AB)(p:fq)(g:fq)(m:hT)(a:Bool):Ct prog (Ep t p g m a) 64 [AO t,Am p,Am g,An m,eB a] (fun r=>.sh (eI r)):=Fj f64 0x810eeba5848936a5015f5f0401 [] [.tmp 10] (h:=fun r h b c=>by
  unfold Ep at h;exact nz)
instance qp(t:AB)(p:j0)(a:AF):Ct prog (Fg t p a) 61 [AO t,BI p,BH a] (fun r=>.sh (eI r)):=Fj f61 0x815b01726284899fb2fd [] [.tmp 6] (h:=fun r h b c=>by
  unfold Fg at h;exact nz)
instance kM(a:rg)(b:Fp):Ct prog (Io a b) 107 [K8 a,lI b] (fun r=>.sh (eI r)):=Fj f107 0xd65a5c9d375a859ddc [] [.tmp 4] (h:=fun r h c d=>by
  unfold Io at h;exact nz)
instance lV(t:rg)(a:Fp):Ct prog (KQ t a) 154 [K8 t,lI a] (fun r=>.tp [eI r.1,eB r.2]):=Fj f154 0x8c055a5c9d3781ca0159555937815a855930dc [] [.tmp 4,.tmp 5] (h:=fun r h b c=>by
  unfold KQ at h;exact nz)
instance kN(a:Test)(b:Fp):Ct prog (MR a b) 108 [Dh a,lI b] (fun r=>.sh (eB r)):=Fj f108 0xf98077059d80770559378a0830085b8172eb03428c7201b276dc [] [.tmp 4] (h:=fun r h c d=>by
  unfold MR at h;exact nz)
instance qt(p:j0)(a:AF)(m:hT):Ct prog (Jo p a m) 63 [BI p,BH a,An m] (fun r=>.tp [lI r.1,eI r.2]):=Fj f63 0xe918086a0890ad01c08820149f059b03d108019103d16a089081085de508c406ad01c08501201436b50cc60908c4080cc60908c408f4f5057db5301401f5f88a0817d4f8555b6cb5815c5a5c5ceaa6044b08c9fa9ba6085d91ede508c40681993fd5993fd53040fd [.uv 1 [.int .i64 0] (.s 16),.uv 1 [.bool false] (.s 19)] [.tmp 6,.tmp 7] (h:=fun r h e f=>by
  unfold Jo at h;have:HA 0 10 3 2 fun(d:Int)(b:Fp×a5)=>[(8,.xo 1 (List.map eI b.1)),(9,.xo 1 (List.map eB b.2)),(10,.tv (eI d))]:=⟨⟩;have:HA 2 14 3 4 fun(c:Int)(_:Unit)=>[(14,.tv (eI c))]:=⟨⟩;exact nz)
instance qv(t:AB)(p:j0)(a:AF)(m:hT):Ct prog (G7 t p a m) 65 [AO t,BI p,BH a,An m] (fun r=>.tp [lI r.1,eI r.2]):=Fj f65 0xe96b0e36629f3701c089a532b78401c089629f3630405f96 [] [.tmp 8,.tmp 9] (h:=fun r h b c=>by
  unfold G7 at h;exact nz)
instance qw(a:Fp)(b:Fp):Ct prog (KA a b) 66 [lI a,lI b] (fun r=>.sh (eB r)):=Fj f66 0x9e05bbad85b9b9e7a9bbacc1f3df [] [.tmp 4] (h:=fun r h d e=>by
  unfold KA at h;have:HA 0 5 0 0 fun(c:Int)(_:Unit)=>[(5,.tv (eI c))]:=⟨⟩;exact nz)
instance rD(g:fq):Ct prog (Jh g) 75 [Am g] (fun r=>.sO [⟨true,lI r.ff⟩,⟨true,lE r.gt⟩]):=Fj f75 0xb13b02503f03485a034701489d4703c9ba [.sZ [.w 6,.w 10]] [.cell 2 (some 2)] (h:=fun r h a b=>by
  unfold Jh at h;exact nz)
instance qx(t:AB)(p:fq)(g:fq)(m:hT):Ct prog (Ez t p g m) 67 [AO t,Am p,Am g,An m] (fun r=>.tp [Am r.1,eI r.2]):=Fj f67 0x817e360b3e0b08020c0b7592c801f55c8d599d1d320b080261151d32010c0b75928102500bc927847ef3ee0ea5a50103c95f96 [] [.cell 8 (some 2),.tmp 9] (h:=fun r h b c=>by
  unfold Ez at h;have:HW 0 fun(a:fq×Int)=>[(11,.bx [⟨true,.xl 1 (List.map eI a.1.ff)⟩,⟨true,.xl 3 (List.map BN a.1.gt)⟩]),(12,.tv (eI a.2))]:=⟨⟩;exact nz)
instance kP(l:fq)(g:fq)(a:At)(m:hT):Ct prog (MV l g a m) 110 [Am l,Am g,Dw a,An m] (fun r=>.sh (eI r)):=Fj f110 0x810e36848936a5015f96 [] [.tmp 8] (h:=fun r h b c=>by
  unfold MV at h;exact nz)
instance lY(l:Fp)(n:Int):Ct prog (FZ l n) 156 [lI l,eI n] (fun r=>.sh (eB r)):=Fj f156 0x9e05bbad8501b9e7a9bb81f6 [] [.tmp 4] (h:=fun r h b c=>by
  unfold FZ at h;have:HA 0 5 0 0 fun(a:Int)(_:Unit)=>[(5,.tv (eI a))]:=⟨⟩;exact nz)
instance kQ(a:Fp)(b:Fp):Ct prog (Gh a b) 111 [lI a,lI b] (fun r=>.own ((eL 2 L4) r)):=Fj f111 0x8202050192a7c892a7fe5e05c8fe5e05fe5e053c0202480247054630028a0aa177a17705b9b992a79130fe5e05d65501913092a78102c002405e02 [] [.tmp 4] (h:=fun r h g i=>by
  unfold Gh at h;have:HA 0 6 0 0 fun(f:Int)(c:List I2)=>[(5,.ow ((eL 2 L4) c)),(6,.tv (eI f))]:=⟨⟩;have:HA 2 7 0 0 fun(e:Int)(d:List I2)=>[(5,.ow ((eL 2 L4) d)),(7,.tv (eI e))]:=⟨⟩;exact nz)
instance kT(a:Fp)(b:Fp):Ct prog (Jl a b) 114 [lI a,lI b] (fun r=>.own (lI r)):=Fj f114 0x8202050192a7c892a792a73cb1deb902bea901913092a7cdc001405e02 [] [.tmp 4] (h:=fun r h e f=>by
  unfold Jl at h;have:HA 0 6 0 0 fun(d:Int)(c:Fp)=>[(5,.ow (lI c)),(6,.tv (eI d))]:=⟨⟩;exact nz)
instance kR(l:fq)(g:fq)(a:At)(m:hT):Ct prog (KB l g a m) 112 [Am l,Am g,Dw a,An m] (fun r=>.own (lI r)):=Fj f112 0x82020901c609070505c8c609070578e50705053cb1ded78ab85d41039b5a300e7d039b5a30a1015a090191bcc609070505e90e599dc00140935f1300 [] [.tmp 8] (h:=fun r h d e=>by
  unfold KB at h;have:HA 0 11 5 1 fun(c:Int)(b:Fp)=>[(9,.ow (lI b)),(11,.tv (eI c))]:=⟨⟩;exact nz)
instance kS(n:Int)(l:Fp):Ct prog (LF n l) 113 [eI n,lI l] (fun r=>.own (lI r)):=Fj f113 0x8202050192a7c892a792a73cb1ded7bea9db3092a7cdc001405e02 [] [.tmp 4] (h:=fun r h c d=>by
  unfold LF at h;have:HA 0 6 0 0 fun(b:Int)(a:Fp)=>[(5,.ow (lI a)),(6,.tv (eI b))]:=⟨⟩;exact nz)
instance qy(l:fq)(g:fq)(a:At)(m:hT):Ct prog (PK l g a m) 68 [Am l,Am g,Dw a,An m] (fun r=>.tp [Dw r.1,eI r.2]):=Fj f68 0x8013b817e0d460e0e5a5a0b5a0e0eeaf737e346c10e36a584e34685780e5a5a0b0eea377e5eee0ea5a55ec95f96 [] [.cell 8 (some 2),.tmp 9] (h:=fun r h b c=>by
  unfold PK at h;exact nz)
instance mW(n:Int)(a:Fp)(m:Fp):Ct prog (Jp n a m) 206 [eI n,lI a,lI m] (fun r=>.own (lI r)):=Fj f206 0x821807010907b104c801f5b9b914070191300907b1048107b10375025e05c819014faa1907b103613075025e05cdce014002bb [] [.tmp 6] (h:=fun r h f g=>by
  unfold Jp at h;have:HA 0 8 0 0 fun(d:Int)(b:Fp)=>[(7,.xo 1 (List.map eI b)),(8,.tv (eI d))]:=⟨⟩;have:HA 2 9 1 0 fun(e:Int)(c:Fp)=>[(7,.xo 1 (List.map eI c)),(9,.tv (eI e))]:=⟨⟩;exact nz)
instance mT(b:Aq)(a:Fp):Ct prog (GR b a) 203 [.pt (Nc b).cells,lI a] (fun r=>.sh (eB r)):=Fj f203 0x9e05bb6055bb05bb8188010705a775925e06c8010a805ceded805cbc5a55ea30a2fc9b7d0471010705a7917d04713075925e068cff05bbca01a6550b015aa2fc9b7d02715e917d0271a9bb81f6 [] [.tmp 4] (h:=fun r h f g=>by
  unfold GR at h;have:HA 0 5 0 3 fun(d:Int)(_:Unit)=>[(5,.tv (eI d))]:=⟨⟩;have:HA 2 8 0 5 fun(c:Int)(e:Bool)=>[(7,.tv (eB e)),(8,.tv (eI c))]:=⟨⟩;exact nz)
instance mV(a:Aq)(l:Fp)(n:Int):Ct prog (CW a l n) 205 [.pt (Nc a).cells,lI l,eI n] (fun r=>.sh (eB r)):=Fj f205 0x9e0702a7ad8501b900ff8a0308713078300702a7cd02bb [] [.tmp 6] (h:=fun r h c d=>by
  unfold CW at h;have:HW 0 fun(b:Int)=>[(7,.tv (eI b))]:=⟨⟩;exact nz)
noncomputable def R8:PC:=PC.of OM f204.body (xq bT 0x1dd025e067cdd025e06dd025e063c005201de304830470132ffdd025e06c35ceded805cbcbc80599d0a2030320180018d7d0697558d7d0697a2fc9b7d0497e2917d049701dd025e0681a2fc9b7d0297ff014a0a71024802470d460148304701483047040a9732c17d02975b0bdb0309970b030a9702bb) []
theorem fQ:CK f204 R8 []:=by decide +kernel
theorem fv:PC.sz R8=true/\PC.sB 0 R8=true:=by decide +kernel
abbrev Q_204(n:Nat):Prop:=∀(b:Aq)(a:Fp)(l:Fp),Ct prog (Bk n b a l) 204 [.undef,lI a,lI l] (fun r=>.bo (BQ b) (BQ r) 0 [])
theorem ex(n:Nat)(_ih_204:Q_204 n)(b:Aq)(a:Fp)(l:Fp):Ct prog (Bk (n+1) b a l) 204 [.undef,lI a,lI l] (fun r=>.bo (BQ b) (BQ r) 0 []):=Th fQ fv fun r h e d f=>by
  unfold R8;unfold f204;unfold Bk at h;have:HW 0 fun(c:Aq×Int)=>[(0,.bx (BQ c.1)),(8,.tv (eI c.2))]:=⟨⟩;exact nz
theorem ew:∀n:Nat,Q_204 n:=by
  intro n
  induction n with
  |zero=>exact(fun a rf l=>⟨fun _ h=>by cases h⟩)
  |succ n b=>exact ex n b
instance mU(b:Aq)(a:Fp)(l:Fp):Ct prog (EJ b a l) 204 [.undef,lI a,lI l] (fun r=>.bo (BQ b) (BQ r) 0 []):=⟨fun r h=>by
  obtain ⟨N,c⟩:=CO h;exact((ew N) b a l).snd r (c N (bk _))⟩
noncomputable def R5:PC:=PC.of OM f153.body (xq bT 0x5504a7605504a770a73c005201de3048304732ff70a78aa18d6c02978d6c0497f13832010a2030320180018d6c0697558d6c0697e2916c04975504a781ff3f0132c16c02975b0b01ff8a08200132550309970b030a975e02) [.tg 204 [.s 32,.s 33,.c (.list 1 [])] 0]
theorem fN:CK f153 R5 []:=by decide +kernel
theorem fo:PC.sz R5=true/\PC.sB 0 R5=true:=by decide +kernel
abbrev Q_153(n:Nat):Prop:=∀(a:Aq)(l:Fp),Ct prog (Bm n a l) 153 [.undef,lI l] (fun r=>.bo (BQ a) (BQ r) 0 [])
theorem ei(n:Nat)(_ih_153:Q_153 n)(a:Aq)(l:Fp):Ct prog (Bm (n+1) a l) 153 [.undef,lI l] (fun r=>.bo (BQ a) (BQ r) 0 []):=Th fN fo fun r h d c e=>by
  unfold R5;unfold f153;unfold Bm at h;have:HW 0 fun(b:Aq×Int)=>[(0,.bx (BQ b.1)),(5,.tv (eI b.2))]:=⟨⟩;exact nz
theorem eh:∀n:Nat,Q_153 n:=by
  intro n
  induction n with
  |zero=>exact(fun a l=>⟨fun _ h=>by cases h⟩)
  |succ n b=>exact ei n b
instance lU(a:Aq)(l:Fp):Ct prog (EK a l) 153 [.undef,lI l] (fun r=>.bo (BQ a) (BQ r) 0 []):=⟨fun r h=>by
  obtain ⟨N,b⟩:=CO h;exact((eh N) a l).snd r (b N (bk _))⟩
instance kK(t:AB)(p:fq)(g:fq)(b:hT)(a:Bool)(d:Int):Ct prog (Hv t p g b a d) 105 [AO t,Am p,Am g,An b,eB a,eI d] (fun r=>.sh ((eL 2 An) r)):=Fj f105 0x82030a71383f3800c2bf0e4630a5a502405f5f7002 [.uc [none,none,none,none,none,none,none,none,none,none,some ⟨true,.list 2 []⟩] (.s 20),.tg 153 [.s 22,.c (.list 1 [])] 0] [.tmp 12] (h:=fun r h e f=>by
  unfold Hv at h;exact nz)
instance nm(l:Fp)(a:Int)(n:Int):Ct prog (Jn l a n) 270 [lI l,eI a,eI n] (fun r=>.sh (eI r)):=Fj f270 0x9e07020003adc3015c7705b9e73007020003ac85f33002bb [] [.tmp 6] (h:=fun r h c d=>by
  unfold Jn at h;have:HA 0 7 0 0 fun(b:Int)(_:Unit)=>[(7,.tv (eI b))]:=⟨⟩;exact nz)
instance mX(t:AB)(p:fq)(g:fq)(b:hT)(a:Bool):Ct prog (GB t p g b a) 207 [AO t,Am p,Am g,An b,eB a] (fun r=>.tp [(eL 2 An) r.1,eI r.2]):=Fj f207 0xe9d902c0c101820eeba58402c0890b5a0b5a5a3702c089f70bea3702c0ca5a0b5a55f7f73702c08936a5d7405f5f0401 [] [.tmp 10,.tmp 11] (h:=fun r h c d=>by
  unfold GB at h;exact nz)
instance rE(a:rg)(b:Fp):Ct prog (Ek a b) 76 [K8 a,lI b] (fun r=>.tp [eI r.1,eI r.2]):=Fj f76 0x8c0e018481ca0159555930dc [] [.tmp 4,.tmp 5] (h:=fun r h c d=>by
  unfold Ek at h;exact nz)
instance mY(q:j0)(b:AF)(m:hT)(a:Fp):Ct prog (Lj q b m a) 208 [BI q,BH b,An m,lI a] (fun r=>.tp [lI r.1,eB r.2]):=Fj f208 0xe9180a01120a0403ad01c08a8077059d807705595b6b0120143603425b6b012014b242b40cc99f059b03d10a0191030476120a0403f904020dc6067006ad01c08577816b01201436b50f0e0dc60670080f0e0dc6067008f4f501f5057d02766cb5146cb5148a0817d46cb514556cb5815c5a5c5ceaa6044b08c9fa9ba60a040291ed0dc606700681c60670050cc606c407c80cc606c4070cc606c4073c19014faa19c177f5787714c60670056190760cc606c40781993fd599014f30563040935f31 [.uv 1 [.bool false] (.s 28)] [.tmp 8,.tmp 9] (h:=fun r h i j=>by
  unfold Lj at h;have:HA 0 12 4 3 fun(g:Int)(c:Fp×a5)=>[(10,.xo 1 (List.map eI c.1)),(11,.xo 1 (List.map eB c.2)),(12,.tv (eI g))]:=⟨⟩;have:HA 2 13 4 2 fun(f:Int)(d:Fp×a5)=>[(10,.xo 1 (List.map eI d.1)),(11,.xo 1 (List.map eB d.2)),(13,.tv (eI f))]:=⟨⟩;have:HA 4 18 4 4 fun(e:Int)(_:Unit)=>[(18,.tv (eI e))]:=⟨⟩;exact nz)
instance lZ(t:AB)(c:hV)(b:AF)(m:AM)(a:Bool):Ct prog (D4 t c b m a) 157 [AO t,AL c,BH b,BC m,eB a] (fun r=>.tp [(eL 3 BC) r.1,eI r.2]):=Fj f157 0xe902100111100e0cddc811100e0cdd11100e0cdd3c02034803470f46eb02cb028cdaa63602cb629f1001913011100e0cdd8103c03703c074da01a532b736e3c90d460ef27db50bf20ecc6cb50bccb40ac99f047603405f5f0401 [] [.tmp 10,.tmp 11] (h:=fun r h f g=>by
  unfold D4 at h;have:HA 0 17 14 0 fun(e:Int)(d:List AM)=>[(16,.ow ((eL 3 BC) d)),(17,.tv (eI e))]:=⟨⟩;exact nz)
abbrev Q_115(n:Nat):Prop:=∀(t:AB)(c:hV)(b:AF)(m:AM)(a:Bool),Ct prog (Cb n t c b m a) 115 [AO t,AL c,BH b,BC m,eB a] (fun r=>.tp [DA r.1,eI r.2])
theorem eX(n:Nat)(_ih_115:Q_115 n)(t:AB)(c:hV)(e:AF)(m:AM)(a:Bool):Ct prog (Cb (n+1) t c e m a) 115 [AO t,AL c,BH e,BC m,eB a] (fun r=>.tp [DA r.1,eI r.2]):=Fj f115 0x81b4104673b410460a0117150a07067007c8ff0a013b81b401124605479fbdcb65b40df001bdcb62a809435a360a01913017150a07067007acb40110eeda016262a836d681b410460a01120add7007adb401114605479f74b40df0016262a8099b5a360a0191bc120add70078c0581b49f0e0a020f0e0add7008c8014ad1054805479f04d137b40110eeb40df0016262a8099b5a360e0a0291bc0f0e0add7008d6500dc93fd681b401104637b4104685d9b410eeb40d4972016262a809435a36d68332010dc95f5f0401 [.sZ [.z ⟨false,.int .i64 0⟩,.z ⟨true,.list 1 []⟩,.z ⟨true,.list 1 []⟩,.z ⟨true,.list 1 []⟩,.z ⟨true,.list 5 []⟩]] [.cell 10 (some 5),.tmp 11] (h:=fun r h k l=>by
  unfold Cb at h;have:HA 1 15 6 1 fun(i:Int)(b:BE×BE)=>[(10,.bx [⟨false,eI b.1.ta⟩,⟨true,lI b.1.ru.hT.ff⟩,⟨true,lI b.1.ru.hT.gt⟩,⟨true,lI b.1.ru.q0⟩,⟨true,FG b.1.rq⟩]),(14,.bx [⟨false,eI b.2.ta⟩,⟨true,lI b.2.ru.hT.ff⟩,⟨true,lI b.2.ru.hT.gt⟩,⟨true,lI b.2.ru.q0⟩,⟨true,FG b.2.rq⟩]),(15,.tv (eI i))]:=⟨⟩;have:HA 3 18 6 1 fun(j:Int)(d:BE)=>[(10,.bx [⟨false,eI d.ta⟩,⟨true,lI d.ru.hT.ff⟩,⟨true,lI d.ru.hT.gt⟩,⟨true,lI d.ru.q0⟩,⟨true,FG d.rq⟩]),(18,.tv (eI j))]:=⟨⟩;have:HA 5 23 21 0 fun(g:Int)(f:BE)=>[(10,.bx [⟨false,eI f.ta⟩,⟨true,lI f.ru.hT.ff⟩,⟨true,lI f.ru.hT.gt⟩,⟨true,lI f.ru.q0⟩,⟨true,FG f.rq⟩]),(23,.tv (eI g))]:=⟨⟩;exact nz)
theorem eW:∀n:Nat,Q_115 n:=by
  intro n
  induction n with
  |zero=>exact(fun t c a m kq=>⟨fun _ h=>by cases h⟩)
  |succ n b=>exact eX n b
instance kU(t:AB)(c:hV)(b:AF)(m:AM)(a:Bool):Ct prog (KU t c b m a) 115 [AO t,AL c,BH b,BC m,eB a] (fun r=>.tp [DA r.1,eI r.2]):=⟨fun r h=>by
  obtain ⟨N,d⟩:=CO h;exact((eW N) t c b m a).snd r (d N (bk _))⟩
instance qz(t:AB)(c:hV)(b:AF)(m:AM)(a:Bool):Ct prog (G8 t c b m a) 69 [AO t,AL c,BH b,BC m,eB a] (fun r=>.tp [eB r.1,eI r.2]):=Fj f69 0x8c55d98165b40d4972016262a836305f5f0401 [] [.tmp 10,.tmp 11] (h:=fun r h d e=>by
  unfold G8 at h;exact nz)
instance qL(t:AB)(a:o4)(b:AF)(m:AM):Ct prog (E0 t a b m) 36 [AO t,CH a,BH b,BC m] (fun r=>.tp [Dw r.1,eI r.2]):=Fj f36 0x817eeb0d0b08030d0b0803f48a08a9308172030f426262a81042847e5e468530e3f0b7360b42b7847e5e4685307e03f0b7b7f1cf84e346beed377e5eeedab7629fcf84e346850e030f42b7b7f1cf365ec95f96 [] [.cell 8 (some 2),.tmp 9] (h:=fun r h d e=>by
  unfold E0 at h;have:HJ 95 fun(c:Int)=>[(11,.tv (eI c))]:=⟨⟩;exact nz)
instance q8(t:AB)(a:AF)(p:At):Ct prog (FH t a p) 70 [AO t,BH a,Dw p] (fun r=>.tp [BH r.1,eI r.2]):=Fj f70 0x81a2620d06020e0d0b060405c8014a0276de01485c8d59ed4704b50d060291596a0d0b0604058103500ec93f84a20113ee7ee3c903c91172a53237a20113ee017262366ac9fd [.sZ [.v (.s 37) 0 2,.v (.s 37) 1 2,.z ⟨true,.list 1 []⟩]] [.cell 6 (some 3),.tmp 7] (h:=fun r h c d=>by
  unfold FH at h;have:HW 0 fun(b:AF×Int)=>[(13,.bx [⟨false,lI b.1.fq.ff⟩,⟨false,lE b.1.fq.gt⟩,⟨true,(eL 1 lI) b.1.ne⟩]),(14,.tv (eI b.2))]:=⟨⟩;exact nz)
instance rA(l:Fp)(n:Int):Ct prog (LE l n) 72 [lI l,eI n] (fun r=>.own (lI r)):=Fj f72 0x8218050192a7c892a7fe5e05c8fe5e05fe5e05f4f530148501b992a79130fe5e058119014faa1905db3092a7cdce01405e02 [] [.tmp 4] (h:=fun r h e f=>by
  unfold LE at h;have:HA 0 6 1 0 fun(c:Int)(a:Fp)=>[(5,.xo 1 (List.map eI a)),(6,.tv (eI c))]:=⟨⟩;have:HA 2 7 0 0 fun(b:Int)(d:Fp)=>[(5,.xo 1 (List.map eI d)),(7,.tv (eI b))]:=⟨⟩;exact nz)
instance q9(n:Int)(a:Fp):Ct prog (Jq n a) 71 [eI n,lI a] (fun r=>.own (lI r)):=Fj f71 0x820e77405e02 [] [.tmp 4] (h:=fun r h b c=>by
  unfold Jq at h;exact nz)
instance qM(t:AB)(a:AF)(d:At):Ct prog (FJ t a d) 37 [AO t,BH a,Dw d] (fun r=>.tp [BH r.1,An r.2]):=Fj f37 0x706023b7ea20d460e5a0bf20e590bcc6201a20ef036623600c90ec9fd [] [.cell 6 (some 3),.cell 7 (some 2)] (h:=fun r h b c=>by
  unfold FJ at h;exact nz)
instance qN(a:Fp)(b:Fp):Ct prog (IK a b) 38 [lI a,lI b] (fun r=>.own (lI r)):=Fj f38 0x8202050192a7c8b1de5c5c77020501913092a7cdc001405e02 [] [.tmp 4] (h:=fun r h e f=>by
  unfold IK at h;have:HA 0 6 0 0 fun(d:Int)(c:Fp)=>[(5,.ow (lI c)),(6,.tv (eI d))]:=⟨⟩;exact nz)
instance qO(c:Fp)(d:Fp)(b:Int)(e:Fp)(a:Int):Ct prog (Iw c d b e a) 39 [lI c,lI d,eI b,lI e,eI a] (fun r=>.own (lI r)):=Fj f39 0x82020c01b30be80007c8b30be800077cb1ded7b30be800073cb1de5c5cb9300285b90cdb30b30be80007cdc0820e7740e85e05 [] [.tmp 10] (h:=fun r h i j=>by
  unfold Iw at h;have:HA 0 13 2 0 fun(g:Int)(f:Int×Fp)=>[(4,.tv (eI f.1)),(12,.ow (lI f.2)),(13,.tv (eI g))]:=⟨⟩;exact nz)
instance rB(a:Fp)(b:Int):Ct prog (Ix a b) 73 [lI a,eI b] (fun r=>.sh (eB r)):=Fj f73 0x9e05bbad8501b9e7a9bb81f6 [] [.tmp 4] (h:=fun r h d e=>by
  unfold Ix at h;have:HA 0 5 0 0 fun(c:Int)(_:Unit)=>[(5,.tv (eI c))]:=⟨⟩;exact nz)
noncomputable def Xl:PC:=PC.of OM f40.body (xq bT 0x35003530806020f09759206c80f097592060f09759206f44a014132034803470c465ca6595c5aea04014132a2fc9b5a8e017d0d4208060291bc0f097592068109759205e5dd70077ce5dd7007e5dd70073c1fb521221923b50de5dd70a10dc609dd700ac819014faa7d04cb190de5dd700891300e0dc609dd700acdce01da8d59b24a383201de8d59043832ffe5dd7007be016c0d4209759205919de5dd7007817e03c9f1d80fc993ab96) []
theorem jJ:CK f40 Xl [.cell 8 (some 3)]:=by decide +kernel
theorem jT:PC.sz Xl=true:=by decide +kernel
instance qP(t:AB)(b:o4)(a:AF)(c:hT):Ct prog (IL t b a c) 40 [AO t,CH b,.agg [.undef,.undef,.undef],An c] (fun r=>.ag [⟨true,lI a.fq.ff⟩,⟨true,lE a.fq.gt⟩,⟨true,.xn (List.map lI a.ne)⟩] 2 (.sO [⟨true,lI r.fq.ff⟩,⟨true,lE r.fq.gt⟩,⟨true,.xn (List.map lI r.ne)⟩])):=iT jJ jT fun r h j i k=>by
  unfold Xl;unfold f40;unfold IL at h;have:HW 0 fun(e:AF×Int)=>[(6,.bx [⟨true,lI e.1.fq.ff⟩,⟨true,lE e.1.fq.gt⟩,⟨true,.xn (List.map lI e.1.ne)⟩]),(10,.tv (eI e.2))]:=⟨⟩;have:HA 2 14 11 0 fun(g:Int)(f:Fp)=>[(13,.xo 1 (List.map eI f)),(14,.tv (eI g))]:=⟨⟩;have:HW 4 fun(d:AF×Int)=>[(6,.bx [⟨true,lI d.1.fq.ff⟩,⟨true,lE d.1.fq.gt⟩,⟨true,.xn (List.map lI d.1.ne)⟩]),(15,.tv (eI d.2))]:=⟨⟩;exact nz
instance qQ(a:AF):Ct prog (Lg a) 41 [BH a] (fun r=>.sO [⟨true,lI r.fq.ff⟩,⟨true,lE r.fq.gt⟩,⟨true,.xn (List.map lI r.ne)⟩]):=Fj f41 0x35003535d02e8fbc81fb52122014f8ded5623b55d0291ede8fb8103500fc93f1bb70fc9ba [.sZ [.g 7 0 2,.g 7 1 2,.z ⟨true,.xn []⟩]] [.cell 2 (some 3)] (h:=fun r h d e=>by
  unfold Lg at h;have:HA 0 4 1 2 fun(c:Int)(b:AF)=>[(3,.bx [⟨true,lI b.fq.ff⟩,⟨true,lE b.fq.gt⟩,⟨true,.xn (List.map lI b.ne)⟩]),(4,.tv (eI c))]:=⟨⟩;exact nz)
noncomputable def Xm:PC:=PC.of OM f42.body (xq bT 0x81a262073e0a0702130c0a757007c82624017d04cb25240123b537a21346c35d4104437d044377a97d04437d04437730da8dcc36815c6c04cb595b72eb024104cb0a07029130130c0a757007810c0a757006b30a757007c8b30a757007100eb30a757009ada21346c377807d04cb7d044377055c6c04cb595c6c04cb595b72eb024104cbb30a7570076130100eb30a757009815b72eb024104cb0c0a7570069130b30a757007e95d41d86ac993ab5f0401) []
theorem jK:CK f42 Xm [.cell 10 (some 3),.tmp 11]:=by decide +kernel
theorem jU:PC.sz Xm=true:=by decide +kernel
instance qR(t:AB)(e:o4)(a:AF)(c:hT)(b:Fp):Ct prog (JG t e a c b) 42 [AO t,CH e,.agg [.undef,.undef,.undef],An c,lI b] (fun r=>.ag [⟨true,lI a.fq.ff⟩,⟨true,lE a.fq.gt⟩,⟨true,.xn (List.map lI a.ne)⟩] 2 (.tp [BH r.1,eI r.2])):=iT jK jU fun r h m l n=>by
  unfold Xm;unfold f42;unfold JG at h;have:HA 0 13 12 0 fun(i:Int)(f:AF)=>[(10,.bx [⟨true,lI f.fq.ff⟩,⟨true,lE f.fq.gt⟩,⟨true,(eL 1 lI) f.ne⟩]),(13,.tv (eI i))]:=⟨⟩;have:HA 2 16 13 0 fun(k:Int)(g:AF)=>[(10,.bx [⟨true,lI g.fq.ff⟩,⟨true,lE g.fq.gt⟩,⟨true,(eL 1 lI) g.ne⟩]),(16,.tv (eI k))]:=⟨⟩;have:HA 4 19 12 0 fun(j:Int)(d:AF×AF)=>[(7,.bx [⟨true,lI d.1.fq.ff⟩,⟨true,lE d.1.fq.gt⟩,⟨true,.xn (List.map lI d.1.ne)⟩]),(10,.bx [⟨true,lI d.2.fq.ff⟩,⟨true,lE d.2.fq.gt⟩,⟨true,(eL 1 lI) d.2.ne⟩]),(19,.tv (eI j))]:=⟨⟩;exact nz
instance p5(t:AB)(a:o4)(b:AF)(m:AM):Ct prog (Fh t a b m) 21 [AO t,CH a,BH b,BC m] (fun r=>.tp [Bp r.1,eI r.2]):=Fj f21 0x81264b1546a5626262e137264b1446caf2550bcc37264bf8468530a26bd757a6360353e1360d013b03500257361b62e136e3c90d460e0b5a5a0b3171d87d0d427d0b420e0bea0b6c38d86c0d426c0b42e3c90d460e5af20e59cc7ea200c90ff0366284264bf8eee3f06262e184264bf8ee0e62e1b210c95f96 [] [.cell 8 (some 38),.tmp 9] (h:=fun r h c d=>by
  unfold Fh at h;exact nz)
instance kL(p:fq):Ct prog (IG p) 106 [Am p] (fun r=>.sh (An r)):=Fj f106 0x7e36033e5d02055d03c801f5011dcf5d0261151dcf555d03815d02e803c801f5011d325d0261151d3201e80381025011c93f3f0b5a3ff700c9ba [.uv 1 [.int .i64 0] (.s 8),.uv 1 [.int .i64 0] (.s 12),.sZ [.w 9,.w 13]] [.cell 2 (some 2)] (h:=fun r h c d=>by
  unfold IG at h;have:HW 0 fun(a:hT×Int)=>[(3,.bx [⟨true,.xl 1 (List.map eI a.1.ff)⟩,⟨true,.xl 1 (List.map eI a.1.gt)⟩]),(4,.tv (eI a.2))]:=⟨⟩;have:HW 2 fun(b:hT×Int)=>[(3,.bx [⟨true,.xl 1 (List.map eI b.1.ff)⟩,⟨true,.xl 1 (List.map eI b.1.gt)⟩]),(5,.tv (eI b.2))]:=⟨⟩;exact nz)
instance qr(t:AB)(p:fq)(g:fq)(a:Bool):Ct prog (JF t p g a) 62 [AO t,Am p,Am g,eB a] (fun r=>.tp [(eL 2 An) r.1,eI r.2]):=Fj f62 0xe9d902c0c101820e6a36a58402c08936a5d740935f31 [] [.tmp 8,.tmp 9] (h:=fun r h b c=>by
  unfold JF at h;exact nz)
instance qK(t:AB)(p:j0)(b:AF)(a:Bool):Ct prog (FI t p b a) 35 [AO t,BI p,BH b,eB a] (fun r=>.tp [(eL 3 BC) r.1,eI r.2]):=Fj f35 0xe9020d6a0d0b9205c80e0d0b92050e0d0b92053c02034803470f46eb02cb0265da3602cb629f0d0191300e0d0b92058103c03703c074da01b7b78403c089629fb20340935f31 [] [.tmp 8,.tmp 9] (h:=fun r h e f=>by
  unfold FI at h;have:HA 0 14 11 0 fun(d:Int)(c:List AM)=>[(13,.ow ((eL 3 BC) c)),(14,.tv (eI d))]:=⟨⟩;exact nz)
instance p0(t:AB)(a:o4)(b:AF):Ct prog (D5 t a b) 20 [AO t,CH a,BH b] (fun r=>.tp [(eL 3 BC) r.1,eI r.2]):=Fj f20 0xe9020b010c0b09c406c80c0b09c4060c0b09c4063c0203480347bdcb0265264b104972bdcb62e1360b0191300c0b09c4068103c03703c074da030f42629fcf8403c08962e1b20340fd [] [.tmp 6,.tmp 7] (h:=fun r h e f=>by
  unfold D5 at h;have:HA 0 12 9 0 fun(d:Int)(c:List AM)=>[(11,.ow ((eL 3 BC) c)),(12,.tv (eI d))]:=⟨⟩;exact nz)
instance pi(t:AB)(b:o4)(c:AF)(a:Int):Ct prog (HH t b c a) 11 [AO t,CH b,BH c,eI a] (fun r=>.own ((eL 38 Bp) r)):=Fj f11 0x82020b010c0b0906c407c80226482647e0b1264b10f0bdcb62e1360b01ffc37778300c0b0906c4078126c001da62e1362640935f31 [] [.tmp 8] (h:=fun r h e f=>by
  unfold HH at h;have:HW 0 fun(d:List AT×Int)=>[(11,.ow ((eL 38 Bp) d.1)),(12,.tv (eI d.2))]:=⟨⟩;exact nz)
instance pw(g:fq):Ct prog (MF g) 16 [Am g] (fun r=>.sh (eB r)):=Fj f16 0xf9785a550b9dba [] [.tmp 2] (h:=fun r h a b=>by
  unfold MF at h;exact nz)
instance c5(a:AF):Ct prog (JE a) 5 [BH a] (fun r=>.sh (eB r)):=Fj f5 0x9e3102adc18da6e7ed3102accaeda1b701ba [] [.tmp 2] (h:=fun r h c d=>by
  unfold JE at h;have:HA 0 3 1 2 fun(b:Int)(_:Unit)=>[(3,.tv (eI b))]:=⟨⟩;exact nz)
instance pz(a:Fp)(b:Fp):Ct prog (Ew a b) 19 [lI a,lI b] (fun r=>.sh (eB r)):=Fj f19 0x9e05bbad85b9b9e7a9bbacc1f3df [] [.tmp 4] (h:=fun r h d e=>by
  unfold Ew at h;have:HA 0 5 0 0 fun(c:Int)(_:Unit)=>[(5,.tv (eI c))]:=⟨⟩;exact nz)
instance qH(a:fq)(b:fq):Ct prog (Ji a b) 32 [Am a,Am b] (fun r=>.sh (eB r)):=Fj f32 0x9e055d03adbfbd9b5abd9b5ae75a555d03acca5a0bbca1599d96 [.bin (.a [0,0,0]) .neq (.s 32) (.s 37)] [.tmp 4] (h:=fun r h d e=>by
  unfold Ji at h;have:HA 0 5 2 1 fun(c:Int)(_:Unit)=>[(5,.tv (eI c))]:=⟨⟩;exact nz)
instance qI(a:Fp)(b:Fp):Ct prog (Gu a b) 33 [lI a,lI b] (fun r=>.sh (eI r)):=Fj f33 0x8178f3f605bbad05b9b985b95cdfffca7778a9bb81f6 [] [.tmp 4] (h:=fun r h d e=>by
  unfold Gu at h;have:HW 0 fun(c:Int)=>[(5,.tv (eI c))]:=⟨⟩;exact nz)
instance py(a:AF)(b:AF):Ct prog (Jm a b) 18 [BH a,BH b] (fun r=>.sh (eB r)):=Fj f18 0x9e055d03ad850e8da68da6e7a6555d03accaa60beda1b7b70196 [] [.tmp 4] (h:=fun r h d e=>by
  unfold Jm at h;have:HA 0 5 2 2 fun(c:Int)(_:Unit)=>[(5,.tv (eI c))]:=⟨⟩;exact nz)
instance c7(a:AT)(b:AT):Ct prog (GE a b) 7 [Bp a,Bp b] (fun r=>.tp [Dw r.1,eI r.2]):=Fj f7 0x817e360804020a75e806c80a75e8060a75e806f44a0176defbcfc38d7d2242558d7d224208040261300a75e8068175e80509dde807c809dde80709dde807f44a3201defb32c38d6c2242558d6c224275e805613009dde8079ec937e346c3f37d227680f37d227680f36c227680f36c2276a1621c42621c428c0b31711c420b6c381c425ec996 [] [.cell 4 (some 2),.tmp 5] (h:=fun r h g i=>by
  unfold GE at h;have:HA 0 9 6 0 fun(f:Int)(c:At)=>[(8,.bx [⟨true,lI c.ff⟩,⟨true,lI c.gt⟩]),(9,.tv (eI f))]:=⟨⟩;have:HA 2 10 7 0 fun(e:Int)(d:At)=>[(8,.bx [⟨true,lI d.ff⟩,⟨true,lI d.gt⟩]),(10,.tv (eI e))]:=⟨⟩;exact nz)
instance c8(p:At)(q:At):Ct prog (Jk p q) 8 [Dw p,Dw q] (fun r=>.sh (eB r)):=Fj f8 0x81b85a5a6a599d96 [] [.tmp 4] (h:=fun r h a b=>by
  unfold Jk at h;exact nz)
end Go.Sf.Sc
