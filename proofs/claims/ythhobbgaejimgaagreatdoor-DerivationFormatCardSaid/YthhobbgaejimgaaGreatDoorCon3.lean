/- Contracts of the functions. -/
import Derived.Test.YthhobbgaejimgaaGreatDoorCon0
import Derived.Test.YthhobbgaejimgaaGreatDoorTryzShelf
import Derived.Test.YthhobbgaejimgaaGreatDoorFo
set_option linter.all false
set_option maxRecDepth 100000
set_option maxHeartbeats 4000000
namespace Go.Sf.Sc
open Go Go.Sf Go.Proofs.Tryz
instance pA:Ct prog (Gd ) 12 [] (fun r=>.sq [⟨true,lN r.fq⟩,⟨true,lX r.jj⟩]):=Fj f12 0x2503f07473f3f04473f3f04473f3f3f3f04473f00c900 [.tQ [.str ⟨#[]⟩,.int .i64 0,.int .i64 0,.list 1 []] [(0,1,.c (.str ⟨#[98,97,108,97,110,99,101]⟩)),(1,1,.c (.int .i64 (-1000))),(2,1,.c (.int .i64 1000))],.tQ [.str ⟨#[]⟩,.int .i64 0,.bool false,.list 4 []] [(0,1,.c (.str ⟨#[65,99,99,111,117,110,116]⟩)),(1,1,.c (.int .i64 (-1))),(2,1,.c (.bool true)),(3,1,.s 2)],.tQ [.str ⟨#[]⟩,.int .i64 0,.bool false,.list 4 []] [(0,1,.c (.str ⟨#[67,97,115,104]⟩)),(1,1,.c (.int .i64 0))],.uc 1 [.c (.str ⟨#[111,112,101,110]⟩),.c (.str ⟨#[99,108,111,115,101,100]⟩)],.tQ [.str ⟨#[]⟩,.int .i64 0,.int .i64 0,.list 1 []] [(0,1,.c (.str ⟨#[115,116,97,116,101]⟩)),(2,1,.c (.int .i64 1)),(3,1,.s 5)],.tQ [.str ⟨#[]⟩,.int .i64 0,.bool false,.list 4 []] [(0,1,.c (.str ⟨#[76,111,97,110]⟩)),(1,1,.c (.int .i64 0)),(3,1,.s 7)],.tQ [.str ⟨#[]⟩,.int .i64 0,.bool false,.list 4 []] [(0,1,.c (.str ⟨#[80,101,114,115,111,110]⟩)),(1,1,.c (.int .i64 (-1)))],.tQ [.str ⟨#[]⟩,.int .i64 0,.int .i64 0,.int .i64 0,.int .i64 0,.int .i64 0,.int .i64 0] [(0,1,.c (.str ⟨#[111,119,110,115]⟩)),(1,1,.c (.int .i64 3)),(2,1,.c (.int .i64 0)),(4,1,.c (.int .i64 (-1))),(5,1,.c (.int .i64 1)),(6,1,.c (.int .i64 1))],.tQ [.str ⟨#[]⟩,.int .i64 0,.int .i64 0,.int .i64 0,.int .i64 0,.int .i64 0,.int .i64 0] [(0,1,.c (.str ⟨#[112,97,121,115]⟩)),(1,1,.c (.int .i64 1)),(2,1,.c (.int .i64 1)),(4,1,.c (.int .i64 (-1))),(6,1,.c (.int .i64 (-1)))],.sF [.w 10,.w 13]] [.cell 0 (some 2)] (h:=fun r h a b=>by
  unfold Gd at h;exact nz)
instance pu(g:hT):Ct prog (K4 g) 45 [BI g] (fun r=>.sh (eB r)):=Fj f45 0xc3e953b17f00 [] [.tmp 2] (h:=fun r h a b=>by
  unfold K4 at h;exact nz)
instance pE(a:AM):Ct prog (IK a) 15 [CM a] (fun r=>.sh (eB r)):=Fj f15 0xa13102a2b70bb680f38001310281f080017dc67f00 [] [.tmp 2] (h:=fun r h c d=>by
  unfold IK at h;have:HA 0 3 1 2 fun(b:Int)(_:Unit)=>[(3,.tv (eI b))]:=⟨⟩;exact nz)
instance qF(m:gt)(n:Int):Ct prog (K5 m n) 61 [Ba m,eI n] (fun r=>.sh (eB r)):=Fj f61 0x9f53e9b1d5 [] [.tmp 4] (h:=fun r h a b=>by
  unfold K5 at h;exact nz)
instance pL(m:AP)(n:Int):Ct prog (Es m n) 22 [Bk m,eI n] (fun r=>.sh (eB r)):=Fj f22 0xc3de80699e32d5 [] [.tmp 4] (h:=fun r h a b=>by
  unfold Es at h;exact nz)
instance c6(d:AL)(a:Int):Ct prog (Ji d a) 6 [BF d,eI a] (fun r=>.sh (eB r)):=Fj f6 0xa1050202a2f5650141c184f38453020281fede84017d6532d5 [] [.tmp 4] (h:=fun r h c e=>by
  unfold Ji at h;have:HA 0 5 2 3 fun(b:Int)(_:Unit)=>[(5,.tv (eI b))]:=⟨⟩;exact nz)
instance pv(g:hT):Ct prog (Ij g) 46 [BI g] (fun r=>.sq [⟨true,lI r.fq⟩,⟨true,lE r.jj⟩]):=Fj f46 0x2013b02503f03485c0347c457ac09c9d9 [.sF [.w 6,.w 10]] [.cell 2 (some 2)] (h:=fun r h a b=>by
  unfold Ij at h;exact nz)
instance pF(a:AM):Ct prog (Ey a) 16 [CM a] (fun r=>.sh (CM r)):=Fj f16 0x97655b02045ba6a2a7a5f6c4b680ac04a55b02cc80a65ba681035001c93f1bc601c9d9 [.sF [.g 7 0 2,.g 7 1 2,.z ⟨true,.list 1 []⟩]] [.cell 2 (some 3)] (h:=fun r h d e=>by
  unfold Ey at h;have:HA 0 4 1 2 fun(c:Int)(b:AM)=>[(3,.bx [⟨true,lI b.hT.fq⟩,⟨true,lE b.hT.jj⟩,⟨true,(eL 1 lI) b.og⟩]),(4,.tv (eI c))]:=⟨⟩;exact nz)
instance pO(m:AP):Ct prog (Gk m) 28 [Bk m] (fun r=>.sh (Bk r)):=Fj f28 0x2013b970846c480ac0446c49232acc4d4ac11c9d9 [] [.cell 2 (some 3)] (h:=fun r h a b=>by
  unfold Gk at h;exact nz)
instance c8(d:AL):Ct prog (HK d) 8 [BF d] (fun r=>.sh (BF r)):=Fj f8 0x9b9d5b02045ba6a2a703420448044711460e0359015ac1846dc184f2425b02cc84a65ba681045014c93ffc3214c9d9 [.sF [.v (.s 7) 0 3,.v (.s 7) 1 3,.v (.s 7) 2 3,.z ⟨true,.list 4 []⟩]] [.cell 2 (some 4)] (h:=fun r h c e=>by
  unfold HK at h;have:HA 0 4 1 3 fun(b:Int)(a:AL)=>[(3,.bx [⟨false,lI a.rn.hT.fq⟩,⟨false,lE a.rn.hT.jj⟩,⟨false,(eL 1 lI) a.rn.og⟩,⟨true,(eL 4 Dp) a.po⟩]),(4,.tv (eI b))]:=⟨⟩;exact nz)
instance pP(l:Fp)(b:Int)(a:Int):Ct prog (FZ l b a) 29 [lI l,eI b,eI a] (fun r=>.sh (eB r)):=Fj f29 0xa1d2b5a2fe0160ec01c8f330d2b58191bb [] [.tmp 6] (h:=fun r h d e=>by
  unfold FZ at h;have:HA 0 7 0 0 fun(c:Int)(_:Unit)=>[(7,.tv (eI c))]:=⟨⟩;exact nz)
abbrev Q_30(n:Nat):Prop:=∀(a:Int),Ct prog (CI n a) 30 [eI a] (fun r=>.sh (eS r))
theorem kF(n:Nat)(_ih_30:Q_30 n)(a:Int):Ct prog (CI (n+1) a) 30 [eI a] (fun r=>.sh (eS r)):=Fj f30 0x81060e056905cb3f053085cb3f0e090185013f9a [.mv (.c (.str ⟨#[]⟩)),.bin (.s) .add (.c (.str ⟨#[45]⟩)) (.s 7),.rR (.c (.str ⟨#[48,49,50,51,52,53,54,55,56,57]⟩)) (some (.s 11)) (some (.s 13))] [.tmp 2] (h:=fun r h b d=>by
  unfold CI at h;exact nz)
theorem kE:∀n:Nat,Q_30 n:=by
  intro n
  induction n with
  |zero=>exact(fun a=>⟨fun _ h=>by cases h⟩)
  |succ n b=>exact kF n b
instance pQ(a:Int):Ct prog (Fr a) 30 [eI a] (fun r=>.sh (eS r)):=⟨fun r h=>by
  obtain ⟨N,b⟩:=EU h;exact((kE N) a).snd r (b N (ca _))⟩
instance pR(l:Fp):Ct prog (Cp l) 31 [lI l] (fun r=>.sh (eS r)):=Fj f31 0x813f0131f20003a2f20003d8060ec83fa6030003d8060e09c83f0185c831cc30f2000381bf3f9a [.mv (.c (.str ⟨#[]⟩)),.mv (.c (.str ⟨#[32,40]⟩)),.bin (.s) .add (.s 16) (.c (.str ⟨#[32,45,32]⟩)),.bin (.s) .add (.s 25) (.c (.str ⟨#[32]⟩)),.bin (.s) .add (.s 33) (.c (.str ⟨#[32,41]⟩))] [.tmp 2] (h:=fun r h d e=>by
  unfold Cp at h;have:HA 0 4 0 0 fun(b:Int)(a:ByteArray)=>[(3,.tv (eS a)),(4,.tv (eI b))]:=⟨⟩;exact nz)
instance c9(d:AL):Ct prog (Ez d) 9 [BF d] (fun r=>.tp [eS r.1,eI r.2]):=Fj f9 0x6ba65304d1a2013f060e01060e5c060e57060e013fcbbf8a7d300a7d5c010a7d57e778cbbf8a74f7e953b182b2d6c9fd0141c18438370141c1846dc18404b40b845304d181bf36bf850b84013fd9 [.mv (.c (.str ⟨#[]⟩)),.mv (.c (.str ⟨#[]⟩)),.mv (.c (.str ⟨#[]⟩)),.mv (.c (.str ⟨#[]⟩)),.mv (.c (.str ⟨#[]⟩)),.bin (.s) .add (.s 78) (.c (.str ⟨#[109,111,118,101,32]⟩)),.bin (.s) .add (.s 93) (.c (.str ⟨#[32,59,10]⟩))] [.tmp 2,.tmp 3] (h:=fun r h e f=>by
  unfold Ez at h;have:HA 0 5 1 3 fun(b:Int)(a:ByteArray)=>[(4,.tv (eS a)),(5,.tv (eI b))]:=⟨⟩;exact nz)
instance pS(c:Int):Ct prog (Gi c) 32 [Ng c] (fun r=>.sh (eB r)):=Fj f32 0xc3f7f778ee [] [.tmp 2] (h:=fun r h a b=>by
  unfold Gi at h;exact nz)
instance qI(c:Int):Ct prog (HF c) 66 [Ng c] (fun r=>.sh (eB r)):=Fj f66 0xd66e78f778ee [] [.tmp 2] (h:=fun r h a b=>by
  unfold HF at h;exact nz)
instance qJ(c:Int):Ct prog (FY c) 67 [Ng c] (fun r=>.sh (eB r)):=Fj f67 0xc378ee [] [.tmp 2] (h:=fun r h a b=>by
  unfold FY at h;exact nz)
instance qK(c:ByteArray)(b:Int)(a:Bool):Ct prog (Jh c b a) 68 [eS c,eI b,eB a] (fun r=>.sh (eI r)):=Fj f68 0x81010796d2b55d0107968a0a0a6e120530300e1205303008300e120530780c5330d2b58191bb [] [.tmp 6] (h:=fun r h e f=>by
  unfold Jh at h;have:HW 0 fun(d:Int)=>[(7,.tv (eI d))]:=⟨⟩;exact nz)
instance qL(a:ByteArray)(b:Int):Ct prog (HI a b) 69 [eS a,eI b] (fun r=>.sh (eI r)):=Fj f69 0xa105bba2fe78cb057212056a005e0c5378bb81e6 [] [.tmp 4] (h:=fun r h d e=>by
  unfold HI at h;have:HW 0 fun(c:Int)=>[(5,.tv (eI c))]:=⟨⟩;exact nz)
instance qM:Ct prog (JP ) 70 [] (fun r=>.own (lB r)):=Fj f70 0x823f014000 [.uc 1 [.c (.str ⟨#[45,62]⟩),.c (.str ⟨#[60,61]⟩),.c (.str ⟨#[62,61]⟩),.c (.str ⟨#[61,61]⟩),.c (.str ⟨#[33,61]⟩),.c (.str ⟨#[123]⟩),.c (.str ⟨#[125]⟩),.c (.str ⟨#[40]⟩),.c (.str ⟨#[41]⟩),.c (.str ⟨#[91]⟩),.c (.str ⟨#[93]⟩),.c (.str ⟨#[44]⟩),.c (.str ⟨#[59]⟩),.c (.str ⟨#[58]⟩),.c (.str ⟨#[61]⟩),.c (.str ⟨#[43]⟩),.c (.str ⟨#[45]⟩),.c (.str ⟨#[42]⟩),.c (.str ⟨#[60]⟩),.c (.str ⟨#[62]⟩),.c (.str ⟨#[33]⟩),.c (.str ⟨#[38]⟩),.c (.str ⟨#[124]⟩),.c (.str ⟨#[46]⟩),.c (.str ⟨#[63]⟩)]] [.tmp 0] (h:=fun r h a b=>by
  unfold JP at h;exact nz)
instance pT(b:ByteArray)(a:Int):Ct prog (HH b a) 33 [eS b,eI a] (fun r=>.tp [Gc r.1,eI r.2.1,eI r.2.2]):=Fj f33 0x6b9717460401ca04eda2ff04013b6b970cc80046c88a06c80d050cc830780c530c606a04b40b30ca04edef0e76975f460d0505783076971746850501769717cde3850176975f460d056a30769717468530eb08045f06eb08045f063c308e556b0e0e6a8ae30e5512303016c95f02 [] [.cell 4 (some 3),.tmp 5,.tmp 6] (h:=fun r h f g=>by
  unfold HH at h;have:HJ 29 fun(d:Int×Int)=>[(9,.tv (eI d.1)),(10,.tv (eI d.2))]:=⟨⟩;have:HA 0 13 12 0 fun(e:Int)(c:AY)=>[(4,.bx [⟨false,eI c.rh⟩,⟨false,eS c.sn⟩,⟨false,eI c.u7⟩]),(13,.tv (eI e))]:=⟨⟩;exact nz)
instance o8(a:ByteArray):Ct prog (Da a) 10 [eS a] (fun r=>.tp [(eL 3 Gc) r.1,eI r.2.1,eI r.2.2]):=Fj f10 0x6b82020501b8beb8be5d3002034803476502a7a50176f4308501eb77710007eb77710007d88a7478e59716c9116c30ffb8be5301b8beb8be5d018512308e1230ffb8beb8beffb8be5d01b8beff8a0512ec0c30b8be851278b40c30b8be6bf476f4850c6a03409a [] [.tmp 2,.tmp 3,.tmp 4] (h:=fun r h d e=>by
  unfold Da at h;have:HW 0 fun(b:List AY×Int×Int)=>[(5,.ow ((eL 3 Gc) b.1)),(6,.tv (eI b.2.1)),(7,.tv (eI b.2.2))]:=⟨⟩;have:HW 2 fun(c:Int)=>[(7,.tv (eI c))]:=⟨⟩;exact nz)
instance qY(a:Fp)(b:Fp):Ct prog (Fu a b) 82 [lI a,lI b] (fun r=>.sh (eB r)):=Fj f82 0xa105bba2b7c8c8f378bb81b70bdeb9 [] [.tmp 4] (h:=fun r h d e=>by
  unfold Fu at h;have:HA 0 5 0 0 fun(c:Int)(_:Unit)=>[(5,.tv (eI c))]:=⟨⟩;exact nz)
instance pj(a:gt)(b:gt):Ct prog (J8 a b) 43 [Ba a,Ba b] (fun r=>.sh (eB r)):=Fj f43 0xd60e5c5c69575701aa [] [.tmp 4] (h:=fun r h c d=>by
  unfold J8 at h;exact nz)
instance pk(a:Fp)(b:Fp):Ct prog (Fw a b) 44 [lI a,lI b] (fun r=>.sh (eB r)):=Fj f44 0xa105bba2b7c8c8f378bb81b70bdeb9 [] [.tmp 4] (h:=fun r h d e=>by
  unfold Fw at h;have:HA 0 5 0 0 fun(c:Int)(_:Unit)=>[(5,.tv (eI c))]:=⟨⟩;exact nz)
instance pB(a:List BW)(b:List BW):Ct prog (EP a b) 13 [(eL 4 Dp) a,(eL 4 Dp) b] (fun r=>.sh (eB r)):=Fj f13 0xa105bba2907dfd0141bc30fd0141bc6a0a7d38370141bc3038370141bcec6dbc306dbc30f378bb81b70bdeb9 [] [.tmp 4] (h:=fun r h d e=>by
  unfold EP at h;have:HA 0 5 0 0 fun(c:Int)(_:Unit)=>[(5,.tv (eI c))]:=⟨⟩;exact nz)
instance pC(t:AB):Ct prog (N7 t) 14 [AU t] (fun r=>.sh (eB r)):=Fj f14 0xa10891a2b70c6d07ddf35c0108918130043103a20431037e3104a27e3104b8043106a2b70cb6847e3104cc8401b804310681f084530c579b04c99dc17341f8043103cc7341f85304310481fe0c6df85330747341f86a5eb1a631036bf05c53b17f00 [] [.tmp 2] (h:=fun r h f g=>by
  unfold N7 at h;have:HA 0 4 1 0 fun(e:Int)(a:Int)=>[(3,.tv (eI a)),(4,.tv (eI e))]:=⟨⟩;have:HW 2 fun(c:Int)=>[(5,.tv (eI c))]:=⟨⟩;have:HW 4 fun(d:Int)=>[(7,.tv (eI d))]:=⟨⟩;have:HA 6 8 1 1 fun(b:Int)(_:Unit)=>[(8,.tv (eI b))]:=⟨⟩;exact nz)
instance mB(t:AY):Ct prog (J6 t) 132 [Gc t] (fun r=>.sh (eS r)):=Fj f132 0x815c363f3f5c85573fd9 [.mv (.c (.str ⟨#[]⟩)),.bin (.s) .add (.c (.str ⟨#[34]⟩)) (.s 7),.bin (.s) .add (.s 8) (.c (.str ⟨#[34]⟩))] [.tmp 2] (h:=fun r h a b=>by
  unfold J6 at h;exact nz)
instance qh(t:AY):Ct prog (Gh t) 88 [Gc t] (fun r=>.sh (eB r)):=Fj f88 0xc35757e70cece59716c9116ccbbf55fc7f00 [.bin (.s) .eql (.s 9) (.c (.str ⟨#[]⟩))] [.tmp 2] (h:=fun r h a b=>by
  unfold Gh at h;exact nz)
instance lw(a:ByteArray):Ct prog (Ft a) 122 [eS a] (fun r=>.sh (eB r)):=Fj f122 0x810e0046ee [] [.tmp 2] (h:=fun r h b c=>by
  unfold Ft at h;exact nz)
instance ly(n:Int)(b:Int)(a:Int):Ct prog (EW n b a) 123 [eI n,eI b,eI a] (fun r=>.sh (eB r)):=Fj f123 0xc3ec6a02bb [] [.tmp 6] (h:=fun r h c d=>by
  unfold EW at h;exact nz)
abbrev Q_124(n:Nat):Prop:=∀(t:AB)(a:Int),Ct prog (Fv n t a) 124 [AU t,eI a] (fun r=>.own (lA r))
theorem gF(n:Nat)(_ih_124:Q_124 n)(t:AB)(a:Int):Ct prog (Fv (n+1) t a) 124 [AU t,eI a] (fun r=>.own (lA r)):=Fj f124 0x8204487341f804480e92f8380447ff04c085a6409330 [] [.tmp 4] (h:=fun r h b c=>by
  unfold Fv at h;exact nz)
theorem gE:∀n:Nat,Q_124 n:=by
  intro n
  induction n with
  |zero=>exact(fun t a=>⟨fun _ h=>by cases h⟩)
  |succ n b=>exact gF n b
instance lz(t:AB)(a:Int):Ct prog (LN t a) 124 [AU t,eI a] (fun r=>.own (lA r)):=⟨fun r h=>by
  obtain ⟨N,b⟩:=EU h;exact((gE N) t a).snd r (b N (ca _))⟩
instance mZ(l:List ByteArray):Ct prog (LO l) 160 [lB l] (fun r=>.sh (eI r)):=Fj f160 0xa10375a20375f20003a23686c8c803755e30f2000381f5c8f330037581b70bee [] [.tmp 2] (h:=fun r h c d=>by
  unfold LO at h;have:HA 0 3 0 0 fun(b:Int)(_:Unit)=>[(3,.tv (eI b))]:=⟨⟩;have:HA 2 4 3 0 fun(a:Int)(_:Unit)=>[(4,.tv (eI a))]:=⟨⟩;exact nz)
instance l4(a:rc):Ct prog (Ii a) 125 [GL a] (fun r=>.sh (eI r)):=Fj f125 0x81fe748480535cab8436907d5c80017d5c850b847f00 [] [.tmp 2] (h:=fun r h b c=>by
  unfold Ii at h;exact nz)
instance qZ(t:AB)(a:Int):Ct prog (M1 t a) 83 [AU t,eI a] (fun r=>.sh (eI r)):=Fj f83 0xa17702a2ab9dbc307702097703a236866dbc306dbc3077025e3009770381f56dbc30f33077028174840b01f0307484820e9ef505015c0502d17102a6a23686576df80502d15e307102a681f5579b02c99df8d5 [] [.tmp 4] (h:=fun r h e f=>by
  unfold M1 at h;have:HA 0 6 1 0 fun(d:Int)(_:Unit)=>[(6,.tv (eI d))]:=⟨⟩;have:HA 2 8 7 0 fun(c:Int)(_:Unit)=>[(8,.tv (eI c))]:=⟨⟩;have:HA 4 9 8 0 fun(b:Int)(_:Unit)=>[(9,.tv (eI b))]:=⟨⟩;exact nz)
instance l5(b:Int)(a:Int):Ct prog (JQ b a) 126 [eI b,eI a] (fun r=>.sh (eB r)):=Fj f126 0xd60a0eec300eb9 [] [.tmp 4] (h:=fun r h c d=>by
  unfold JQ at h;exact nz)
instance qa(t:AB)(a:Int):Ct prog (M0 t a) 84 [AU t,eI a] (fun r=>.sh (eI r)):=Fj f84 0x81907d03c5030542010a7d03f184010a7d0180017d015c8174570502027102a6a23686576d07dd0502025e307102a681f557074b03c9074407ddd5 [] [.tmp 4] (h:=fun r h c d=>by
  unfold M0 at h;have:HA 0 6 1 0 fun(b:Int)(_:Unit)=>[(6,.tv (eI b))]:=⟨⟩;exact nz)
instance pw(t:AB):Ct prog (Hx t) 47 [AU t] (fun r=>.tp [eS r.1,eI r.2]):=Fj f47 0x81bf000691a276016d07dd610e9ef35c01069181300491a276016df8610e9e305eb1a6918136bf8a745c53b136bf85b1013fd9 [.mv (.c (.str ⟨#[]⟩)),.mv (.c (.str ⟨#[]⟩)),.mv (.c (.str ⟨#[]⟩)),.mv (.c (.str ⟨#[]⟩))] [.tmp 2,.tmp 3] (h:=fun r h d e=>by
  unfold Hx at h;have:HA 0 4 1 0 fun(b:Int)(_:Unit)=>[(4,.tv (eI b))]:=⟨⟩;have:HA 2 6 1 1 fun(a:Int)(_:Unit)=>[(6,.tv (eI a))]:=⟨⟩;exact nz)
instance l6(n:Int):Ct prog (J7 n) 127 [eI n] (fun r=>.sh (eB r)):=Fj f127 0xc378ee [] [.tmp 2] (h:=fun r h a b=>by
  unfold J7 at h;exact nz)
instance l7(e:B0)(a:Int):Ct prog (LQ e a) 128 [Bj e,eI a] (fun r=>.sh (eB r)):=Fj f128 0xc30180e780e7015ce75c6957d5 [] [.tmp 4] (h:=fun r h b c=>by
  unfold LQ at h;exact nz)
instance qc(g:hT):Ct prog (LP g) 85 [BI g] (fun r=>.sh (eI r)):=Fj f85 0xa10491a2f5b1d7ddf35ca69181303102a2f5b657305eb101310281f05c53b17f00 [] [.tmp 2] (h:=fun r h c d=>by
  unfold LP at h;have:HA 0 3 1 0 fun(b:Int)(_:Unit)=>[(3,.tv (eI b))]:=⟨⟩;have:HA 2 4 1 1 fun(a:Int)(_:Unit)=>[(4,.tv (eI a))]:=⟨⟩;exact nz)
instance l9(t:AB)(a:Int)(b:Int):Ct prog (JR t a b) 130 [AU t,eI a,eI b] (fun r=>.sh (eI r)):=Fj f130 0x81907d7457307d7457cb72db387f0291 [] [.tmp 6] (h:=fun r h c d=>by
  unfold JR at h;exact nz)
instance l8(t:AB)(a:Int):Ct prog (LM t a) 129 [AU t,eI a] (fun r=>.tp [lA r.1,eI r.2]):=Fj f129 0xef020701097703a202044804479d02a70342c484ac9b04c99dbc3007b40b30097703ef0e9e04c03604c08d3038a6409330 [] [.tmp 4,.tmp 5] (h:=fun r h d e=>by
  unfold LM at h;have:HA 0 9 8 0 fun(c:Int)(b:List rc)=>[(7,.ow (lA b)),(9,.tv (eI c))]:=⟨⟩;exact nz)
instance qe(t:AB)(a:Int)(b:Fp):Ct prog (M4 t a b) 86 [AU t,eI a,lI b] (fun r=>.sh (eI r)):=Fj f86 0xa109d203a2fefdbc3060ec92bc30c8f33009d20381b70bde30e89e36830241f8b7b130930291 [] [.tmp 6] (h:=fun r h d e=>by
  unfold M4 at h;have:HA 0 9 7 0 fun(c:Int)(_:Unit)=>[(9,.tv (eI c))]:=⟨⟩;exact nz)
abbrev Q_131(n:Nat):Prop:=∀(t:AB)(a:Int)(b:Int),Ct prog (FD n t a b) 131 [AU t,eI a,eI b] (fun r=>.sh (eB r))
theorem gH(n:Nat)(_ih_131:Q_131 n)(t:AB)(a:Int)(b:Int):Ct prog (FD (n+1) t a b) 131 [AU t,eI a,eI b] (fun r=>.sh (eB r)):=Fj f131 0xd60a0e0192f83853786a930291 [] [.tmp 6] (h:=fun r h c d=>by
  unfold FD at h;exact nz)
theorem gG:∀n:Nat,Q_131 n:=by
  intro n
  induction n with
  |zero=>exact(fun t a b=>⟨fun _ h=>by cases h⟩)
  |succ n c=>exact gH n c
instance mA(t:AB)(a:Int)(b:Int):Ct prog (Ka t a b) 131 [AU t,eI a,eI b] (fun r=>.sh (eB r)):=⟨fun r h=>by
  obtain ⟨N,c⟩:=EU h;exact((gG N) t a b).snd r (c N (ca _))⟩
instance qf(t:AB)(b:Int)(a:Int)(c:Int):Ct prog (Mz t b a c) 87 [AU t,eI b,eI a,eI c] (fun r=>.sh (eB r)):=Fj f87 0xd60efd07dd9e699207dd9e907d745c78e3387f5bd1 [] [.tmp 8] (h:=fun r h d e=>by
  unfold Mz at h;exact nz)
instance px(t:AB)(a:AM):Ct prog (LR t a) 48 [AU t,CM a] (fun r=>.tp [eI r.1,eI r.2]):=Fj f48 0x6b000b5b03a27601bd6080d4605cd45738760185e9579705c9d77c9232f39232de5b03815b02095b03a27630610eb680b6d4385b02ccd401095b038176850bd40b80768dc67672db3830aa [] [.tmp 4,.tmp 5] (h:=fun r h d e=>by
  unfold LR at h;have:HA 0 9 3 0 fun(c:Int)(_:Unit)=>[(9,.tv (eI c))]:=⟨⟩;have:HA 2 11 3 1 fun(b:Int)(_:Unit)=>[(11,.tv (eI b))]:=⟨⟩;exact nz)
instance py(d:A0)(b:Int)(a:ByteArray):Ct prog (B4 d b a) 49 [.pt (RJ d).cells,eI b,eS a] (fun r=>.sh (eB r)):=Fj f49 0xd60a0601920343316201d3303ff7016d0343316201d3f70bd3013162785b623002bb [.bin (.s) .eql (.s 40) (.c (.str ⟨#[]⟩))] [.tmp 6] (h:=fun r h e f=>by
  unfold B4 at h;exact nz)
noncomputable def VP:PC:=PC.of NI f50.body (xq bT 0x5f013ca70362fd03432d74d3323189d33232a702620132855b895f02) []
theorem kK:CK f50 VP []:=by decide +kernel
theorem kX:PC.rQ VP=true/\PC.rM 0 VP=true:=by decide +kernel
instance pz(a:A0)(e:Int):Ct prog (Cq a e) 50 [.undef,eI e] (fun r=>.bo (Cr a) (Cr r) 0 []):=PI kK kX fun r h d c f=>by
  unfold VP;unfold f50;unfold Cq at h;have:HJ 8 fun(b:A0)=>[(0,.bx (Cr b))]:=⟨⟩;exact nz
noncomputable def VQ:PC:=PC.of NI f51.body (xq bT 0x81920343053189d332a70162053189ffbff932882030323f02bb) [.mv (.c (.str ⟨#[]⟩)),.mv (.c (.str ⟨#[]⟩))]
theorem kL:CK f51 VQ [.tmp 6]:=by decide +kernel
theorem kY:PC.rQ VQ=true/\PC.rM 0 VQ=true:=by decide +kernel
instance p0(c:A0)(b:Int)(a:ByteArray):Ct prog (A7 c b a) 51 [.undef,eI b,eS a] (fun r=>.bo (Cr c) (Cr r.2) 0 [eS r.1]):=PI kL kY fun r h e d f=>by
  unfold VQ;unfold f51;unfold A7 at h;exact nz
instance p5(a:ByteArray):Ct prog (Cn a) 52 [eS a] (fun r=>.tp [eI r.1,eI r.2]):=Fj f52 0x6ba653040003a2533f051278a6b40c780400036b76bd00466a9a [.uF .i64 (.s 21)] [.tmp 2,.tmp 3] (h:=fun r h d e=>by
  unfold Cn at h;have:HA 0 5 0 0 fun(c:Int)(b:Int)=>[(4,.tv (eI b)),(5,.tv (eI c))]:=⟨⟩;exact nz)
noncomputable def VR:PC:=PC.of NI f53.body (xq bT 0x82023f320775ffd2b53c02f69109d2ed09d2edd80955556c3f327702ed7702ed3cf9328a05de303f327702ed7702ed3ca701620531896b3f320775ff8a0a0a3f326a3f32535b89d2b53f3201c0014002bb) [.r7 51 [.s 11,.c (.int .i64 4),.c (.str ⟨#[40]⟩)] 0,.r9 49 [.s 19,.c (.int .i64 2),.c (.str ⟨#[]⟩)],.r9 49 [.s 24,.c (.int .i64 4),.c (.str ⟨#[45]⟩)],.r9 49 [.s 29,.c (.int .i64 4),.c (.str ⟨#[45]⟩)],.r9 49 [.s 39,.c (.int .i64 2),.c (.str ⟨#[]⟩)],.r7 51 [.s 50,.c (.int .i64 2),.c (.str ⟨#[]⟩)] 0,.r7 51 [.s 62,.c (.int .i64 4),.c (.str ⟨#[41]⟩)] 0]
theorem kM:CK f53 VR [.tmp 6]:=by decide +kernel
theorem kZ:PC.rQ VR=true/\PC.rM 0 VR=true:=by decide +kernel
instance p6(c:A0)(b:Int)(a:Bool):Ct prog (B5 c b a) 53 [.undef,eI b,eB a] (fun r=>.bo (Cr c) (Cr r.2) 0 [lI r.1]):=PI kM kZ fun r h f e g=>by
  unfold VR;unfold f53;unfold B5 at h;have:HW 0 fun(d:A0×Fp)=>[(0,.bx (Cr d.1)),(7,.ow (lI d.2))]:=⟨⟩;exact nz
instance pG(t:AB)(a:AM)(d:ByteArray):Ct prog (LS t a d) 17 [AU t,CM a,eS d] (fun r=>.tp [BF r.1,eI r.2.1,eI r.2.2]):=Fj f17 0x6b9b9dff06013b6b9b5b62377362371246855b623733d00604ff33d00d713ca70342044804479df2423f37a70241b3f937a70162b3f937a73737b3f937a7326c3f3715c93f3733d00d7133d00d713cf9378a7484013f3733d00604ff8a055b6237530b0131623733d00d71045014c93ffc00c2bf194601769b3012cdef116c01769b0112cddb6538769b0112cddb383014c9640201 [.tD [none,none,none,none] (.s 50),.sF [.v (.s 53) 0 3,.v (.s 53) 1 3,.v (.s 53) 2 3,.z ⟨true,.list 4 []⟩],.r9 49 [.s 69,.c (.int .i64 1),.c (.str ⟨#[109,111,118,101]⟩)],.r7 51 [.s 79,.c (.int .i64 1),.c (.str ⟨#[109,111,118,101]⟩)] 0,.r7 51 [.s 82,.c (.int .i64 2),.c (.str ⟨#[]⟩)] 0,.r7 51 [.s 102,.c (.int .i64 4),.c (.str ⟨#[59]⟩)] 0] [.cell 6 (some 4),.tmp 7,.tmp 8] (h:=fun r h e f=>by
  unfold LS at h;have:HW 0 fun(b:AL×A0)=>[(17,.bx [⟨false,lI b.1.rn.hT.fq⟩,⟨false,lE b.1.rn.hT.jj⟩,⟨false,(eL 1 lI) b.1.rn.og⟩,⟨true,(eL 4 Dp) b.1.po⟩]),(51,.bx (Cr b.2))]:=⟨⟩;exact nz)
instance qj(a:hT)(b:hT):Ct prog (M2 a b) 89 [BI a,BI b] (fun r=>.sh (eB r)):=Fj f89 0xa1055b03a236bfd7ddd7ddf35c535b0381f05ce9017d575701aa [.bin (.a [0,0,0]) .neq (.s 32) (.s 37)] [.tmp 4] (h:=fun r h d e=>by
  unfold M2 at h;have:HA 0 5 2 1 fun(c:Int)(_:Unit)=>[(5,.tv (eI c))]:=⟨⟩;exact nz)
instance qk(a:Fp)(b:Fp):Ct prog (Jq a b) 90 [lI a,lI b] (fun r=>.sh (eI r)):=Fj f90 0x8174dee605bba23605c8c885c860b9ff8a746a7478bb81e6 [] [.tmp 4] (h:=fun r h d e=>by
  unfold Jq at h;have:HW 0 fun(c:Int)=>[(5,.tv (eI c))]:=⟨⟩;exact nz)
instance p7(a:AM)(b:AM):Ct prog (M3 a b) 54 [CM a,CM b] (fun r=>.sh (eB r)):=Fj f54 0xa1055b03a2b70eb680b680f380535b0381f0800b80017dc6c601aa [] [.tmp 4] (h:=fun r h d e=>by
  unfold M3 at h;have:HA 0 5 2 2 fun(c:Int)(_:Unit)=>[(5,.tv (eI c))]:=⟨⟩;exact nz)
instance pH(a:AL)(b:AL):Ct prog (M5 a b) 18 [BF a,BF b] (fun r=>.sh (eB r)):=Fj f18 0xd60e8484696532653201aa [] [.tmp 4] (h:=fun r h c d=>by
  unfold M5 at h;exact nz)
end Go.Sf.Sc
