/- Contracts of the functions. -/
import Derived.Test.YthhobbgaejimgaaGreatDoorCon0
import Derived.Test.YthhobbgaejimgaaGreatDoorTryzShelf
import Derived.Test.YthhobbgaejimgaaGreatDoorFo
set_option linter.all false
set_option maxRecDepth 100000
set_option maxHeartbeats 4000000
namespace Go.Sf.Sc
open Go Go.Sf Go.Proofs.Tryz
instance oz:Ct prog (KE ) 12 [] (fun r=>.rT [⟨true,lN r.ci⟩,⟨true,lX r.d6⟩]):=Fj f12 0x2503f07473f3f04473f3f04473f3f3f3f04473f00c900 [.tn [.str ⟨#[]⟩,.int .i64 0,.int .i64 0,.list 1 []] [(0,1,.c (.str ⟨#[98,97,108,97,110,99,101]⟩)),(1,1,.c (.int .i64 (-1000))),(2,1,.c (.int .i64 1000))],.tn [.str ⟨#[]⟩,.int .i64 0,.bool false,.list 4 []] [(0,1,.c (.str ⟨#[65,99,99,111,117,110,116]⟩)),(1,1,.c (.int .i64 (-1))),(2,1,.c (.bool true)),(3,1,.s 2)],.tn [.str ⟨#[]⟩,.int .i64 0,.bool false,.list 4 []] [(0,1,.c (.str ⟨#[67,97,115,104]⟩)),(1,1,.c (.int .i64 0))],.uc 1 [.c (.str ⟨#[111,112,101,110]⟩),.c (.str ⟨#[99,108,111,115,101,100]⟩)],.tn [.str ⟨#[]⟩,.int .i64 0,.int .i64 0,.list 1 []] [(0,1,.c (.str ⟨#[115,116,97,116,101]⟩)),(2,1,.c (.int .i64 1)),(3,1,.s 5)],.tn [.str ⟨#[]⟩,.int .i64 0,.bool false,.list 4 []] [(0,1,.c (.str ⟨#[76,111,97,110]⟩)),(1,1,.c (.int .i64 0)),(3,1,.s 7)],.tn [.str ⟨#[]⟩,.int .i64 0,.bool false,.list 4 []] [(0,1,.c (.str ⟨#[80,101,114,115,111,110]⟩)),(1,1,.c (.int .i64 (-1)))],.tn [.str ⟨#[]⟩,.int .i64 0,.int .i64 0,.int .i64 0,.int .i64 0,.int .i64 0,.int .i64 0] [(0,1,.c (.str ⟨#[111,119,110,115]⟩)),(1,1,.c (.int .i64 3)),(2,1,.c (.int .i64 0)),(4,1,.c (.int .i64 (-1))),(5,1,.c (.int .i64 1)),(6,1,.c (.int .i64 1))],.tn [.str ⟨#[]⟩,.int .i64 0,.int .i64 0,.int .i64 0,.int .i64 0,.int .i64 0,.int .i64 0] [(0,1,.c (.str ⟨#[112,97,121,115]⟩)),(1,1,.c (.int .i64 1)),(2,1,.c (.int .i64 1)),(4,1,.c (.int .i64 (-1))),(6,1,.c (.int .i64 (-1)))],.r8 [.w 10,.w 13]] [.cell 0 (some 2)] (h:=fun r h a b=>by
  unfold KE at h;exact nz)
instance o5(t:AB):Ct prog (J7 t) 14 [AS t] (fun r=>.sh (eB r)):=Fj f14 0xa2089eabb80c6e07d3faf7089e81300431f3043103783104ab783104b3043106abb80cb29f783104cd9f01b304310681906f9f530c579b04c9a7d97441fd043103cd7441fd530431048190050c6efd53306f7441fd6acd800431036c90e2530b80ac [] [.tmp 2] (h:=fun r h f g=>by
  unfold J7 at h;have:HA 0 4 1 0 fun(d:Int)(e:Int)=>[(3,.tv (eI e)),(4,.tv (eI d))]:=⟨⟩;have:HW 2 fun(b:Int)=>[(5,.tv (eI b))]:=⟨⟩;have:HW 4 fun(c:Int)=>[(7,.tv (eI c))]:=⟨⟩;have:HA 6 8 1 1 fun(a:Int)(_:Unit)=>[(8,.tv (eI a))]:=⟨⟩;exact nz)
instance pT(g:d3):Ct prog (LJ g) 45 [BO g] (fun r=>.sh (eB r)):=Fj f45 0xc3e2530b80ac [] [.tmp 2] (h:=fun r h a b=>by
  unfold LJ at h;exact nz)
instance o6(a:AL):Ct prog (J8 a) 15 [CL a] (fun r=>.sh (eB r)):=Fj f15 0xa23102abb80bb27efa7e01310281906f7e0189b501ac [] [.tmp 2] (h:=fun r h c d=>by
  unfold J8 at h;have:HA 0 3 1 2 fun(b:Int)(_:Unit)=>[(3,.tv (eI b))]:=⟨⟩;exact nz)
instance pU(g:d3):Ct prog (I2 g) 46 [BO g] (fun r=>.rT [⟨true,lI r.ci⟩,⟨true,lE r.d6⟩]):=Fj f46 0xbc3b02503f03485c03470148804709c9ac [.r8 [.w 6,.w 10]] [.cell 2 (some 2)] (h:=fun r h a b=>by
  unfold I2 at h;exact nz)
instance o7(a:AL):Ct prog (E2 a) 16 [CL a] (fun r=>.sh (CL r)):=Fj f16 0x92655b02045bf2abaaa101ef0148b27eb404a15b02cd7ef25bf281035001c93f1bb501c9ac [.r8 [.g 7 0 2,.g 7 1 2,.z ⟨true,.list 1 []⟩]] [.cell 2 (some 3)] (h:=fun r h d e=>by
  unfold E2 at h;have:HA 0 4 1 2 fun(c:Int)(b:AL)=>[(3,.bx [⟨true,lI b.d3.ci⟩,⟨true,lE b.d3.d6⟩,⟨true,(eL 1 lI) b.hT⟩]),(4,.tv (eI c))]:=⟨⟩;exact nz)
instance pG(c:Int):Ct prog (Gz c) 32 [Ni c] (fun r=>.sh (eB r)):=Fj f32 0xea307330737de8 [] [.tmp 2] (h:=fun r h a b=>by
  unfold Gz at h;exact nz)
instance p0(c:Int):Ct prog (Hb c) 66 [Ni c] (fun r=>.sh (eB r)):=Fj f66 0xc3737d30737de8 [] [.tmp 2] (h:=fun r h a b=>by
  unfold Hb at h;exact nz)
instance p5(c:Int):Ct prog (Fr c) 67 [Ni c] (fun r=>.sh (eB r)):=Fj f67 0xea7de8 [] [.tmp 2] (h:=fun r h a b=>by
  unfold Fr at h;exact nz)
instance p6(b:ByteArray)(c:Int)(a:Bool):Ct prog (Hc b c a) 68 [eS b,eI c,eB a] (fun r=>.sh (eI r)):=Fj f68 0x8101079a07b7045d01079a8a0a0a73120530300e1205303008300e1205307d0c533007b704819e5e03 [] [.tmp 6] (h:=fun r h e f=>by
  unfold Hc at h;have:HW 0 fun(d:Int)=>[(7,.tv (eI d))]:=⟨⟩;exact nz)
instance p7(b:ByteArray)(a:Int):Ct prog (E1 b a) 69 [eS b,eI a] (fun r=>.sh (eI r)):=Fj f69 0xa2055ef390057d0136057212056a005f0c537d5ef4e0 [] [.tmp 4] (h:=fun r h d e=>by
  unfold E1 at h;have:HW 0 fun(c:Int)=>[(5,.tv (eI c))]:=⟨⟩;exact nz)
instance p8:Ct prog (H6 ) 70 [] (fun r=>.own (lB r)):=Fj f70 0x823f014000 [.uc 1 [.c (.str ⟨#[45,62]⟩),.c (.str ⟨#[60,61]⟩),.c (.str ⟨#[62,61]⟩),.c (.str ⟨#[61,61]⟩),.c (.str ⟨#[33,61]⟩),.c (.str ⟨#[123]⟩),.c (.str ⟨#[125]⟩),.c (.str ⟨#[40]⟩),.c (.str ⟨#[41]⟩),.c (.str ⟨#[91]⟩),.c (.str ⟨#[93]⟩),.c (.str ⟨#[44]⟩),.c (.str ⟨#[59]⟩),.c (.str ⟨#[58]⟩),.c (.str ⟨#[61]⟩),.c (.str ⟨#[43]⟩),.c (.str ⟨#[45]⟩),.c (.str ⟨#[42]⟩),.c (.str ⟨#[60]⟩),.c (.str ⟨#[62]⟩),.c (.str ⟨#[33]⟩),.c (.str ⟨#[38]⟩),.c (.str ⟨#[124]⟩),.c (.str ⟨#[46]⟩),.c (.str ⟨#[63]⟩)]] [.tmp 0] (h:=fun r h a b=>by
  unfold H6 at h;exact nz)
instance pH(a:ByteArray)(b:Int):Ct prog (FY a b) 33 [eS a,eI b] (fun r=>.tp [Gr r.1,eI r.2.1,eI r.2.2]):=Fj f33 0x6c921a460401c5045e05abff04013b6c920cd60046d68a06d60d050cd6307d0c530c606a04ad0b30c5045e05e90e76925e460d05057d3076921a4685e776921ac8dd850176925e460d056a3076921a468530e508045e06e508045e063c308e556c0e0e6a8add0e5512303016c95e02 [] [.cell 4 (some 3),.tmp 5,.tmp 6] (h:=fun r h f g=>by
  unfold FY at h;have:HJ 29 fun(d:Int×Int)=>[(9,.tv (eI d.1)),(10,.tv (eI d.2))]:=⟨⟩;have:HA 0 13 12 0 fun(e:Int)(c:Ap)=>[(4,.bx [⟨false,eI c.qh⟩,⟨false,eS c.r7⟩,⟨false,eI c.uz⟩]),(13,.tv (eI e))]:=⟨⟩;exact nz)
instance ox(a:ByteArray):Ct prog (E0 a) 10 [eS a] (fun r=>.tp [(eL 3 Gr) r.1,eI r.2.1,eI r.2.2]):=Fj f10 0x6c8202e7b3cfb3cf5d3002034803476502aaa10176ee308501e577710007e577710007de8a6f7ddf9216c9116d30ffb3cf5301b3cfb3cf5d018512308e1230ffb3cfb3cfffb3cf5d01b3cfff8a0512ed0c30b3cf85127dad0c30b3cf6cee76ee850c6a034096 [] [.tmp 2,.tmp 3,.tmp 4] (h:=fun r h d e=>by
  unfold E0 at h;have:HW 0 fun(b:List Ap×Int×Int)=>[(5,.ow ((eL 3 Gr) b.1)),(6,.tv (eI b.2.1)),(7,.tv (eI b.2.2))]:=⟨⟩;have:HW 2 fun(c:Int)=>[(7,.tv (eI c))]:=⟨⟩;exact nz)
instance l7(t:Ap):Ct prog (Ix t) 132 [Gr t] (fun r=>.sh (eS r)):=Fj f132 0x815c363f3f5c85573fac [.mv (.c (.str ⟨#[]⟩)),.bin (.s) .add (.c (.str ⟨#[34]⟩)) (.s 7),.bin (.s) .add (.s 8) (.c (.str ⟨#[34]⟩))] [.tmp 2] (h:=fun r h a b=>by
  unfold Ix at h;exact nz)
instance qR(t:Ap):Ct prog (Fo t) 88 [Gr t] (fun r=>.sh (eB r)):=Fj f88 0xea5780730ceddf9216c9116d0136bf55fc01ac [.bin (.s) .eql (.s 9) (.c (.str ⟨#[]⟩))] [.tmp 2] (h:=fun r h a b=>by
  unfold Fo at h;exact nz)
instance ls(a:ByteArray):Ct prog (EG a) 122 [eS a] (fun r=>.sh (eB r)):=Fj f122 0x810e0046e8 [] [.tmp 2] (h:=fun r h b c=>by
  unfold EG at h;exact nz)
instance lu(n:Int)(b:Int)(a:Int):Ct prog (Cd n b a) 123 [eI n,eI b,eI a] (fun r=>.sh (eB r)):=Fj f123 0xeaed6ab703 [] [.tmp 6] (h:=fun r h c d=>by
  unfold Cd at h;exact nz)
abbrev Q_124(n:Nat):Prop:=∀(t:AB)(a:Int),Ct prog (EH n t a) 124 [AS t,eI a] (fun r=>.own (lA r))
theorem fx(n:Nat)(_ih_124:Q_124 n)(t:AB)(a:Int):Ct prog (EH (n+1) t a) 124 [AS t,eI a] (fun r=>.own (lA r)):=Fj f124 0x8204487441fd04480e91fd380447ff04c085f240bb [] [.tmp 4] (h:=fun r h b c=>by
  unfold EH at h;exact nz)
theorem fw:∀n:Nat,Q_124 n:=by
  intro n
  induction n with
  |zero=>exact(fun t a=>⟨fun _ h=>by cases h⟩)
  |succ n b=>exact fx n b
instance lv(t:AB)(a:Int):Ct prog (Jp t a) 124 [AS t,eI a] (fun r=>.own (lA r)):=⟨fun r h=>by
  obtain ⟨N,b⟩:=Ey h;exact((fw N) t a).snd r (b N (ae _))⟩
instance mV(l:List ByteArray):Ct prog (H8 l) 160 [lB l] (fun r=>.sh (eI r)):=Fj f160 0xa20375ab0375040300f33686d6d603755f30040300f436c1d6fa30037581b80be8 [] [.tmp 2] (h:=fun r h c d=>by
  unfold H8 at h;have:HA 0 3 0 0 fun(a:Int)(_:Unit)=>[(3,.tv (eI a))]:=⟨⟩;have:HA 2 4 3 0 fun(b:Int)(_:Unit)=>[(4,.tv (eI b))]:=⟨⟩;exact nz)
instance lw(a:o3):Ct prog (FZ a) 125 [FD a] (fun r=>.sh (eI r)):=Fj f125 0x8190056f9f7e535cc69f3690895c7e01895c850b9f01ac [] [.tmp 2] (h:=fun r h b c=>by
  unfold FZ at h;exact nz)
instance qM(t:AB)(a:Int):Ct prog (I1 t a) 83 [AS t,eI a] (fun r=>.sh (eI r)):=Fj f83 0xa27702abc6fb3077020977f336866ebd306ebd3077025f300977f436c16ebd30fa307702816f9fd8906f306f9f820e0197c1e75c05bc0371bc04ab3686576efd05bc035f3071bc048136c1579b02c9a7d980bb [] [.tmp 4] (h:=fun r h e f=>by
  unfold I1 at h;have:HA 0 6 1 0 fun(c:Int)(_:Unit)=>[(6,.tv (eI c))]:=⟨⟩;have:HA 2 8 7 0 fun(d:Int)(_:Unit)=>[(8,.tv (eI d))]:=⟨⟩;have:HA 4 9 8 0 fun(b:Int)(_:Unit)=>[(9,.tv (eI b))]:=⟨⟩;exact nz)
instance ly(b:Int)(a:Int):Ct prog (G0 b a) 126 [eI b,eI a] (fun r=>.sh (eB r)):=Fj f126 0xc30a0eed300eb9 [] [.tmp 4] (h:=fun r h c d=>by
  unfold G0 at h;exact nz)
instance qN(t:AB)(a:Int):Ct prog (I0 t a) 84 [AS t,eI a] (fun r=>.sh (eI r)):=Fj f84 0x81908903be030542010a8903eb9f010a89017e0189015c816f5705020271bc04ab3686576e07d30502025f3071bc048136c157074b03c9074407d301bb [] [.tmp 4] (h:=fun r h c d=>by
  unfold I0 at h;have:HA 0 6 1 0 fun(b:Int)(_:Unit)=>[(6,.tv (eI b))]:=⟨⟩;exact nz)
instance pV(t:AB):Ct prog (El t) 47 [AS t] (fun r=>.tp [eS r.1,eI r.2]):=Fj f47 0x81bf00069eab76016e07d3610ec4faf7069e8130049eab76016efd610ec430cd80049e8136bf8ae253e336bf850b803fac [.mv (.c (.str ⟨#[]⟩)),.mv (.c (.str ⟨#[]⟩)),.mv (.c (.str ⟨#[]⟩)),.mv (.c (.str ⟨#[]⟩))] [.tmp 2,.tmp 3] (h:=fun r h d e=>by
  unfold El at h;have:HA 0 4 1 0 fun(a:Int)(_:Unit)=>[(4,.tv (eI a))]:=⟨⟩;have:HA 2 6 1 1 fun(b:Int)(_:Unit)=>[(6,.tv (eI b))]:=⟨⟩;exact nz)
instance lz(n:Int):Ct prog (Hl n) 127 [eI n] (fun r=>.sh (eB r)):=Fj f127 0xea7de8 [] [.tmp 2] (h:=fun r h a b=>by
  unfold Hl at h;exact nz)
instance l3(e:Bv)(a:Int):Ct prog (Jq e a) 128 [Bp e,eI a] (fun r=>.sh (eB r)):=Fj f128 0xea017e01737e017301f7735c6980bb [] [.tmp 4] (h:=fun r h b c=>by
  unfold Jq at h;exact nz)
instance qO(g:d3):Ct prog (H9 g) 85 [BO g] (fun r=>.sh (eI r)):=Fj f85 0xa2049eab36c1e3d0d3fa5cf29e81303102ab36c1b25730cd8031028190e2530b80ac [] [.tmp 2] (h:=fun r h c d=>by
  unfold H9 at h;have:HA 0 3 1 0 fun(a:Int)(_:Unit)=>[(3,.tv (eI a))]:=⟨⟩;have:HA 2 4 1 1 fun(b:Int)(_:Unit)=>[(4,.tv (eI b))]:=⟨⟩;exact nz)
instance l5(t:AB)(a:Int)(b:Int):Ct prog (G2 t a b) 130 [AS t,eI a,eI b] (fun r=>.sh (eI r)):=Fj f130 0x8190896f5730896f803672d18d93029e [] [.tmp 6] (h:=fun r h c d=>by
  unfold G2 at h;exact nz)
instance l4(t:AB)(a:Int):Ct prog (H7 t a) 129 [AS t,eI a] (fun r=>.tp [lA r.1,eI r.2]):=Fj f129 0xe90207010977f30204480447a702aa034201489fb49b04c9fb3007ad0b30097703e90ec404c03604c07f308d0440bb [] [.tmp 4,.tmp 5] (h:=fun r h d e=>by
  unfold H7 at h;have:HA 0 9 8 0 fun(b:Int)(c:List o3)=>[(7,.ow (lA c)),(9,.tv (eI b))]:=⟨⟩;exact nz)
instance qP(t:AB)(a:Int)(b:D1):Ct prog (I5 t a b) 86 [AS t,eI a,lI b] (fun r=>.sh (eI r)):=Fj f86 0xa2090702f39005febd3060ed91bd30d6fa30090702f4b8d80b30e10197830241fdb8e33093029e [] [.tmp 6] (h:=fun r h d e=>by
  unfold I5 at h;have:HA 0 9 7 0 fun(c:Int)(_:Unit)=>[(9,.tv (eI c))]:=⟨⟩;exact nz)
abbrev Q_131(n:Nat):Prop:=∀(t:AB)(a:Int)(b:Int),Ct prog (Dt n t a b) 131 [AS t,eI a,eI b] (fun r=>.sh (eB r))
theorem fz(n:Nat)(_ih_131:Q_131 n)(t:AB)(a:Int)(b:Int):Ct prog (Dt (n+1) t a b) 131 [AS t,eI a,eI b] (fun r=>.sh (eB r)):=Fj f131 0xc30a0e0191fd38537d6a93029e [] [.tmp 6] (h:=fun r h c d=>by
  unfold Dt at h;exact nz)
theorem fy:∀n:Nat,Q_131 n:=by
  intro n
  induction n with
  |zero=>exact(fun t a b=>⟨fun _ h=>by cases h⟩)
  |succ n c=>exact fz n c
instance l6(t:AB)(a:Int)(b:Int):Ct prog (Iy t a b) 131 [AS t,eI a,eI b] (fun r=>.sh (eB r)):=⟨fun r h=>by
  obtain ⟨N,c⟩:=Ey h;exact((fy N) t a b).snd r (c N (ae _))⟩
instance qQ(t:AB)(b:Int)(a:Int)(c:Int):Ct prog (Iz t b a c) 87 [AS t,eI b,eI a,eI c] (fun r=>.sh (eB r)):=Fj f87 0xc30efe07d3c4699107d3c49089e27ddd8d935b0103 [] [.tmp 8] (h:=fun r h d e=>by
  unfold Iz at h;exact nz)
instance pW(t:AB)(a:AL):Ct prog (G3 t a) 48 [AS t,CL a] (fun r=>.tp [eI r.1,eI r.2]):=Fj f48 0x6c000b5bf37601c1607ed5605cd557387601850b5c579205f9849132fa9132010b5bf45b02095bf37630610eb27eb2d5385b02cdd501095bf476850bd50b7e767fb57672d13830a6 [] [.tmp 4,.tmp 5] (h:=fun r h d e=>by
  unfold G3 at h;have:HA 0 9 3 0 fun(b:Int)(_:Unit)=>[(9,.tv (eI b))]:=⟨⟩;have:HA 2 11 3 1 fun(c:Int)(_:Unit)=>[(11,.tv (eI c))]:=⟨⟩;exact nz)
instance pX(d:AX)(b:Int)(a:ByteArray):Ct prog (A4 d b a) 49 [.pt (RN d).cells,eI b,eS a] (fun r=>.sh (eB r)):=Fj f49 0xc30a060191034331f6d4303f3073016e034331f6d4300a6fd40131627d5b6230b703 [.bin (.s) .eql (.s 40) (.c (.str ⟨#[]⟩))] [.tmp 6] (h:=fun r h e f=>by
  unfold A4 at h;exact nz)
noncomputable def U9:PC:=PC.of Mu f50.body (xq bT 0x5e013caa0362fe03432d6fd432317cd43232aa02f632855b7c5e02) []
theorem kG:CK f50 U9 []:=by decide +kernel
theorem kT:PC.ry U9=true/\PC.rr 0 U9=true:=by decide +kernel
instance pY(a:AX)(e:Int):Ct prog (BV a e) 50 [.undef,eI e] (fun r=>.bo (Cw a) (Cw r) 0 []):=PS kG kT fun r h d c f=>by
  unfold U9;unfold f50;unfold BV at h;have:HJ 8 fun(b:AX)=>[(0,.bx (Cw b))]:=⟨⟩;exact nz
noncomputable def VA:PC:=PC.of Mu f51.body (xq bT 0x8191034305317cd432aa016205317cffbff032882030323fb703) [.mv (.c (.str ⟨#[]⟩)),.mv (.c (.str ⟨#[]⟩))]
theorem kH:CK f51 VA [.tmp 6]:=by decide +kernel
theorem kU:PC.ry VA=true/\PC.rr 0 VA=true:=by decide +kernel
instance pZ(c:AX)(b:Int)(a:ByteArray):Ct prog (AW c b a) 51 [.undef,eI b,eS a] (fun r=>.bo (Cw c) (Cw r.2) 0 [eS r.1]):=PS kH kU fun r h e d f=>by
  unfold VA;unfold f51;unfold AW at h;exact nz
instance pf(a:ByteArray):Ct prog (Bs a) 52 [eS a] (fun r=>.tp [eI r.1,eI r.2]):=Fj f52 0x6cf2530400f3533f05127df2ad0c307800036c76c100466a96 [.uj .i64 (.s 21)] [.tmp 2,.tmp 3] (h:=fun r h d e=>by
  unfold Bs at h;have:HA 0 5 0 0 fun(b:Int)(c:Int)=>[(4,.tv (eI c)),(5,.tv (eI b))]:=⟨⟩;exact nz)
noncomputable def VB:PC:=PC.of Mu f53.body (xq bT 0x82023f320775ff07b7043cbcef9e0907b7050907b705de0955556d3f3277b70577b7053cf0328ae70b303f3277b70577b7053caa016205317c6c3f320775ff8a0a0a3f326a3f32535b7c07b7043f3201c00140b703) [.rJ 51 [.s 11,.c (.int .i64 4),.c (.str ⟨#[40]⟩)] 0,.rK 49 [.s 19,.c (.int .i64 2),.c (.str ⟨#[]⟩)],.rK 49 [.s 24,.c (.int .i64 4),.c (.str ⟨#[45]⟩)],.rK 49 [.s 29,.c (.int .i64 4),.c (.str ⟨#[45]⟩)],.rK 49 [.s 39,.c (.int .i64 2),.c (.str ⟨#[]⟩)],.rJ 51 [.s 50,.c (.int .i64 2),.c (.str ⟨#[]⟩)] 0,.rJ 51 [.s 62,.c (.int .i64 4),.c (.str ⟨#[41]⟩)] 0]
theorem kI:CK f53 VB [.tmp 6]:=by decide +kernel
theorem kV:PC.ry VB=true/\PC.rr 0 VB=true:=by decide +kernel
instance ph(c:AX)(b:Int)(a:Bool):Ct prog (BE c b a) 53 [.undef,eI b,eB a] (fun r=>.bo (Cw c) (Cw r.2) 0 [lI r.1]):=PS kI kV fun r h f e g=>by
  unfold VB;unfold f53;unfold BE at h;have:HW 0 fun(d:AX×D1)=>[(0,.bx (Cw d.1)),(7,.ow (lI d.2))]:=⟨⟩;exact nz
instance o8(t:AB)(a:AL)(b:ByteArray):Ct prog (IA t a b) 17 [AS t,CL a,eS b] (fun r=>.tp [Cu r.1,eI r.2.1,eI r.2.2]):=Fj f17 0x6c9ba7ff06013b6c9b5b62377462371246855b623733cc0604ff33cc0d713caa034204480447a70403423f37aa0241b1f037aa0162b1f037aa3737b1f037aa326d3f3715c93f3733cc0d7133cc0d713cf0378a6f9f013f3733cc0604ff8a055b623753d831623733cc0d71045014c93ffc00c2bf184601769b3012c8e9116d01769b0112c8d16538769b0112c8d1383014c963bc [.ta [none,none,none,none] (.s 50),.r8 [.v (.s 53) 0 3,.v (.s 53) 1 3,.v (.s 53) 2 3,.z ⟨true,.list 4 []⟩],.rK 49 [.s 69,.c (.int .i64 1),.c (.str ⟨#[109,111,118,101]⟩)],.rJ 51 [.s 79,.c (.int .i64 1),.c (.str ⟨#[109,111,118,101]⟩)] 0,.rJ 51 [.s 82,.c (.int .i64 2),.c (.str ⟨#[]⟩)] 0,.rJ 51 [.s 102,.c (.int .i64 4),.c (.str ⟨#[59]⟩)] 0] [.cell 6 (some 4),.tmp 7,.tmp 8] (h:=fun r h e f=>by
  unfold IA at h;have:HW 0 fun(d:AN×AX)=>[(17,.bx [⟨false,lI d.1.qy.d3.ci⟩,⟨false,lE d.1.qy.d3.d6⟩,⟨false,(eL 1 lI) d.1.qy.hT⟩,⟨true,(eL 4 GX) d.1.o4⟩]),(51,.bx (Cw d.2))]:=⟨⟩;exact nz)
instance qL(a:D1)(b:D1):Ct prog (F9 a b) 82 [lI a,lI b] (fun r=>.sh (eB r)):=Fj f82 0xa2055ef3b8d6d6fa7d5ef4b8d80bb9 [] [.tmp 4] (h:=fun r h d e=>by
  unfold F9 at h;have:HA 0 5 0 0 fun(c:Int)(_:Unit)=>[(5,.tv (eI c))]:=⟨⟩;exact nz)
instance pR(a:ec)(b:ec):Ct prog (KT a b) 43 [Br a,Br b] (fun r=>.sh (eB r)):=Fj f43 0xc30e5c5c695780a6 [] [.tmp 4] (h:=fun r h c d=>by
  unfold KT at h;exact nz)
instance pS(a:D1)(b:D1):Ct prog (GA a b) 44 [lI a,lI b] (fun r=>.sh (eB r)):=Fj f44 0xa2055ef3b8d6d6fa7d5ef4b8d80bb9 [] [.tmp 4] (h:=fun r h d e=>by
  unfold GA at h;have:HA 0 5 0 0 fun(c:Int)(_:Unit)=>[(5,.tv (eI c))]:=⟨⟩;exact nz)
instance o0(a:List CQ)(b:List CQ):Ct prog (Fa a b) 13 [(eL 4 GX) a,(eL 4 GX) b] (fun r=>.sh (eB r)):=Fj f13 0xa2055ef39089fe0141bd30fe0141bd6a0a8938370141bd3038370141bded6ebd306ebd30fa7d5ef4b8d80bb9 [] [.tmp 4] (h:=fun r h d e=>by
  unfold Fa at h;have:HA 0 5 0 0 fun(c:Int)(_:Unit)=>[(5,.tv (eI c))]:=⟨⟩;exact nz)
instance qS(a:d3)(b:d3):Ct prog (I3 a b) 89 [BO a,BO b] (fun r=>.sh (eB r)):=Fj f89 0xa2055bf336bfd0d3d0d3fa5c535bf490e20bf7895780a6 [.bin (.a [0,0,0]) .neq (.s 32) (.s 37)] [.tmp 4] (h:=fun r h d e=>by
  unfold I3 at h;have:HA 0 5 2 1 fun(c:Int)(_:Unit)=>[(5,.tv (eI c))]:=⟨⟩;exact nz)
instance qT(a:D1)(b:D1):Ct prog (Gt a b) 90 [lI a,lI b] (fun r=>.sh (eI r)):=Fj f90 0x816f010be0055ef33605d6d685d660b9ff8a6f6a6f7d5ef4e0 [] [.tmp 4] (h:=fun r h d e=>by
  unfold Gt at h;have:HW 0 fun(c:Int)=>[(5,.tv (eI c))]:=⟨⟩;exact nz)
instance pi(a:AL)(b:AL):Ct prog (I4 a b) 54 [CL a,CL b] (fun r=>.sh (eB r)):=Fj f54 0xa2055bf3b80eb27eb27efa7e535bf4906f7e0b7e0189b5b501a6 [] [.tmp 4] (h:=fun r h d e=>by
  unfold I4 at h;have:HA 0 5 2 2 fun(c:Int)(_:Unit)=>[(5,.tv (eI c))]:=⟨⟩;exact nz)
instance o9(a:AN)(b:AN):Ct prog (I6 a b) 18 [Cu a,Cu b] (fun r=>.sh (eB r)):=Fj f18 0xc30e9f9f696532653201a6 [] [.tmp 4] (h:=fun r h c d=>by
  unfold I6 at h;exact nz)
end Go.Sf.Sc
