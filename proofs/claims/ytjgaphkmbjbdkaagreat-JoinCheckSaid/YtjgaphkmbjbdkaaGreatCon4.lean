/- Contracts of the functions. -/
import Derived.Test.YtjgaphkmbjbdkaaGreatCon0
import Derived.Test.YtjgaphkmbjbdkaaGreatCon1
import Derived.Test.YtjgaphkmbjbdkaaGreatCon2
import Derived.Test.YtjgaphkmbjbdkaaGreatCon3
import Derived.Test.YtjgaphkmbjbdkaaGreatTryzShelf
import Derived.Test.YtjgaphkmbjbdkaaGreatTw
set_option linter.all false
set_option maxRecDepth 100000
set_option maxHeartbeats 4000000
namespace Go.Sf.Sc
open Go Go.Sf Go.Proofs.Tryz
instance yo(t:AC)(a:eg)(b:AF)(m:AL):CT (KL t a b m) 158 [AM t,Bz a,BO b,BT m] (fun r=>.tp [Bv r.1,eI r.2]):=Fk f158 0x81f4c50f3e37f40e468a7231741f42550b6c381f4237f465f30152360152be024a244204460ee87d2242e47d0d427d0b420b3174c60edc6c2242c16c0d426c0b420b6c38c6024a224204460e5a0be40e590bc13f12c90f46e7e7d337f40e46880137f4654685308175030f426262a1104289b33637f46546853080e075c4360b42c43637f465f38007c975c4c43638b33637f465f3e762d3360111c95c8d [.stq 38 [none,none,none,none,none,none,none,none,none,none,none,none,none,none,none,none,none,none,none,none,none,none,none,none,none,none,none,none,none,none,none,some ⟨true,.list 1 []⟩,some ⟨true,.list 3 []⟩,some ⟨true,.xn []⟩,none,none,none,none] (.s 15) (.s 82)] [.cell 8 (some 38),.tmp 9] fun r h c d=>by
  unfold KL at h;exact nz
instance xY(t:AC)(a:eg)(b:AF)(m:AL):CT (HQ t a b m) 100 [AM t,Bz a,BO b,BT m] (fun r=>.tp [Bv r.1,eI r.2]):=Fk f100 0x81f46be762d33637f465f3e7d3360111c95c8d [] [.cell 8 (some 38),.tmp 9] fun r h c d=>by
  unfold HQ at h;exact nz
instance c99(t:AC)(a:List eg)(b:AF)(m:HF):CT (Er t a b m) 99 [AM t,(eL 25 Bz) a,BO b,GE m] (fun r=>.tp [Bv r.1,eI r.2]):=Fk f99 0x8013b81f46be7b362d3194359ac37f40e468a72015955590111c9935c30 [] [.cell 8 (some 38),.tmp 9] fun r h c d=>by
  unfold Er at h;exact nz
instance c50(t:AC)(a:List eg)(d:A8):CT (Dm t a d) 50 [AM t,(eL 25 Bz) a,Kj d] (fun r=>.tp [(eL 38 Bv) r.1,eI r.2.1,eI r.2.2]):=Fj f50 0x9d820bcb0a0121201fbc310791ee3ba502621f4226482647c502b926c0306af411c975d462ac044b8113c9d4044370f921201fbc3107db0342a510c9623226c0b926c0850bb4b926c077e732ac3026405c30 [] fun h=>by
  unfold Dm at h;have:HA 0 33 32 0 fun(c:Int)(b:List AP×AF)=>[(10,.ow ((eL 38 Bv) b.1)),(11,.bx [⟨false,lI b.2.d5.d3⟩,⟨false,lE b.2.d5.d4⟩,⟨false,(eL 1 lI) b.2.ed⟩]),(33,.tv (eI c))]:=⟨⟩;exact nz
instance yr(a:d6)(b:d6):CT (El a b) 161 [Ao a,Ao b] rB:=Fj f161 0xfb5a5a65bade [] fun h=>by
  unfold El at h;exact nz
instance ABA(a:d5)(b:d5):CT (P0 a b) 288 [Ar a,Ar b] rB:=Fj f288 0xfb5a5a65bade [] fun h=>by
  unfold P0 at h;exact nz
instance z8(a:ea)(b:ea):CT (GA a b) 222 [A9 a,A9 b] rB:=Fj f222 0xfb03ad03ad700e7e7efcb4b465c4c4de [] fun h=>by
  unfold GA at h;exact nz
abbrev Q_223(n:Nat):Prop:=∀(a:d7)(b:d7),CT (Cq n a b) 223 [AH a,AH b] rB
theorem t6(n:Nat)(_ih_223:Q_223 n)(a:d7)(b:d7):CT (Cq (n+1) a b) 223 [AH a,AH b] rB:=Fj f223 0x903f5a5a700e03ad03ad657e7e9ba6e4e470a6c1c1fcb4b470087fa936a955bab8b809c909c989ad89adde [.call 291 [.s 65,.s 67,.c (.clo 223 [])]] fun h=>by
  unfold Cq at h;exact nz
theorem tz:∀n:Nat,Q_223 n:=by
  intro n
  induction n with
  |zero=>exact(fun a b=>⟨fun _ h=>by cases h⟩)
  |succ n c=>exact t6 n c
instance AAA(a:d7)(b:d7):CT (L3 a b) 223 [AH a,AH b] rB:=⟨fun r h=>by
  obtain ⟨N,c⟩:=Cl h;exact((tz N) a b).snd r (c N (az _))⟩
instance yp(a:eg)(b:eg):CT (Lp a b) 159 [Bz a,Bz b] rB:=Fj f159 0xfba11042a110e67f0d42360de60e7d0b427d0be60e6c0b426c0be60e89c689c6700e89b389b37007030f42030f420106bade [] fun h=>by
  unfold Lp at h;exact nz
instance yq(a:AL)(b:AL):CT (Jk a b) 160 [BT a,BT b] rB:=Fj f160 0xfb7e7e65c4c4de [] fun h=>by
  unfold Jk at h;exact nz
instance xZ(a:AP)(b:AP):CT (Lu a b) 101 [Bv a,Bv b] rB:=Fj f101 0x907f24423624e67f22423622e6e71f42621fe6e71c42621ce6e7194262194265d332d332de [] fun h=>by
  unfold Lu at h;exact nz
instance c51(t:AC)(a:AP):CT (Ir t a) 51 [AM t,Bv a] rB:=Fj f51 0xfbc5c5555df411c975621942621c42d33236de [] fun h=>by
  unfold Ir at h;exact nz
instance c24(t:AC)(c:List eg)(a:AP)(b:AP):CT (Ie t c a b) 24 [AM t,(eL 25 Bz) c,Bv a,Bv b] rI:=Fj f24 0x81f1621c42621c429ba6c53601a6c5369fcb11751046ac9a5c30 [] fun h=>by
  unfold Ie at h;exact nz
instance yu(n:Int):CT (F6 n) 163 [eI n] (fun r=>.own (lI r)):=Fj f163 0x82183109088c9101fd30148101316109088c819514993f3040d8 [.mkx 1 [.int .i64 0] (.s 5)] fun h=>by
  unfold F6 at h;have:HA 0 9 8 0 fun(b:Int)(a:Fp)=>[(3,.xo 1 (List.map eI a)),(9,.tv (eI b))]:=⟨⟩;exact nz
instance xa(g:d5):CT (FZ g) 102 [Ar g] (fun r=>.tp [Ao r.1,eI r.2]):=Fk f102 0xb23b818004460ee80edc378060f37f60c99300 [] [.cell 2 (some 2),.tmp 3] fun r h a b=>by
  unfold FZ at h;exact nz
instance c54(g:d5):CT (Dq g) 54 [Ar g] (fun r=>.sh (Ao r)):=Fk f54 0x80360180e07536e09300 [] [.cell 2 (some 2)] fun r h a b=>by
  unfold Dq at h;exact nz
instance c55(l:Fp)(a:Fp):CT (F3 l a) 55 [lI l,lI a] (fun r=>.own (lI r)):=Fj f55 0x8218b10cbc0555910cbc05550cbc05553c01fd5e78146a8117df55f90cbc0555819594991a30406002 [] fun h=>by
  unfold F3 at h;have:HA 0 12 11 0 fun(c:Int)(b:Fp)=>[(5,.xo 1 (List.map eI b)),(12,.tv (eI c))]:=⟨⟩;exact nz
instance c56(a:AF):CT (G4 a) 56 [BO a] (fun r=>.sh (BO r)):=Fk f56 0xa5625b02dd115b0591014aa901d90ef6a9825e5b0261dd115b05dba9035010c93f3f0ee40ec110c99300 [.Aad [.w 9,.w 13],.Aad [.g 14 0 2,.g 14 1 2,.z ⟨true,.list 1 []⟩]] [.cell 2 (some 3)] fun r h d e=>by
  unfold G4 at h;have:HA 0 19 18 0 fun(c:Int)(b:AF)=>[(3,.bx [⟨true,lI b.d5.d3⟩,⟨true,lE b.d5.d4⟩,⟨true,(eL 1 lI) b.ed⟩]),(19,.tv (eI c))]:=⟨⟩;exact nz
instance c26(t:AC)(a:List eg)(d:A8):CT (D5 t a d) 26 [AM t,(eL 25 Bz) a,Kj d] (fun r=>.tp [BO r.1,Ao r.2.1,eI r.2.2]):=Fk f26 0xeb023b8180a536e7b7eb04252423b7eb07910c013b80a504460e7d22425a0e6c224259621f42f411c9c52643b7eb0461252423b7eb07978180a5e010c97f383262323780a5604611f301821175d4ac60c910c95c30 [] [.cell 6 (some 3),.cell 7 (some 2),.tmp 8] fun r h e f=>by
  unfold D5 at h;have:HA 0 37 36 0 fun(c:Int)(b:AF×d6)=>[(12,.bx [⟨false,lI b.1.d5.d3⟩,⟨false,lE b.1.d5.d4⟩,⟨false,(eL 1 lI) b.1.ed⟩]),(13,.bx [⟨false,lI b.2.d3⟩,⟨false,lI b.2.d4⟩]),(37,.tv (eI c))]:=⟨⟩;exact nz
instance c59(k:Int)(a:AF):CT (Ib k a) 59 [eI k,.pt (BO a).cells] rB:=Fj f59 0x8172c1e5 [] fun h=>by
  unfold Ib at h;exact nz
instance c60(k:Int)(a:AF):CT (Ic k a) 60 [eI k,.pt (BO a).cells] rB:=Fj f60 0x8172e4e5 [] fun h=>by
  unfold Ic at h;exact nz
instance xf(n:Int)(a:Fp)(b:Fp):CT (MB n a b) 106 [eI n,lI a,lI b] (fun r=>.tp [lI r.1,eB r.2]):=Fj f106 0x8182180801100f0e0802055f100f0e080205100f0e0802053c01fd5e781437e28a05bb17df01145517df0114ff100f0e080205850137e28705bb055d819e08f9100f0e0802059781991a30473040026003 [] fun h=>by
  unfold MB at h;have:HA 0 16 15 0 fun(c:Int)(d:Fp)=>[(8,.xo 1 (List.map eI d)),(16,.tv (eI c))]:=⟨⟩;exact nz
noncomputable def ZG:PC:=PC.of Rz f165.body (xq bT 0xa2013c3b3a05ef065f3c3b3a05ef063c3b3a05ef063c1f014108740151011e014108a8323700d2321f01410874014faa011e014108a832ff3c3b3a05ef068a20011d014108a8703f626270b19e0307a8559e0307a8a581f0cd4360f93c3b3a05ef06db017403a8a5f0074617df7e1d3808a817df5a1d3808a859a5f0cd923174383832b50b31743838325d151d014108a86001) [.bin (.a [0,0,0]) .neq (.s 85) (.s 86)]
theorem uR:CK f165 ZG [.tmp 2]:=by decide +kernel
theorem ut:PC.t1 ZG=true/\PC.t5 0 ZG=true:=by decide +kernel
abbrev Q_165(n:Nat):Prop:=∀(a:BZ),CT (B7 n a) 165 [.undef] (fun r=>.bo (Ci a) (Ci r.2) 0 [eB r.1])
theorem tY(n:Nat)(_ih_165:Q_165 n)(a:BZ):CT (B7 (n+1) a) 165 [.undef] (fun r=>.bo (Ci a) (Ci r.2) 0 [eB r.1]):=cR uR ut fun r h e d f=>by
  unfold ZG;unfold f165;unfold B7 at h;have:HA 0 60 59 0 fun(b:Int)(c:BZ)=>[(0,.bx (Ci c)),(60,.tv (eI b))]:=⟨⟩;exact nz
theorem tX:∀n:Nat,Q_165 n:=by
  intro n
  induction n with
  |zero=>exact(fun a=>⟨fun _ h=>by cases h⟩)
  |succ n b=>exact tY n b
instance yw(a:BZ):CT (JH a) 165 [.undef] (fun r=>.bo (Ci a) (Ci r.2) 0 [eB r.1]):=⟨fun r h=>by
  obtain ⟨N,b⟩:=Cl h;exact((tX N) a).snd r (b N (az _))⟩
instance AAG(g:d5)(a:Int)(b:Int):CT (Ia g a b) 230 [Ar g,eI a,eI b] rI:=Fj f230 0x81010701b70b07b20691b70b07b206b70b07b2065f018ab17e55015aa5f0cd4307f9b70b07b206dbb3819ab202 [] fun h=>by
  unfold Ia at h;have:HA 0 13 12 0 fun(c:Int)(d:Int)=>[(7,.tv (eI d)),(13,.tv (eI c))]:=⟨⟩;exact nz
instance yx(a:BZ):CT (Fw a) 166 [.pt (ef a).cells] rB:=Fj f166 0xa2dd11ef05919b050e019e6c0874ac38037465303638383830050e9e6c087430363803746530363838385d815ef8dd11ef05db3808745d726c087430d8 [] fun h=>by
  unfold Fw at h;have:HA 0 19 18 0 fun(b:Int)(_:Unit)=>[(19,.tv (eI b))]:=⟨⟩;exact nz
noncomputable def ZE:PC:=PC.of Rz f107.body (xq bT 0xa2011e1d1cef055f1e1d1cef051e1d1cef053c1f3808740151011e3808a8329b0052320120321f380874014faa011e3808a832ff1e1d1cef058aa69e5b4103a89e5b7438327020011d3808a8fc9e6c38383832300ab19e0306a8559e0306a89d5e60f91e1d1cef05db383803a837005232850b6c383838325d151d3808a86001) []
theorem uQ:CK f107 ZE [.tmp 2]:=by decide +kernel
theorem ur:PC.t1 ZE=true/\PC.t5 0 ZE=true:=by decide +kernel
abbrev Q_107(n:Nat):Prop:=∀(a:BZ),CT (B8 n a) 107 [.undef] (fun r=>.bo (Ci a) (Ci r.2) 0 [eB r.1])
theorem tQ(n:Nat)(_ih_107:Q_107 n)(a:BZ):CT (B8 (n+1) a) 107 [.undef] (fun r=>.bo (Ci a) (Ci r.2) 0 [eB r.1]):=cR uQ ur fun r h e d f=>by
  unfold ZE;unfold f107;unfold B8 at h;have:HA 0 30 29 0 fun(b:Int)(c:BZ)=>[(0,.bx (Ci c)),(30,.tv (eI b))]:=⟨⟩;exact nz
theorem tO:∀n:Nat,Q_107 n:=by
  intro n
  induction n with
  |zero=>exact(fun a=>⟨fun _ h=>by cases h⟩)
  |succ n b=>exact tQ n b
instance xg(a:BZ):CT (JI a) 107 [.undef] (fun r=>.bo (Ci a) (Ci r.2) 0 [eB r.1]):=⟨fun r h=>by
  obtain ⟨N,b⟩:=Cl h;exact((tO N) a).snd r (b N (az _))⟩
instance c61(a:AF)(b:AF)(c:d6)(d:d6):CT (HM a b c d) 61 [BO a,BO b,Ao c,Ao d] (fun r=>.tp [Ao r.1,eB r.2]):=Fk f61 0x8180ac087438483e60523800c2bf1246306262378000468a0830085de35a5a0be481e3ba0bc1378000468a72e40be4550bc10bc160c95c8d [.Aa3 [none,none,none,none,none,none,none,none,some ⟨true,.xl 1 []⟩,some ⟨true,.xl 1 []⟩] (.s 71)] [.cell 8 (some 2),.tmp 9] fun r h e f=>by
  unfold HM at h;exact nz
instance c62(n:Int):CT (JU n) 62 [eI n] (fun r=>.own (lI r)):=Fj f62 0xf23106058c91b2d9cb8101316106058c9de20140d8 [] fun h=>by
  unfold JU at h;have:HA 0 6 5 0 fun(b:Int)(a:Fp)=>[(3,.ow (lI a)),(6,.tv (eI b))]:=⟨⟩;exact nz
instance c27(a:AF)(b:AF)(m:d6):CT (Eu a b m) 27 [BO a,BO b,Ao m] rB:=Fj f27 0xfb5a5a700eba308180e0753604460ee80edc62629b0e105a6510599b050e01d90eaa5a597072e4e8550bc1dc9a8d [] fun h=>by
  unfold Eu at h;exact nz
instance c29(l:Fp)(a:Fp):CT (Cg l a) 29 [lI l,lI a] (fun r=>.own (lI r)):=Fj f29 0xf205700908055591b2d9cbe97cb106e97cb1063c01bb6a5eb161e90805559781e201406002 [] fun h=>by
  unfold Cg at h;have:HA 0 10 9 0 fun(c:Int)(b:Fp)=>[(5,.ow (lI b)),(10,.tv (eI c))]:=⟨⟩;exact nz
instance c63(a:AF):CT (Mc a) 63 [BO a] (fun r=>.sh (BO r)):=Fk f63 0xa5625b02dd115b0591014aa901d90ef6a9825e5b0261dd115b05dba9035010c93f3f0ee40ec110c99300 [.Aad [.w 9,.w 13],.Aad [.g 14 0 2,.g 14 1 2,.z ⟨true,.list 1 []⟩]] [.cell 2 (some 3)] fun r h d e=>by
  unfold Mc at h;have:HA 0 19 18 0 fun(c:Int)(b:AF)=>[(3,.bx [⟨true,lI b.d5.d3⟩,⟨true,lE b.d5.d4⟩,⟨true,(eL 1 lI) b.ed⟩]),(19,.tv (eI c))]:=⟨⟩;exact nz
instance c28(b:AP)(a:At):CT (GH b a) 28 [Bv b,Ej a] (fun r=>.sh (CJ r)):=Fk f28 0x4013b094b144604460e7d22425a0e6c224259621f421346e71f4214c98d [] [.cell 4 (some 9)] fun r h c d=>by
  unfold GH at h;exact nz
instance c8(t:AC)(c:List eg)(a:AP)(b:AP)(j:x6):CT (IZ t c a b j) 8 [AM t,(eL 25 Bz) c,Bv a,Bv b,Ow j] (fun r=>.tp [eB r.1,eB r.2]):=Fj f8 0x81fb5a0e7d08425a65590e6c084259b98e0eaa5a595a598004460e5a5a0eba8004460e5a5a0eba8080e0e03f7fc53f7fc50180e075c5c5b98a087f0842626270b6055d80a5e010c91175d4adac8180a5e010c91175d432acb98aa6621f426238ad70a6621f42623832550ec5c5ac305c5c30 [.Aa5 (.s 86) 7 2 true,.Aa5 (.s 90) 7 2 true] fun h=>by
  unfold IZ at h;exact nz
instance AAU(t:AC)(p:d5)(g:d5)(a:Bool):CT (OJ t p g a) 244 [AM t,Ar p,Ar g,eB a] (fun r=>.tp [(eL 2 Ao) r.1,eI r.2]):=Fj f244 0x81826b0e01204636be3702c0777fbecbfe5c31 [] fun h=>by
  unfold OJ at h;exact nz
instance zX(t:AC)(p:ea)(b:AF)(a:Bool):CT (Gz t p b a) 195 [AM t,A9 p,BO b,eB a] (fun r=>.tp [(eL 3 BT) r.1,eI r.2]):=Fj f195 0x81f20d012827260d060506912827260d0605062827260d0605063c02034803470946ac026ae336628980e03602430df92827260d060506978103c03703c077e3ac32c4363703c077e789360103fe5c31 [] fun h=>by
  unfold Gz at h;have:HA 0 40 39 0 fun(c:Int)(d:List AL)=>[(13,.ow ((eL 3 BT) d)),(40,.tv (eI c))]:=⟨⟩;exact nz
instance yU(t:AC)(b:eg)(a:AF):CT (Iq t b a) 140 [AM t,Bz b,BO a] (fun r=>.tp [(eL 3 BT) r.1,eI r.2]):=Fj f140 0x81f2ee2625240bca07912625240bca072625240bca073c020348034762026af41149756262d336a50fc9cd43ee612625240bca07978103c03703c077e3030f426289b3363703c077e7d3360103fe8d [] fun h=>by
  unfold Iq at h;have:HA 0 38 37 0 fun(c:Int)(d:List AL)=>[(11,.ow ((eL 3 BT) d)),(38,.tv (eI c))]:=⟨⟩;exact nz
instance yV(c:Aq)(a:Int)(b:AP):CT (Kz c a b) 141 [CJ c,eI a,Bv b] (fun r=>.sh (CJ r)):=Fk f141 0x6013b094b144604460e7d22427d07420e6c22426c0742621f4222460162383282044804472146621942658c413214c95c30 [] [.cell 6 (some 9)] fun r h d e=>by
  unfold Kz at h;exact nz
instance yY(a:Aq)(y:Aq):CT (Nz a y) 144 [CJ a,CJ y] rB:=Fj f144 0x815d8000497536074236074262ad62adde [] fun h=>by
  unfold Nz at h;exact nz
instance yX(y:Aq)(a:Aq):CT (Md y a) 143 [CJ y,.pt (CJ a).cells] rB:=Fj f143 0x810ea1a1f5 [] fun h=>by
  unfold Md at h;exact nz
instance c86(t:AC)(c:List eg)(b:Aq)(a:Int):CT (NS t c b a) 86 [AM t,(eL 25 Bz) c,CJ b,eI a] (fun r=>.tp [(eL 9 CJ) r.1,eI r.2]):=Fj f86 0x81f20a01bc0431055f01bc0431720a043105282726bc04310891282726bc0431083d3c3b282726b7bc04310d5f3d3c3b282726b7bc04310d3d3c3b282726b7bc04310d3c0209480947a1023709c0850b733d3c3b282726b7bc04310d8e1001143d094b14c90ec501fac33709c0850b6c381f423709c077f411c9756262044109c3d336a50fc9cd43282726bc043108613d3c3b282726b7bc04310d97813709c077e362044109c3d336194b810cc9d31992bc04310561282726bc0431089781ffbc04310585010b8c7409c30a01d0bc04310581820947a10109405c3102 [] fun h=>by
  unfold NS at h;have:HW 0 fun(d:List Aq×Int)=>[(10,.ow ((eL 9 CJ) d.1)),(11,.tv (eI d.2))]:=⟨⟩;have:HA 2 40 39 0 fun(i:Int)(g:List Aq)=>[(10,.ow ((eL 9 CJ) g)),(40,.tv (eI i))]:=⟨⟩;have:HA 4 61 60 0 fun(e:Int)(f:List Aq)=>[(10,.ow ((eL 9 CJ) f)),(61,.tv (eI e))]:=⟨⟩;exact nz
instance c87(a:Aq):CT (H9 a) 87 [CJ a] rB:=Fj f87 0xfb7d0742656c07429a00 [] fun h=>by
  unfold H9 at h;exact nz
instance c44(t:AC)(e:List eg)(a:AP)(b:AP)(d:Int)(c:Bool):CT (PQ t e a b d c) 44 [AM t,(eL 25 Bz) e,Bv a,Bv b,eI d,eB c] (fun r=>.tp [Ow r.1,eI r.2]):=Fk f44 0x904b23460c01646312110c050691646312110c05066968676463dd110c050a916968676463dd110c050a6f6e6d696867646315dd110c050e5f6f6e6d696867646315dd110c050e6f6e6d696867646315dd110c050e904b244636d432d4329d80e075be62ad62ad6f6e6d696867646319181715dd110c05111918023b6f6e6d696867646319181715dd110c05113c8080360742360742818080e0e000460046ff6f6e6d696867646315dd110c050e8a0a0a0ea165a17805550b8c41320b8c4132094b14c9fa436968676463dd110c050a616f6e6d696867646315dd110c050e9781094b14c9fa43646312110c0506616968676463dd110c050a979d010cf9646312110c05068185b1370a4b0123468530e36536c5ac370a4b0123468530e36536c5ac370a4b0123f380e075c5c5370a4b23468a726c381f42550b6c381f42370a4b23468ab6b1370a4b0123f30ec5c5ac011ac9935c710103 [] [.cell 12 (some 10),.tmp 13] fun r h m n=>by
  unfold PQ at h;have:HA 0 100 99 0 fun(j:Int)(f:x6)=>[(12,.bx [⟨true,lI f.gt.hV.d5.d3⟩,⟨true,lE f.gt.hV.d5.d4⟩,⟨true,(eL 1 lI) f.gt.hV.ed⟩,⟨true,(eL 4 GE) f.gt.kl⟩,⟨true,lI f.ee.hV.d5.d3⟩,⟨true,lE f.ee.hV.d5.d4⟩,⟨true,(eL 1 lI) f.ee.hV.ed⟩,⟨true,(eL 4 GE) f.ee.kl⟩,⟨true,lI f.Iso.d3⟩,⟨true,lI f.Iso.d4⟩]),(100,.tv (eI j))]:=⟨⟩;have:HA 2 105 104 0 fun(l:Int)(i:x6)=>[(12,.bx [⟨true,lI i.gt.hV.d5.d3⟩,⟨true,lE i.gt.hV.d5.d4⟩,⟨true,(eL 1 lI) i.gt.hV.ed⟩,⟨true,(eL 4 GE) i.gt.kl⟩,⟨true,lI i.ee.hV.d5.d3⟩,⟨true,lE i.ee.hV.d5.d4⟩,⟨true,(eL 1 lI) i.ee.hV.ed⟩,⟨true,(eL 4 GE) i.ee.kl⟩,⟨true,lI i.Iso.d3⟩,⟨true,lI i.Iso.d4⟩]),(105,.tv (eI l))]:=⟨⟩;have:HA 4 111 110 0 fun(k:Int)(g:x6)=>[(12,.bx [⟨true,lI g.gt.hV.d5.d3⟩,⟨true,lE g.gt.hV.d5.d4⟩,⟨true,(eL 1 lI) g.gt.hV.ed⟩,⟨true,(eL 4 GE) g.gt.kl⟩,⟨true,lI g.ee.hV.d5.d3⟩,⟨true,lE g.ee.hV.d5.d4⟩,⟨true,(eL 1 lI) g.ee.hV.ed⟩,⟨true,(eL 4 GE) g.ee.kl⟩,⟨true,lI g.Iso.d3⟩,⟨true,lI g.Iso.d4⟩]),(111,.tv (eI k))]:=⟨⟩;exact nz
instance c14(t:AC)(d:List eg)(a:AP)(b:AP)(c:Int):CT (Mb t d a b c) 14 [AM t,(eL 25 Bz) d,Bv a,Bv b,eI c] (fun r=>.tp [Ow r.1,eI r.2]):=Fk f14 0x904b6b0e01c5c5ac011ac9935c04cb [] [.cell 10 (some 10),.tmp 11] fun r h e f=>by
  unfold Mb at h;exact nz
end Go.Sf.Sc
