/- Contracts of the functions. -/
import Derived.Test.YtjgaphkmbjbdkaaGreatCon0
import Derived.Test.YtjgaphkmbjbdkaaGreatCon5
import Derived.Test.YtjgaphkmbjbdkaaGreatCon6
import Derived.Test.YtjgaphkmbjbdkaaGreatTryzShelf
import Derived.Test.YtjgaphkmbjbdkaaGreatTw
set_option linter.all false
set_option maxRecDepth 100000
set_option maxHeartbeats 4000000
namespace Go.Sf.Sc
open Go Go.Sf Go.Proofs.Tryz
instance c43(t:AC)(a:eg)(b:AF)(m:AL):CT (FL t a b m) 43 [AM t,Bz a,BO b,BT m] (fun r=>.tp [Bv r.1,eI r.2]):=Fk f43 0x81f41d46be626262d337f40e468a72e4550bc137f465468530a56bcb577e360353d3360d013b03500257361b62d33680e004460ee85a0b3174c67d0d427d0b420e0bba0b6c38c66c0d426c0b4280e004460e5ae40e59c180a5e016c97536623637f465f380e0756262d33637f465f3e7d3360111c95c8d [] [.cell 8 (some 38),.tmp 9] fun r h c d=>by
  unfold FL at h;exact nz
instance zL(p:d5):CT (N9 p) 185 [Ar p] (fun r=>.sh (Ao r)):=Fk f185 0x8036033e5b02055bcf01fd011db35b0261151db3555bcc5b02e1cf01fd011d325b0261151d3201e1cc025019c93f3fe83fdce09300 [.mkx 1 [.int .i64 0] (.s 8),.mkx 1 [.int .i64 0] (.s 12),.Aad [.w 9,.w 13]] [.cell 2 (some 2)] fun r h c d=>by
  unfold N9 at h;have:HW 0 fun(a:d6×Int)=>[(3,.bx [⟨true,.xl 1 (List.map eI a.1.d3)⟩,⟨true,.xl 1 (List.map eI a.1.d4)⟩]),(4,.tv (eI a.2))]:=⟨⟩;have:HW 2 fun(b:d6×Int)=>[(3,.bx [⟨true,.xl 1 (List.map eI b.1.d3)⟩,⟨true,.xl 1 (List.map eI b.1.d4)⟩]),(5,.tv (eI b.2))]:=⟨⟩;exact nz
instance yG(t:AC)(p:d5)(g:d5)(a:Bool):CT (PY t p g a) 126 [AM t,Ar p,Ar g,eB a] (fun r=>.tp [(eL 2 Ao) r.1,eI r.2]):=Fj f126 0x8182013702c085ee820e65bebe3702c0777fbecbfe5c31 [] fun h=>by
  unfold PY at h;exact nz
instance c79(t:AC)(p:ea)(b:AF)(a:Bool):CT (Kb t p b a) 79 [AM t,A9 p,BO b,eB a] (fun r=>.tp [(eL 3 BT) r.1,eI r.2]):=Fj f79 0x81f20d650d0b060505760e0d0b0605050e0d0b0605053c02034803470946ac02c3026ae33602c362890d01d00e0d0b0605058103c03703c077e3ac32c4363703c077e789360103fe5c31 [] fun h=>by
  unfold Kb at h;have:HA 0 14 11 0 fun(c:Int)(d:List AL)=>[(13,.ow ((eL 3 BT) d)),(14,.tv (eI c))]:=⟨⟩;exact nz
instance c42(t:AC)(b:eg)(a:AF):CT (H0 t b a) 42 [AM t,Bz b,BO a] (fun r=>.tp [(eL 3 BT) r.1,eI r.2]):=Fj f42 0x81f2ee0c0b09ca06760c0b09ca060c0b09ca063c0203480347cdc3026af4114975cdc362d336eed00c0b09ca068103c03703c077e3030f426289b3363703c077e7d3360103fe8d [] fun h=>by
  unfold H0 at h;have:HA 0 12 9 0 fun(c:Int)(d:List AL)=>[(11,.ow ((eL 3 BT) d)),(12,.tv (eI c))]:=⟨⟩;exact nz
instance c12(t:AC)(c:eg)(b:AF)(a:Int):CT (Mq t c b a) 12 [AM t,Bz c,BO b,eI a] (fun r=>.own ((eL 38 Bv) r)):=Fj f12 0xf2ee0c0b0906ca07760226482647c5b2f411c975cdc362d3360b738a057872300c0b0906ca078126c001e362d33626fe5c31 [] fun h=>by
  unfold Mq at h;have:HW 0 fun(d:List AP×Int)=>[(11,.ow ((eL 38 Bv) d.1)),(12,.tv (eI d.2))]:=⟨⟩;exact nz
instance c17(t:AC):CT (Li t) 17 [AM t] rB:=Fj f17 0xa208cb76b50c6c07da00845a0108cb81300431cf04310371310476713104eb71310676b50c9eb471310484b401eb713106819b72b4550c59044b03c9d4ec8c41ec59043103848c41ec5955043104819b050c6cec595530728c41ec59788459f631039d9bed55dc9a00 [] fun h=>by
  unfold Li at h;have:HA 0 4 1 0 fun(a:Int)(b:Int)=>[(3,.tv (eI b)),(4,.tv (eI a))]:=⟨⟩;have:HW 2 fun(e:Int)=>[(5,.tv (eI e))]:=⟨⟩;have:HW 4 fun(d:Int)=>[(7,.tv (eI d))]:=⟨⟩;have:HA 6 8 1 1 fun(c:Int)(_:Unit)=>[(8,.tv (eI c))]:=⟨⟩;exact nz
instance c45(g:d5):CT (Ii g) 45 [Ar g] rB:=Fj f45 0x90ed55dc9a00 [] fun h=>by
  unfold Ii at h;exact nz
instance c18(a:AF):CT (GW a) 18 [BO a] rB:=Fj f18 0xa2310276b50b9e7e00847e013102819b727e01087f329a00 [] fun h=>by
  unfold GW at h;have:HA 0 3 1 2 fun(b:Int)(_:Unit)=>[(3,.tv (eI b))]:=⟨⟩;exact nz
instance c49(m:d6)(n:Int):CT (HZ m n) 49 [Ao m,eI n] rB:=Fj f49 0xd655e8dcf5 [] fun h=>by
  unfold HZ at h;exact nz
instance c88(p:ea):CT (Jq p) 88 [A9 p] rB:=Fj f88 0x907203ad70727e65c49a00 [] fun h=>by
  unfold Jq at h;exact nz
instance c89(p:At)(n:Int):CT (RO p n) 89 [Ej p,eI n] rB:=Fj f89 0xd655e8dcf5 [] fun h=>by
  unfold RO at h;exact nz
abbrev Q_145(n:Nat):Prop:=∀(c:d7)(a:Int),CT (Cy n c a) 145 [AH c,eI a] rI
theorem tS(n:Nat)(_ih_145:Q_145 n)(c:d7)(a:Int):CT (Cy (n+1) c a) 145 [AH c,eI a] rI:=Fj f145 0x817805b2cf6501fada30ff8ab6ed55b2cc9b087fa901a689ad55309330 [] fun h=>by
  unfold Cy at h;have:HW 0 fun(b:Int×Int)=>[(1,.tv (eI b.1)),(5,.tv (eI b.2))]:=⟨⟩;exact nz
theorem tR:∀n:Nat,Q_145 n:=by
  intro n
  induction n with
  |zero=>exact(fun c pr=>⟨fun _ h=>by cases h⟩)
  |succ n a=>exact tS n a
instance yZ(c:d7)(a:Int):CT (P7 c a) 145 [AH c,eI a] rI:=⟨fun r h=>by
  obtain ⟨N,b⟩:=Cl h;exact((tR N) c a).snd r (b N (az _))⟩
instance c90(c:d7):CT (Jr c) 90 [AH c] rB:=Fj f90 0xd60ea19a00 [] fun h=>by
  unfold Jr at h;exact nz
instance c46(a:eg):CT (PZ a) 46 [Bz a] rB:=Fj f46 0xfba110e67f0de67f0be60e89c6700e89b3550c599a00 [] fun h=>by
  unfold PZ at h;exact nz
instance yc(t:AC)(p:d5)(g:d5):CT (Mm t p g) 148 [AM t,Ar p,Ar g] rB:=Fj f148 0x900a0aed70725955eddc557fbe707f707f65369a8d [] fun h=>by
  unfold Mm at h;exact nz
instance c92(t:AC)(p:ea)(a:AF):CT (O7 t p a) 92 [AM t,A9 p,BO a] rB:=Fj f92 0x907f32c43670e765899a8d [] fun h=>by
  unfold O7 at h;exact nz
abbrev Q_93(n:Nat):Prop:=∀(c:d7),CT (Fg n c) 93 [AH c] rB
theorem wn(n:Nat)(_ih_93:Q_93 n)(c:d7):CT (Fg (n+1) c) 93 [AH c] rB:=Fj f93 0xd6723174ad0b6c38ad30310276f1fada30845a013102819a00 [] fun h=>by
  unfold Fg at h;have:HA 0 3 1 1 fun(a:Int)(_:Unit)=>[(3,.tv (eI a))]:=⟨⟩;exact nz
theorem wk:∀n:Nat,Q_93 n:=by
  intro n
  induction n with
  |zero=>exact(fun c=>⟨fun _ h=>by cases h⟩)
  |succ n a=>exact wn n a
instance c93(c:d7):CT (Qr c) 93 [AH c] rB:=⟨fun r h=>by
  obtain ⟨N,a⟩:=Cl h;exact((wk N) c).snd r (a N (az _))⟩
abbrev Q_94(n:Nat):Prop:=∀(p:ea)(c:d7)(b:Int)(a:Int),CT (EJ n p c b a) 94 [A9 p,AH c,eI b,eI a] rB
theorem wq(n:Nat)(_ih_94:Q_94 n)(p:ea)(c:d7)(b:Int)(a:Int):CT (EJ (n+1) p c b a) 94 [A9 p,AH c,eI b,eI a] rB:=Fj f94 0xd670010de9055b0676f130fada890a01845a010de9055b069009055b050ce9055b06765530e9055b0584e4010ce9055b06810be4e9715b06bc09715b07765530e9715b0684c101bc09715b07810bc18109715b0509715b053cb889ad8559b809c989015c5b02 [] fun h=>by
  unfold EJ at h;have:HJ 17 fun(d:ea)=>[(9,.bx [⟨false,lI d.d5.d3⟩,⟨false,lE d.d5.d4⟩,⟨false,lS d.em⟩,⟨false,eI d.fa⟩,⟨false,lT d.kq⟩])]:=⟨⟩;have:HW 0 fun(e:Int×Int)=>[(10,.tv (eI e.1)),(11,.tv (eI e.2))]:=⟨⟩;have:HW 2 fun(f:Int×Int)=>[(10,.tv (eI f.1)),(12,.tv (eI f.2))]:=⟨⟩;have:HA 4 13 5 1 fun(g:Int)(_:Unit)=>[(13,.tv (eI g))]:=⟨⟩;exact nz
theorem wo:∀n:Nat,Q_94 n:=by
  intro n
  induction n with
  |zero=>exact(fun p c ec ei=>⟨fun _ h=>by cases h⟩)
  |succ n a=>exact wq n a
instance c94(p:ea)(c:d7)(b:Int)(a:Int):CT (Pl p c b a) 94 [A9 p,AH c,eI b,eI a] rB:=⟨fun r h=>by
  obtain ⟨N,d⟩:=Cl h;exact((wo N) p c b a).snd r (d N (az _))⟩
instance c47(t:AC)(p:ea)(c:d7)(a:AF):CT (Mn t p c a) 47 [AM t,A9 p,AH c,BO a] rB:=Fj f47 0x900a0ea1897072e47072c1700ea165628936550ea189369ba66270a68901a6a1015c8d [] fun h=>by
  unfold Mn at h;exact nz
instance c19(t:AC)(a:eg)(b:AF):CT (GN t a b) 19 [AM t,Bz a,BO b] rB:=Fj f19 0x90e7a1104289b336700ed365369a8d [] fun h=>by
  unfold GN at h;exact nz
abbrev Q_20(n:Nat):Prop:=∀(p:ea)(c:d7)(a:Int),CT (DP n p c a) 20 [A9 p,AH c,eI a] rB
theorem wW(n:Nat)(_ih_20:Q_20 n)(p:ea)(c:d7)(a:Int):CT (DP (n+1) p c a) 20 [A9 p,AH c,eI a] rB:=Fj f20 0x81b102700704020476f101fada8902738ab6ed70070402048107040203090704020476550107040203ff8ab672e4010907040204810be407e1047ce10576550107e104ff8ab672c1017ce105810bc107e10407e1043cb889ad8559b809c989015cb2 [] fun h=>by
  unfold DP at h;have:HJ 14 fun(b:ea)=>[(7,.bx [⟨false,lI b.d5.d3⟩,⟨false,lE b.d5.d4⟩,⟨false,lS b.em⟩,⟨false,eI b.fa⟩,⟨false,lT b.kq⟩])]:=⟨⟩;have:HW 0 fun(d:Int×Int)=>[(2,.tv (eI d.1)),(8,.tv (eI d.2))]:=⟨⟩;have:HW 2 fun(e:Int×Int)=>[(2,.tv (eI e.1)),(9,.tv (eI e.2))]:=⟨⟩;have:HW 4 fun(f:Int)=>[(10,.tv (eI f))]:=⟨⟩;exact nz
theorem wV:∀n:Nat,Q_20 n:=by
  intro n
  induction n with
  |zero=>exact(fun p c a=>⟨fun _ h=>by cases h⟩)
  |succ n b=>exact wW n b
instance c20(p:ea)(c:d7)(a:Int):CT (M4 p c a) 20 [A9 p,AH c,eI a] rB:=⟨fun r h=>by
  obtain ⟨N,b⟩:=Cl h;exact((wV N) p c a).snd r (b N (az _))⟩
instance c32(t:AC)(a:List eg):CT (Kr t a) 32 [AM t,(eL 25 Bz) a] rI:=Fj f32 0xa207b2cfd5d319c33600d007b2ccb5ee9f017536f5 [] fun h=>by
  unfold Kr at h;have:HA 0 7 1 0 fun(b:Int)(_:Unit)=>[(7,.tv (eI b))]:=⟨⟩;exact nz
instance c21(t:AC)(a:List eg)(b:AF):CT (Kt t a b) 21 [AM t,(eL 25 Bz) a,BO b] rI:=Fj f21 0x815d01756236d5ac015c30 [] fun h=>by
  unfold Kt at h;exact nz
instance c5(t:AC)(a:List eg)(b:AF):CT (Mr t a b) 5 [AM t,(eL 25 Bz) a,BO b] rB:=Fj f5 0x900a72e47072c17805e7ac070531047c05310576700ea1104119c38901411943780a726c3806411943780a72317401411943780a726c38014119c330f162d319c33607053104d07c0531059d9ba66270087f7072300a723072305c30 [] fun h=>by
  unfold Mr at h;have:HA 0 8 1 0 fun(c:Int)(d:Bool)=>[(7,.tv (eB d)),(8,.tv (eI c))]:=⟨⟩;exact nz
instance c23(m:AL)(n:Int):CT (E7 m n) 23 [BT m,eI n] rB:=Fj f23 0x90b10b7e65ac32f5 [] fun h=>by
  unfold E7 at h;exact nz
instance c22(t:AC)(a:AP):CT (LF t a) 22 [AM t,Bv a] rB:=Fj f22 0x907f24e67f22e6e719e6e71f4265621c42d33236de [] fun h=>by
  unfold LF at h;exact nz
instance c6(t:AC)(a:AP):CT (Ku t a) 6 [AM t,Bv a] rB:=Fj f6 0x907231741fe6726c381f4265c536de [] fun h=>by
  unfold Ku at h;exact nz
instance c7(d:A8)(a:Int):CT (NW d a) 7 [Kj d,eI a] rB:=Fj f7 0xa205020276f1620141ecb40084b4550202819bb10bb401a66232f5 [] fun h=>by
  unfold NW at h;have:HA 0 5 2 3 fun(b:Int)(_:Unit)=>[(5,.tv (eI b))]:=⟨⟩;exact nz
instance c41(a:Fp)(b:Fp):CT (Ch a b) 41 [lI a,lI b] rB:=Fj f41 0xa296cfb5bbbb00d096ccb5ee0be5 [] fun h=>by
  unfold Ch at h;have:HA 0 5 0 0 fun(c:Int)(_:Unit)=>[(5,.tv (eI c))]:=⟨⟩;exact nz
instance c69(a:d5)(b:d5):CT (MD a b) 69 [Ar a,Ar b] rB:=Fj f69 0xa2055bcf37bfcddacdda00845a555bcc9bede801a6bade [.bin (.a [0,0,0]) .neq (.s 32) (.s 37)] fun h=>by
  unfold MD at h;have:HA 0 5 2 1 fun(c:Int)(_:Unit)=>[(5,.tv (eI c))]:=⟨⟩;exact nz
instance c70(a:Fp)(b:Fp):CT (Ka a b) 70 [lI a,lI b] rI:=Fj f70 0x8172010bf796cf3705bbbb85bb5ee5ff8a7278723096ccf7 [] fun h=>by
  unfold Ka at h;have:HW 0 fun(c:Int)=>[(5,.tv (eI c))]:=⟨⟩;exact nz
instance c34(a:AF)(b:AF):CT (GL a b) 34 [BO a,BO b] rB:=Fj f34 0xa2055bcfb50e9e7e9e7e00847e555bcc9b727e0b7e01087f32c4de [] fun h=>by
  unfold GL at h;have:HA 0 5 2 2 fun(c:Int)(_:Unit)=>[(5,.tv (eI c))]:=⟨⟩;exact nz
instance xz(a:d6)(b:d6):CT (Ij a b) 119 [Ao a,Ao b] rB:=Fj f119 0xfb5a5a65bade [] fun h=>by
  unfold Ij at h;exact nz
instance zF(a:ea)(b:ea):CT (KE a b) 180 [A9 a,A9 b] rB:=Fj f180 0xa2065bcf37bf89059203ad89059203ad008403ad01065bcc5b02055bcf37bfd4ec7ed4ec7e5b02847e555bcc9b7203ad0b03ad70727e0b7efcb4b401087f32c4de [.bin (.a [0,0,0,0]) .neq (.s 49) (.s 54),.bin (.a [0,0,0,0,0]) .neq (.s 67) (.s 72)] fun h=>by
  unfold KE at h;have:HA 0 5 2 2 fun(c:Int)(_:Unit)=>[(5,.tv (eI c))]:=⟨⟩;have:HA 2 6 2 4 fun(d:Int)(_:Unit)=>[(6,.tv (eI d))]:=⟨⟩;exact nz
instance zH(p:At)(q:At):CT (P6 p q) 181 [Ej p,Ej q] rB:=Fj f181 0xfb5a5a65bade [] fun h=>by
  unfold P6 at h;exact nz
abbrev Q_182(n:Nat):Prop:=∀(a:d7)(b:d7),CT (Hc n a b) 182 [AH a,AH b] rB
theorem tf(n:Nat)(_ih_182:Q_182 n)(a:d7)(b:d7):CT (Hc (n+1) a b) 182 [AH a,AH b] rB:=Fj f182 0xa2055bcff1fadafada00845a555bcc9ba689ad89ad70087fa936a970ede855bade [] fun h=>by
  unfold Hc at h;have:HA 0 5 2 1 fun(c:Int)(_:Unit)=>[(5,.tv (eI c))]:=⟨⟩;exact nz
theorem te:∀n:Nat,Q_182 n:=by
  intro n
  induction n with
  |zero=>exact(fun a b=>⟨fun _ h=>by cases h⟩)
  |succ n c=>exact tf n c
instance zI(a:d7)(b:d7):CT (Sh a b) 182 [AH a,AH b] rB:=⟨fun r h=>by
  obtain ⟨N,c⟩:=Cl h;exact((te N) a b).snd r (c N (az _))⟩
instance xx(a:eg)(b:eg):CT (OB a b) 117 [Bz a,Bz b] rB:=Fj f117 0xfba11042a110e67f0d42360de67f0b42360be60e89c689c6700e89b389b37007030f42030f420106bade [] fun h=>by
  unfold OB at h;exact nz
instance xy(a:AL)(b:AL):CT (Ik a b) 118 [BT a,BT b] rB:=Fj f118 0xfb7e7e700ee4e465c1c1de [] fun h=>by
  unfold Ik at h;exact nz
instance c68(a:AP)(b:AP):CT (OD a b) 68 [Bv a,Bv b] rB:=Fj f68 0x907f24423624e67f22423622e6e719426219e60ed332d3323090e71f42621f4265621c42621c42de [] fun h=>by
  unfold OD at h;exact nz
instance c33(t:AC)(a:AP):CT (Ko t a) 33 [AM t,Bv a] rB:=Fj f33 0xfbc5c5555df411c975621942621c42d33236de [] fun h=>by
  unfold Ko at h;exact nz
instance yA(t:AC)(a:List eg)(b:AF)(m:HF):CT (OE t a b m) 120 [AM t,(eL 25 Bz) a,BO b,GE m] (fun r=>.tp [Bv r.1,eI r.2]):=Fk f120 0x8013b81f46be7b362d3194359ac37f40e468a72015955590111c9935c30 [] [.cell 8 (some 38),.tmp 9] fun r h c d=>by
  unfold OE at h;exact nz
instance c71(t:AC)(a:List eg)(d:A8):CT (Ln t a d) 71 [AM t,(eL 25 Bz) a,Kj d] (fun r=>.tp [(eL 38 Bv) r.1,eI r.2.1,eI r.2.2]):=Fj f71 0x9d820bcb0a010cbc05310676a5621f420226482647c502b926c0306af411c975d4ecb462ac0a0184b4010cbc05310681a510c9623226c0b926c0850bb4b926c077e732ac3026405c30 [] fun h=>by
  unfold Ln at h;have:HA 0 12 5 3 fun(c:Int)(b:List AP×AF)=>[(10,.ow ((eL 38 Bv) b.1)),(11,.bx [⟨false,lI b.2.d5.d3⟩,⟨false,lE b.2.d5.d4⟩,⟨false,(eL 1 lI) b.2.ed⟩]),(12,.tv (eI c))]:=⟨⟩;exact nz
instance yB(n:Int):CT (JX n) 121 [eI n] (fun r=>.own (lI r)):=Fj f121 0xf23104efcfb2d9cb31613004efcce20140d8 [] fun h=>by
  unfold JX at h;have:HA 0 4 0 0 fun(b:Int)(a:Fp)=>[(3,.ow (lI a)),(4,.tv (eI b))]:=⟨⟩;exact nz
instance c72(g:d5):CT (Qo g) 72 [Ar g] (fun r=>.x8 [⟨true,lI r.d3⟩,⟨true,lI r.d4⟩]):=Fk f72 0xb23b02503f0ee80edce09300 [.Aad [.w 6,.w 10]] [.cell 2 (some 2)] fun r h a b=>by
  unfold Qo at h;exact nz
instance c73(l:Fp)(a:Fp):CT (Ks l a) 73 [lI l,lI a] (fun r=>.own (lI r)):=Fj f73 0xf2b1ea76ea3cb2d95e5e7802ea3cb2d90285bbb1d0ea81e201406002 [] fun h=>by
  unfold Ks at h;have:HA 0 6 0 0 fun(c:Int)(b:Fp)=>[(5,.ow (lI b)),(6,.tv (eI c))]:=⟨⟩;exact nz
instance c35(t:AC)(a:List eg)(d:A8):CT (Kq t a d) 35 [AM t,(eL 25 Bz) a,Kj d] (fun r=>.tp [BO r.1,Ao r.2.1,eI r.2.2]):=Fk f35 0xeb023b8180a536e7b7eb040eb709eb06768004460e7d224126c35a0e6c224126c359a5621f4126c3b7eb04d00eb709eb068180a5e010c97f383262323780a5604611f301821175d4ac60c910c95c30 [] [.cell 6 (some 3),.cell 7 (some 2),.tmp 8] fun r h e f=>by
  unfold Kq at h;have:HA 0 14 9 0 fun(c:Int)(b:AF×d6)=>[(12,.bx [⟨false,lI b.1.d5.d3⟩,⟨false,lE b.1.d5.d4⟩,⟨false,(eL 1 lI) b.1.ed⟩]),(13,.bx [⟨false,lI b.2.d3⟩,⟨false,lI b.2.d4⟩]),(14,.tv (eI c))]:=⟨⟩;exact nz
instance yE(l:Fp)(n:Int):CT (Ja l n) 124 [lI l,eI n] rB:=Fj f124 0xa296cf378801ea07bd057670b1bb30ead007bd059d00613096ccf7 [] fun h=>by
  unfold Ja at h;have:HA 0 5 1 0 fun(a:Int)(_:Unit)=>[(5,.tv (eI a))]:=⟨⟩;have:HA 2 7 0 0 fun(c:Int)(b:Bool)=>[(6,.tv (eB b)),(7,.tv (eI c))]:=⟨⟩;exact nz
instance c76(a:d5)(b:d5)(m:d6):CT (KB a b m) 76 [Ar a,Ar b,Ao m] rB:=Fj f76 0xfbe85a700e0bba557fbe9a8d [] fun h=>by
  unfold KB at h;exact nz
instance c36(a:AF)(b:AF)(m:d6):CT (HC a b m) 36 [BO a,BO b,Ao m] rB:=Fj f36 0xa207ca0476f15e9e597e9e7e0084590107ca04819b087fc4c401087fc4c49a8d [] fun h=>by
  unfold HC at h;have:HA 0 7 5 0 fun(c:Int)(_:Unit)=>[(7,.tv (eI c))]:=⟨⟩;exact nz
instance c37(a:AP)(b:AP):CT (Jh a b) 37 [Bv a,Bv b] (fun r=>.tp [Ej r.1,eI r.2]):=Fk f37 0x8180360804020a7ce106760a7ce1060a7ce1063c014ab301d9f6b38a059e7d2242559e7d224208040261300a7ce106817ce10509d1e1077609d1e10709d1e1073c014a3201d9f6328a059e6c2242559e6c22427ce105613009d1e107a2c9378000468ab10b7d22e6b10b7d22e6b10b6c22e6b10b6c224201a6621c42621c429d0b31741c420b6c381c4260c98d [] [.cell 4 (some 2),.tmp 5] fun r h g i=>by
  unfold Jh at h;have:HA 0 9 6 0 fun(e:Int)(c:At)=>[(8,.bx [⟨true,lI c.d3⟩,⟨true,lI c.d4⟩]),(9,.tv (eI e))]:=⟨⟩;have:HA 2 10 7 0 fun(f:Int)(d:At)=>[(8,.bx [⟨true,lI d.d3⟩,⟨true,lI d.d4⟩]),(10,.tv (eI f))]:=⟨⟩;exact nz
instance c39(l:Fp)(a:Fp):CT (Cj l a) 39 [lI l,lI a] (fun r=>.own (lI r)):=Fj f39 0xf2b1ea76ea3cb2d95e5e7802ea3cb2d90285bbb1d0ea81e201406002 [] fun h=>by
  unfold Cj at h;have:HA 0 6 0 0 fun(c:Int)(b:Fp)=>[(5,.ow (lI b)),(6,.tv (eI c))]:=⟨⟩;exact nz
instance c38(b:AP)(a:At):CT (Hf b a) 38 [Bv b,Ej a] (fun r=>.sh (Zn r)):=Fk f38 0x4013b064b254604460e7d22425a0e6c224259621f421bc98d [] [.cell 4 (some 6)] fun r h c d=>by
  unfold Hf at h;exact nz
instance c77(l:Fp)(n:Int):CT (MK l n) 77 [lI l,eI n] rB:=Fj f77 0xa296cfb501bb00d096ccf7 [] fun h=>by
  unfold MK at h;have:HA 0 5 0 0 fun(a:Int)(_:Unit)=>[(5,.tv (eI a))]:=⟨⟩;exact nz
instance c40(m:d6):CT (HP m) 40 [Ao m] rB:=Fj f40 0xfb5a65599a00 [] fun h=>by
  unfold HP at h;exact nz
instance c9(t:AC)(c:List eg)(a:AP)(b:AP)(j:x6):CT (Ms t c a b j) 9 [AM t,(eL 25 Bz) c,Bv a,Bv b,Ow j] (fun r=>.tp [eB r.1,eB r.2]):=Fj f9 0x81fb5a0e7d08425a65590e6c084259b98a7f65368004460e5a5a0eba8004460e5a5a0eba8080e0e03f7fc53f7fc50180e075c5c5b98a087f0842626270b6055d80a5e010c91175d4adac8180a5e010c91175d432acb98aa6621f426238ad70a6621f4262383270a6621c42621ce6a6c53670a6c536550eac305c5c30 [.Aa5 (.s 104) 4 2 true,.Aa5 (.s 108) 4 2 true] fun h=>by
  unfold Ms at h;exact nz
end Go.Sf.Sc
