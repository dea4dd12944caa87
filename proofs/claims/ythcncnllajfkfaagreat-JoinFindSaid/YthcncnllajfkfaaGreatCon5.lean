/- Contracts of the functions. -/
import Derived.Test.YthcncnllajfkfaaGreatCon4
set_option linter.all false
set_option maxRecDepth 100000
set_option maxHeartbeats 4000000
open Option renaming some->Y,none->W
open Bool renaming true->X,false->T
open List renaming map->v5
namespace Go.Sf.Sc
open Go Go.Sf Go.Proofs.Tryz
instance(a b c):CT (Ht a b c) 151 [AK a,BY b,FC c] (rT BY eI):=Fk f151 0x81b2620d06020e0d0b06040576014aa901db01485d97597eb304a90d06027f59650d0b06040581035010c93f3637b20119f484e0c907c91175c53237b20119f4017562360110c99391 [.Aag [.v (.s 37) 0 2,.v (.s 37) 1 2,.z ⟨X,.list 1 []⟩]] [.cell 6 (Y 3),.tmp 7] λr h e f=>by
  unfold Ht at h;have:HW 0 λ(d:AF×Int)=>[(13,.bx [⟨T,lI d.1.dr.dl⟩,⟨T,lE d.1.dr.d3⟩,⟨X,(eL 1 lI) d.1.eb⟩]),(14,.tv (eI d.2))]:=⟨⟩;exact nz
instance(a b):CT (NP a b) 153 [lI a,eI b] (rO lI):=I9 f153 0x8218bcfe76fe07a25f057607a25f0507a25f053c01f930148501bbfef607a25f058119014fb319bc6130fe8101ce01405f02 [] (NP.eq_1 ..) (A8 0 6 1 0 (hX 5 1 eI)) (A8 2 7 0 0 (hX 5 1 eI))
instance(a b):CT (Mq a b) 152 [eI a,lI b] (rO lI):=Fe f152 0x820e77405f02 [] (Mq.eq_1 ..)
instance(a b c):CT (JL a b c) 93 [AK a,BY b,FC c] (rT BY Ap):=Fk f93 0x706023b84b204460e5a0bde0e590bbd6201b210e936623600c910c99391 [] [.cell 6 (Y 3),.cell 7 (Y 2)] λr h d e=>by
  unfold JL at h;exact nz
instance(a b):CT (Ih a b) 94 [lI a,lI b] (rO lI):=By f94 0x8202bcfe76b5db5d5d7702bcf6fe81e501405f02 [] (Ih.eq_1 ..) (A8 0 6 0 0 (hO 5 lI))
instance(a b c d e):CT (Gi a b c d e) 95 [lI a,lI b,eI c,lI d,eI e] (rO lI):=By f95 0x82020c01c10be2000776c10be200076001b5dbc3c10be200073cb5db5d5dbb300285bb0cea30c10be2000781e5820e7740e25f05 [] (Gi.eq_1 ..) (A8 0 13 2 0 λs0:Int×Fp=>[(4,.tv (eI s0.1)),(12,.ow (lI s0.2))])
instance(a b):CT (JK a b) 154 [lI a,eI b] rB:=By f154 0xa705be76b901bbe1aabe81fa [] (JK.eq_1 ..) (BB 0 5 0 0)
noncomputable def rJ:PC:=PC.of My f96.body (xq bT 0x35003530806020f0978a206760f0978a2060f0978a2063c014a0141320348034707465d7e595d5ac404014132b2efc8d88e017d0d420806027f5a010f0978a206810978a2050a09da7007607209da70070a09da70073c1fa921221923a90d0a09da70a50db809da700a7619014fb37d04b6190d0a09da7008f60e0db809da700a8101ce01d1975936014a383201db9759043832ff0a09da7007cc016a0d420978a2057f597209da7007818407c93638c616c993ab91) []
theorem ACV:CK f96 rJ [.cell 8 (Y 3)]:=b!
theorem ACb:PC.sR rJ=X:=b!
instance(a b c d):CT (Jm a b c d) 96 [AK a,Bt b,.agg [.undef,.undef,.undef],Ap d] (λr=>.ag [⟨X,lI c.dr.dl⟩,⟨X,lE c.dr.d3⟩,⟨X,.xn (v5 lI c.eb)⟩] 2 (.zl [⟨X,lI r.dr.dl⟩,⟨X,lE r.dr.d3⟩,⟨X,.xn (v5 lI r.eb)⟩])):=FiA ACV ACb λr h i g j=>by
  unfold rJ;unfold f96;unfold Jm at h;have:HW 0 λ(f:AF×Int)=>[(6,.bx [⟨X,lI f.1.dr.dl⟩,⟨X,lE f.1.dr.d3⟩,⟨X,.xn (v5 lI f.1.eb)⟩]),(10,.tv (eI f.2))]:=⟨⟩;have:=A8 2 14 11 0 (hX 13 1 eI);have:HW 4 λ(e:AF×Int)=>[(6,.bx [⟨X,lI e.1.dr.dl⟩,⟨X,lE e.1.dr.d3⟩,⟨X,.xn (v5 lI e.1.eb)⟩]),(15,.tv (eI e.2))]:=⟨⟩;exact nz
noncomputable def rK:PC:=PC.of My f97.body (xq bT 0x81b262073e0a0702130c0a787007762624017d04b625240123a937b219468a055b4104437d044377aa7d04437d04437730d197bd36815d6a04b6595e75b1024104b60a0702f6130c0a787007810c0a787006c10a78700776c10a787007100ec10a7870097637b219468a05770a057d04b67d044377055d6a04b6595d6a04b6595e75b1024104b6c10a7870076130100ec10a787009815e75b1024104b60c0a787006f6c10a787007e85b41c60110c993ab5c0401) []
theorem ACW:CK f97 rK [.cell 10 (Y 3),.tmp 11]:=b!
theorem ACc:PC.sR rK=X:=b!
instance(a b c d e):CT (Kz a b c d e) 97 [AK a,Bt b,.agg [.undef,.undef,.undef],Ap d,lI e] (λr=>.ag [⟨X,lI c.dr.dl⟩,⟨X,lE c.dr.d3⟩,⟨X,.xn (v5 lI c.eb)⟩] 2 (.tp [BY r.1,eI r.2])):=FiA ACW ACc λr h g f i=>by
  unfold rK;unfold f97;unfold Kz at h;have:=A8 0 13 12 0 λs0:AF=>[(10,.bx [⟨X,lI s0.dr.dl⟩,⟨X,lE s0.dr.d3⟩,⟨X,(eL 1 lI) s0.eb⟩])];have:=A8 2 16 13 0 λs2:AF=>[(10,.bx [⟨X,lI s2.dr.dl⟩,⟨X,lE s2.dr.d3⟩,⟨X,(eL 1 lI) s2.eb⟩])];have:=A8 4 19 12 0 λs4:AF×AF=>[(7,.bx [⟨X,lI s4.1.dr.dl⟩,⟨X,lE s4.1.dr.d3⟩,⟨X,.xn (v5 lI s4.1.eb)⟩]),(10,.bx [⟨X,lI s4.2.dr.dl⟩,⟨X,lE s4.2.dr.d3⟩,⟨X,(eL 1 lI) s4.2.eb⟩])];exact nz
instance(a b c d):CT (Ei a b c d) 43 [AK a,Bt b,BY c,Bb d] (rT Bg eI):=Fk f43 0x81264b1c46c5626262ca37264b0e468a74de550bbd37264b65468530b26bc3577e360353ca360d013b03500257361b62ca36e0c904460eee5a0b3171c67d0d427d0b420e0bc40bf5c66a0d426a0b42e0c904460e5ade0e59bd84b200c916e936623637264b65f4e0e96262ca3637264b65f4edca360111c95c91 [] [.cell 8 (Y 38),.tmp 9] λr h e f=>by
  unfold Ei at h;exact nz
instance(a):CT (LK a) 201 [Ay a] (rS Ap):=Fk f201 0x8436033e5b02055bf001f9011dad5b0261151dad555b03815b02e2f001f9011d325b0261151d3201e20381025019c93f3fee3fd900c99300 [.mkx 1 [.int .i64 0] (.s 8),.mkx 1 [.int .i64 0] (.s 12),.Aag [.w 9,.w 13]] [.cell 2 (Y 2)] λr h d e=>by
  unfold LK at h;have:HW 0 λ(c:d4×Int)=>[(3,.bx [⟨X,.xl 1 (v5 eI c.1.dl)⟩,⟨X,.xl 1 (v5 eI c.1.d3)⟩]),(4,.tv (eI c.2))]:=⟨⟩;have:HW 2 λ(b:d4×Int)=>[(3,.bx [⟨X,.xl 1 (v5 eI b.1.dl)⟩,⟨X,.xl 1 (v5 eI b.1.d3)⟩]),(5,.tv (eI b.2))]:=⟨⟩;exact nz
instance(a b c d):CT (Mm a b c d) 144 [AK a,Ay b,Ay c,eB d] (rT (eL 2 Ap) eI):=Fe f144 0xe8013702c085f8820e65c5c53702c07c8cc5c340935c31 [] (Mm.eq_1 ..)
instance(a b c d):CT (Hu a b c d) 91 [AK a,BE b,BY c,eB d] (rT (eL 3 Bb) eI):=By f91 0xe8020d650d0ba205760e0d0ba2050e0d0ba2053c02034803470946b102b6026cd13602b662890d01f60e0d0ba2058103c03703c07cd1b132cf363703c07ced8936010340935c31 [] (Hu.eq_1 ..) (A8 0 14 11 0 (hO 13 (eL 3 Bb)))
instance(a b c):CT (Ec a b c) 42 [AK a,Bt b,BY c] (rT (eL 3 Bb) eI):=By f42 0xe802f80c0b09d006760c0b09d0060c0b09d0063c0203480347c8b6026c264b114975c8b662ca36f8f60c0b09d0068103c03703c07cd1030f426289ad363703c07cedca360103409391 [] (Ec.eq_1 ..) (A8 0 12 9 0 (hO 11 (eL 3 Bb)))
instance(a b c d):CT (N1 a b c d) 17 [AK a,Bt b,BY c,eI d] (rO (eL 38 Bg)):=By f17 0x8202f80c0b0906d007760226482647b4b5264b11e9c8b662ca360b738a057774300c0b0906d0078126c001d162ca362640935c31 [] (N1.eq_1 ..) (⟨⟩:HW 0 λ(e:List AR×Int)=>[(11,.ow ((eL 38 Bg) e.1)),(12,.tv (eI e.2))])
instance c19:CT (Q4 ) 19 [] (λr=>.zl [⟨X,lN r.dl⟩,⟨X,lX r.d3⟩]):=Fk f19 0x2503f07473f3f04473f3f04473f3f3f3f04473f1ac900 [.bld [.str ⟨#[]⟩,.int .i64 0,.int .i64 0,.list 1 []] [(0,1,.c (.str ⟨#[98,97,108,97,110,99,101]⟩)),(1,1,.c (.int .i64 (-1000))),(2,1,.c (.int .i64 1000))],.bld [.str ⟨#[]⟩,.int .i64 0,.bool T,.list 4 []] [(0,1,.c (.str ⟨#[65,99,99,111,117,110,116]⟩)),(1,1,.c (.int .i64 (-1))),(2,1,.c (.bool X)),(3,1,.s 2)],.bld [.str ⟨#[]⟩,.int .i64 0,.bool T,.list 4 []] [(0,1,.c (.str ⟨#[67,97,115,104]⟩)),(1,1,.c (.int .i64 0))],.lst 1 [.c (.str ⟨#[111,112,101,110]⟩),.c (.str ⟨#[99,108,111,115,101,100]⟩)],.bld [.str ⟨#[]⟩,.int .i64 0,.int .i64 0,.list 1 []] [(0,1,.c (.str ⟨#[115,116,97,116,101]⟩)),(2,1,.c (.int .i64 1)),(3,1,.s 5)],.bld [.str ⟨#[]⟩,.int .i64 0,.bool T,.list 4 []] [(0,1,.c (.str ⟨#[76,111,97,110]⟩)),(1,1,.c (.int .i64 0)),(3,1,.s 7)],.bld [.str ⟨#[]⟩,.int .i64 0,.bool T,.list 4 []] [(0,1,.c (.str ⟨#[80,101,114,115,111,110]⟩)),(1,1,.c (.int .i64 (-1)))],.bld [.str ⟨#[]⟩,.int .i64 0,.int .i64 0,.int .i64 0,.int .i64 0,.int .i64 0,.int .i64 0] [(0,1,.c (.str ⟨#[111,119,110,115]⟩)),(1,1,.c (.int .i64 3)),(2,1,.c (.int .i64 0)),(4,1,.c (.int .i64 (-1))),(5,1,.c (.int .i64 1)),(6,1,.c (.int .i64 1))],.bld [.str ⟨#[]⟩,.int .i64 0,.int .i64 0,.int .i64 0,.int .i64 0,.int .i64 0,.int .i64 0] [(0,1,.c (.str ⟨#[112,97,121,115]⟩)),(1,1,.c (.int .i64 1)),(2,1,.c (.int .i64 1)),(4,1,.c (.int .i64 (-1))),(6,1,.c (.int .i64 (-1)))],.Aag [.w 10,.w 13]] [.cell 0 (Y 2)] λr h a b=>by
  unfold Q4 at h;exact nz
instance(a):CT (Mk a) 44 [AK a] rB:=Fj f44 0xa708c376b90c6a07d8e15a0108c38130e3f0e30370310476703104070670310676b90c97b77031047fb7010706703106819674b7550c59044b03c9d5e78d41e759e3037f8d41e75955e3048196050c6ae7595530748d41e759777f5901e3039e96eb55d99b00 [] λh=>by
  unfold Mk at h;have:=A8 0 4 1 0 (hT 3 eI);have:HW 2 λ(c:Int)=>[(5,.tv (eI c))]:=⟨⟩;have:HW 4 λ(b:Int)=>[(7,.tv (eI b))]:=⟨⟩;have:=BB 6 8 1 1;exact nz
instance(a):CT (Jj a) 98 [Ay a] rB:=Fe f98 0x80eb55d99b00 [] (Jj.eq_1 ..)
instance(a):CT (IU a) 45 [BY a] rB:=By f45 0xa7310276b90b977ee17e0131028196747e01088c329b00 [] (IU.eq_1 ..) (BB 0 3 1 2)
instance(a b):CT (Jk a b) 50 [Ap a,eI b] rB:=Fe f50 0xba55eed9fc [] (Jk.eq_1 ..)
instance(a):CT (Kx a) 156 [BE a] rB:=Fe f156 0x807403ac72747e65cf9b00 [] (Kx.eq_1 ..)
instance(a b):CT (Sn a b) 157 [FC a,eI b] rB:=Fe f157 0xba55eed9fc [] (Sn.eq_1 ..)
abbrev Q_211(n:Nat):Prop:=∀(c:d5)(a:Int),CT (DA n c a) 211 [AJ c,eI a] rI
theorem AAM(n:Nat)(_ih_211:Q_211 n)(c:d5)(a:Int):CT (DA (n+1) c a) 211 [AJ c,eI a] rI:=Fj f211 0x817705b5f06501fdd830ff8a0530eb55b5038196088ca901a589ac55309330 [] λh=>by
  unfold DA at h;have:HW 0 λ(b:Int×Int)=>[(1,.tv (eI b.1)),(5,.tv (eI b.2))]:=⟨⟩;exact nz
theorem AAL:∀n:Nat,Q_211 n:=by
  intro n
  induction n with
  |zero=>exact(λc pf=>⟨λ_ h=>c_⟩)
  |succ n a=>exact AAM n a
instance(c pf):CT (RX c pf) 211 [AJ c,eI pf] rI:=⟨λr h=>by
  obtain ⟨N,a⟩:=Cd h;exact((AAL N) c pf).snd r (a N (ae _))⟩
instance(a):CT (Ky a) 158 [AJ a] rB:=Fe f158 0xba0ea19b00 [] (Ky.eq_1 ..)
instance(a):CT (Qt a) 99 [Bt a] rB:=Fe f99 0x800ea11042728c0d42728c0b42720e89c6720e89ad550c599b00 [] (Qt.eq_1 ..)
instance(a b c):CT (Ny a b c) 214 [AK a,Ay b,Ay c] rB:=Fe f214 0x800a0aeb72745955ebd9558cc5728c728c65369b91 [] (Ny.eq_1 ..)
instance(a b c):CT (QW a b c) 160 [AK a,BE b,BY c] rB:=Fe f160 0x808c32cf3672ed65899b91 [] (QW.eq_1 ..)
abbrev Q_161(n:Nat):Prop:=∀(c:d5),CT (Gh n c) 161 [AJ c] rB
theorem AAC(n:Nat)(_ih_161:Q_161 n)(c:d5):CT (Gh (n+1) c) 161 [AJ c] rB:=Fj f161 0xba743171ac0bf5ac30310276f3fdd8307f5a013102819b00 [] λh=>by
  unfold Gh at h;have:=BB 0 3 1 1;exact nz
theorem AAB:∀n:Nat,Q_161 n:=by
  intro n
  induction n with
  |zero=>exact(λc=>⟨λ_ h=>c_⟩)
  |succ n a=>exact AAC n a
instance(c):CT (SH c) 161 [AJ c] rB:=⟨λr h=>by
  obtain ⟨N,a⟩:=Cd h;exact((AAB N) c).snd r (a N (ae _))⟩
abbrev Q_162(n:Nat):Prop:=∀(p:d7)(c:d5)(a:Int)(b:Int),CT (Eo n p c a b) 162 [BE p,AJ c,eI a,eI b] rB
theorem AAE(n:Nat)(_ih_162:Q_162 n)(p:d7)(c:d5)(a:Int)(b:Int):CT (Eo (n+1) p c a b) 162 [BE p,AJ c,eI a,eI b] rB:=Fj f162 0xba72010d0a09055b0676f330fdd8890a017f5a010d0a09055b068009055b050c0a09055b067655300a09055b057fde010c0a09055b06810bde0a09705b06b809705b077655300a09705b067fbd01b809705b07810bbd8109705b0509705b053cd489ac8559d409c989015c5b02 [] λh=>by
  unfold Eo at h;have:HJ 17 λ(d:d7)=>[(9,.bx [⟨T,lI d.dr.dl⟩,⟨T,lE d.dr.d3⟩,⟨T,lS d.ek⟩,⟨T,eI d.ey⟩,⟨T,lT d.j4⟩])]:=⟨⟩;have:HW 0 λ(e:Int×Int)=>[(10,.tv (eI e.1)),(11,.tv (eI e.2))]:=⟨⟩;have:HW 2 λ(f:Int×Int)=>[(10,.tv (eI f.1)),(12,.tv (eI f.2))]:=⟨⟩;have:=BB 4 13 5 1;exact nz
theorem AAD:∀n:Nat,Q_162 n:=by
  intro n
  induction n with
  |zero=>exact(λp c ea eh=>⟨λ_ h=>c_⟩)
  |succ n a=>exact AAE n a
instance(p c ea eh):CT (Q5 p c ea eh) 162 [BE p,AJ c,eI ea,eI eh] rB:=⟨λr h=>by
  obtain ⟨N,a⟩:=Cd h;exact((AAD N) p c ea eh).snd r (a N (ae _))⟩
instance(a b c d):CT (Nz a b c d) 100 [AK a,BE b,AJ c,BY d] rB:=Fe f100 0x800a0ea1897274de7274bd720ea165628936550ea1893696a56272a58901a5a1015c91 [] (Nz.eq_1 ..)
instance(a b c):CT (HO a b c) 46 [AK a,Bt b,BY c] rB:=Fe f46 0x80eda1104289ad36720eca65369b91 [] (HO.eq_1 ..)
abbrev Q_47(n:Nat):Prop:=∀(p:d7)(c:d5)(a:Int),CT (Di n p c a) 47 [BE p,AJ c,eI a] rB
theorem ACS(n:Nat)(_ih_47:Q_47 n)(p:d7)(c:d5)(a:Int):CT (Di (n+1) p c a) 47 [BE p,AJ c,eI a] rB:=Fj f47 0xbac3720704020476f301fdd88902738a0530eb72070402048107040203090704020476550107040203ff8a053074de010907040204810bde07e20478e20576550107e204ff8a053074bd0178e205810bbd07e20407e2043cd489ac8559d409c989015cb5 [] λh=>by
  unfold Di at h;have:HJ 14 λ(b:d7)=>[(7,.bx [⟨T,lI b.dr.dl⟩,⟨T,lE b.dr.d3⟩,⟨T,lS b.ek⟩,⟨T,eI b.ey⟩,⟨T,lT b.j4⟩])]:=⟨⟩;have:HW 0 λ(d:Int×Int)=>[(2,.tv (eI d.1)),(8,.tv (eI d.2))]:=⟨⟩;have:HW 2 λ(e:Int×Int)=>[(2,.tv (eI e.1)),(9,.tv (eI e.2))]:=⟨⟩;have:HW 4 λ(f:Int)=>[(10,.tv (eI f))]:=⟨⟩;exact nz
theorem ACR:∀n:Nat,Q_47 n:=by
  intro n
  induction n with
  |zero=>exact(λp c a=>⟨λ_ h=>c_⟩)
  |succ n b=>exact ACS n b
instance(p c ways):CT (OJ p c ways) 47 [BE p,AJ c,eI ways] rB:=⟨λr h=>by
  obtain ⟨N,a⟩:=Cd h;exact((ACR N) p c ways).snd r (a N (ae _))⟩
instance(a b):CT (Lz a b) 101 [AK a,(eL 25 Bt) b] rI:=By f101 0xa707b5f0d6ca19b636e13007b50381b9f89f017536fc [] (Lz.eq_1 ..) (BB 0 7 1 0)
instance(a b c):CT (N2 a b c) 48 [AK a,(eL 25 Bt) b,BY c] rI:=Fe f48 0x815e01756236d6b1015c30 [] (N2.eq_1 ..)
instance(a b c):CT (Ly a b c) 24 [AK a,(eL 25 Bt) b,BY c] rB:=By f24 0x800a74de7274bd7705edb1070531047805310576720ea1104119b68901411943770a74f506411943770a74317101411943770a74f5014119b630f362ca19b63607053104f6780531059e96a56272088c7274300a743074305c30 [] (Ly.eq_1 ..) (A8 0 8 1 0 (hT 7 eB))
instance(a b):CT (NU a b) 49 [Bb a,eI b] rB:=Fe f49 0x80bc0b7e65b132fc [] (NU.eq_1 ..)
instance(a b):CT (FG a b) 25 [AK a,Bg b] rB:=Fe f25 0x808c2442728ce472ed194272ed1f4265621c42ca3236dc [] (FG.eq_1 ..)
instance(a):CT (NX a) 26 [Bt a] rB:=Fe f26 0x8005ebeeec7459d972eb55d9848407c907c93638c63638ad9b00 [] (NX.eq_1 ..)
instance(a b c d e):CT (KG a b c d e) 9 [AK a,(eL 25 Bt) b,Bg c,Bg d,eI e] rB:=By f9 0x800a0a0a05300a74aa300a05300a74aaaa300a05aa5e810b31711c420bf51c42070401030b0704f176f3ca19b607040103f60b0704f18196a5ca3272a5ca3272a5b43672a5b43601a5621c42b19b5c04c3 [] (KG.eq_1 ..) (BB 0 11 1 0)
instance(a b):CT (Dg a b) 120 [lI a,lI b] rB:=By f120 0xa705be76b9bbbbe1aabe81b9f80be6 [] (Dg.eq_1 ..) (BB 0 5 0 0)
instance(a b):CT (NN a b) 118 [Ay a,Ay b] rB:=By f118 0xa7055bf037bfc8d8c8d8e15a555b038196ebee01a5c4dc [.bin (.a [0,0,0]) .neq (.s 32) (.s 37)] (NN.eq_1 ..) (BB 0 5 2 1)
instance(a b):CT (Lj a b) 119 [lI a,lI b] rI:=By f119 0x8174010bfa05be763705bbbb85bb5de6ff8a747774aabe81fa [] (Lj.eq_1 ..) (⟨⟩:HW 0 λ(c:Int)=>[(5,.tv (eI c))])
instance(a b):CT (IJ a b) 60 [BY a,BY b] rB:=By f60 0xa7055bf0b90e977e977ee17e555b038196747e0b7e01088c32cfdc [] (IJ.eq_1 ..) (BB 0 5 2 2)
instance(a b):CT (II a b) 30 [Ap a,Ap b] rB:=Fe f30 0x800e5a5a65c4dc [] (II.eq_1 ..)
instance(a b):CT (Hp a b) 61 [Bb a,Bb b] rB:=Fe f61 0x800e7e7e720edede65bdbddc [] (Hp.eq_1 ..)
instance(a b):CT (LM a b) 292 [BE a,BE b] rB:=I9 f292 0xa7065bf037bf89059003ac89059003ace103ac01065b03815b02055bf037bfd5e77ed5e77e5b027f7e555b0381967403ac0b03ac72747e0b7eecb7b701088c32cfdc [.bin (.a [0,0,0,0]) .neq (.s 49) (.s 54),.bin (.a [0,0,0,0,0]) .neq (.s 67) (.s 72)] (LM.eq_1 ..) (BB 0 5 2 2) (BB 2 6 2 4)
instance(a b):CT (RW a b) 293 [FC a,FC b] rB:=Fe f293 0x800e5a5a65c4dc [] (RW.eq_1 ..)
abbrev Q_294(n:Nat):Prop:=∀(a:d5)(b:d5),CT (IX n a b) 294 [AJ a,AJ b] rB
theorem AAa(n:Nat)(_ih_294:Q_294 n)(a:d5)(b:d5):CT (IX (n+1) a b) 294 [AJ a,AJ b] rB:=Fj f294 0xa7055bf0f3fdd8fdd8e15a555b038196a589ac89ac72088ca936a972ebee55c4dc [] λh=>by
  unfold IX at h;have:=BB 0 5 2 1;exact nz
theorem AAZ:∀n:Nat,Q_294 n:=by
  intro n
  induction n with
  |zero=>exact(λa b=>⟨λ_ h=>c_⟩)
  |succ n c=>exact AAa n c
instance(a b):CT (UN a b) 294 [AJ a,AJ b] rB:=⟨λr h=>by
  obtain ⟨N,c⟩:=Cd h;exact((AAZ N) a b).snd r (c N (ae _))⟩
instance(a b):CT (Pa a b) 232 [Bt a,Bt b] rB:=Fe f232 0x800ea11042a11042728c0d42360d42728c0b42360b42720e89c689c6720e89ad89ad7207030f42030f420106c4dc [] (Pa.eq_1 ..)
instance(a b):CT (Pc a b) 173 [Bg a,Bg b] rB:=Fe f173 0x808c2442362442728ce436e472ed1942621942720eca32ca323080ed1f42621f4265621c42621c42dc [] (Pc.eq_1 ..)
instance(a b):CT (Lx a b) 111 [AK a,Bg b] rB:=Fe f111 0x800eb4b4555e264b11e9621942621c42ca3236dc [] (Lx.eq_1 ..)
instance(a b c d e):CT (N3 a b c d e) 54 [AK a,(eL 25 Bt) b,Bg c,Bg d,eI e] rI:=Fe f54 0x819674f51f42550bf51f429605aa01f3621c42621c4296a5b43601a5b436d6b19b5c04c3 [] (N3.eq_1 ..)
instance(a b):CT (Mr a b) 55 [Bg a,Bg b] (rT FC eI):=Fk f55 0x8184360804020a78e206760a78e2060a78e2063c014aad01dbf1ad8a05977de455977de408040261300a78e2068178e20509dae2077609dae20709dae2073c014a3201dbf1328a05976ae455976ae478e205613009dae207a7c937e0468abc0b7de472bc0b7de472bc0b6ae472bc0b6ae401a5621c42621c429e0b31711c420bf51c425fc991 [] [.cell 4 (Y 2),.tmp 5] λr h c d=>by
  unfold Mr at h;have:=A8 0 9 6 0 λs0:BC=>[(8,.bx [⟨X,lI s0.dl⟩,⟨X,lI s0.d3⟩])];have:=A8 2 10 7 0 λs2:BC=>[(8,.bx [⟨X,lI s2.dl⟩,⟨X,lI s2.d3⟩])];exact nz
instance(a b c):CT (Ij a b c) 112 [AK a,(eL 25 Bt) b,BY c] (rT (eL 4 GN) eI):=I9 f112 0xe8020801cd05310576cd0531050c0acd0531077602044804471446c8437702cd053105f60c0acd053107813704c07cd162ca19b6360801f6cd0531058104c0f1405c30 [] (Ij.eq_1 ..) (A8 0 9 1 0 (hO 8 (eL 4 GN))) (A8 2 12 10 0 (hO 8 (eL 4 GN)))
instance(a b):CT (GG a b) 113 [lI a,lI b] (rO lI):=By f113 0x8202bcfe76fe3cb5db5d5d7702fe3cb5db02855daa01f6fe81e501405f02 [] (GG.eq_1 ..) (A8 0 6 0 0 (hO 5 lI))
instance(a b c):CT (L0 a b c) 174 [lI a,lI b,eI c] (rT lI eB):=I9 f174 0xe818087208a6760a08a60a08a63c01f9bbbb1485bb37e58a0a05bb17d3bb14ec17d3bb14555d7707055daabb0801f60a08a68108becd025f057601f9011408be6130cd025f0581993f774002be [.mkx 1 [.int .i64 0] (.s 11)] (L0.eq_1 ..) (A8 0 9 2 0 (hX 8 1 eI)) (A8 2 10 0 0 (hX 8 1 eI))
instance(a b):CT (FZ a b) 176 [lI a,eI b] rB:=By f176 0xa705be76b901bbe1aabe81fa [] (FZ.eq_1 ..) (BB 0 5 0 0)
noncomputable def ct:PC:=PC.of My f233.body (xq bT 0x1da025f0676da025f06da025f063c005201db3048304701328a3f07465d7e015d5a0159c8903171039d720abc9703079d559703079d01a53000738a08030a9d550b3171039d01da025f0681b2efc8903171383832ff024a08710446014830470148304732014a0a9d850b31713838325e0bc3be) [.bin (.a [0,0,0]) .eql (.s 94) (.s 107)]
theorem AAw:CK f233 ct []:=b!
theorem ABM:PC.sR ct=X/\PC.tl 0 ct=X:=b!
abbrev Q_233(n:Nat):Prop:=∀(b:Av)(a:Fp)(l:Fp),CT (B2 n b a l) 233 [.undef,lI a,lI l] (λr=>.bo (B4 b) (B4 r) 0 [])
theorem AAQ(n:Nat)(_ih_233:Q_233 n)(b:Av)(a:Fp)(l:Fp):CT (B2 (n+1) b a l) 233 [.undef,lI a,lI l] (λr=>.bo (B4 b) (B4 r) 0 []):=Z5 AAw ABM λr h e d f=>by
  unfold ct;unfold f233;unfold B2 at h;have:HW 0 λ(c:Av×Int)=>[(0,.bx (B4 c.1)),(8,.tv (eI c.2))]:=⟨⟩;exact nz
theorem AAP:∀n:Nat,Q_233 n:=by
  intro n
  induction n with
  |zero=>exact(λa ea l=>⟨λ_ h=>c_⟩)
  |succ n b=>exact AAQ n b
instance(x_0 ea l):CT (ID x_0 ea l) 233 [.undef,lI ea,lI l] (λr=>.bo (B4 x_0) (B4 r) 0 []):=⟨λr h=>by
  obtain ⟨N,a⟩:=Cd h;exact((AAP N) x_0 ea l).snd r (a N (ae _))⟩
noncomputable def cp:PC:=PC.of My f175.body (xq bT 0x5504a6605504a670a63c005201db3048304732ff70a68aa5975b41039d975b713832ec97f5039d97f5383832720abc9703069d559703069d653000738a08030a9d550bf5039d5504a681ff3f0132850bf53838325e0bfa) [.Aaf 233 [.s 17,.s 18,.c (.list 1 [])] 0]
theorem AAt:CK f175 cp []:=b!
theorem ABJ:PC.sR cp=X/\PC.tl 0 cp=X:=b!
abbrev Q_175(n:Nat):Prop:=∀(a:Av)(l:Fp),CT (B3 n a l) 175 [.undef,lI l] (λr=>.bo (B4 a) (B4 r) 0 [])
theorem AAI(n:Nat)(_ih_175:Q_175 n)(a:Av)(l:Fp):CT (B3 (n+1) a l) 175 [.undef,lI l] (λr=>.bo (B4 a) (B4 r) 0 []):=Z5 AAt ABJ λr h d c e=>by
  unfold cp;unfold f175;unfold B3 at h;have:HW 0 λ(b:Av×Int)=>[(0,.bx (B4 b.1)),(5,.tv (eI b.2))]:=⟨⟩;exact nz
theorem AAH:∀n:Nat,Q_175 n:=by
  intro n
  induction n with
  |zero=>exact(λa l=>⟨λ_ h=>c_⟩)
  |succ n b=>exact AAI n b
instance(x_0 l):CT (F8 x_0 l) 175 [.undef,lI l] (λr=>.bo (B4 x_0) (B4 r) 0 []):=⟨λr h=>by
  obtain ⟨N,a⟩:=Cd h;exact((AAH N) x_0 l).snd r (a N (ae _))⟩
instance(a b c d):CT (GF a b c d) 115 [BY a,BY b,Ap c,Ap d] (rT Ap eB):=Fk f115 0x8013b8184030a7138360871383f3800c2bf254630626237e0468a0830085ed10bde5a5a81d10bbdc437e0468a74de0bde550bbd0bbd5fc95c91 [.AaY [W,W,W,W,W,W,W,W,W,W,W] (.s 71),.Aaf 175 [.s 73,.c (.list 1 [])] 0] [.cell 8 (Y 2),.tmp 9] λr h e f=>by
  unfold GF at h;exact nz
instance(a b):CT (LQ a b) 114 [(eL 6 GO) a,GO b] rB:=By f114 0xa705f2f0379ee0497536ac36044106b662ad62014106b6e1aaf203819bd7 [] (LQ.eq_1 ..) (BB 0 5 0 0)
instance(a b c d):CT (Ia a b c d) 56 [AK a,(eL 25 Bt) b,GO c,eI d] (rT (eL 6 GO) eI):=I9 f56 0xe8020a01b8e30576b8e3050e0cb8e30760650cb8e3070e0cb8e3073c02064806470644023706c0850b730e0cb8e3078e064401064b1bc9264604460e7de47d044106b60e6ae46a044106b6621f4204480447d504b604486a06b604473706c0850bf51f423706c07c264b11e962014104b662014106b6ca19436a04437736b8e305f60e0cb8e307813706c07cd1620141064377360a738abc0b6a0643777430b8e305e8064706440106405c3102 [] (Ia.eq_1 ..) (⟨⟩:HW 0 λ(e:List CO×Int)=>[(10,.ow ((eL 6 GO) e.1)),(11,.tv (eI e.2))]) (A8 2 14 12 0 (hO 10 (eL 6 GO)))
instance(a b):CT (L3 a b) 57 [Bg a,FC b] (rS GO):=Fk f57 0x4013b064b274604460e7de45a0e6ae459621f421bc991 [] [.cell 4 (Y 6)] λr h c d=>by
  unfold L3 at h;exact nz
instance(a):CT (NW a) 116 [Ap a] rB:=Fe f116 0x800e5a65599b00 [] (NW.eq_1 ..)
instance(a b c):CT (Ms a b c) 58 [GO a,GO b,eB c] (rT Ap eB):=Fk f58 0x81846b8cac36ac62ad62ad37e0468a8cac6536ac37846b0e0046004662ad62ad883000c95cb5 [] [.cell 6 (Y 2),.tmp 7] λr h d e=>by
  unfold Ms at h;exact nz
instance(a b c d e f):CT (NV a b c d e f) 28 [AK a,(eL 25 Bt) b,Bg c,Bg d,eI e,eB f] (rT RJ eI):=Fk f28 0x804b17460c011413f7cd7008761413f7cd7008151413f7cd700976151413f7cd700916151413f7cd700a600116151413f7cd700a16151413f7cd700a0c013b804b18463615466a06b6ed1f4215466a06b6ed1f429ee0e901064406b6064406b6ff16151413f7cd700a85550b6a06b60b6a06b6151413f7cd7009f616151413f7cd700a811413f7cd7008f6151413f7cd7009810cea05301413f7cd700881370a4b0117468530d16536b4b1370a4b0117f4d16536b4b101e0e9b4b4370a4b0117f40e01b4b4b10115c9935c700103 [] [.cell 12 (Y 10),.tmp 13] λr h i j=>by
  unfold NV at h;have:HW 0 λ(g:pr×Int)=>[(12,.bx [⟨X,lI g.1.fu.gp.dr.dl⟩,⟨X,lE g.1.fu.gp.dr.d3⟩,⟨X,(eL 1 lI) g.1.fu.gp.eb⟩,⟨X,(eL 4 GN) g.1.fu.ib⟩,⟨X,lI g.1.ec.gp.dr.dl⟩,⟨X,lE g.1.ec.gp.dr.d3⟩,⟨X,(eL 1 lI) g.1.ec.gp.eb⟩,⟨X,(eL 4 GN) g.1.ec.ib⟩,⟨X,lI g.1.Iso.dl⟩,⟨X,lI g.1.Iso.d3⟩]),(20,.tv (eI g.2))]:=⟨⟩;have:=A8 2 21 17 0 λs2:pr=>[(12,.bx [⟨X,lI s2.fu.gp.dr.dl⟩,⟨X,lE s2.fu.gp.dr.d3⟩,⟨X,(eL 1 lI) s2.fu.gp.eb⟩,⟨X,(eL 4 GN) s2.fu.ib⟩,⟨X,lI s2.ec.gp.dr.dl⟩,⟨X,lE s2.ec.gp.dr.d3⟩,⟨X,(eL 1 lI) s2.ec.gp.eb⟩,⟨X,(eL 4 GN) s2.ec.ib⟩,⟨X,lI s2.Iso.dl⟩,⟨X,lI s2.Iso.d3⟩])];have:=A8 4 22 19 0 λs4:pr=>[(12,.bx [⟨X,lI s4.fu.gp.dr.dl⟩,⟨X,lE s4.fu.gp.dr.d3⟩,⟨X,(eL 1 lI) s4.fu.gp.eb⟩,⟨X,(eL 4 GN) s4.fu.ib⟩,⟨X,lI s4.ec.gp.dr.dl⟩,⟨X,lE s4.ec.gp.dr.d3⟩,⟨X,(eL 1 lI) s4.ec.gp.eb⟩,⟨X,(eL 4 GN) s4.ec.ib⟩,⟨X,lI s4.Iso.dl⟩,⟨X,lI s4.Iso.d3⟩])];exact nz
instance(a b c d e):CT (Pd a b c d e) 11 [AK a,(eL 25 Bt) b,Bg c,Bg d,eI e] (rT RJ eI):=Fk f11 0x804b6b0e01b4b4b10115c9935c04c3 [] [.cell 10 (Y 10),.tmp 11] λr h f g=>by
  unfold Pd at h;exact nz
instance(a b):CT (Ep a b) 29 [QH a,QH b] rB:=By f29 0xa7055bf096a5620141e7b7620141e7b7556ae7b76ae7b7e1b7555b03819674b70bb701a562326232dc [] (Ep.eq_1 ..) (BB 0 5 2 3)
instance(a b):CT (IK a b) 12 [RJ a,RJ b] rB:=Fe f12 0x808c0842360842720ed5acd5ac65d532d532dc [] (IK.eq_1 ..)
instance(a b c d e):CT (RY a b c d e) 15 [AK a,(eL 25 Bt) b,Bg c,Bg d,eI e] (rT RJ eI):=Fk f15 0x804b6b0e01b4b4b10115c9935c04c3 [] [.cell 10 (Y 10),.tmp 11] λr h f g=>by
  unfold RY at h;exact nz
end Go.Sf.Sc
