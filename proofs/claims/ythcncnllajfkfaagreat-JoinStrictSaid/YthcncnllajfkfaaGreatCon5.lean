/- Contracts of the functions. -/
import Derived.Test.YthcncnllajfkfaaGreatCon4
set_option linter.all false
set_option maxRecDepth 100000
set_option maxHeartbeats 4000000
open Option renaming some->Y,none->W
open Bool renaming true->X,false->T
open List renaming map->v1
namespace Go.Sf.Sc
open Go Go.Sf Go.Proofs.Tryz
instance(a b c):CT (JV a b c) 93 [AK a,Bj b,FN c] (rT Bj Az):=Fk f93 0x706023b84b204460e5a0bdd0e590bbd6201b210e936623600c910c99391 [] [.cell 6 (Y 3),.cell 7 (Y 2)] λr h d e=>by
  unfold JV at h;exact nz
instance(a b):CT (Is a b) 94 [lI a,lI b] (rO lI):=B8 f94 0x8202bcfd76b5e05e5e7702bcf5fd81e501406002 [] (Is.eq_1 ..) (BI 0 6 0 0 (hO 5 lI))
instance(a b c d e):CT (Gt a b c d e) 95 [lI a,lI b,eI c,lI d,eI e] (rO lI):=B8 f95 0x82020c01c10be2000776c10be200075f01b5e0c3c10be200073cb5e05e5ebb300285bb0cea30c10be2000781e5820e7740e26005 [] (Gt.eq_1 ..) (BI 0 13 2 0 λs0:Int×Fp=>[(4,.tv (eI s0.1)),(12,.ow (lI s0.2))])
instance(a b):CT (JU a b) 154 [lI a,eI b] rB:=B8 f154 0xa605be76b901bbe1aabe81fc [] (JU.eq_1 ..) (BM 0 5 0 0)
noncomputable def rW:PC:=PC.of Nr f96.body (xq bT 0x35003530806020f0978a106760f0978a1060f0978a1063c014a0141320348034707465e7e595e5ac404014132b2efc8d88e017d0d420806027f5a010f0978a106810978a1050a09da70075f7209da70070a09da70073c1fa921221923a90d0a09da70a50db809da700a7619014fb37d04b6190d0a09da7008f50e0db809da700a8101ce01d19d5936014a383201e09d59043832ff0a09da7007cc016a0d420978a1057f597209da7007818407c93638c616c993ab91) []
theorem ACe:CK f96 rW [.cell 8 (Y 3)]:=b!
theorem ACk:PC.sB rW=X:=b!
instance(a b c d):CT (Jw a b c d) 96 [AK a,B3 b,.agg [.undef,.undef,.undef],Az d] (λr=>.ag [⟨X,lI c.dr.dl⟩,⟨X,lE c.dr.d3⟩,⟨X,.xn (v1 lI c.eb)⟩] 2 (.z5 [⟨X,lI r.dr.dl⟩,⟨X,lE r.dr.d3⟩,⟨X,.xn (v1 lI r.eb)⟩])):=FiA ACe ACk λr h i g j=>by
  unfold rW;unfold f96;unfold Jw at h;have:HW 0 λ(e:AF×Int)=>[(6,.bx [⟨X,lI e.1.dr.dl⟩,⟨X,lE e.1.dr.d3⟩,⟨X,.xn (v1 lI e.1.eb)⟩]),(10,.tv (eI e.2))]:=⟨⟩;have:=BI 2 14 11 0 (hX 13 1 eI);have:HW 4 λ(f:AF×Int)=>[(6,.bx [⟨X,lI f.1.dr.dl⟩,⟨X,lE f.1.dr.d3⟩,⟨X,.xn (v1 lI f.1.eb)⟩]),(15,.tv (eI f.2))]:=⟨⟩;exact nz
noncomputable def rX:PC:=PC.of Nr f97.body (xq bT 0x81b262073e0a0702130c0a787007762624017d04b625240123a937b219468a055b4104437d044377aa7d04437d04437730d19dbd36815e6a04b6595d75b1024104b60a0702f5130c0a787007810c0a787006c10a78700776c10a787007100ec10a7870097637b219468a05770a057d04b67d044377055e6a04b6595e6a04b6595d75b1024104b6c10a7870076130100ec10a787009815d75b1024104b60c0a787006f5c10a787007e85b41c60110c993ab5c0401) []
theorem ACf:CK f97 rX [.cell 10 (Y 3),.tmp 11]:=b!
theorem ACl:PC.sB rX=X:=b!
instance(a b c d e):CT (LB a b c d e) 97 [AK a,B3 b,.agg [.undef,.undef,.undef],Az d,lI e] (λr=>.ag [⟨X,lI c.dr.dl⟩,⟨X,lE c.dr.d3⟩,⟨X,.xn (v1 lI c.eb)⟩] 2 (.tp [Bj r.1,eI r.2])):=FiA ACf ACl λr h g f i=>by
  unfold rX;unfold f97;unfold LB at h;have:=BI 0 13 12 0 λs0:AF=>[(10,.bx [⟨X,lI s0.dr.dl⟩,⟨X,lE s0.dr.d3⟩,⟨X,(eL 1 lI) s0.eb⟩])];have:=BI 2 16 13 0 λs2:AF=>[(10,.bx [⟨X,lI s2.dr.dl⟩,⟨X,lE s2.dr.d3⟩,⟨X,(eL 1 lI) s2.eb⟩])];have:=BI 4 19 12 0 λs4:AF×AF=>[(7,.bx [⟨X,lI s4.1.dr.dl⟩,⟨X,lE s4.1.dr.d3⟩,⟨X,.xn (v1 lI s4.1.eb)⟩]),(10,.bx [⟨X,lI s4.2.dr.dl⟩,⟨X,lE s4.2.dr.d3⟩,⟨X,(eL 1 lI) s4.2.eb⟩])];exact nz
instance(a b c d):CT (Et a b c d) 43 [AK a,B3 b,Bj c,Bn d] (rT Br eI):=Fk f43 0x81264b1c46c5626262ca37264b0e468a73dd550bbd37264b65468530b26bc3577e360353ca360d013b03500257361b62ca36dfc904460eed5a0b3171c67d0d427d0b420e0bc40b6a38c66a0d426a0b42dfc904460e5add0e59bd84b200c916e936623637264b65f4dfe96262ca3637264b65f4ecca360111c95c91 [] [.cell 8 (Y 38),.tmp 9] λr h e f=>by
  unfold Et at h;exact nz
instance(a):CT (LX a) 201 [A8 a] (rS Az):=Fk f201 0x8436033e5b02055bf001f8011dad5b0261151dad555b03815b02e2f001f8011d325b0261151d3201e20381025019c93f3fed3fd900c99300 [.mkx 1 [.int .i64 0] (.s 8),.mkx 1 [.int .i64 0] (.s 12),.Aah [.w 9,.w 13]] [.cell 2 (Y 2)] λr h d e=>by
  unfold LX at h;have:HW 0 λ(b:d4×Int)=>[(3,.bx [⟨X,.xl 1 (v1 eI b.1.dl)⟩,⟨X,.xl 1 (v1 eI b.1.d3)⟩]),(4,.tv (eI b.2))]:=⟨⟩;have:HW 2 λ(c:d4×Int)=>[(3,.bx [⟨X,.xl 1 (v1 eI c.1.dl)⟩,⟨X,.xl 1 (v1 eI c.1.d3)⟩]),(5,.tv (eI c.2))]:=⟨⟩;exact nz
instance(a b c d):CT (Mx a b c d) 144 [AK a,A8 b,A8 c,eB d] (rT (eL 2 Az) eI):=Fe f144 0xe8013702c085f7820e65c5c53702c07c8cc5c340935c31 [] (Mx.eq_1 ..)
instance(a b c d):CT (H7 a b c d) 91 [AK a,BP b,Bj c,eB d] (rT (eL 3 Bn) eI):=B8 f91 0xe8020d650d0ba105760e0d0ba1050e0d0ba1053c02034803470946b102b6026cd13602b662890d01f50e0d0ba1058103c03703c07cd1b132cf363703c07cec8936010340935c31 [] (H7.eq_1 ..) (BI 0 14 11 0 (hO 13 (eL 3 Bn)))
instance(a b c):CT (El a b c) 42 [AK a,B3 b,Bj c] (rT (eL 3 Bn) eI):=B8 f42 0xe802f70c0b09d006760c0b09d0060c0b09d0063c0203480347c8b6026c264b114975c8b662ca36f7f50c0b09d0068103c03703c07cd1030f426289ad363703c07cecca360103409391 [] (El.eq_1 ..) (BI 0 12 9 0 (hO 11 (eL 3 Bn)))
instance(a b c d):CT (OB a b c d) 17 [AK a,B3 b,Bj c,eI d] (rO (eL 38 Br)):=B8 f17 0x8202f70c0b0906d007760226482647b4b5264b11e9c8b662ca360b748a057773300c0b0906d0078126c001d162ca362640935c31 [] (OB.eq_1 ..) (⟨⟩:HW 0 λ(e:List AR×Int)=>[(11,.ow ((eL 38 Br) e.1)),(12,.tv (eI e.2))])
instance c19:CT (RE ) 19 [] (λr=>.z5 [⟨X,lN r.dl⟩,⟨X,lX r.d3⟩]):=Fk f19 0x2503f07473f3f04473f3f04473f3f3f3f04473f1ac900 [.bld [.str ⟨#[]⟩,.int .i64 0,.int .i64 0,.list 1 []] [(0,1,.c (.str ⟨#[98,97,108,97,110,99,101]⟩)),(1,1,.c (.int .i64 (-1000))),(2,1,.c (.int .i64 1000))],.bld [.str ⟨#[]⟩,.int .i64 0,.bool T,.list 4 []] [(0,1,.c (.str ⟨#[65,99,99,111,117,110,116]⟩)),(1,1,.c (.int .i64 (-1))),(2,1,.c (.bool X)),(3,1,.s 2)],.bld [.str ⟨#[]⟩,.int .i64 0,.bool T,.list 4 []] [(0,1,.c (.str ⟨#[67,97,115,104]⟩)),(1,1,.c (.int .i64 0))],.lst 1 [.c (.str ⟨#[111,112,101,110]⟩),.c (.str ⟨#[99,108,111,115,101,100]⟩)],.bld [.str ⟨#[]⟩,.int .i64 0,.int .i64 0,.list 1 []] [(0,1,.c (.str ⟨#[115,116,97,116,101]⟩)),(2,1,.c (.int .i64 1)),(3,1,.s 5)],.bld [.str ⟨#[]⟩,.int .i64 0,.bool T,.list 4 []] [(0,1,.c (.str ⟨#[76,111,97,110]⟩)),(1,1,.c (.int .i64 0)),(3,1,.s 7)],.bld [.str ⟨#[]⟩,.int .i64 0,.bool T,.list 4 []] [(0,1,.c (.str ⟨#[80,101,114,115,111,110]⟩)),(1,1,.c (.int .i64 (-1)))],.bld [.str ⟨#[]⟩,.int .i64 0,.int .i64 0,.int .i64 0,.int .i64 0,.int .i64 0,.int .i64 0] [(0,1,.c (.str ⟨#[111,119,110,115]⟩)),(1,1,.c (.int .i64 3)),(2,1,.c (.int .i64 0)),(4,1,.c (.int .i64 (-1))),(5,1,.c (.int .i64 1)),(6,1,.c (.int .i64 1))],.bld [.str ⟨#[]⟩,.int .i64 0,.int .i64 0,.int .i64 0,.int .i64 0,.int .i64 0,.int .i64 0] [(0,1,.c (.str ⟨#[112,97,121,115]⟩)),(1,1,.c (.int .i64 1)),(2,1,.c (.int .i64 1)),(4,1,.c (.int .i64 (-1))),(6,1,.c (.int .i64 (-1)))],.Aah [.w 10,.w 13]] [.cell 0 (Y 2)] λr h a b=>by
  unfold RE at h;exact nz
instance(a):CT (Mw a) 44 [AK a] rB:=Fj f44 0xa608c376b90c6a07d8e15a0108c38130e3f0e30370310476703104070670310676b90c9db77031047fb7010706703106fe73b7550c59044b03c9d5e78d41e759e3037f8d41e75955e304fe050c6ae7595530738d41e759777f5901e3039b96eb55d99a00 [] λh=>by
  unfold Mw at h;have:=BI 0 4 1 0 (hT 3 eI);have:HW 2 λ(b:Int)=>[(5,.tv (eI b))]:=⟨⟩;have:HW 4 λ(c:Int)=>[(7,.tv (eI c))]:=⟨⟩;have:=BM 6 8 1 1;exact nz
instance(a):CT (Jt a) 98 [A8 a] rB:=Fe f98 0x80eb55d99a00 [] (Jt.eq_1 ..)
instance(a):CT (If a) 45 [Bj a] rB:=B8 f45 0xa6310276b90b9d7ee17e013102fe737e01088c329a00 [] (If.eq_1 ..) (BM 0 3 1 2)
instance(a b):CT (Ju a b) 50 [Az a,eI b] rB:=Fe f50 0xba55edd9fa [] (Ju.eq_1 ..)
instance(a):CT (K9 a) 156 [BP a] rB:=Fe f156 0x807303ac72737e65cf9a00 [] (K9.eq_1 ..)
instance(a b):CT (Sz a b) 157 [FN a,eI b] rB:=Fe f157 0xba55edd9fa [] (Sz.eq_1 ..)
abbrev Q_211(n:Nat):Prop:=∀(c:d5)(a:Int),CT (DK n c a) 211 [AJ c,eI a] rI
theorem AAV(n:Nat)(_ih_211:Q_211 n)(c:d5)(a:Int):CT (DK (n+1) c a) 211 [AJ c,eI a] rI:=Fj f211 0x817705b5f06501fbd830ff8a0530eb55b503fe088ca901a589ac55309330 [] λh=>by
  unfold DK at h;have:HW 0 λ(b:Int×Int)=>[(1,.tv (eI b.1)),(5,.tv (eI b.2))]:=⟨⟩;exact nz
theorem AAU:∀n:Nat,Q_211 n:=by
  intro n
  induction n with
  |zero=>exact(λc pf=>⟨λ_ h=>c_⟩)
  |succ n a=>exact AAV n a
instance(c pf):CT (Ri c pf) 211 [AJ c,eI pf] rI:=⟨λr h=>by
  obtain ⟨N,a⟩:=Cn h;exact((AAU N) c pf).snd r (a N (ae _))⟩
instance(a):CT (LA a) 158 [AJ a] rB:=Fe f158 0xba0e9f9a00 [] (LA.eq_1 ..)
instance(a):CT (Q3 a) 99 [B3 a] rB:=Fe f99 0x800e9f1042728c0d42728c0b42720e89c6720e89ad550c599a00 [] (Q3.eq_1 ..)
instance(a b c):CT (N8 a b c) 214 [AK a,A8 b,A8 c] rB:=Fe f214 0x800a0aeb72735955ebd9558cc5728c728c65369a91 [] (N8.eq_1 ..)
instance(a b c):CT (Qg a b c) 160 [AK a,BP b,Bj c] rB:=Fe f160 0x808c32cf3672ec65899a91 [] (Qg.eq_1 ..)
abbrev Q_161(n:Nat):Prop:=∀(c:d5),CT (Gs n c) 161 [AJ c] rB
theorem AAL(n:Nat)(_ih_161:Q_161 n)(c:d5):CT (Gs (n+1) c) 161 [AJ c] rB:=Fj f161 0xba733171ac0b6a38ac30310276f3fbd8307f5a013102819a00 [] λh=>by
  unfold Gs at h;have:=BM 0 3 1 1;exact nz
theorem AAK:∀n:Nat,Q_161 n:=by
  intro n
  induction n with
  |zero=>exact(λc=>⟨λ_ h=>c_⟩)
  |succ n a=>exact AAL n a
instance(c):CT (SR c) 161 [AJ c] rB:=⟨λr h=>by
  obtain ⟨N,a⟩:=Cn h;exact((AAK N) c).snd r (a N (ae _))⟩
abbrev Q_162(n:Nat):Prop:=∀(p:d7)(c:d5)(b:Int)(a:Int),CT (E1 n p c b a) 162 [BP p,AJ c,eI b,eI a] rB
theorem AAN(n:Nat)(_ih_162:Q_162 n)(p:d7)(c:d5)(b:Int)(a:Int):CT (E1 (n+1) p c b a) 162 [BP p,AJ c,eI b,eI a] rB:=Fj f162 0xba72010d0a09055b0676f330fbd8890a017f5a010d0a09055b068009055b050c0a09055b067655300a09055b057fdd010c0a09055b06810bdd0a09705b06b809705b077655300a09705b067fbd01b809705b07810bbd8109705b0509705b053cd489ac8559d409c989015c5b02 [] λh=>by
  unfold E1 at h;have:HJ 17 λ(d:d7)=>[(9,.bx [⟨T,lI d.dr.dl⟩,⟨T,lE d.dr.d3⟩,⟨T,lS d.ek⟩,⟨T,eI d.ey⟩,⟨T,lT d.j4⟩])]:=⟨⟩;have:HW 0 λ(e:Int×Int)=>[(10,.tv (eI e.1)),(11,.tv (eI e.2))]:=⟨⟩;have:HW 2 λ(f:Int×Int)=>[(10,.tv (eI f.1)),(12,.tv (eI f.2))]:=⟨⟩;have:=BM 4 13 5 1;exact nz
theorem AAM:∀n:Nat,Q_162 n:=by
  intro n
  induction n with
  |zero=>exact(λp c ea eg=>⟨λ_ h=>c_⟩)
  |succ n a=>exact AAN n a
instance(p c ea eg):CT (RF p c ea eg) 162 [BP p,AJ c,eI ea,eI eg] rB:=⟨λr h=>by
  obtain ⟨N,a⟩:=Cn h;exact((AAM N) p c ea eg).snd r (a N (ae _))⟩
instance(a b c d):CT (N9 a b c d) 100 [AK a,BP b,AJ c,Bj d] rB:=Fe f100 0x800a0e9f897273dd7273bd720e9f65628936550e9f893696a56272a58901a59f015c91 [] (N9.eq_1 ..)
instance(a b c):CT (Hd a b c) 46 [AK a,B3 b,Bj c] rB:=Fe f46 0x80ec9f104289ad36720eca65369a91 [] (Hd.eq_1 ..)
abbrev Q_47(n:Nat):Prop:=∀(p:d7)(c:d5)(a:Int),CT (Dt n p c a) 47 [BP p,AJ c,eI a] rB
theorem ACb(n:Nat)(_ih_47:Q_47 n)(p:d7)(c:d5)(a:Int):CT (Dt (n+1) p c a) 47 [BP p,AJ c,eI a] rB:=Fj f47 0xbac3720704020476f301fbd88902748a0530eb72070402048107040203090704020476550107040203ff8a053073dd010907040204810bdd07e20478e20576550107e204ff8a053073bd0178e205810bbd07e20407e2043cd489ac8559d409c989015cb5 [] λh=>by
  unfold Dt at h;have:HJ 14 λ(b:d7)=>[(7,.bx [⟨T,lI b.dr.dl⟩,⟨T,lE b.dr.d3⟩,⟨T,lS b.ek⟩,⟨T,eI b.ey⟩,⟨T,lT b.j4⟩])]:=⟨⟩;have:HW 0 λ(d:Int×Int)=>[(2,.tv (eI d.1)),(8,.tv (eI d.2))]:=⟨⟩;have:HW 2 λ(e:Int×Int)=>[(2,.tv (eI e.1)),(9,.tv (eI e.2))]:=⟨⟩;have:HW 4 λ(f:Int)=>[(10,.tv (eI f))]:=⟨⟩;exact nz
theorem ACa:∀n:Nat,Q_47 n:=by
  intro n
  induction n with
  |zero=>exact(λp c a=>⟨λ_ h=>c_⟩)
  |succ n b=>exact ACb n b
instance(p c ways):CT (OT p c ways) 47 [BP p,AJ c,eI ways] rB:=⟨λr h=>by
  obtain ⟨N,a⟩:=Cn h;exact((ACa N) p c ways).snd r (a N (ae _))⟩
instance(a b):CT (MB a b) 101 [AK a,(eL 25 B3) b] rI:=B8 f101 0xa607b5f0d6ca19b636e13007b50381b9f79e017536fa [] (MB.eq_1 ..) (BM 0 7 1 0)
instance(a b c):CT (OC a b c) 48 [AK a,(eL 25 B3) b,Bj c] rI:=Fe f48 0x815d01756236d6b1015c30 [] (OC.eq_1 ..)
instance(a b c):CT (MA a b c) 24 [AK a,(eL 25 B3) b,Bj c] rB:=B8 f24 0x800a73dd7273bd7705ecb1070531047805310576720e9f104119b68901411943770a736a3806411943770a73317101411943770a736a38014119b630f362ca19b63607053104f5780531059b96a56272088c7273300a733073305c30 [] (MA.eq_1 ..) (BI 0 8 1 0 (hT 7 eB))
instance(a b):CT (Nd a b) 49 [Bn a,eI b] rB:=Fe f49 0x80bc0b7e65b132fa [] (Nd.eq_1 ..)
instance(a b):CT (FQ a b) 25 [AK a,Br b] rB:=Fe f25 0x808c2442728ce472ec194272ec1f4265621c42ca3236db [] (FQ.eq_1 ..)
instance(a):CT (Nh a) 26 [B3 a] rB:=Fe f26 0x8005ebedee7359d972eb55d9848407c907c93638c63638ad9a00 [] (Nh.eq_1 ..)
instance(a b c d e):CT (KQ a b c d e) 9 [AK a,(eL 25 B3) b,Br c,Br d,eI e] rB:=B8 f9 0x800a0a0a05300a73aa300a05300a73aaaa300a05aa5d810b31711c420b6a381c42070401030b0704f176f3ca19b607040103f50b0704f1fea5ca3272a5ca3272a5b43672a5b43601a5621c42b19a5c04c3 [] (KQ.eq_1 ..) (BM 0 11 1 0)
instance(a b):CT (Dq a b) 120 [lI a,lI b] rB:=B8 f120 0xa605be76b9bbbbe1aabe81b9f70be6 [] (Dq.eq_1 ..) (BM 0 5 0 0)
instance(a b):CT (NX a b) 118 [A8 a,A8 b] rB:=B8 f118 0xa6055bf037bfc8d8c8d8e15a555b03feebed01a5c4db [.bin (.a [0,0,0]) .neq (.s 32) (.s 37)] (NX.eq_1 ..) (BM 0 5 2 1)
instance(a b):CT (Lv a b) 119 [lI a,lI b] rI:=B8 f119 0x8173010bfc05be763705bbbb85bb5ee6ff8a737773aabe81fc [] (Lv.eq_1 ..) (⟨⟩:HW 0 λ(c:Int)=>[(5,.tv (eI c))])
instance(a b):CT (IU a b) 60 [Bj a,Bj b] rB:=B8 f60 0xa6055bf0b90e9d7e9d7ee17e555b03fe737e0b7e01088c32cfdb [] (IU.eq_1 ..) (BM 0 5 2 2)
instance(a b):CT (IT a b) 30 [Az a,Az b] rB:=Fe f30 0x800e5a5a65c4db [] (IT.eq_1 ..)
instance(a b):CT (Hz a b) 61 [Bn a,Bn b] rB:=Fe f61 0x800e7e7e720edddd65bdbddb [] (Hz.eq_1 ..)
instance(a b):CT (LY a b) 292 [BP a,BP b] rB:=JK f292 0xa6065bf037bf89059003ac89059003ace103ac01065b03815b02055bf037bfd5e77ed5e77e5b027f7e555b03fe7303ac0b03ac72737e0b7eeeb7b701088c32cfdb [.bin (.a [0,0,0,0]) .neq (.s 49) (.s 54),.bin (.a [0,0,0,0,0]) .neq (.s 67) (.s 72)] (LY.eq_1 ..) (BM 0 5 2 2) (BM 2 6 2 4)
instance(a b):CT (Rh a b) 293 [FN a,FN b] rB:=Fe f293 0x800e5a5a65c4db [] (Rh.eq_1 ..)
abbrev Q_294(n:Nat):Prop:=∀(a:d5)(b:d5),CT (Ii n a b) 294 [AJ a,AJ b] rB
theorem AAj(n:Nat)(_ih_294:Q_294 n)(a:d5)(b:d5):CT (Ii (n+1) a b) 294 [AJ a,AJ b] rB:=Fj f294 0xa6055bf0f3fbd8fbd8e15a555b03fea589ac89ac72088ca936a972ebed55c4db [] λh=>by
  unfold Ii at h;have:=BM 0 5 2 1;exact nz
theorem AAi:∀n:Nat,Q_294 n:=by
  intro n
  induction n with
  |zero=>exact(λa b=>⟨λ_ h=>c_⟩)
  |succ n c=>exact AAj n c
instance(a b):CT (UX a b) 294 [AJ a,AJ b] rB:=⟨λr h=>by
  obtain ⟨N,c⟩:=Cn h;exact((AAi N) a b).snd r (c N (ae _))⟩
instance(a b):CT (Pl a b) 232 [B3 a,B3 b] rB:=Fe f232 0x800e9f10429f1042728c0d42360d42728c0b42360b42720e89c689c6720e89ad89ad7207030f42030f420106c4db [] (Pl.eq_1 ..)
instance(a b):CT (Pn a b) 173 [Br a,Br b] rB:=Fe f173 0x808c2442362442728ce436e472ec1942621942720eca32ca323080ec1f42621f4265621c42621c42db [] (Pn.eq_1 ..)
instance(a b):CT (L9 a b) 111 [AK a,Br b] rB:=Fe f111 0x800eb4b4555d264b11e9621942621c42ca3236db [] (L9.eq_1 ..)
instance(a b c d e):CT (OD a b c d e) 54 [AK a,(eL 25 B3) b,Br c,Br d,eI e] rI:=Fe f54 0xfe736a381f42550b6a381f429605aa01f3621c42621c4296a5b43601a5b436d6b19a5c04c3 [] (OD.eq_1 ..)
instance(a b):CT (M1 a b) 55 [Br a,Br b] (rT FN eI):=Fk f55 0x8184360804020a78e206760a78e2060a78e2063c014aad01e0f1ad8a059d7de4559d7de408040261300a78e2068178e20509dae2077609dae20709dae2073c014a3201e0f1328a059d6ae4559d6ae478e205613009dae207a6c937df468abc0b7de472bc0b7de472bc0b6ae472bc0b6ae401a5621c42621c429b0b31711c420b6a381c4260c991 [] [.cell 4 (Y 2),.tmp 5] λr h c d=>by
  unfold M1 at h;have:=BI 0 9 6 0 λs0:BN=>[(8,.bx [⟨X,lI s0.dl⟩,⟨X,lI s0.d3⟩])];have:=BI 2 10 7 0 λs2:BN=>[(8,.bx [⟨X,lI s2.dl⟩,⟨X,lI s2.d3⟩])];exact nz
instance(a b c):CT (Iu a b c) 112 [AK a,(eL 25 B3) b,Bj c] (rT (eL 4 GY) eI):=JK f112 0xe8020801cd05310576cd0531050c0acd0531077602044804471446c8437702cd053105f50c0acd053107813704c07cd162ca19b6360801f5cd0531058104c0f1405c30 [] (Iu.eq_1 ..) (BI 0 9 1 0 (hO 8 (eL 4 GY))) (BI 2 12 10 0 (hO 8 (eL 4 GY)))
instance(a b):CT (GP a b) 113 [lI a,lI b] (rO lI):=B8 f113 0x8202bcfd76fd3cb5e05e5e7702fd3cb5e002855eaa01f5fd81e501406002 [] (GP.eq_1 ..) (BI 0 6 0 0 (hO 5 lI))
instance(a b c):CT (MC a b c) 174 [lI a,lI b,eI c] (rT lI eB):=JK f174 0xe818087208a7760a08a70a08a73c01f8bbbb1485bb37e58a0a05bb17d3bb14ee17d3bb14555e7707055eaabb0801f50a08a78108becd0260057601f8011408be6130cd02600581993f774002be [.mkx 1 [.int .i64 0] (.s 11)] (MC.eq_1 ..) (BI 0 9 2 0 (hX 8 1 eI)) (BI 2 10 0 0 (hX 8 1 eI))
instance(a b):CT (Ft a b) 176 [lI a,eI b] rB:=B8 f176 0xa605be76b901bbe1aabe81fc [] (Ft.eq_1 ..) (BM 0 5 0 0)
noncomputable def cz:PC:=PC.of Nr f233.body (xq bT 0x1da02600676da026006da0260063c005201e03048304701328a3f07465e7e015e5a0159c890317103a2720abc9d0307a2559d0307a201a53000748a08030aa2550b317103a201da02600681b2efc8903171383832ff024a08710446014830470148304732014a0aa2850b31713838325d0bc3be) [.bin (.a [0,0,0]) .eql (.s 94) (.s 107)]
theorem AA5:CK f233 cz []:=b!
theorem ABV:PC.sB cz=X/\PC.tn 0 cz=X:=b!
abbrev Q_233(n:Nat):Prop:=∀(b:A5)(a:Fp)(l:Fp),CT (CC n b a l) 233 [.undef,lI a,lI l] (λr=>.bo (CE b) (CE r) 0 [])
theorem AAZ(n:Nat)(_ih_233:Q_233 n)(b:A5)(a:Fp)(l:Fp):CT (CC (n+1) b a l) 233 [.undef,lI a,lI l] (λr=>.bo (CE b) (CE r) 0 []):=aA AA5 ABV λr h e d f=>by
  unfold cz;unfold f233;unfold CC at h;have:HW 0 λ(c:A5×Int)=>[(0,.bx (CE c.1)),(8,.tv (eI c.2))]:=⟨⟩;exact nz
theorem AAY:∀n:Nat,Q_233 n:=by
  intro n
  induction n with
  |zero=>exact(λa ea l=>⟨λ_ h=>c_⟩)
  |succ n b=>exact AAZ n b
instance(x_0 ea l):CT (IN x_0 ea l) 233 [.undef,lI ea,lI l] (λr=>.bo (CE x_0) (CE r) 0 []):=⟨λr h=>by
  obtain ⟨N,a⟩:=Cn h;exact((AAY N) x_0 ea l).snd r (a N (ae _))⟩
noncomputable def cw:PC:=Rq [Aa 6 1,Af 7 6,Aa 4 7] [0,1,4]<|Sq (Rq [Aa 8 4,Aj 9 0 0,Ac 10 9 0,Ac 11 10 0,Ac 12 11 0,Ac 13 12 0,Ag 14 13,Af 15 14,⟨Y 16,.bin (.i) .eql (.s 8) (.s 15),W⟩] [0,1,4,16]<|Co 16 (Rq [Aj 17 0 0,Aa 18 1,⟨Y 19,.zt 233 [.s 17,.s 18,.c (.list 1 [])] 0,W⟩] [0]<|.ret)<|Sk [0,1,4])<|Rq [Ah 5 0] [0,1,4,5]<|Bl 0<|Lo [0,1,4,5]<|Sq (Rq [Aa 20 5,Aj 21 0 0,Ac 22 21 0,Ac 23 22 3,Ac 24 23 0,Ac 25 24 0,Ag 26 25,Af 27 26,Ao 28 20 27,Aa 29 28,⟨Y 30,.bad 0 0,Y (29,X)⟩,Aq 31 30 0 29,Aq 32 31 10 29,Au 33 32 29,⟨Y 34,.not (.s 33),Y (29,X)⟩,⟨Y 35,.pick (.s 29) (.s 34) (.c (.bool T)),W⟩] [0,1,4,5,35]<|Co 35 (Sk [0,1,4,5])<|Ex 0 [0])<|Sq (Bl 1<|Sq (Sq (Dr [38,39,40,41,42,43,44,45,46,47,48,49,50,51,52,53,54,55,56,57,58,59,60,61,62,63,64,65,66,67,68,69,70,71,72,73,74,75,76,77,78,79,80,81,82,83,84,85,86,87,88,89,90,91,92,93,94,95,96,97,98,99,100,101,102] [Aa 38 1,Aa 39 5,⟨Y 40,.call 176 [.s 38,.s 39],W⟩,Aa 41 40,Ak 42 0 0 41,Ab 43 42 0 41,Ab 44 43 6 41,Ad 45 44 41,Ai 46 4 41,Al 47 45 46 1 41,Ad 48 47 41,⟨Y 49,.bin (.i) .geq (.s 48) (.c (.int .i64 0)),Y (41,T)⟩,Ai 50 49 41,⟨Y 51,.bad 0 0,Y (50,X)⟩,Aq 52 51 0 50,Aq 53 52 6 50,Au 54 53 50,⟨Y 55,.mv (.s 4),Y (50,X)⟩,⟨Y 56,.iad (.s 54) (.s 55) 1,Y (50,X)⟩,Au 57 56 50,⟨Y 58,.mv (.s 5),Y (50,X)⟩,⟨Y 59,.bin (.i) .neq (.s 57) (.s 58),Y (50,X)⟩,⟨Y 60,.pick (.s 50) (.s 59) (.c (.bool T)),Y (41,T)⟩,Av 61 41 60,Aa 62 61,Ak 63 0 0 62,Ab 64 63 0 62,Ab 65 64 0 62,Ab 66 65 0 62,Ab 67 66 0 62,Ad 68 67 62,Ai 69 4 62,Al 70 68 69 1 62,Ad 71 70 62,Ak 72 0 0 62,Ab 73 72 0 62,Ab 74 73 3 62,Ab 75 74 0 62,Ab 76 75 0 62,Ad 77 76 62,Ai 78 5 62,Al 79 77 78 1 62,Ad 80 79 62,⟨Y 81,.bin (.i) .neq (.s 71) (.s 80),Y (62,T)⟩,Av 82 62 81,Aa 83 82,Ak 84 0 0 83,Ab 85 84 0 83,Ab 86 85 0 83,Ab 87 86 2 83,Ad 88 87 83,Ai 89 4 83,Al 90 88 89 1 83,Ad 91 90 83,Ak 92 0 0 83,Ab 93 92 0 83,Ab 94 93 3 83,Ab 95 94 2 83,Ad 96 95 83,Ai 97 5 83,Al 98 96 97 1 83,Ad 99 98 83,⟨Y 100,.call 120 [.s 91,.s 99],Y (83,T)⟩,⟨Y 101,.not (.s 100),Y (83,T)⟩,Av 102 83 101] [0,1,4,5,102])<|Co 102 (Ex 1 [0,1,4,5])<|Sk [0,1,4,5])<|Re [Aj 103 0 0,⟨Y 104,.lst 1 [],W⟩,Aa 105 1,As 106 1 104 105,Aa 107 5,⟨Y 108,.lst 1 [.s 107],W⟩,As 109 1 106 108,⟨Y 110,.zt 175 [.s 103,.s 109] 0,W⟩] [0,1,4,5])<|Re [Aa 36 5,Ap 37 36 1,Aa 5 37] [0,1,4,5]
theorem AA2:CK f175 cw []:=b!
theorem ABS:PC.sB cw=X/\PC.tn 0 cw=X:=b!
abbrev Q_175(n:Nat):Prop:=∀(a:A5)(l:Fp),CT (CD n a l) 175 [.undef,lI l] (λr=>.bo (CE a) (CE r) 0 [])
theorem AAR(n:Nat)(_ih_175:Q_175 n)(a:A5)(l:Fp):CT (CD (n+1) a l) 175 [.undef,lI l] (λr=>.bo (CE a) (CE r) 0 []):=aA AA2 ABS λr h d c e=>by
  unfold cw;unfold CD at h;have:HW 0 λ(b:A5×Int)=>[(0,.bx (CE b.1)),(5,.tv (eI b.2))]:=⟨⟩;exact au
theorem AAQ:∀n:Nat,Q_175 n:=by
  intro n
  induction n with
  |zero=>exact(λa l=>⟨λ_ h=>c_⟩)
  |succ n b=>exact AAR n b
instance(x_0 l):CT (GI x_0 l) 175 [.undef,lI l] (λr=>.bo (CE x_0) (CE r) 0 []):=⟨λr h=>by
  obtain ⟨N,a⟩:=Cn h;exact((AAQ N) x_0 l).snd r (a N (ae _))⟩
instance(a b c d):CT (GO a b c d) 115 [Bj a,Bj b,Az c,Az d] (rT Az eB):=Fk f115 0x8013b8184030a7138360871383f3800c2bf254630626237df468a0830085dd10bdd5a5a81d10bbdc437df468a73dd0bdd550bbd0bbd60c95c91 [.AaW [W,W,W,W,W,W,W,W,W,W,W] (.s 71),.zt 175 [.s 73,.c (.list 1 [])] 0] [.cell 8 (Y 2),.tmp 9] λr h e f=>by
  unfold GO at h;exact nz
instance(a b):CT (Lb a b) 114 [(eL 6 GZ) a,GZ b] rB:=B8 f114 0xa605f2f0379bdf497536ac36044106b662ad62014106b6e1aaf203819ad7 [] (Lb.eq_1 ..) (BM 0 5 0 0)
instance(a b c d):CT (Il a b c d) 56 [AK a,(eL 25 B3) b,GZ c,eI d] (rT (eL 6 GZ) eI):=JK f56 0xe8020a01b8e30576b8e3050e0cb8e3075f650cb8e3070e0cb8e3073c02064806470644023706c0850b740e0cb8e3078e064401064b1bc9264604460e7de47d044106b60e6ae46a044106b6621f4204480447d504b604486a06b604473706c0850b6a381f423706c07c264b11e962014104b662014106b6ca19436a04437736b8e305f50e0cb8e307813706c07cd1620141064377360a748abc0b6a0643777330b8e305e8064706440106405c3102 [] (Il.eq_1 ..) (⟨⟩:HW 0 λ(e:List Ca×Int)=>[(10,.ow ((eL 6 GZ) e.1)),(11,.tv (eI e.2))]) (BI 2 14 12 0 (hO 10 (eL 6 GZ)))
instance(a b):CT (MD a b) 57 [Br a,FN b] (rS GZ):=Fk f57 0x4013b064b274604460e7de45a0e6ae459621f421bc991 [] [.cell 4 (Y 6)] λr h c d=>by
  unfold MD at h;exact nz
instance(a):CT (Ng a) 116 [Az a] rB:=Fe f116 0x800e5a65599a00 [] (Ng.eq_1 ..)
instance(a b c):CT (M2 a b c) 58 [GZ a,GZ b,eB c] (rT Az eB):=Fk f58 0x81846b8cac36ac62ad62ad37df468a8cac6536ac37846b0e0046004662ad62ad883000c95cb5 [] [.cell 6 (Y 2),.tmp 7] λr h d e=>by
  unfold M2 at h;exact nz
instance(a b c d e f):CT (Nf a b c d e f) 28 [AK a,(eL 25 B3) b,Br c,Br d,eI e,eB f] (rT RT eI):=Fk f28 0x804b17460c011413f6cd7008761413f6cd7008151413f6cd700976151413f6cd700916151413f6cd700a5f0116151413f6cd700a16151413f6cd700a0c013b804b18463615466a06b6ec1f4215466a06b6ec1f429bdfe901064406b6064406b6ff16151413f6cd700a85550b6a06b60b6a06b6151413f6cd7009f516151413f6cd700a811413f6cd7008f5151413f6cd7009810cea05301413f6cd700881370a4b0117468530d16536b4b1370a4b0117f4d16536b4b101dfe9b4b4370a4b0117f40e01b4b4b10115c9935c700103 [] [.cell 12 (Y 10),.tmp 13] λr h i j=>by
  unfold Nf at h;have:HW 0 λ(g:pr×Int)=>[(12,.bx [⟨X,lI g.1.fu.gp.dr.dl⟩,⟨X,lE g.1.fu.gp.dr.d3⟩,⟨X,(eL 1 lI) g.1.fu.gp.eb⟩,⟨X,(eL 4 GY) g.1.fu.ib⟩,⟨X,lI g.1.ec.gp.dr.dl⟩,⟨X,lE g.1.ec.gp.dr.d3⟩,⟨X,(eL 1 lI) g.1.ec.gp.eb⟩,⟨X,(eL 4 GY) g.1.ec.ib⟩,⟨X,lI g.1.Iso.dl⟩,⟨X,lI g.1.Iso.d3⟩]),(20,.tv (eI g.2))]:=⟨⟩;have:=BI 2 21 17 0 λs2:pr=>[(12,.bx [⟨X,lI s2.fu.gp.dr.dl⟩,⟨X,lE s2.fu.gp.dr.d3⟩,⟨X,(eL 1 lI) s2.fu.gp.eb⟩,⟨X,(eL 4 GY) s2.fu.ib⟩,⟨X,lI s2.ec.gp.dr.dl⟩,⟨X,lE s2.ec.gp.dr.d3⟩,⟨X,(eL 1 lI) s2.ec.gp.eb⟩,⟨X,(eL 4 GY) s2.ec.ib⟩,⟨X,lI s2.Iso.dl⟩,⟨X,lI s2.Iso.d3⟩])];have:=BI 4 22 19 0 λs4:pr=>[(12,.bx [⟨X,lI s4.fu.gp.dr.dl⟩,⟨X,lE s4.fu.gp.dr.d3⟩,⟨X,(eL 1 lI) s4.fu.gp.eb⟩,⟨X,(eL 4 GY) s4.fu.ib⟩,⟨X,lI s4.ec.gp.dr.dl⟩,⟨X,lE s4.ec.gp.dr.d3⟩,⟨X,(eL 1 lI) s4.ec.gp.eb⟩,⟨X,(eL 4 GY) s4.ec.ib⟩,⟨X,lI s4.Iso.dl⟩,⟨X,lI s4.Iso.d3⟩])];exact nz
instance(a b c d e):CT (Po a b c d e) 11 [AK a,(eL 25 B3) b,Br c,Br d,eI e] (rT RT eI):=Fk f11 0x804b6b0e01b4b4b10115c9935c04c3 [] [.cell 10 (Y 10),.tmp 11] λr h f g=>by
  unfold Po at h;exact nz
instance(a b):CT (E2 a b) 29 [QS a,QS b] rB:=B8 f29 0xa6055bf096a5620141e7b7620141e7b7556ae7b76ae7b7e1b7555b03fe73b70bb701a562326232db [] (E2.eq_1 ..) (BM 0 5 2 3)
instance(a b):CT (IV a b) 12 [RT a,RT b] rB:=Fe f12 0x808c0842360842720ed5acd5ac65d532d532db [] (IV.eq_1 ..)
instance(a b c d e):CT (Rj a b c d e) 15 [AK a,(eL 25 B3) b,Br c,Br d,eI e] (rT RT eI):=Fk f15 0x804b6b0e01b4b4b10115c9935c04c3 [] [.cell 10 (Y 10),.tmp 11] λr h f g=>by
  unfold Rj at h;exact nz
end Go.Sf.Sc
