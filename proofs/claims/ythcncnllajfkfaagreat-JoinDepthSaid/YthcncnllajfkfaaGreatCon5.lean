/- Contracts of the functions. -/
import Derived.Test.YthcncnllajfkfaaGreatCon4
set_option linter.all false
set_option maxRecDepth 100000
set_option maxHeartbeats 4000000
open Option renaming some->Y
open Bool renaming true->X,false->T
open List renaming map->w_
namespace Go.Sf.Sc
open Go Go.Sf Go.Proofs.Tryz
instance(a b):CT (NW a b) 153 [lI a,eI b] (rO lI):=KE f153 0x8218a59bb4759bb4f5650575f56505f565053cf432148501eb9bb4e7f565058119014fa719a562329bb48101cefb6502 [] (NW.eq_1 ..) (BG 0 6 1 0 (hX 5 1 eI)) (BG 2 7 0 0 (hX 5 1 eI))
instance(a b):CT (Mw a b) 152 [eI a,lI b] (rO lI):=Fe f152 0x820e0132406502 [] (Mw.eq_1 ..)
instance(a b c):CT (JE a b c) 93 [AL a,Bg b,Hc c] (rT Bg A6):=Fk f93 0x706023b84b104460e5c0bea0e5b0bbe6b01b110c978386b38ef10c9939d [] [.cell 6 (Y 3),.cell 7 (Y 2)] λr h d e=>by
  unfold JE at h;exact nz
instance(a b):CT (IZ a b) 94 [lI a,lI b] (rO lI):=Bv f94 0xeca59bb475add05f8d3202a5e79bb481e0fb6502 [] (IZ.eq_1 ..) (BG 0 6 0 0 (hO 5 lI))
instance(a b c d e):CT (GW a b c d e) 95 [lI a,lI b,eI c,lI d,eI e] (rO lI):=Bv f95 0xec0c01c60bde000775c60bde00075e01add0c4c60bde00073cadd05f5feb320285eb0cf832c60bde000781e0820e013240de6505 [] (GW.eq_1 ..) (BG 0 13 2 0 λs0:Int×Fp=>[(4,.tv (eI s0.1)),(12,.ow (lI s0.2))])
instance(a b):CT (JC a b) 154 [lI a,eI b] rB:=Bv f154 0xaa05d475bb015f91898cd481b9 [] (JC.eq_1 ..) (BM 0 5 0 0)
noncomputable def qv:PC:=PC.of OL f96.body (xq bT 0x35003530806020f097c9b06750f097c9b060f097c9b063cd90141370348034707465f905b5f5cdc04014137b1eecfca8e017f0d42080602895c010f097c9b0681097c9b05da7ca8075e76097ca807da7ca8073c1fac21221923ac0dda7ca8b30dc3097ca80a7519014fa77f04c5190dda7ca808e70e0dc3097ca80a8101ce01e38d5b38d95a3701d08d5b045a37ffda7ca807d601730d42097c9b05895b76097ca8078184fa385abc16c993ab9d) []
theorem ACK:CK f96 qv [.cell 8 (Y 3)]:=c!
theorem ACQ:PC.x9 qv=X:=c!
instance(a b c d):CT (Jj a b c d) 96 [AL a,CB b,.agg [.undef,.undef,.undef],A6 d] (λr=>.ag [⟨X,lI c.d5.d3⟩,⟨X,lE c.d5.d4⟩,⟨X,.xn (w_ lI c.ej)⟩] 2 (.oag [⟨X,lI r.d5.d3⟩,⟨X,lE r.d5.d4⟩,⟨X,.xn (w_ lI r.ej)⟩])):=FiA ACK ACQ λr h i g j=>by
  unfold qv;unfold f96;unfold Jj at h;have:HW 0 λ(f:AG×Int)=>[(6,.bx [⟨X,lI f.1.d5.d3⟩,⟨X,lE f.1.d5.d4⟩,⟨X,.xn (w_ lI f.1.ej)⟩]),(10,.tv (eI f.2))]:=⟨⟩;have:=BG 2 14 11 0 (hX 13 1 eI);have:HW 4 λ(e:AG×Int)=>[(6,.bx [⟨X,lI e.1.d5.d3⟩,⟨X,lE e.1.d5.d4⟩,⟨X,.xn (w_ lI e.1.ej)⟩]),(15,.tv (eI e.2))]:=⟨⟩;exact nz
noncomputable def qw:PC:=PC.of OL f97.body (xq bT 0x81b16b073e0a0702130c0a7c6a07752624017f04c525240123ac55b119468a055d4104437fd7328c7f04437fd73232e38dbe38815f7304c55b6078b5024104c50a0702e7130c0a7c6a07810c0a7c6a06c60a7c6a0775c60a7c6a07100ec60a7c6a097555b119468aa5320a057f04c57fd78c5f7304c55b5f7304c55b6078b5024104c5c60a7c6a076232100ec60a7c6a09816078b5024104c50c0a7c6a06e7c60a7c6a0781825d41bc0110c993ab610401) []
theorem ACL:CK f97 qw [.cell 10 (Y 3),.tmp 11]:=c!
theorem ACR:PC.x9 qw=X:=c!
instance(a b c d e):CT (Ku a b c d e) 97 [AL a,CB b,.agg [.undef,.undef,.undef],A6 d,lI e] (λr=>.ag [⟨X,lI c.d5.d3⟩,⟨X,lE c.d5.d4⟩,⟨X,.xn (w_ lI c.ej)⟩] 2 (.tp [Bg r.1,eI r.2])):=FiA ACL ACR λr h g f i=>by
  unfold qw;unfold f97;unfold Ku at h;have:=BG 0 13 12 0 λs0:AG=>[(10,.bx [⟨X,lI s0.d5.d3⟩,⟨X,lE s0.d5.d4⟩,⟨X,(eL 1 lI) s0.ej⟩])];have:=BG 2 16 13 0 λs2:AG=>[(10,.bx [⟨X,lI s2.d5.d3⟩,⟨X,lE s2.d5.d4⟩,⟨X,(eL 1 lI) s2.ej⟩])];have:=BG 4 19 12 0 λs4:AG×AG=>[(7,.bx [⟨X,lI s4.1.d5.d3⟩,⟨X,lE s4.1.d5.d4⟩,⟨X,.xn (w_ lI s4.1.ej)⟩]),(10,.bx [⟨X,lI s4.2.d5.d3⟩,⟨X,lE s4.2.d5.d4⟩,⟨X,(eL 1 lI) s4.2.ej⟩])];exact nz
instance(a b c d):CT (IT a b c d) 43 [AL a,CB b,Bg c,Bo d] (rT DW eI):=Fk f43 0x81264b1c46c16b6b6bd155264b0e468a70ea590bbe55264b6c468532b172c45790380353d1380d013b03500257381b6bd13884ef04460ee95c0b3677bc7f0d427f0b420ebd5b0b735abc730d42730b4284ef04460e5cea0e5bbe84b1ef16c978386b3855264b6cf684ef786b6bd13855264b6cf60e6bd1380111c9619d [] [.cell 8 (Y 38),.tmp 9] λr h e f=>by
  unfold IT at h;exact nz
instance(a):CT (LQ a) 201 [A2 a] (rS A6):=Fk f201 0x8438033e5d02055df2f4011db85d0262151db8595dfe5d02def2f4011d375d0262151d3701defe025019c93f3fe93fbdeffc [.mkx 1 [.int .i64 0] (.s 8),.mkx 1 [.int .i64 0] (.s 12),.Aao [.w 9,.w 13]] [.cell 2 (Y 2)] λr h d e=>by
  unfold LQ at h;have:HW 0 λ(b:d6×Int)=>[(3,.bx [⟨X,.xl 1 (w_ eI b.1.d3)⟩,⟨X,.xl 1 (w_ eI b.1.d4)⟩]),(4,.tv (eI b.2))]:=⟨⟩;have:HW 2 λ(c:d6×Int)=>[(3,.bx [⟨X,.xl 1 (w_ eI c.1.d3)⟩,⟨X,.xl 1 (w_ eI c.1.d4)⟩]),(5,.tv (eI c.2))]:=⟨⟩;exact nz
instance(a b c d):CT (Ms a b c d) 144 [AL a,A2 b,A2 c,eB d] (rT (eL 2 A6) eI):=Fe f144 0x8182015502c085e5820e6cc1c15502c07e92c1c440936136 [] (Ms.eq_1 ..)
instance(a b c d):CT (Ho a b c d) 91 [AL a,BQ b,Bg c,eB d] (rT (eL 3 Bo) eI):=Bv f91 0x81ec0d6c0d0b9b05750e0d0b9b050e0d0b9b053c02034803470946b502c50271e33802c56b9e0d01e70e0d0b9b058103c05503c07ee3b537d3385503c07e0e6b9e38f740936136 [] (Ho.eq_1 ..) (BG 0 14 11 0 (hO 13 (eL 3 Bo)))
instance(a b c):CT (FZ a b c) 42 [AL a,CB b,Bg c] (rT (eL 3 Bo) eI):=Bv f42 0x81ece50c0b09cb06750c0b09cb060c0b09cb063c0203480347cfc50271264b114978cfc56bd138e5e70c0b09cb068103c05503c07ee3030f426b9eb8385503c07e0e6bd138f740939d [] (FZ.eq_1 ..) (BG 0 12 9 0 (hO 11 (eL 3 Bo)))
instance(a b c d):CT (HF a b c d) 17 [AL a,CB b,Bg c,eI d] (rO (eL 38 DW)):=Bv f17 0xece50c0b09a80307750226482647ddad264b11c978cfc56bd1380b748aa53270320c0b09a803078126c001e36bd1382640936136 [] (HF.eq_1 ..) (⟨⟩:HW 0 λ(e:List AU×Int)=>[(11,.ow ((eL 38 DW) e.1)),(12,.tv (eI e.2))])
instance c19:CT (RN ) 19 [] (λr=>.oag [⟨X,lN r.d3⟩,⟨X,lX r.d4⟩]):=Fk f19 0x2503f07473f3f04473f3f04473f3f3f3f04473f1ac900 [.bld [.str ⟨#[]⟩,.int .i64 0,.int .i64 0,.list 1 []] [(0,1,.c (.str ⟨#[98,97,108,97,110,99,101]⟩)),(1,1,.c (.int .i64 (-1000))),(2,1,.c (.int .i64 1000))],.bld [.str ⟨#[]⟩,.int .i64 0,.bool T,.list 4 []] [(0,1,.c (.str ⟨#[65,99,99,111,117,110,116]⟩)),(1,1,.c (.int .i64 (-1))),(2,1,.c (.bool X)),(3,1,.s 2)],.bld [.str ⟨#[]⟩,.int .i64 0,.bool T,.list 4 []] [(0,1,.c (.str ⟨#[67,97,115,104]⟩)),(1,1,.c (.int .i64 0))],.lst 1 [.c (.str ⟨#[111,112,101,110]⟩),.c (.str ⟨#[99,108,111,115,101,100]⟩)],.bld [.str ⟨#[]⟩,.int .i64 0,.int .i64 0,.list 1 []] [(0,1,.c (.str ⟨#[115,116,97,116,101]⟩)),(2,1,.c (.int .i64 1)),(3,1,.s 5)],.bld [.str ⟨#[]⟩,.int .i64 0,.bool T,.list 4 []] [(0,1,.c (.str ⟨#[76,111,97,110]⟩)),(1,1,.c (.int .i64 0)),(3,1,.s 7)],.bld [.str ⟨#[]⟩,.int .i64 0,.bool T,.list 4 []] [(0,1,.c (.str ⟨#[80,101,114,115,111,110]⟩)),(1,1,.c (.int .i64 (-1)))],.bld [.str ⟨#[]⟩,.int .i64 0,.int .i64 0,.int .i64 0,.int .i64 0,.int .i64 0,.int .i64 0] [(0,1,.c (.str ⟨#[111,119,110,115]⟩)),(1,1,.c (.int .i64 3)),(2,1,.c (.int .i64 0)),(4,1,.c (.int .i64 (-1))),(5,1,.c (.int .i64 1)),(6,1,.c (.int .i64 1))],.bld [.str ⟨#[]⟩,.int .i64 0,.int .i64 0,.int .i64 0,.int .i64 0,.int .i64 0,.int .i64 0] [(0,1,.c (.str ⟨#[112,97,121,115]⟩)),(1,1,.c (.int .i64 1)),(2,1,.c (.int .i64 1)),(4,1,.c (.int .i64 (-1))),(6,1,.c (.int .i64 (-1)))],.Aao [.w 10,.w 13]] [.cell 0 (Y 2)] λr h a b=>by
  unfold RN at h;exact nz
instance(a):CT (Mq a) 44 [AL a] rB:=Fj f44 0xaa08c475bb0c7307ca00895c0108c48132f3f2f3036a3604756a360407a8360675bb0c8db66a360489b60107a8360681a170b6590c5b044b03c9d5d78041d75bf303898041d75b59f30481a1050c73d75b5932708041d75b0132895be836039aa1d859bdf9 [] λh=>by
  unfold Mq at h;have:=BG 0 4 1 0 (hT 3 eI);have:HW 2 λ(c:Int)=>[(5,.tv (eI c))]:=⟨⟩;have:HW 4 λ(b:Int)=>[(7,.tv (eI b))]:=⟨⟩;have:=BM 6 8 1 1;exact nz
instance(a):CT (Jf a) 98 [A2 a] rB:=Fe f98 0xa2d859bdf9 [] (Jf.eq_1 ..)
instance(a):CT (IN a) 45 [Bg a] rB:=Bv f45 0xaa360275bb0b8d9000899001360281a1709001089237f9 [] (IN.eq_1 ..) (BM 0 3 1 2)
instance(a b):CT (Jg a b) 50 [A6 a,eI b] rB:=Fe f50 0xdb59e9bd9f32 [] (Jg.eq_1 ..)
instance(a):CT (Ks a) 156 [BQ a] rB:=Fe f156 0xa27003b77670906cd3f9 [] (Ks.eq_1 ..)
instance(a b):CT (TB a b) 157 [Hc a,eI b] rB:=Fe f157 0xdb59e9bd9f32 [] (TB.eq_1 ..)
abbrev Q_211(n:Nat):Prop:=∀(c:d7)(a:Int),CT (DA n c a) 211 [AI c,eI a] rI
theorem z6(n:Nat)(_ih_211:Q_211 n)(c:d7)(a:Int):CT (DA (n+1) c a) 211 [AI c,eI a] rI:=Fj f211 0x81018cadf26c01a909ca32ff8af0d859adfea10892ac01b39eb759329332 [] λh=>by
  unfold DA at h;have:HW 0 λ(b:Int×Int)=>[(1,.tv (eI b.1)),(5,.tv (eI b.2))]:=⟨⟩;exact nz
theorem zy:∀n:Nat,Q_211 n:=by
  intro n
  induction n with
  |zero=>exact(λc sx=>⟨λ_ h=>d_⟩)
  |succ n a=>exact z6 n a
instance(c sx):CT (Rt c sx) 211 [AI c,eI sx] rI:=⟨λr h=>by
  obtain ⟨N,a⟩:=Cy h;exact((zy N) c sx).snd r (a N (az _))⟩
instance(a):CT (Kt a) 158 [AI a] rB:=Fe f158 0xdb0ea9f9 [] (Kt.eq_1 ..)
instance(a):CT (RE a) 99 [CB a] rB:=Fe f99 0xa20ea9104276920d4276920b42760e9ebc760e9eb8590c5bf9 [] (RE.eq_1 ..)
instance(a b c):CT (OA a b c) 214 [AL a,A2 b,A2 c] rB:=Fe f214 0xa20a0ad876705b59d8bd5992c1769276926c389f9d [] (OA.eq_1 ..)
instance(a b c):CT (Qr a b c) 160 [AL a,BQ b,Bg c] rB:=Fe f160 0xa29237d338760e6b6c9e9f9d [] (Qr.eq_1 ..)
abbrev Q_161(n:Nat):Prop:=∀(c:d7),CT (GV n c) 161 [AI c] rB
theorem zp(n:Nat)(_ih_161:Q_161 n)(c:d7):CT (GV (n+1) c) 161 [AI c] rB:=Fj f161 0xdb703677b70b735ab732360275fda909ca32895c01360281f9 [] λh=>by
  unfold GV at h;have:=BM 0 3 1 1;exact nz
theorem zm:∀n:Nat,Q_161 n:=by
  intro n
  induction n with
  |zero=>exact(λc=>⟨λ_ h=>d_⟩)
  |succ n a=>exact zp n a
instance(c):CT (Sd c) 161 [AI c] rB:=⟨λr h=>by
  obtain ⟨N,a⟩:=Cy h;exact((zm N) c).snd r (a N (az _))⟩
abbrev Q_162(n:Nat):Prop:=∀(p:ea)(c:d7)(b:Int)(a:Int),CT (Ei n p c b a) 162 [BQ p,AI c,eI b,eI a] rB
theorem zr(n:Nat)(_ih_162:Q_162 n)(p:ea)(c:d7)(b:Int)(a:Int):CT (Ei (n+1) p c b a) 162 [BQ p,AI c,eI b,eI a] rB:=Fj f162 0xdb76010dda055d0675fd32a909ca9e0a01895c010dda055d06a209055d050cda055d06755932da055d0589ea010cda055d06810beadae606c309e607755932dae60689be01c309e607810bbe8109e60509e6053cba9eb7855bba09c99e01615d02 [] λh=>by
  unfold Ei at h;have:HJ 17 λ(d:ea)=>[(9,.bx [⟨T,lI d.d5.d3⟩,⟨T,lE d.d5.d4⟩,⟨T,lS d.ek⟩,⟨T,eI d.fd⟩,⟨T,lT d.kl⟩])]:=⟨⟩;have:HW 0 λ(e:Int×Int)=>[(10,.tv (eI e.1)),(11,.tv (eI e.2))]:=⟨⟩;have:HW 2 λ(f:Int×Int)=>[(10,.tv (eI f.1)),(12,.tv (eI f.2))]:=⟨⟩;have:=BM 4 13 5 1;exact nz
theorem zq:∀n:Nat,Q_162 n:=by
  intro n
  induction n with
  |zero=>exact(λp c ec eh=>⟨λ_ h=>d_⟩)
  |succ n a=>exact zr n a
instance(p c ec eh):CT (RO p c ec eh) 162 [BQ p,AI c,eI ec,eI eh] rB:=⟨λr h=>by
  obtain ⟨N,a⟩:=Cy h;exact((zq N) p c ec eh).snd r (a N (az _))⟩
instance(a b c d):CT (OC a b c d) 100 [AL a,BQ b,AI c,Bg d] rB:=Fe f100 0xa20a0ea99e7670ea7670be760ea96c6b9e38590ea99e38a1b36b76b39e01b3a901619d [] (OC.eq_1 ..)
instance(a b c):CT (HE a b c) 46 [AL a,CB b,Bg c] rB:=Fe f46 0xa20e6ba910429eb838760ed16c389f9d [] (HE.eq_1 ..)
abbrev Q_47(n:Nat):Prop:=∀(p:ea)(c:d7)(a:Int),CT (Dk n p c a) 47 [BQ p,AI c,eI a] rB
theorem ACG(n:Nat)(_ih_47:Q_47 n)(p:ea)(c:d7)(a:Int):CT (Dk (n+1) p c a) 47 [BQ p,AI c,eI a] rB:=Fj f47 0x81a502760704020475fd01a909ca9e02748af0d876070402048107040203090704020475590107040203ff8af070ea010907040204810bea07de047cde0575590107de04ff8af070be017cde05810bbe07de0407de043cba9eb7855bba09c99e0161ad [] λh=>by
  unfold Dk at h;have:HJ 14 λ(b:ea)=>[(7,.bx [⟨T,lI b.d5.d3⟩,⟨T,lE b.d5.d4⟩,⟨T,lS b.ek⟩,⟨T,eI b.fd⟩,⟨T,lT b.kl⟩])]:=⟨⟩;have:HW 0 λ(d:Int×Int)=>[(2,.tv (eI d.1)),(8,.tv (eI d.2))]:=⟨⟩;have:HW 2 λ(e:Int×Int)=>[(2,.tv (eI e.1)),(9,.tv (eI e.2))]:=⟨⟩;have:HW 4 λ(f:Int)=>[(10,.tv (eI f))]:=⟨⟩;exact nz
theorem ACF:∀n:Nat,Q_47 n:=by
  intro n
  induction n with
  |zero=>exact(λp c a=>⟨λ_ h=>d_⟩)
  |succ n b=>exact ACG n b
instance(p c ways):CT (OW p c ways) 47 [BQ p,AI c,eI ways] rB:=⟨λr h=>by
  obtain ⟨N,a⟩:=Cy h;exact((ACF N) p c ways).snd r (a N (az _))⟩
instance(a b):CT (OG a b) 101 [AL a,(eL 25 CB) b] rI:=Bv f101 0xaa07adf2dfd119c53800e707adfebbe5a60178389f32 [] (OG.eq_1 ..) (BM 0 7 1 0)
instance(a b c):CT (OH a b c) 48 [AL a,(eL 25 CB) b,Bg c] rI:=Fe f48 0x816001786b38dfb5016132 [] (OH.eq_1 ..)
instance(a b c):CT (IU a b c) 24 [AL a,(eL 25 CB) b,Bg c] rB:=Bv f24 0xa20a70ea7670be018c0e6bb5070536047c05360575760ea9104119438c440141197d320a70735a0641197d320a7036770141197d320a70735a014119c532fd6bd119c53807053604e77c0536059aa1b36b7608927670320a703270326132 [] (IU.eq_1 ..) (BG 0 8 1 0 (hT 7 eB))
instance(a b):CT (Nd a b) 49 [Bo a,eI b] rB:=Fe f49 0xa2a50b906cb5379f32 [] (Nd.eq_1 ..)
instance(a b):CT (E7 a b) 25 [AL a,DW b] rB:=Fe f25 0xa292244276922242760e6b1942760e6b1f426c6b1c42d13738f1 [] (E7.eq_1 ..)
instance(a):CT (Ng a) 26 [CB a] rB:=Fe f26 0xa205d8e97605705bbd76d859bd8484fafa385abc385ab8f9 [] (Ng.eq_1 ..)
instance(a b c d e):CT (L6 a b c d e) 9 [AL a,(eL 25 CB) b,DW c,DW d,eI e] rB:=Bv f9 0xa20a0a0af00a708c320af00a708c8c320a058c60810b36771c420b735a1c420704f70b0704e875fdd119c50704f7e70b0704e881a1b3d13776b3d13776b3dd3876b3dd3801b36b1c42b59f6104c4 [] (L6.eq_1 ..) (BM 0 11 1 0)
instance(a b):CT (Gw a b) 120 [lI a,lI b] rB:=Bv f120 0xaa05d475bbeb5f91898cd481bbe5e5b9 [] (Gw.eq_1 ..) (BM 0 5 0 0)
instance(a b):CT (Pf a b) 118 [A2 a,A2 b] rB:=Bv f118 0xaa055df255bfcfcacfca00895c595dfea1d8e901b3dcf1 [.bin (.a [0,0,0]) .neq (.s 32) (.s 37)] (Pf.eq_1 ..) (BM 0 5 2 1)
instance(a b):CT (Lr a b) 119 [lI a,lI b] rI:=Bv f119 0x8170010bb905d4755505ebeb85eb8db9ff8a700132708cd481b9 [] (Lr.eq_1 ..) (⟨⟩:HW 0 λ(c:Int)=>[(5,.tv (eI c))])
instance(a b):CT (Pk a b) 60 [Bg a,Bg b] rB:=Bv f60 0xaa055df2bb0e8d908d90008990595dfea170900b9001089237d3f1 [] (Pk.eq_1 ..) (BM 0 5 2 2)
instance(a b):CT (Ji a b) 61 [Bo a,Bo b] rB:=Fe f61 0xa20e9090760eeaea6cbebef1 [] (Ji.eq_1 ..)
instance(a b):CT (Ej a b) 29 [Qb a,Qb b] rB:=Bv f29 0xaa055df2a1b36b0141d7b66b0141d7b65973d7b673d7b60089b6595dfea170b60bb601b36b376b37f1 [] (Ej.eq_1 ..) (BM 0 5 2 3)
instance(a b):CT (Pg a b) 30 [A6 a,A6 b] rB:=Fe f30 0xa20e5c5c6cdcf1 [] (Pg.eq_1 ..)
instance(a b):CT (Nf a b) 12 [WK a,WK b] rB:=Fe f12 0xa2920842380842760ed5b7d5b76cd537d537f1 [] (Nf.eq_1 ..)
instance(a b):CT (Pe a b) 39 [(eL 2 LB) a,(eL 2 LB) b] (rS AL):=Fk f39 0x84386a020a6ae875d9b8074807472946a5e13f02438c01e13f02c53ff004b881bd6a02ff8af070320a6ae8816af7a8650575d93704480447d50437ff08a8650608a865063cd90342044728463f600508a865063cd903420447274605053f055c6005855c813ff0044b01c926460505055b0505a53f5b3ff007a8650607a865063c843802c5850b32841bc925466af7ff8a0af070018c01a86505811ac91ac96502 [.Aam (.c (.str ⟨#[65,66,67,68,69,70]⟩)) (Y (.s 35)) (Y (.s 37)),.cvt .i64 (.s 40),.Aam (.c (.str ⟨#[117,118,119,120,121,122]⟩)) (Y (.s 52)) (Y (.s 54)),.cvt .i64 (.s 64),.lst 1 [.c (.str ⟨#[111,102,102]⟩),.c (.str ⟨#[111,110]⟩)],.Aam (.c (.str ⟨#[101,102,103,104,105]⟩)) (Y (.s 99)) (Y (.s 101)),.aad (.s 105) (.c (.int .i64 0)) 1 2,.cvt .i64 (.s 107),.aad (.s 113) (.c (.int .i64 1)) 1 2,.cvt .i64 (.s 115)] [.cell 4 (Y 2)] λr h f g=>by
  unfold Pe at h;have:HW 0 λ(e:AC×Int)=>[(5,.bx [⟨X,lN e.1.d3⟩,⟨X,lX e.1.d4⟩]),(6,.tv (eI e.2))]:=⟨⟩;have:HW 3 λ(d:AC×Int)=>[(5,.bx [⟨X,lN d.1.d3⟩,⟨X,lX d.1.d4⟩]),(10,.tv (eI d.2))]:=⟨⟩;exact nz
instance(a b c):CT (L5 a b c) 185 [AL a,A2 b,eI c] (rO lI):=Bv f185 0xec07017cde05757cde057cde053cadd0c48e018d5b380701895b017cde0581e0fb61ad [] (L5.eq_1 ..) (BG 0 8 4 0 (hO 7 lI))
instance(a b c):CT (Pl a b c) 128 [AL a,VQ b,eB c] (rS A2):=Fk f128 0x84380906020b0906040305750b090604037009060403053cd9b80348034707465f7001e1e1ca015f7001e1e1ca3204b88a7032700182820e5d4107cac10e7f07cac181d8e1e1ca090602ff8ad876f0d8010b0906040305810906040304da070604030675d93701d05f70013f8d5be8370906040304ff8a70320af0705b7609070604030681fa07060403047c06de06757c06de067c06de063cadd0c48a085d41d75b320706040304895b017c06de0681e0fa61ad [.cvt .i64 (.s 59),.aad (.s 89) (.c (.int .i64 0)) 1 3,.cvt .i64 (.s 91),.aad (.s 130) (.c (.int .i64 1)) 1 3,.cvt .i64 (.s 132),.aad (.s 143) (.c (.int .i64 2)) 1 3,.cvt .i64 (.s 145)] [.cell 6 (Y 2)] λr h f g=>by
  unfold Pl at h;have:=BG 0 8 3 0 (hO 7 lI);have:HW 2 λ(e:d5×Int)=>[(9,.bx [⟨X,lI e.1.d3⟩,⟨X,lE e.1.d4⟩]),(10,.tv (eI e.2))]:=⟨⟩;have:HW 4 λ(d:d5×Int)=>[(9,.bx [⟨X,lI d.1.d3⟩,⟨X,lE d.1.d4⟩]),(11,.tv (eI d.2))]:=⟨⟩;exact nz
instance(a b):CT (GH a b) 186 [eI a,eI b] rI:=Fe f186 0xdb595932b9 [] (GH.eq_1 ..)
instance(a b):CT (Pd a b) 129 [eI a,Oh b] (rS F1):=Fk f129 0xba2a46054605e13f011e46329a050ea5e13f050ea5e13fdb050ee13f04c9fc01 [.aad (.s 3) (.c (.int .i64 0)) 1 4,.cvt .i64 (.s 9),.aad (.s 3) (.c (.int .i64 1)) 1 4,.cvt .i64 (.s 15),.aad (.s 3) (.c (.int .i64 2)) 1 4,.cvt .i64 (.s 22),.aad (.s 3) (.c (.int .i64 3)) 1 4,.cvt .i64 (.s 33)] [.cell 4 (Y 5)] λr h d e=>by
  unfold Pd at h;exact nz
instance(a b):CT (Pm a b) 78 [AL a,VS b] (rS BQ):=Fk f78 0xba9e6a020fcb0475d9b7054805470ed5d7b6b604b76a02ff8af070b6010fcb04816a800ba8030575d9ac04480447d504ac0e0ba803060e0ba803063cd95aacd9034285b60e0ba803060e0ba803063cd9034205b6024aac1e46b685b673ac044b05c92b46054605053f9005053f5c5c5b8406c938024370013f5b01b11cc9cf7d906a80ff8a70320af07090010ba8030581a8030407a85d067507a85d060a7ca85d087502024802470546320207a85d06e70a7ca85d088101e38dbe38a8030489be0107a85d068102c0055009c93f92373809c99d [.Aao [.v (.s 19) 0 2,.v (.s 19) 1 2,.z ⟨X,.list 4 []⟩,.z ⟨T,.int .i64 0⟩,.z ⟨X,.list 5 []⟩],.cvt .i64 (.s 75),.cvt .i64 (.s 87),.cvt .i64 (.s 92)] [.cell 4 (Y 5)] λr h f g=>by
  unfold Pm at h;have:HW 0 λ(e:List Ky×Int)=>[(6,.ow ((eL 2 Z7) e.1)),(7,.tv (eI e.2))]:=⟨⟩;have:=BG 2 10 8 0 (hO 6 (eL 2 Z7));have:HW 4 λ(c:ea×Int)=>[(5,.bx [⟨T,lI c.1.d5.d3⟩,⟨T,lE c.1.d5.d4⟩,⟨X,lS c.1.ek⟩,⟨T,eI c.1.fd⟩,⟨X,lT c.1.kl⟩]),(11,.tv (eI c.2))]:=⟨⟩;have:HW 6 λ(d:ea×Int)=>[(5,.bx [⟨T,lI d.1.d5.d3⟩,⟨T,lE d.1.d5.d4⟩,⟨X,lS d.1.ek⟩,⟨T,eI d.1.fd⟩,⟨X,lT d.1.kl⟩]),(15,.tv (eI d.2))]:=⟨⟩;exact nz
instance(a):CT (Kc a) 187 [(eL 1 eB) a] (rO lI):=Bv f187 0xec3604c8f204c80304c8033cadd0c48301c536e704c8fee0fb0001 [] (Kc.eq_1 ..) (BG 0 4 0 0 (hO 3 lI))
instance(a b c):CT (N8 a b c) 130 [A2 a,(eL 1 eB) b,(eL 1 eB) c] (λr=>.oag [⟨X,lI r.d3⟩,⟨X,lI r.d4⟩]):=Fk f130 0x2503f0e012014070602037c065d05757c065d057c065d053cf4f45d4103ca147f03ca148301c507060203e77c065d058199014f3256ef93ad02 [.Aao [.w 39,.w 41]] [.cell 6 (Y 2)] λr h d e=>by
  unfold N8 at h;have:=BG 0 8 2 0 (hX 7 1 eB);exact nz
instance(a b):CT (Ph a b) 79 [A2 a,Ih b] (λr=>.oag [⟨X,lI r.d3⟩,⟨X,lI r.d4⟩]):=Fk f79 0x2501b181838a8020408a8ad0675f4053f3f05a515143214a802046215140108a8ad0681a8025907a8ad0675f4053f3fa53214a802596215140107a8ad068199993fe93fbdef9332 [.mkx 1 [.bool T] (.s 11),.mkx 1 [.bool T] (.s 15),.bin (.w) .shr (.s 25) (.s 27),.bin (.w) .and (.s 28) (.c (.int .u64 1)),.bin (.w) .shr (.s 40) (.s 45),.bin (.w) .and (.s 46) (.c (.int .u64 1))] [.cell 4 (Y 2)] λr h f g=>by
  unfold Ph at h;have:HW 0 λ(d:a6×Int)=>[(5,.xo 1 (w_ eB d.1)),(7,.tv (eI d.2))]:=⟨⟩;have:HW 2 λ(e:a6×Int)=>[(6,.xo 1 (w_ eB e.1)),(8,.tv (eI e.2))]:=⟨⟩;exact nz
instance(a):CT (Nb a) 133 [AL a] (rO lI):=Bv f133 0xec36f3f2f303f3033cadd0c4885d41d75b36895be836fee0fbfc [] (Nb.eq_1 ..) (BG 0 4 1 0 (hO 3 lI))
instance(a b c):CT (OE a b c) 81 [AL a,A2 b,KW c] (rS A2):=Fk f81 0x8438070602c3f5030675c3f50306c3f503063cd9b8034803476b04b88e5f905b5f5cdc38b1ee0746a5e1e17d03bca5e1e17d03bcd8e1e17d03bc070602ff8ad876f00af07003bc01c3f503069abdf50304097c9b030675d93701d05f70013f8d030542e837f50304ff8a70320af07003054201097c9b03068182920250fa1b38fa939d [.cvt .i64 (.s 40),.aad (.s 77) (.c (.int .i64 0)) 1 3,.cvt .i64 (.s 79),.aad (.s 88) (.c (.int .i64 1)) 1 3,.cvt .i64 (.s 90),.aad (.s 97) (.c (.int .i64 2)) 1 3,.cvt .i64 (.s 99)] [.cell 6 (Y 2)] λr h f g=>by
  unfold OE at h;have:HW 0 λ(d:d5×Int)=>[(7,.bx [⟨X,lI d.1.d3⟩,⟨X,lE d.1.d4⟩]),(9,.tv (eI d.2))]:=⟨⟩;have:HW 2 λ(e:d5×Int)=>[(7,.bx [⟨X,lI e.1.d3⟩,⟨X,lE e.1.d4⟩]),(11,.tv (eI e.2))]:=⟨⟩;exact nz
instance(a b):CT (Lp a b) 134 [eI a,eI b] (rO lI):=Bv f134 0xeca59bb475add0f002a562329bb481e0fb6502 [] (Lp.eq_1 ..) (BG 0 6 1 0 (hO 5 lI))
instance(a b):CT (JB a b) 82 [eI a,(eL 1 Eo) b] (rO lI):=Bv f82 0x8218a59bb475f4f417cd011417cd011401140114db05f03f8d8c748a70018c329bb481991a32406502 [.cvt .i64 (.s 25)] (JB.eq_1 ..) (⟨⟩:HW 0 λ(c:Fp×Int)=>[(5,.xo 1 (w_ eI c.1)),(6,.tv (eI c.2))])
instance(a):CT (GP a) 136 [lI a] rI:=iR f136 0xaa040002750400026a00f2bbebeb04000262326a0003aae7040002aa01c80275a170018d8c5f9101e7c802816501 [] (GP.eq_1 ..) (BM 0 3 0 0) (BM 2 4 0 0) (BM 4 5 4 0)
instance(a b):CT (Lq a b) 83 [A2 a,A6 b] (rT A2 eI):=Fk f83 0x818438093e0904020b09de0575034d034c07465f905b5f5cdc8d5c1db8b1eecfca090402895c010b09de058109de04dade0575f48d5b8d5b1d3709de04895b7609de0581025018c927385584f7f60e5c5584f7f60e5b558403468ad8e959bdbd5584f7f69201fa9d [] [.cell 4 (Y 2),.tmp 5] λr h d e=>by
  unfold Lq at h;have:=BG 0 10 2 0 λs0:d5=>[(9,.bx [⟨X,.xl 1 (w_ eI s0.d3)⟩,⟨X,.xl 3 (w_ B5 s0.d4)⟩])];have:=BG 2 11 2 1 λs2:d5=>[(9,.bx [⟨X,.xl 1 (w_ eI s2.d3)⟩,⟨X,.xl 3 (w_ B5 s2.d4)⟩])];have:HY 106 (λ(a:Int)(b:Int)(c:Int)=>Bx.mk a b c) (eI) (eI) (eI):=⟨⟩;exact nz
instance(a b c d):CT (OF a b c d) 84 [AL a,A2 b,eI c,(eL 3 DN) d] (rO lS):=KE f84 0xec097609e6065e7609e606dae606dae6063c0204480447d50288010f0edae608100f0edae60975760a055c7fd78c5b7304c5320f0edae608e7100f0edae6099a044b05c92b46054605e1e1438c05a53f0503e1c57001e1e17d32ffdae606850b32e38d5b3881705be1e1c509748a705b76f07032dae6068104c00440615d02 [.aad (.s 35) (.c (.int .i64 0)) 1 3,.cvt .i64 (.s 37),.aad (.s 59) (.c (.int .i64 1)) 1 3,.cvt .i64 (.s 61),.aad (.s 68) (.c (.int .i64 1)) 1 3,.cvt .i64 (.s 71),.aad (.s 79) (.c (.int .i64 2)) 1 3,.cvt .i64 (.s 81)] (OF.eq_1 ..) (⟨⟩:HW 0 λ(e:List CA×Int)=>[(9,.ow (lS e.1)),(10,.tv (eI e.2))]) (BG 2 16 9 0 (hT 15 eB))
instance(a):CT (Ka a) 191 [eI a] (rO lI):=Bv f191 0xec3604c8f2add0c436623204c8fee0fb0001 [] (Ka.eq_1 ..) (BG 0 4 0 0 (hO 3 lI))
instance(a):CT (QR a) 137 [A2 a] (λr=>.oag [⟨X,lI r.d3⟩,⟨X,lI r.d4⟩]):=Fk f137 0xad3b02503f0ee90ebdeffc [.Aao [.w 6,.w 10]] [.cell 2 (Y 2)] λr h b c=>by
  unfold QR at h;exact nz
instance(a b c):CT (Mv a b c) 85 [AL a,BQ b,dm c] (rS AI):=Fk f85 0x94b2e460947a9094b0ac92d46094722462c46b6c184ef9237ff094b2246070604033cd9b8034803470746a5e13fa5e13fd8e13f04b8ff094b22468ad8596005070604033cd93701d0705be13f0437db85033f81bd0250fa1bd30ac9939d [.aad (.s 5) (.c (.int .i64 0)) 1 4,.aad (.s 5) (.c (.int .i64 1)) 1 4,.cvt .i64 (.s 26),.aad (.s 5) (.c (.int .i64 1)) 1 4,.cvt .i64 (.s 49),.aad (.s 5) (.c (.int .i64 2)) 1 4,.cvt .i64 (.s 56),.aad (.s 5) (.c (.int .i64 3)) 1 4,.cvt .i64 (.s 61)] [.cell 6 (Y 9)] λr h d e=>by
  unfold Mv at h;exact nz
instance(a):CT (Qt a) 86 [CB a] (rS CB):=Fk f86 0xad3b194b30462246030f42044601487f0d42a70148730d42a7044601487f0b42a70148730b42a72f46925abc2f46925ab85b0cc9fc [] [.cell 2 (Y 25)] λr h b c=>by
  unfold Qt at h;exact nz
instance(a b):CT (Na a b) 40 [AL a,KW b] (rS CB):=Fk f40 0x194bd1ff194b0ed1830842094a10420ed50a429e38d90241bc0e030742b6385abc38024a0d4204460145e93245bdc44a5abc7804463238054abc3146b682820e030e42e90e030e42bd84fa0e0f44c10184840049fa1178380b42d3194b0cc93f0e03b7d30309429eba09c90ed537380cc99d [.bld [.str ⟨#[]⟩,.list 1 [],.list 3 [],.list 4 [],.int .i64 0,.list 5 [],.list 1 [],.list 3 [],.list 4 [],.int .i64 0,.list 5 [],.list 1 [],.list 1 [],.list 1 [],.list 1 [],.bool T,.int .i64 0,.list 9 [],.list 1 [],.list 1 [],.list 1 [],.list 3 [],.list 4 [],.int .i64 0,.list 5 []] [(0,1,.c (.str ⟨#[114]⟩)),(1,5,.s 17),(15,1,.s 19),(11,2,.s 24)]] [.cell 4 (Y 25)] λr h d e=>by
  unfold Na at h;exact nz
instance(a):CT (NY a) 87 [AL a] (rO lI):=Bv f87 0xec36f3f2f303f3033cadd0c4885d41d75b36895be836fee0fbfc [] (NY.eq_1 ..) (BG 0 4 1 0 (hO 3 lI))
instance(a b):CT (Pj a b) 41 [AL a,VR b] (rS Bg):=Fk f41 0xb16b6a020e0de606750e0de6060e0de6063cd9014137034803476b040141378e5f90be5f5cbe5b38b1ee0746a5e1e1caa5e1e1cad8e1e1ca6a02ff8ad876f00af0d86c0de6069a0bbee60407a85d0675d9acd95a3701d0e8ac01d0e85a370b7ca85d080c0b097ca85d0a75add0050505057f04c55d4104438ca5e13f027d5b7f04c5020b7ca85d08e70c0b097ca85d0a8182a701e3b5815f7001e13f027d5b59de04ff8a70320af0705b0107a85d0681829210c910c99d [.aad (.s 38) (.c (.int .i64 0)) 1 2,.cvt .i64 (.s 40),.aad (.s 69) (.c (.int .i64 1)) 1 2,.cvt .i64 (.s 71),.aad (.s 134) (.c (.int .i64 0)) 1 3,.cvt .i64 (.s 136),.aad (.s 145) (.c (.int .i64 1)) 1 3,.cvt .i64 (.s 147),.aad (.s 154) (.c (.int .i64 2)) 1 3,.cvt .i64 (.s 156)] [.cell 4 (Y 3)] λr h f g=>by
  unfold Pj at h;have:HW 0 λ(e:AG×Int)=>[(5,.bx [⟨X,lI e.1.d5.d3⟩,⟨X,lE e.1.d5.d4⟩,⟨X,(eL 1 lI) e.1.ej⟩]),(7,.tv (eI e.2))]:=⟨⟩;have:=BG 2 12 9 0 (hO 11 lI);have:HW 4 λ(d:AG×Int)=>[(5,.bx [⟨X,lI d.1.d5.d3⟩,⟨X,lE d.1.d5.d4⟩,⟨X,(eL 1 lI) d.1.ej⟩]),(14,.tv (eI d.2))]:=⟨⟩;exact nz
end Go.Sf.Sc
