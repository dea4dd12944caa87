/- Contracts of the functions. -/
import Derived.Test.YthcncnllajfkfaaGreatCon4
set_option linter.all false
set_option maxRecDepth 100000
set_option maxHeartbeats 4000000
open Option renaming some->Y
open Bool renaming true->X,false->T
open List renaming map->w_
namespace Go.Sf.Sc
open Go Go.Sf Go.Proofs.Tryz
instance(a b):CT (NG a b) 153 [lI a,eI b] (rO lI):=J2 f153 0x8218a69db5779db5f66a0577f66a05f66a053cf536148501ec9db5e8f66a058119014fa919a665369db58101cefe6a02 [] (NG.eq_1 ..) (A4 0 6 1 0 (hX 5 1 eI)) (A4 2 7 0 0 (hX 5 1 eI))
instance(a b):CT (Mi a b) 152 [eI a,lI b] (rO lI):=Fe f152 0x820e0136406a02 [] (Mi.eq_1 ..)
instance(a b c):CT (I1 a b c) 93 [AL a,BT b,HL c] (rT BT Au):=Fk f93 0x706023b84b104460e5d0beb0e5c0bc16c01b110c97c556c55f010c9939e [] [.cell 6 (Y 3),.cell 7 (Y 2)] λr h d e=>by
  unfold I1 at h;exact nz
instance(a b):CT (IM a b) 94 [lI a,lI b] (rO lI):=Bi f94 0xeda69db577b2d160903602a6e89db581e1fe6a02 [] (IM.eq_1 ..) (A4 0 6 0 0 (hO 5 lI))
instance(a b c d e):CT (GJ a b c d e) 95 [lI a,lI b,eI c,lI d,eI e] (rO lI):=Bi f95 0xed0c01c80bdf000777c80bdf00075f01b2d1c5c80bdf00073cb2d16060ec360285ec0cf936c80bdf000781e1820e013640df6a05 [] (GJ.eq_1 ..) (A4 0 13 2 0 λs0:Int×Fp=>[(4,.tv (eI s0.1)),(12,.ow (lI s0.2))])
instance(a b):CT (I0 a b) 154 [lI a,eI b] rB:=Bi f154 0xad05d577bc0160928c8dd581ba [] (I0.eq_1 ..) (A9 0 5 0 0)
noncomputable def qc:PC:=PC.of N9 f96.body (xq bT 0x35003530806020f097d9d06770f097d9d060f097d9d063cda01413803480347074660915c605ddd04014138b1efd0cb8e01800d420806028c5d010f097d9d0681097d9d05db7daa075f76097daa07db7daa073c1fa821221923a80ddb7daab40dc4097daa0a7719014fa98004c6190ddb7daa08e80e0dc4097daa0a8101ce01e4905c55da5b3801d1905c045b38ffdb7daa07d801730d42097d9d058c5c76097daa078184fc555bbe16c993ab9e) []
theorem AB7:CK f96 qc [.cell 8 (Y 3)]:=c!
theorem ACD:PC.x9 qc=X:=c!
instance(a b c d):CT (JX a b c d) 96 [AL a,Bz b,.agg [.undef,.undef,.undef],Au d] (λr=>.ag [⟨X,lI c.d5.d3⟩,⟨X,lE c.d5.d4⟩,⟨X,.xn (w_ lI c.ej)⟩] 2 (.oag [⟨X,lI r.d5.d3⟩,⟨X,lE r.d5.d4⟩,⟨X,.xn (w_ lI r.ej)⟩])):=FiA AB7 ACD λr h i g j=>by
  unfold qc;unfold f96;unfold JX at h;have:HW 0 λ(e:AG×Int)=>[(6,.bx [⟨X,lI e.1.d5.d3⟩,⟨X,lE e.1.d5.d4⟩,⟨X,.xn (w_ lI e.1.ej)⟩]),(10,.tv (eI e.2))]:=⟨⟩;have:=A4 2 14 11 0 (hX 13 1 eI);have:HW 4 λ(f:AG×Int)=>[(6,.bx [⟨X,lI f.1.d5.d3⟩,⟨X,lE f.1.d5.d4⟩,⟨X,.xn (w_ lI f.1.ej)⟩]),(15,.tv (eI f.2))]:=⟨⟩;exact nz
noncomputable def qe:PC:=PC.of N9 f97.body (xq bT 0x81b16c073e0a0702130c0a7d6b07772624018004c625240123a859b119468a055e41044380d9368d80044380d93636e490c15581607304c65c617cb6024104c60a0702e8130c0a7d6b07810c0a7d6b06c80a7d6b0777c80a7d6b07100ec80a7d6b097759b119468aa6360a058004c680d98d607304c65c607304c65c617cb6024104c6c80a7d6b076536100ec80a7d6b0981617cb6024104c60c0a7d6b06e8c80a7d6b0781825e41be0110c993ab620401) []
theorem AB8:CK f97 qe [.cell 10 (Y 3),.tmp 11]:=c!
theorem ACE:PC.x9 qe=X:=c!
instance(a b c d e):CT (Kh a b c d e) 97 [AL a,Bz b,.agg [.undef,.undef,.undef],Au d,lI e] (λr=>.ag [⟨X,lI c.d5.d3⟩,⟨X,lE c.d5.d4⟩,⟨X,.xn (w_ lI c.ej)⟩] 2 (.tp [BT r.1,eI r.2])):=FiA AB8 ACE λr h g f i=>by
  unfold qe;unfold f97;unfold Kh at h;have:=A4 0 13 12 0 λs0:AG=>[(10,.bx [⟨X,lI s0.d5.d3⟩,⟨X,lE s0.d5.d4⟩,⟨X,(eL 1 lI) s0.ej⟩])];have:=A4 2 16 13 0 λs2:AG=>[(10,.bx [⟨X,lI s2.d5.d3⟩,⟨X,lE s2.d5.d4⟩,⟨X,(eL 1 lI) s2.ej⟩])];have:=A4 4 19 12 0 λs4:AG×AG=>[(7,.bx [⟨X,lI s4.1.d5.d3⟩,⟨X,lE s4.1.d5.d4⟩,⟨X,.xn (w_ lI s4.1.ej)⟩]),(10,.bx [⟨X,lI s4.2.d5.d3⟩,⟨X,lE s4.2.d5.d4⟩,⟨X,(eL 1 lI) s4.2.ej⟩])];exact nz
instance(a b c d):CT (IG a b c d) 43 [AL a,Bz b,BT c,Ba d] (rT DJ eI):=Fk f43 0x81264b1c46c36c6c6cd359264b0e468a70eb5a0bc159264b71468536b174c55791550353d3550d013b03500257551b6cd35584f004460eea5d0b3778be800d42800b420ebd5c0b735bbe730d42730b4284f004460e5deb0e5cc184b1f016c97c556c5559264b71f784f07c6c6cd35559264b71f7fdd3550111c9629e [] [.cell 8 (Y 38),.tmp 9] λr h e f=>by
  unfold IG at h;exact nz
instance(a):CT (LC a) 201 [Aq a] (rS Au):=Fk f201 0x8455033e5e02055ef3f5011db95e0265151db95a5e03815e02dff3f5011d385e0265151d3801df0381025019c93f3fea3fbdf0fb [.mkx 1 [.int .i64 0] (.s 8),.mkx 1 [.int .i64 0] (.s 12),.Aap [.w 9,.w 13]] [.cell 2 (Y 2)] λr h d e=>by
  unfold LC at h;have:HW 0 λ(b:d6×Int)=>[(3,.bx [⟨X,.xl 1 (w_ eI b.1.d3)⟩,⟨X,.xl 1 (w_ eI b.1.d4)⟩]),(4,.tv (eI b.2))]:=⟨⟩;have:HW 2 λ(c:d6×Int)=>[(3,.bx [⟨X,.xl 1 (w_ eI c.1.d3)⟩,⟨X,.xl 1 (w_ eI c.1.d4)⟩]),(5,.tv (eI c.2))]:=⟨⟩;exact nz
instance(a b c d):CT (Me a b c d) 144 [AL a,Aq b,Aq c,eB d] (rT (eL 2 Au) eI):=Fe f144 0x8182015902c085e6820e71c3c35902c07f96c3c540936237 [] (Me.eq_1 ..)
instance(a b c d):CT (Hc a b c d) 91 [AL a,BD b,BT c,eB d] (rT (eL 3 Ba) eI):=Bi f91 0x81ed0d710d0b9d05770e0d0b9d050e0d0b9d053c02034803470946b602c60272e45502c66c9f0d01e80e0d0b9d058103c05903c07fe4b638d4555903c07ffd9f55f840936237 [] (Hc.eq_1 ..) (A4 0 14 11 0 (hO 13 (eL 3 Ba)))
instance(a b c):CT (FM a b c) 42 [AL a,Bz b,BT c] (rT (eL 3 Ba) eI):=Bi f42 0x81ede60c0b09cc06770c0b09cc060c0b09cc063c0203480347d0c60272264b11497cd0c66cd355e6e80c0b09cc068103c05903c07fe4030f426c9fb9555903c07ffdd355f840939e [] (FM.eq_1 ..) (A4 0 12 9 0 (hO 11 (eL 3 Ba)))
instance(a b c d):CT (G0 a b c d) 17 [AL a,Bz b,BT c,eI d] (rO (eL 38 DJ)):=Bi f17 0xede60c0b09aa0307770226482647deb2264b11c97cd0c66cd3550b758aa63670360c0b09aa03078126c001e46cd3552640936237 [] (G0.eq_1 ..) (⟨⟩:HW 0 λ(e:List AU×Int)=>[(11,.ow ((eL 38 DJ) e.1)),(12,.tv (eI e.2))])
instance c19:CT (RB ) 19 [] (λr=>.oag [⟨X,lN r.d3⟩,⟨X,lX r.d4⟩]):=Fk f19 0x2503f07473f3f04473f3f04473f3f3f3f04473f1ac900 [.bld [.str ⟨#[]⟩,.int .i64 0,.int .i64 0,.list 1 []] [(0,1,.c (.str ⟨#[98,97,108,97,110,99,101]⟩)),(1,1,.c (.int .i64 (-1000))),(2,1,.c (.int .i64 1000))],.bld [.str ⟨#[]⟩,.int .i64 0,.bool T,.list 4 []] [(0,1,.c (.str ⟨#[65,99,99,111,117,110,116]⟩)),(1,1,.c (.int .i64 (-1))),(2,1,.c (.bool X)),(3,1,.s 2)],.bld [.str ⟨#[]⟩,.int .i64 0,.bool T,.list 4 []] [(0,1,.c (.str ⟨#[67,97,115,104]⟩)),(1,1,.c (.int .i64 0))],.lst 1 [.c (.str ⟨#[111,112,101,110]⟩),.c (.str ⟨#[99,108,111,115,101,100]⟩)],.bld [.str ⟨#[]⟩,.int .i64 0,.int .i64 0,.list 1 []] [(0,1,.c (.str ⟨#[115,116,97,116,101]⟩)),(2,1,.c (.int .i64 1)),(3,1,.s 5)],.bld [.str ⟨#[]⟩,.int .i64 0,.bool T,.list 4 []] [(0,1,.c (.str ⟨#[76,111,97,110]⟩)),(1,1,.c (.int .i64 0)),(3,1,.s 7)],.bld [.str ⟨#[]⟩,.int .i64 0,.bool T,.list 4 []] [(0,1,.c (.str ⟨#[80,101,114,115,111,110]⟩)),(1,1,.c (.int .i64 (-1)))],.bld [.str ⟨#[]⟩,.int .i64 0,.int .i64 0,.int .i64 0,.int .i64 0,.int .i64 0,.int .i64 0] [(0,1,.c (.str ⟨#[111,119,110,115]⟩)),(1,1,.c (.int .i64 3)),(2,1,.c (.int .i64 0)),(4,1,.c (.int .i64 (-1))),(5,1,.c (.int .i64 1)),(6,1,.c (.int .i64 1))],.bld [.str ⟨#[]⟩,.int .i64 0,.int .i64 0,.int .i64 0,.int .i64 0,.int .i64 0,.int .i64 0] [(0,1,.c (.str ⟨#[112,97,121,115]⟩)),(1,1,.c (.int .i64 1)),(2,1,.c (.int .i64 1)),(4,1,.c (.int .i64 (-1))),(6,1,.c (.int .i64 (-1)))],.Aap [.w 10,.w 13]] [.cell 0 (Y 2)] λr h a b=>by
  unfold RB at h;exact nz
instance(a):CT (Mc a) 44 [AL a] rB:=Fj f44 0xad08c577bc0c7307cb008c5d0108c58136f4f3f4036b3704776b370407aa370677bc0c90b76b37048cb70107aa370681a270b75a0c5c044b03c9d7d98941d95cf4038c8941d95c5af40481a2050c73d95c5a36708941d95c01368c5ce937039ba2d65abdfa [] λh=>by
  unfold Mc at h;have:=A4 0 4 1 0 (hT 3 eI);have:HW 2 λ(b:Int)=>[(5,.tv (eI b))]:=⟨⟩;have:HW 4 λ(c:Int)=>[(7,.tv (eI c))]:=⟨⟩;have:=A9 6 8 1 1;exact nz
instance(a):CT (JT a) 98 [Aq a] rB:=Fe f98 0xa5d65abdfa [] (JT.eq_1 ..)
instance(a):CT (IB a) 45 [BT a] rB:=Bi f45 0xad370277bc0b9091008c9101370281a2709101089638fa [] (IB.eq_1 ..) (A9 0 3 1 2)
instance(a b):CT (JU a b) 50 [Au a,eI b] rB:=Fe f50 0xdc5aeabda136 [] (JU.eq_1 ..)
instance(a):CT (Kf a) 156 [BD a] rB:=Fe f156 0xa57003b876709171d4fa [] (Kf.eq_1 ..)
instance(a b):CT (Sz a b) 157 [HL a,eI b] rB:=Fe f157 0xdc5aeabda136 [] (Sz.eq_1 ..)
abbrev Q_211(n:Nat):Prop:=∀(c:d7)(a:Int),CT (Cy n c a) 211 [AI c,eI a] rI
theorem zj(n:Nat)(_ih_211:Q_211 n)(c:d7)(a:Int):CT (Cy (n+1) c a) 211 [AI c,eI a] rI:=Fj f211 0x81018db2f37101ac09cb36ff8af1d65ab20381a20896a801b49fb85a369336 [] λh=>by
  unfold Cy at h;have:HW 0 λ(b:Int×Int)=>[(1,.tv (eI b.1)),(5,.tv (eI b.2))]:=⟨⟩;exact nz
theorem zi:∀n:Nat,Q_211 n:=by
  intro n
  induction n with
  |zero=>exact(λc sx=>⟨λ_ h=>d_⟩)
  |succ n a=>exact zj n a
instance(c sx):CT (Rf c sx) 211 [AI c,eI sx] rI:=⟨λr h=>by
  obtain ⟨N,a⟩:=Ck h;exact((zi N) c sx).snd r (a N (az _))⟩
instance(a):CT (Kg a) 158 [AI a] rB:=Fe f158 0xdc0eacfa [] (Kg.eq_1 ..)
instance(a):CT (Q2 a) 99 [Bz a] rB:=Fe f99 0xa50eac104276960d4276960b42760e9fbe760e9fb95a0c5cfa [] (Q2.eq_1 ..)
instance(a b c):CT (Ny a b c) 214 [AL a,Aq b,Aq c] rB:=Fe f214 0xa50a0ad676705c5ad6bd5a96c3769676967155a19e [] (Ny.eq_1 ..)
instance(a b c):CT (Qf a b c) 160 [AL a,BD b,BT c] rB:=Fe f160 0xa59638d45576fd719fa19e [] (Qf.eq_1 ..)
abbrev Q_161(n:Nat):Prop:=∀(c:d7),CT (GI n c) 161 [AI c] rB
theorem za(n:Nat)(_ih_161:Q_161 n)(c:d7):CT (GI (n+1) c) 161 [AI c] rB:=Fj f161 0xdc703778b80b735bb83637027759d8ac09cb368c5d01370281fa [] λh=>by
  unfold GI at h;have:=A9 0 3 1 1;exact nz
theorem zZ:∀n:Nat,Q_161 n:=by
  intro n
  induction n with
  |zero=>exact(λc=>⟨λ_ h=>d_⟩)
  |succ n a=>exact za n a
instance(c):CT (SQ c) 161 [AI c] rB:=⟨λr h=>by
  obtain ⟨N,a⟩:=Ck h;exact((zZ N) c).snd r (a N (az _))⟩
abbrev Q_162(n:Nat):Prop:=∀(p:ea)(c:d7)(a:Int)(b:Int),CT (EW n p c a b) 162 [BD p,AI c,eI a,eI b] rB
theorem zc(n:Nat)(_ih_162:Q_162 n)(p:ea)(c:d7)(a:Int)(b:Int):CT (EW (n+1) p c a b) 162 [BD p,AI c,eI a,eI b] rB:=Fj f162 0xdc76010ddb055e067759d836ac09cb9f0a018c5d010ddb055e06a509055e050cdb055e06775a36db055e058ceb010cdb055e06810bebdbe706c409e707775a36dbe7068cc101c409e707810bc18109e70509e7053cbb9fb8855cbb09c99f01625e02 [] λh=>by
  unfold EW at h;have:HJ 17 λ(d:ea)=>[(9,.bx [⟨T,lI d.d5.d3⟩,⟨T,lE d.d5.d4⟩,⟨T,lS d.ek⟩,⟨T,eI d.fd⟩,⟨T,lT d.kl⟩])]:=⟨⟩;have:HW 0 λ(e:Int×Int)=>[(10,.tv (eI e.1)),(11,.tv (eI e.2))]:=⟨⟩;have:HW 2 λ(f:Int×Int)=>[(10,.tv (eI f.1)),(12,.tv (eI f.2))]:=⟨⟩;have:=A9 4 13 5 1;exact nz
theorem zb:∀n:Nat,Q_162 n:=by
  intro n
  induction n with
  |zero=>exact(λp c ec eh=>⟨λ_ h=>d_⟩)
  |succ n a=>exact zc n a
instance(p c ec eh):CT (RC p c ec eh) 162 [BD p,AI c,eI ec,eI eh] rB:=⟨λr h=>by
  obtain ⟨N,a⟩:=Ck h;exact((zb N) p c ec eh).snd r (a N (az _))⟩
instance(a b c d):CT (N0 a b c d) 100 [AL a,BD b,AI c,BT d] rB:=Fe f100 0xa50a0eac9f7670eb7670c1760eac716c9f555a0eac9f55a2b46c76b49f01b4ac01629e [] (N0.eq_1 ..)
instance(a b c):CT (Gz a b c) 46 [AL a,Bz b,BT c] rB:=Fe f46 0xa5fdac10429fb955760ed37155a19e [] (Gz.eq_1 ..)
abbrev Q_47(n:Nat):Prop:=∀(p:ea)(c:d7)(a:Int),CT (DY n p c a) 47 [BD p,AI c,eI a] rB
theorem AB4(n:Nat)(_ih_47:Q_47 n)(p:ea)(c:d7)(a:Int):CT (DY (n+1) p c a) 47 [BD p,AI c,eI a] rB:=Fj f47 0x81a60276070402047759d801ac09cb9f02758af1d6760704020481070402030907040204775a0107040203ff8af170eb010907040204810beb07df047ddf05775a0107df04ff8af170c1017ddf05810bc107df0407df043cbb9fb8855cbb09c99f0162b2 [] λh=>by
  unfold DY at h;have:HJ 14 λ(b:ea)=>[(7,.bx [⟨T,lI b.d5.d3⟩,⟨T,lE b.d5.d4⟩,⟨T,lS b.ek⟩,⟨T,eI b.fd⟩,⟨T,lT b.kl⟩])]:=⟨⟩;have:HW 0 λ(d:Int×Int)=>[(2,.tv (eI d.1)),(8,.tv (eI d.2))]:=⟨⟩;have:HW 2 λ(e:Int×Int)=>[(2,.tv (eI e.1)),(9,.tv (eI e.2))]:=⟨⟩;have:HW 4 λ(f:Int)=>[(10,.tv (eI f))]:=⟨⟩;exact nz
theorem AB3:∀n:Nat,Q_47 n:=by
  intro n
  induction n with
  |zero=>exact(λp c a=>⟨λ_ h=>d_⟩)
  |succ n b=>exact AB4 n b
instance(p c ways):CT (OK p c ways) 47 [BD p,AI c,eI ways] rB:=⟨λr h=>by
  obtain ⟨N,a⟩:=Ck h;exact((AB3 N) p c ways).snd r (a N (az _))⟩
instance(a b):CT (N4 a b) 101 [AL a,(eL 25 Bz) b] rI:=Bi f101 0xad07b2f3e0d319c65500e807b20381bce6a7017c55a136 [] (N4.eq_1 ..) (A9 0 7 1 0)
instance(a b c):CT (N5 a b c) 48 [AL a,(eL 25 Bz) b,BT c] rI:=Fe f48 0x8161017c6c55e0b6016236 [] (N5.eq_1 ..)
instance(a b c):CT (IH a b c) 24 [AL a,(eL 25 Bz) b,BT c] rB:=Bi f24 0xa50a70eb7670c1018dfdb6070537047d05370577760eac104119438d440141197e360a70735b0641197e360a7037780141197e360a70735b014119c63659d86cd319c65507053704e87d0537059ba2b46c7608967670360a703670366236 [] (IH.eq_1 ..) (A4 0 8 1 0 (hT 7 eB))
instance(a b):CT (NQ a b) 49 [Ba a,eI b] rB:=Fe f49 0xa5a60b9171b638a136 [] (NQ.eq_1 ..)
instance(a b):CT (Et a b) 25 [AL a,DJ b] rB:=Fe f25 0xa59624427696224276fd194276fd1f42716c1c42d33855f2 [] (Et.eq_1 ..)
instance(a):CT (NS a) 26 [Bz a] rB:=Fe f26 0xa505d6ea7605705cbd76d65abd8484fcfc555bbe555bb9fa [] (NS.eq_1 ..)
instance(a b c d e):CT (Ls a b c d e) 9 [AL a,(eL 25 Bz) b,DJ c,DJ d,eI e] rB:=Bi f9 0xa50a0a0af10a708d360af10a708d8d360a058d61810b37781c420b735b1c420704f80b0704e97759d8d319c60704f8e80b0704e981a2b4d33876b4d33876b4de5576b4de5501b46c1c42b6a16204c5 [] (Ls.eq_1 ..) (A9 0 11 1 0)
instance(a b):CT (Gi a b) 120 [lI a,lI b] rB:=Bi f120 0xad05d577bcec60928c8dd581bce6e6ba [] (Gi.eq_1 ..) (A9 0 5 0 0)
instance(a b):CT (PT a b) 118 [Aq a,Aq b] rB:=Bi f118 0xad055ef359bfd0cbd0cb008c5d5a5e0381a2d6ea01b4ddf2 [.bin (.a [0,0,0]) .neq (.s 32) (.s 37)] (PT.eq_1 ..) (A9 0 5 2 1)
instance(a b):CT (Lc a b) 119 [lI a,lI b] rI:=Bi f119 0x8170010bba05d5775905ecec85ec90baff8a700136708dd581ba [] (Lc.eq_1 ..) (⟨⟩:HW 0 λ(c:Int)=>[(5,.tv (eI c))])
instance(a b):CT (PX a b) 60 [BT a,BT b] rB:=Bi f60 0xad055ef3bc0e90919091008c915a5e0381a270910b9101089638d4f2 [] (PX.eq_1 ..) (A9 0 5 2 2)
instance(a b):CT (JW a b) 61 [Ba a,Ba b] rB:=Fe f61 0xa50e9191760eebeb71c1c1f2 [] (JW.eq_1 ..)
instance(a b):CT (EX a b) 29 [QO a,QO b] rB:=Bi f29 0xad055ef3a2b46c0141d9b76c0141d9b75a73d9b773d9b7008cb75a5e0381a270b70bb701b46c386c38f2 [] (EX.eq_1 ..) (A9 0 5 2 3)
instance(a b):CT (PU a b) 30 [Au a,Au b] rB:=Fe f30 0xa50e5d5d71ddf2 [] (PU.eq_1 ..)
instance(a b):CT (NR a b) 12 [V7 a,V7 b] rB:=Fe f12 0xa5960842550842760ed7b8d7b871d738d738f2 [] (NR.eq_1 ..)
instance(a b):CT (PS a b) 39 [(eL 2 Kx) a,(eL 2 Kx) b] (rS AL):=Fk f39 0x84556b020a6be977dab9074807472946a6e23f02438d01e23f02c63ff104b981bd6b02ff8af170360a6be9816bf8aa6a0577da3804480447d70438ff08aa6a0608aa6a063cda0342044728463f610508aa6a063cda03420447274605053f055d6105855d813ff1044b01c926460505055c0505a63f5c3ff107aa6a0607aa6a063c845502c6850b36841bc925466bf8ff8a0af170018d01aa6a05811ac91ac96a02 [.Aam (.c (.str ⟨#[65,66,67,68,69,70]⟩)) (Y (.s 35)) (Y (.s 37)),.cvt .i64 (.s 40),.Aam (.c (.str ⟨#[117,118,119,120,121,122]⟩)) (Y (.s 52)) (Y (.s 54)),.cvt .i64 (.s 64),.lst 1 [.c (.str ⟨#[111,102,102]⟩),.c (.str ⟨#[111,110]⟩)],.Aam (.c (.str ⟨#[101,102,103,104,105]⟩)) (Y (.s 99)) (Y (.s 101)),.aad (.s 105) (.c (.int .i64 0)) 1 2,.cvt .i64 (.s 107),.aad (.s 113) (.c (.int .i64 1)) 1 2,.cvt .i64 (.s 115)] [.cell 4 (Y 2)] λr h f g=>by
  unfold PS at h;have:HW 0 λ(d:AC×Int)=>[(5,.bx [⟨X,lN d.1.d3⟩,⟨X,lX d.1.d4⟩]),(6,.tv (eI d.2))]:=⟨⟩;have:HW 3 λ(e:AC×Int)=>[(5,.bx [⟨X,lN e.1.d3⟩,⟨X,lX e.1.d4⟩]),(10,.tv (eI e.2))]:=⟨⟩;exact nz
instance(a b c):CT (Lr a b c) 185 [AL a,Aq b,eI c] (rO lI):=Bi f185 0xed07017ddf05777ddf057ddf053cb2d1c58e01905c5507018c5c017ddf0581e1fe62b2 [] (Lr.eq_1 ..) (A4 0 8 4 0 (hO 7 lI))
instance(a b c):CT (PY a b c) 128 [AL a,VD b,eB c] (rS Aq):=Fk f128 0x84550906020b0906040305770b090604037009060403053cdab9034803470746607001e2e2cb01607001e2e2cb3604b98a7036700182820e5e4107cbc30e8007cbc381d6e2e2cb090602ff8ad676f1d6010b0906040305810906040304db070604030677da3801d16070013f905ce9380906040304ff8a70360af1705c7609070604030681fc07060403047d06df06777d06df067d06df063cb2d1c58a085e41d95c3607060403048c5c017d06df0681e1fc62b2 [.cvt .i64 (.s 59),.aad (.s 89) (.c (.int .i64 0)) 1 3,.cvt .i64 (.s 91),.aad (.s 130) (.c (.int .i64 1)) 1 3,.cvt .i64 (.s 132),.aad (.s 143) (.c (.int .i64 2)) 1 3,.cvt .i64 (.s 145)] [.cell 6 (Y 2)] λr h f g=>by
  unfold PY at h;have:=A4 0 8 3 0 (hO 7 lI);have:HW 2 λ(d:d5×Int)=>[(9,.bx [⟨X,lI d.1.d3⟩,⟨X,lE d.1.d4⟩]),(10,.tv (eI d.2))]:=⟨⟩;have:HW 4 λ(e:d5×Int)=>[(9,.bx [⟨X,lI e.1.d3⟩,⟨X,lE e.1.d4⟩]),(11,.tv (eI e.2))]:=⟨⟩;exact nz
instance(a b):CT (F4 a b) 186 [eI a,eI b] rI:=Fe f186 0xdc5a5a36ba [] (F4.eq_1 ..)
instance(a b):CT (PQ a b) 129 [eI a,OV b] (rS Ff):=Fk f129 0xbb2a46054605e23f011e46369b050ea6e23f050ea6e23fdc050ee23f04c9fb01 [.aad (.s 3) (.c (.int .i64 0)) 1 4,.cvt .i64 (.s 9),.aad (.s 3) (.c (.int .i64 1)) 1 4,.cvt .i64 (.s 15),.aad (.s 3) (.c (.int .i64 2)) 1 4,.cvt .i64 (.s 22),.aad (.s 3) (.c (.int .i64 3)) 1 4,.cvt .i64 (.s 33)] [.cell 4 (Y 5)] λr h d e=>by
  unfold PQ at h;exact nz
instance(a b):CT (PZ a b) 78 [AL a,VF b] (rS BD):=Fk f78 0xbb9f6b020fcc0477dab8054805470ed7d9b7b704b86b02ff8af170b7010fcc04816b890baa030577daa804480447d704a80e0baa03060e0baa03063cda5ba8da034285b70e0baa03060e0baa03063cda034205b7024aa81e46b785b773a8044b05c92b46054605053f9105053f5d5d5c8406c955024370013f5c01b11cc9d07e916b89ff8a70360af17091010baa030581aa030407aa5e067707aa5e060a7daa5e087702024802470546360207aa5e06e80a7daa5e088101e490c155aa03048cc10107aa5e068102c0055009c93f96385509c99e [.Aap [.v (.s 19) 0 2,.v (.s 19) 1 2,.z ⟨X,.list 4 []⟩,.z ⟨T,.int .i64 0⟩,.z ⟨X,.list 5 []⟩],.cvt .i64 (.s 75),.cvt .i64 (.s 87),.cvt .i64 (.s 92)] [.cell 4 (Y 5)] λr h f g=>by
  unfold PZ at h;have:HW 0 λ(e:List Kl×Int)=>[(6,.ow ((eL 2 Zv) e.1)),(7,.tv (eI e.2))]:=⟨⟩;have:=A4 2 10 8 0 (hO 6 (eL 2 Zv));have:HW 4 λ(d:ea×Int)=>[(5,.bx [⟨T,lI d.1.d5.d3⟩,⟨T,lE d.1.d5.d4⟩,⟨X,lS d.1.ek⟩,⟨T,eI d.1.fd⟩,⟨X,lT d.1.kl⟩]),(11,.tv (eI d.2))]:=⟨⟩;have:HW 6 λ(c:ea×Int)=>[(5,.bx [⟨T,lI c.1.d5.d3⟩,⟨T,lE c.1.d5.d4⟩,⟨X,lS c.1.ek⟩,⟨T,eI c.1.fd⟩,⟨X,lT c.1.kl⟩]),(15,.tv (eI c.2))]:=⟨⟩;exact nz
instance(a):CT (KP a) 187 [(eL 1 eB) a] (rO lI):=Bi f187 0xed3704caf304ca0304ca033cb2d1c58301c637e804ca0381e1fe0001 [] (KP.eq_1 ..) (A4 0 4 0 0 (hO 3 lI))
instance(a b c):CT (Nw a b c) 130 [Aq a,(eL 1 eB) b,(eL 1 eB) c] (λr=>.oag [⟨X,lI r.d3⟩,⟨X,lI r.d4⟩]):=Fk f130 0x2503f0e012014070602037d065e05777d065e057d065e053cf5f55e4103cb148003cb148301c607060203e87d065e058199014f3656f093b202 [.Aap [.w 39,.w 41]] [.cell 6 (Y 2)] λr h d e=>by
  unfold Nw at h;have:=A4 0 8 2 0 (hX 7 1 eB);exact nz
instance(a b):CT (PV a b) 79 [Aq a,IU b] (λr=>.oag [⟨X,lI r.d3⟩,⟨X,lI r.d4⟩]):=Fk f79 0x2501b181855aa020408aab20677f5053f3f05a615143614aa02046515140108aab20681aa025a07aab20677f5053f3fa63614aa025a6515140107aab2068199993fea3fbdf09336 [.mkx 1 [.bool T] (.s 11),.mkx 1 [.bool T] (.s 15),.bin (.w) .shr (.s 25) (.s 27),.bin (.w) .and (.s 28) (.c (.int .u64 1)),.bin (.w) .shr (.s 40) (.s 45),.bin (.w) .and (.s 46) (.c (.int .u64 1))] [.cell 4 (Y 2)] λr h f g=>by
  unfold PV at h;have:HW 0 λ(d:a6×Int)=>[(5,.xo 1 (w_ eB d.1)),(7,.tv (eI d.2))]:=⟨⟩;have:HW 2 λ(e:a6×Int)=>[(6,.xo 1 (w_ eB e.1)),(8,.tv (eI e.2))]:=⟨⟩;exact nz
instance(a):CT (NO a) 133 [AL a] (rO lI):=Bi f133 0xed37f4f3f403f4033cb2d1c5885e41d95c378c5ce9370381e1fefb [] (NO.eq_1 ..) (A4 0 4 1 0 (hO 3 lI))
instance(a b c):CT (N2 a b c) 81 [AL a,Aq b,KJ c] (rS Aq):=Fk f81 0x8455070602c4f6030677c4f60306c4f603063cdab9034803476c04b98e60915c605ddd55b1ef0746a6e2e27e03bea6e2e27e03bed6e2e27e03be070602ff8ad676f10af17003be01c4f603069bbdf60304097d9d030677da3801d16070013f90030542e938f60304ff8a70360af17003054201097d9d03068182960250fc1b55fc939e [.cvt .i64 (.s 40),.aad (.s 77) (.c (.int .i64 0)) 1 3,.cvt .i64 (.s 79),.aad (.s 88) (.c (.int .i64 1)) 1 3,.cvt .i64 (.s 90),.aad (.s 97) (.c (.int .i64 2)) 1 3,.cvt .i64 (.s 99)] [.cell 6 (Y 2)] λr h f g=>by
  unfold N2 at h;have:HW 0 λ(d:d5×Int)=>[(7,.bx [⟨X,lI d.1.d3⟩,⟨X,lE d.1.d4⟩]),(9,.tv (eI d.2))]:=⟨⟩;have:HW 2 λ(e:d5×Int)=>[(7,.bx [⟨X,lI e.1.d3⟩,⟨X,lE e.1.d4⟩]),(11,.tv (eI e.2))]:=⟨⟩;exact nz
instance(a b):CT (La a b) 134 [eI a,eI b] (rO lI):=Bi f134 0xeda69db577b2d1f102a665369db581e1fe6a02 [] (La.eq_1 ..) (A4 0 6 1 0 (hO 5 lI))
instance(a b):CT (Iz a b) 82 [eI a,(eL 1 Eb) b] (rO lI):=Bi f82 0x8218a69db577f5f517cf011417cf011401140114dc05f13f908d758a70018d369db581991a36406a02 [.cvt .i64 (.s 25)] (Iz.eq_1 ..) (⟨⟩:HW 0 λ(c:Fp×Int)=>[(5,.xo 1 (w_ eI c.1)),(6,.tv (eI c.2))])
instance(a):CT (GD a) 136 [lI a] rI:=iF f136 0xad040002770400026b00f3bcecec04000265366b0003ade8040002ad01ca0277a27001908d609201e8ca02816a01 [] (GD.eq_1 ..) (A9 0 3 0 0) (A9 2 4 0 0) (A9 4 5 4 0)
instance(a b):CT (Lb a b) 83 [Aq a,Au b] (rT Aq eI):=Fk f83 0x818455093e0904020b09df0577034d034c074660915c605ddd905d1db9b1efd0cb0904028c5d010b09df058109df04dbdf0577f5905c905c1d3809df048c5c7609df0581025018c927555984f8f70e5d5984f8f70e5c598403468ad6ea5abdbd5984f8f79601fc9e [] [.cell 4 (Y 2),.tmp 5] λr h d e=>by
  unfold Lb at h;have:=A4 0 10 2 0 λs0:d5=>[(9,.bx [⟨X,.xl 1 (w_ eI s0.d3)⟩,⟨X,.xl 3 (w_ Bt s0.d4)⟩])];have:=A4 2 11 2 1 λs2:d5=>[(9,.bx [⟨X,.xl 1 (w_ eI s2.d3)⟩,⟨X,.xl 3 (w_ Bt s2.d4)⟩])];have:HY 106 (λ(a:Int)(b:Int)(c:Int)=>Bk.mk a b c) (eI) (eI) (eI):=⟨⟩;exact nz
instance(a b c d):CT (N3 a b c d) 84 [AL a,Aq b,eI c,(eL 3 DB) d] (rO lS):=J2 f84 0xed097609e7065f7609e706dbe706dbe7063c0204480447d70288010f0edbe708100f0edbe70977760a055d80d98d5c7304c6360f0edbe708e8100f0edbe7099b044b05c92b46054605e2e2438d05a63f0503e2c67001e2e27e36ffdbe706850b36e4905c5581705ce2e2c609758a705c76f17036dbe7068104c00440625e02 [.aad (.s 35) (.c (.int .i64 0)) 1 3,.cvt .i64 (.s 37),.aad (.s 59) (.c (.int .i64 1)) 1 3,.cvt .i64 (.s 61),.aad (.s 68) (.c (.int .i64 1)) 1 3,.cvt .i64 (.s 71),.aad (.s 79) (.c (.int .i64 2)) 1 3,.cvt .i64 (.s 81)] (N3.eq_1 ..) (⟨⟩:HW 0 λ(e:List By×Int)=>[(9,.ow (lS e.1)),(10,.tv (eI e.2))]) (A4 2 16 9 0 (hT 15 eB))
instance(a):CT (KN a) 191 [eI a] (rO lI):=Bi f191 0xed3704caf3b2d1c537653604ca0381e1fe0001 [] (KN.eq_1 ..) (A4 0 4 0 0 (hO 3 lI))
instance(a):CT (QE a) 137 [Aq a] (λr=>.oag [⟨X,lI r.d3⟩,⟨X,lI r.d4⟩]):=Fk f137 0xb23b02503f0eea0ebdf0fb [.Aap [.w 6,.w 10]] [.cell 2 (Y 2)] λr h b c=>by
  unfold QE at h;exact nz
instance(a b c):CT (Mh a b c) 85 [AL a,BD b,dZ c] (rS AI):=Fk f85 0x94b2e460947ac094b0ac92d46094722462c46b7c384f09638ff094b2246070604033cdab9034803470746a6e23fa6e23fd6e23f04b9ff094b22468ad65a6105070604033cda3801d1705ce23f0438dc85033f81bd0250fc1bd40ac9939e [.aad (.s 5) (.c (.int .i64 0)) 1 4,.aad (.s 5) (.c (.int .i64 1)) 1 4,.cvt .i64 (.s 26),.aad (.s 5) (.c (.int .i64 1)) 1 4,.cvt .i64 (.s 49),.aad (.s 5) (.c (.int .i64 2)) 1 4,.cvt .i64 (.s 56),.aad (.s 5) (.c (.int .i64 3)) 1 4,.cvt .i64 (.s 61)] [.cell 6 (Y 9)] λr h d e=>by
  unfold Mh at h;exact nz
instance(a):CT (Qh a) 86 [Bz a] (rS Bz):=Fk f86 0xb23b194b30462246030f4204460148800d42a90148730d42a904460148800b42a90148730b42a92f46965bbe2f46965bb95c0cc9fb [] [.cell 2 (Y 25)] λr h b c=>by
  unfold Qh at h;exact nz
instance(a b):CT (NN a b) 40 [AL a,KJ b] (rS Bz):=Fk f40 0x194bd3ff194b0ed3830842094a10420ed70a429f55da0241be0e030742b7555bbe55024a0d4204460145ea3645bdc54a5bbe7c04463655054abe3146b782820e030e42ea0e030e42bd84fc0e0f44c30184840049fc117c550b42d4194b0cc93f0e03b8d40309429fbb09c90ed738550cc99e [.bld [.str ⟨#[]⟩,.list 1 [],.list 3 [],.list 4 [],.int .i64 0,.list 5 [],.list 1 [],.list 3 [],.list 4 [],.int .i64 0,.list 5 [],.list 1 [],.list 1 [],.list 1 [],.list 1 [],.bool T,.int .i64 0,.list 9 [],.list 1 [],.list 1 [],.list 1 [],.list 3 [],.list 4 [],.int .i64 0,.list 5 []] [(0,1,.c (.str ⟨#[114]⟩)),(1,5,.s 17),(15,1,.s 19),(11,2,.s 24)]] [.cell 4 (Y 25)] λr h d e=>by
  unfold NN at h;exact nz
instance(a):CT (NJ a) 87 [AL a] (rO lI):=Bi f87 0xed37f4f3f403f4033cb2d1c5885e41d95c378c5ce9370381e1fefb [] (NJ.eq_1 ..) (A4 0 4 1 0 (hO 3 lI))
instance(a b):CT (PW a b) 41 [AL a,VE b] (rS BT):=Fk f41 0xb16c6b020e0de706770e0de7060e0de7063cda014138034803476c040141388e6091c1605dc15c55b1ef0746a6e2e2cba6e2e2cbd6e2e2cb6b02ff8ad676f10af1d6710de7069b0bc1e70407aa5e0677daa8da5b3801d1e9a801d1e95b380b7daa5e080c0b097daa5e0a77b2d1050505058004c65e4104438da6e23f027e5c8004c6020b7daa5e08e80c0b097daa5e0a8182a901e4b681607001e23f027e5c5adf04ff8a70360af1705c0107aa5e0681829610c910c99e [.aad (.s 38) (.c (.int .i64 0)) 1 2,.cvt .i64 (.s 40),.aad (.s 69) (.c (.int .i64 1)) 1 2,.cvt .i64 (.s 71),.aad (.s 134) (.c (.int .i64 0)) 1 3,.cvt .i64 (.s 136),.aad (.s 145) (.c (.int .i64 1)) 1 3,.cvt .i64 (.s 147),.aad (.s 154) (.c (.int .i64 2)) 1 3,.cvt .i64 (.s 156)] [.cell 4 (Y 3)] λr h f g=>by
  unfold PW at h;have:HW 0 λ(d:AG×Int)=>[(5,.bx [⟨X,lI d.1.d5.d3⟩,⟨X,lE d.1.d5.d4⟩,⟨X,(eL 1 lI) d.1.ej⟩]),(7,.tv (eI d.2))]:=⟨⟩;have:=A4 2 12 9 0 (hO 11 lI);have:HW 4 λ(e:AG×Int)=>[(5,.bx [⟨X,lI e.1.d5.d3⟩,⟨X,lE e.1.d5.d4⟩,⟨X,(eL 1 lI) e.1.ej⟩]),(14,.tv (eI e.2))]:=⟨⟩;exact nz
end Go.Sf.Sc
