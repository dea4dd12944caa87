/- Contracts of the functions. -/
import Derived.Test.YthcncnllajfkfaaGreatCon0
set_option linter.all false
set_option maxRecDepth 100000
set_option maxHeartbeats 4000000
open Option renaming some->Y,none->W
open Bool renaming true->X,false->T
open List renaming map->w_
namespace Go.Sf.Sc
open Go Go.Sf Go.Proofs.Tryz
instance(a):CT (DW a) 117 [Aq a] (λr=>.oag [⟨X,lI r.d3⟩,⟨X,lE r.d4⟩]):=Fk f117 0xb23b0250e2485d034701485ca9fcfb [.Aap [.w 6,.w 10]] [.cell 2 (Y 2)] λr h b c=>by
  unfold DW at h;exact nz
instance(a):CT (Md a) 59 [BT a] (λr=>.oag [⟨X,lI r.d5.d3⟩,⟨X,lE r.d5.d4⟩,⟨X,.xn (w_ lI r.ej)⟩]):=Fk f59 0x35003535e02dfe9771fa82122014f9091015623a85e028c9101dfe981035016c93f1bd416c9fb [.Aap [.g 7 0 2,.g 7 1 2,.z ⟨X,.xn []⟩]] [.cell 2 (Y 3)] λr h b c=>by
  unfold Md at h;have:=A4 0 4 1 2 λs0:AG=>[(3,.bx [⟨X,lI s0.d5.d3⟩,⟨X,lE s0.d5.d4⟩,⟨X,.xn (w_ lI s0.ej)⟩])];exact nz
instance(a b c):CT (D1 a b c) 140 [eI a,eI b,eI c] rB:=Fe f140 0xa5a68d013602d5 [] (D1.eq_1 ..)
abbrev Q_139(n:Nat):Prop:=∀(t:AC)(a:Int),CT (EM n t a) 139 [AL t,eI a] (rO lA)
theorem zW(n:Nat)(_ih_139:Q_139 n)(t:AC)(a:Int):CT (EM (n+1) t a) 139 [AL t,eI a] (rO lA):=Fj f139 0x8204488941d95c04480e80d95c550447ff04c085e9409336 [] λh=>by
  unfold EM at h;exact nz
theorem zV:∀n:Nat,Q_139 n:=by
  intro n
  induction n with
  |zero=>exact(λt a=>⟨λ_ h=>d_⟩)
  |succ n b=>exact zW n b
instance(t a):CT (Nu t a) 139 [AL t,eI a] (rO lA):=⟨λr h=>by
  obtain ⟨N,b⟩:=Ck h;exact((zV N) t a).snd r (b N (az _))⟩
instance(a):CT (Rd a) 327 [X3 a] (rS eS):=Fe f327 0x815d593f3f5d855c3ffb [.mv (.c (.str ⟨#[]⟩)),.bin (.s) .add (.c (.str ⟨#[34]⟩)) (.s 7),.bin (.s) .add (.s 8) (.c (.str ⟨#[34]⟩))] (Rd.eq_1 ..)
instance(a):CT (MZ a) 376 [Eb a] rB:=Fe f376 0xa50a058d360a058d9201 [] (MZ.eq_1 ..)
instance(a):CT (Jo a) 377 [Eb a] rB:=Fe f377 0xa5058d9201 [] (Jo.eq_1 ..)
instance(a b c):CT (Mb a b c) 378 [eS a,eI b,eB c] rI:=Bi f378 0x810107750702b55f0107758a0a0a0a0512f1360e12f13608360e12f18d0c5a360702b581c5d5 [] (Mb.eq_1 ..) (⟨⟩:HW 0 λ(d:Int)=>[(7,.tv (eI d))])
instance(a b):CT (IZ a b) 379 [eS a,eI b] rI:=Bi f379 0xad05d577a2058d0159057f12a692650c5a8dd581ba [] (IZ.eq_1 ..) (⟨⟩:HW 0 λ(c:Int)=>[(5,.tv (eI c))])
instance ACd:CT (Qb ) 380 [] (rO lB):=Fe f380 0x823ffe00 [.lst 1 [.c (.str ⟨#[45,62]⟩),.c (.str ⟨#[60,61]⟩),.c (.str ⟨#[62,61]⟩),.c (.str ⟨#[61,61]⟩),.c (.str ⟨#[33,61]⟩),.c (.str ⟨#[123]⟩),.c (.str ⟨#[125]⟩),.c (.str ⟨#[40]⟩),.c (.str ⟨#[41]⟩),.c (.str ⟨#[91]⟩),.c (.str ⟨#[93]⟩),.c (.str ⟨#[44]⟩),.c (.str ⟨#[59]⟩),.c (.str ⟨#[58]⟩),.c (.str ⟨#[61]⟩),.c (.str ⟨#[43]⟩),.c (.str ⟨#[45]⟩),.c (.str ⟨#[42]⟩),.c (.str ⟨#[60]⟩),.c (.str ⟨#[62]⟩),.c (.str ⟨#[33]⟩),.c (.str ⟨#[38]⟩),.c (.str ⟨#[124]⟩),.c (.str ⟨#[46]⟩),.c (.str ⟨#[63]⟩)]] (Qb.eq_1 ..)
instance(a b):CT (Ma a b) 328 [eS a,eI b] (λr=>.tp [X3 r.1,eI r.2.1,eI r.2.2]):=Fk f328 0x9bb11a460401c8046a0577ff04013b9bb10c903646ec8a06ec0d050cec368d0c5a0c90360401e8c8046a0581820ecdb136460d05058d36cdb11a4685a6cdb11af70e368501cdb136460da63636cdb11a468536db08046a06db08046a063c368e619b0e0e01368a0e360e6112363617c96a02 [] [.cell 4 (Y 3),.tmp 5,.tmp 6] λr h d e=>by
  unfold Ma at h;have:HJ 29 λ(c:Int×Int)=>[(9,.tv (eI c.1)),(10,.tv (eI c.2))]:=⟨⟩;have:=A4 0 13 12 0 λs0:Gq=>[(4,.bx [⟨T,eI s0.kq⟩,⟨T,eS s0.AbQ⟩,⟨T,eI s0.Line⟩])];exact nz
instance(a):CT (Ln a) 254 [X3 a] rB:=Fe f254 0xa505dd76050c018d6181b117c9117c0159bf61fdfa [.bin (.s) .eql (.s 9) (.c (.str ⟨#[]⟩))] (Ln.eq_1 ..)
instance(a):CT (EL a) 192 [eS a] rB:=Fe f192 0x810e01469201 [] (EL.eq_1 ..)
instance(a):CT (Jp a) 339 [lB a] rI:=J2 f339 0xadca0277ca0204caf35986ececca02653604ca038159d86092e8ca0281bc0b9201 [] (Jp.eq_1 ..) (A9 0 3 0 0) (A9 2 4 3 0)
instance(a):CT (F5 a) 272 [JI a] rI:=Fe f272 0x81a20570b7915a5de0b759a2b45d9101b45d850bb7fa [] (F5.eq_1 ..)
instance(a b):CT (K9 a b) 215 [AL a,eI b] rI:=iF f215 0xad7d0277e0d704c67d02097df359867304c67304c67d026536097d038159d873044392e87d028170b7e6a2703670b7820eb659d8a65d05b2039db2047759865c73d95c05b20365369db2048159d85c044b01c9d7d95ca136 [] (K9.eq_1 ..) (A9 0 6 1 0) (A9 2 8 7 0) (A9 4 9 8 0)
instance(a b):CT (Lq a b) 273 [eI a,eI b] rB:=Fe f273 0xa50a0e018d360e01ba [] (Lq.eq_1 ..)
instance(a b):CT (K8 a b) 216 [AL a,eI b] rI:=Bi f216 0x81a2b403be03054276b403b8b776b4019101b4015d81705c0502029db2047759865c7307cb05020265369db2048159d85c074b02c9074407cba136 [] (K8.eq_1 ..) (A9 0 6 1 0)
instance(a):CT (ER a) 163 [AL a] (rT eS eI):=J2 f163 0x81bf0006c577cd017307cb720eb6008c5d0106c5813604c577cd0173d95c720eb6368c5ce9c58159bf8ad65abd59bf85bd013ffb [.mv (.c (.str ⟨#[]⟩)),.mv (.c (.str ⟨#[]⟩)),.mv (.c (.str ⟨#[]⟩)),.mv (.c (.str ⟨#[]⟩))] (ER.eq_1 ..) (A9 0 4 1 0) (A9 2 6 1 1)
instance(a b c):CT (H9 a b c) 138 [AL a,eI b,eI c] rI:=Fe f138 0x81a2b4705c36b4705c01a7017c55a1b202 [] (H9.eq_1 ..)
abbrev Q_141(n:Nat):Prop:=∀(t:AC)(a:Int)(b:Int),CT (Dp n t a b) 141 [AL t,eI a,eI b] rB
theorem zY(n:Nat)(_ih_141:Q_141 n)(t:AC)(a:Int)(b:Int):CT (Dp (n+1) t a b) 141 [AL t,eI a,eI b] rB:=Fj f141 0xa50a0e0180d95c555a8d013693b202 [] λh=>by
  unfold Dp at h;exact nz
theorem zX:∀n:Nat,Q_141 n:=by
  intro n
  induction n with
  |zero=>exact(λt a b=>⟨λ_ h=>d_⟩)
  |succ n c=>exact zY n c
instance(t a b):CT (E2 t a b) 141 [AL t,eI a,eI b] rB:=⟨λr h=>by
  obtain ⟨N,c⟩:=Ck h;exact((zX N) t a b).snd r (c N (az _))⟩
instance(a b c d):CT (Gx a b c d) 89 [AL a,eI b,eI c,eI d] rB:=Fe f89 0xa50e5e4107cbb6718007cbb6a2b4d68d0e3655a15ef8 [] (Gx.eq_1 ..)
instance(a):CT (NF a) 189 [eI a] rB:=Fe f189 0xa5058d9201 [] (NF.eq_1 ..)
instance(a b):CT (Qc a b) 190 [Bt a,eI b] rB:=Fe f190 0xa5a69176059176a65d76055d715ca136 [] (Qc.eq_1 ..)
instance(a):CT (Dv a) 135 [Aq a] rI:=J2 f135 0xad04c57759d8bdd0cb008c5de9c5813637027759d8905c368c5c01370281a2d65abdfa [] (Dv.eq_1 ..) (A9 0 3 1 0) (A9 2 4 1 1)
instance(a b):CT (Df a b) 88 [AL a,eI b] (rT lA eI):=Bi f88 0x81ed0701097df30204480447d7b24a03420148b7a9044b03c9d704c60701e8097d0381820eb604c05904c07f0e3655e9409336 [] (Df.eq_1 ..) (A4 0 9 8 0 (hO 7 lA))
instance(a b c):CT (LB a b c) 164 [AL a,eI b,lI c] rI:=Bi f164 0xad090702f3a2055e4104c6908d8004c66092e80907020381bce60b36e4b659830241d95cbcbd3693b202 [] (LB.eq_1 ..) (A9 0 9 7 0)
instance(a b):CT (Fg a b) 102 [AL a,BT b] (rT eI eI):=J2 f102 0x9b000b5ef3cd01d86091c1605dc15c55cd0185ea5cb1efd07eeb008ceb010b5e03815e02095ef3cd36720e909190c1555e028cc101095e0381cd850bc10b91cd7f9638cd7f017c55369e [] (Fg.eq_1 ..) (A9 0 9 3 0) (A9 2 11 3 1)
instance(a b):CT (IC a b) 255 [AL a,Aq b] rB:=J2 f255 0xad065ef3a2d67303cb5a7303cb008c5d01065e03815e02055ef3a2705c905c5a905c5e028c5c5a5e0381f2 [] (IC.eq_1 ..) (A9 0 5 3 0) (A9 2 6 3 1)
instance(a b c d):CT (LD a b c d) 256 [AL a,BD b,eI c,eI d] (rT JI eB):=Fk f256 0x81044bd704c659044b02468a7001360a058d61e490c15559044b02468a70c18d3603c9625e02 [] [.cell 8 (Y 4),.tmp 9] λr h e f=>by
  unfold LD at h;exact nz
instance(a):CT (OI a) 257 [eI a] rB:=Fe f257 0xa5058d9201 [] (OI.eq_1 ..)
instance(a b):CT (KO a b) 381 [eI a,Se b] rI:=Fe f381 0x81a2055d76055d76a65c5a5cfa01 [] (KO.eq_1 ..)
instance(a b):CT (Q0 a b) 329 [eI a,Ff b] rI:=Fe f329 0x8196034201a796b901a2055c5a5cfa01 [] (Q0.eq_1 ..)
instance(a b):CT (Nt a b) 258 [eI a,lT b] rI:=Bi f258 0xad05d577e09f057e928c8dd581bce6a2058d01ba [] (Nt.eq_1 ..) (A9 0 5 1 0)
instance(a b):CT (Mf a b) 259 [BD a,eI b] rB:=Bi f259 0xad05b2f3bc01730241d991008c915ab20381a136 [] (Mf.eq_1 ..) (A9 0 5 2 2)
instance(a b):CT (Fm a b) 193 [AL a,BD b] rI:=J2 f193 0xad0d5e7759d85a440065b7010d5e81e003b8b737085ef3a2b480a87605b773a8760573a8010861044b03497c5d5c9f55044b05c9d7d991378c9101085e0381a27003b85a0b91a205b75ab75988963855a79638a7017c55f2 [] (Fm.eq_1 ..) (A9 0 8 3 2) (A9 2 13 3 3)
instance(a):CT (Ic a) 383 [AI a] rB:=Fe f383 0xa5058941b8760570030441b80b5e41b836dc703778b870735bb87080a80b73a8fa [] (Ic.eq_1 ..)
instance(a):CT (N1 a) 337 [AI a] rB:=Bi f337 0x81ff59d6dca50eac5aea1904f85f1904f8dca50eac5aeadca50eac5aeadc8338fa [] (N1.eq_1 ..) (⟨⟩:HJ 25 λ(b:Bool)=>[(25,.tv (eB b))])
abbrev Q_268(n:Nat):Prop:=∀(c:d7),CT (C6 n c) 268 [AI c] rB
theorem zv(n:Nat)(_ih_268:Q_268 n)(c:d7):CT (C6 (n+1) c) 268 [AI c] rB:=Fj f268 0xad37027759d8ac09cb008c5d0137028159d8acfa [] λh=>by
  unfold C6 at h;have:=A9 0 3 1 1;exact nz
theorem zu:∀n:Nat,Q_268 n:=by
  intro n
  induction n with
  |zero=>exact(λc=>⟨λ_ h=>d_⟩)
  |succ n a=>exact zv n a
instance(c):CT (NM c) 268 [AI c] rB:=⟨λr h=>by
  obtain ⟨N,a⟩:=Ck h;exact((zu N) c).snd r (a N (az _))⟩
abbrev Q_269(n:Nat):Prop:=∀(c:d7),CT (DX n c) 269 [AI c] (rT eI eI)
theorem zx(n:Nat)(_ih_269:Q_269 n)(c:d7):CT (DX (n+1) c) 269 [AI c] (rT eI eI):=Fj f269 0x9b366b026b025f01855c6bf8aae977362c8d369b7cac09cb6bf88c5d01aae9819b36fb [] λh=>by
  unfold DX at h;have:=A4 0 6 1 1 λs0:Int×Int=>[(4,.tv (eI s0.1)),(5,.tv (eI s0.2))];have:HJ 33 λ(a:Int)=>[(5,.tv (eI a))]:=⟨⟩;exact nz
theorem zw:∀n:Nat,Q_269 n:=by
  intro n
  induction n with
  |zero=>exact(λc=>⟨λ_ h=>d_⟩)
  |succ n a=>exact zx n a
instance(c):CT (OJ c) 269 [AI c] (rT eI eI):=⟨λr h=>by
  obtain ⟨N,a⟩:=Ck h;exact((zw N) c).snd r (a N (az _))⟩
instance(a):CT (Jw a) 212 [AI a] rI:=Fe f212 0x81a2058d61817cac59d8acfa [] (Jw.eq_1 ..)
instance(a b c):CT (IA a b c) 261 [Aq a,Aq b,Au c] rI:=J2 f261 0xad0acc0477a2059160915c5a5d605d5cbcddb1b1efefd043905d5dd0cba2d6905d5a905d008c5d76cc04816b8909cc0477bc905c6090dda2705c905c5a905c6b898c5c0109cc0481a2d6ea5abdbda796a796a19e [] (IA.eq_1 ..) (A9 0 9 3 0) (A9 2 10 3 1)
instance(a b):CT (Pa a b) 338 [BD a,eI b] rB:=Bi f338 0xad05b2f3bc01730241d991008c915ab20381a136 [] (Pa.eq_1 ..) (A9 0 5 2 2)
instance(a b c):CT (Jx a b c) 270 [AL a,eI b,BD c] rI:=Bi f270 0xad7d05f35901d85a440065b7017d05038101e09f55bc01b7016236 [] (Jx.eq_1 ..) (A9 0 8 5 3)
instance(a):CT (FV a) 196 [lI a] rB:=J2 f196 0xadca0277ca0204caf3bcececca02653604ca03ade8ca02816a01 [] (FV.eq_1 ..) (A9 0 3 0 0) (A9 2 4 3 0)
instance(a b c):CT (JV a b c) 271 [Aq a,Aq b,Au c] rB:=Fe f271 0xa50e5d760e5c5a96c3a19e [] (JV.eq_1 ..)
abbrev Q_213(n:Nat):Prop:=∀(t:AC)(p:ea)(c:d7),CT (Dw n t p c) 213 [AL t,BD p,AI c] rI
theorem zl(n:Nat)(_ih_213:Q_213 n)(t:AC)(p:ea)(c:d7):CT (Dw (n+1) t p c) 213 [AL t,BD p,AI c] rI:=Fj f213 0xad0a0705030477e0ac09cb9f55008c5d7607050304810705890705893cbb9fb8598896a8555bb8d4a796a8555bb8d4e09fb8b755855cbb09c99fa19e [] λh=>by
  unfold Dw at h;have:=A9 0 10 5 1;exact nz
theorem zk:∀n:Nat,Q_213 n:=by
  intro n
  induction n with
  |zero=>exact(λt p c=>⟨λ_ h=>d_⟩)
  |succ n a=>exact zl n a
instance(t p c):CT (UX t p c) 213 [AL t,BD p,AI c] rI:=⟨λr h=>by
  obtain ⟨N,a⟩:=Ck h;exact((zk N) t p c).snd r (a N (az _))⟩
instance(a b c):CT (IE a b c) 159 [AL a,BD b,AI c] rI:=Fe f159 0x810eac9f55e0ace09f55a19e [] (IE.eq_1 ..)
instance(a b c):CT (LE a b c) 260 [AL a,BD b,eI c] rI:=Bi f260 0xad0a0704020477a2055d80d9915a5c73d9910065360a0704020481a20580a8760580a87605b773a8760573a87670015d5a5d01e4605cc155a270c15c5a5c044b05c9d7d9910162b2 [] (LE.eq_1 ..) (A9 0 10 2 0)
instance(a b):CT (Jy a b) 194 [AL a,Bz b] rI:=Bi f194 0xad065ef3e05a44be55008c5e41be01065e0381bc0b5e41bea270030441be5a8941b98941be5988965bbe55a7965bbef2 [] (Jy.eq_1 ..) (A9 0 6 3 8)
instance(a b):CT (HQ a b) 252 [lI a,eI b] rI:=Bi f252 0xad05d577a20560f1908d01a2a6908d60928c8dd581ba [] (HQ.eq_1 ..) (A9 0 5 0 0)
instance(a b):CT (Q1 a b) 253 [lI a,eI b] rB:=Bi f253 0xad05d577bc0160928c8dd581ba [] (Q1.eq_1 ..) (A9 0 5 0 0)
instance(a b):CT (Qd a b) 188 [Aq a,HL b] rI:=Bi f188 0xad075ef3a2b4915c01b45d5cb1efd043905d5d008c5d01075e0381e0ea5de0bd5cf2 [] (Qd.eq_1 ..) (A9 0 7 3 1)
instance(a b):CT (Jq a b) 131 [Aq a,HL b] rI:=Fe f131 0x819655a796f2 [] (Jq.eq_1 ..)
instance(a b):CT (Jr a b) 132 [lI a,eI b] rI:=Bi f132 0xad05d5775901850160928c8dd581ba [] (Jr.eq_1 ..) (A9 0 5 0 0)
instance(a b):CT (Ha a b) 80 [Aq a,HL b] (λr=>.tp [Aq r.1,Au r.2.1,eI r.2.2]):=Fk f80 0x6b023b818484044601485da901485ca95508cc040a08e70677dab90348034707460e915c0e5ddd04b9b1efd043905d5d08cc048c5d7608e7068108e7050908e70677da3801d16090dd043808e7058c5c010908e70681fc5984846a4603f796556ac9fc9e [] [.cell 4 (Y 2),.cell 5 (Y 2),.tmp 6] λr h c d=>by
  unfold Ha at h;have:=A4 0 9 3 0 λs0:d5=>[(8,.bx [⟨X,lI s0.d3⟩,⟨X,lE s0.d4⟩])];have:=A4 2 10 3 1 λs2:d5=>[(8,.bx [⟨X,lI s2.d3⟩,⟨X,lE s2.d4⟩])];exact nz
instance(a):CT (Pb a) 195 [Bz a] rI:=Fe f195 0x81960d42555bbe550184840049fc117c550b42555bb9a7960b42555bb9fa [] (Pb.eq_1 ..)
instance(a b):CT (S0 a b) 330 [lI a,eI b] rB:=Bi f330 0xad05d577bc0160928c8dd581ba [] (S0.eq_1 ..) (A9 0 5 0 0)
instance(a b):CT (NP a b) 262 [eI a,lI b] (rO lI):=Bi f262 0xeda69db5779db59db53cb2d1c5d88df9369db581e1fe6a02 [] (NP.eq_1 ..) (A4 0 6 0 0 (hO 5 lI))
instance(a):CT (Ld a) 197 [Bz a] (rT lI lI):=Fe f197 0x82820e800d420b3778be0e730d420b735bbefefefb [] (Ld.eq_1 ..)
instance(a b c d):CT (Ie a b c d) 198 [AL a,Aq b,lI c,lI d] rB:=J2 f198 0xad0acc047759d860915c605ddd55b1efd043ec5d00e80acc04816b8909e7057759830241044360ecdd6b89e809e7058101625e02 [] (Ie.eq_1 ..) (A9 0 9 2 0) (A9 2 10 3 0)
instance(a b):CT (IF a b) 142 [AL a,Bz b] rI:=Fe f142 0x810eac10429fb95559d836555bbe5582e4d3a2b4800d4201b4730d42e0d3e0d355e09fb95559d85ca7017c55f2 [] (IF.eq_1 ..)
instance(a b c):CT (G2 a b c) 90 [AL a,Bz b,BT c] rI:=Fe f90 0x8161017c6c55e0d355a19e [] (G2.eq_1 ..)
instance(a b):CT (IL a b) 62 [lI a,lI b] rB:=Bi f62 0xad05d577bcec60928c8dd581bce6e6ba [] (IL.eq_1 ..) (A9 0 5 0 0)
instance(a b c):CT (Fh a b c) 199 [AL a,Aq b,Aq c] rI:=Fe f199 0x81a208965501089655a796a796a7017c55a19e [] (Fh.eq_1 ..)
instance(a):CT (KS a) 265 [lI a] rB:=J2 f265 0xadca0277ca0204caf3bcececca02653604ca03ade8ca02816a01 [] (KS.eq_1 ..) (A9 0 3 0 0) (A9 2 4 3 0)
instance(a b c d e):CT (Js a b c d e) 204 [AL a,Aq b,Aq c,Au d,eB e] rI:=J2 f204 0x81a20ab45d01b45c360804020c7d06040577a2059160915c5a5d605d5cbcddb1b1efefd043905d5dd0cba2d6905d5a905d0804028c5d010c7d060405817d0604040b7daa067759d8905c6090dd55a2705c905c5a905c7d0604048c5c010b7daa0681a2d6ea5abdbd0162620401 [] (Js.eq_1 ..) (A9 0 11 8 0) (A9 2 12 8 1)
instance(a b c d e):CT (Gy a b c d e) 146 [AL a,Aq b,Aq c,Au d,eB e] rI:=Fe f146 0x810eb655c3a796c30162620401 [] (Gy.eq_1 ..)
instance(a b c):CT (ID a b c) 143 [AL a,BD b,BT c] rI:=Fe f143 0x8161017c6c55e09f55a19e [] (ID.eq_1 ..)
instance(a b):CT (Ju a b) 202 [Se a,lI b] rI:=Fe f202 0xdc5d605c01595d855ca136 [] (Ju.eq_1 ..)
instance(a b):CT (Lp a b) 264 [Se a,lI b] (rT eI eB):=Fe f264 0x9b055d605c01cd8a70015c5a5ccd5d855c369336 [] (Lp.eq_1 ..)
instance(a b):CT (Ns a b) 203 [Ff a,lI b] rB:=Fe f203 0xa50aa68d5c76a68d5ca208360861817cb603429b7cb6b9a136 [] (Ns.eq_1 ..)
instance(a b c):CT (Ib a b c) 145 [BD a,BT b,Au c] (rT lI eI):=J2 f145 0x818218087108897759e18820149f057e03b808018c03b871088981085edb08cc067759e18501201455a80cc40908cc080cc40908cc083cf50580a83614f501148a0817cf01145a6173a881605d6060dd91044b05c9d7d991085e8c91760908cc0681993fb7993fb73640939e [.mkx 1 [.int .i64 0] (.s 16),.mkx 1 [.bool T] (.s 19)] (Ib.eq_1 ..) (A4 0 10 3 2 λs0:Fp×a6=>[(8,.xo 1 (w_ eI s0.1)),(9,.xo 1 (w_ eB s0.2))]) (A9 2 14 3 4)
instance(a b c d):CT (Jt a b c d) 147 [AL a,BD b,BT c,Au d] (rT lI eI):=Fe f147 0x818274966c9f59e17f96d4d45559e17ffd9f553640629e [] (Jt.eq_1 ..)
instance(a b c d):CT (Gl a b c d) 148 [AL a,Aq b,Aq c,Au d] (rT Aq eI):=Fk f148 0x8184550b3e0b08020c0b7d9d77f56090dd011d380b080265151d38010c0b7d9d81025018c927555984f8f79655c301fc629e [] [.cell 8 (Y 2),.tmp 9] λr h f g=>by
  unfold Gl at h;have:HW 0 λ(e:d5×Int)=>[(11,.bx [⟨X,.xl 1 (w_ eI e.1.d3)⟩,⟨X,.xl 3 (w_ Bt e.1.d4)⟩]),(12,.tv (eI e.2))]:=⟨⟩;exact nz
instance(a b c d):CT (Qe a b c d) 205 [Aq a,Aq b,HL c,Au d] rI:=Fe f205 0x819655a796c301629e [] (Qe.eq_1 ..)
instance(a b):CT (EN a b) 266 [lI a,eI b] rB:=Bi f266 0xad05d577bc0160928c8dd581ba [] (EN.eq_1 ..) (A9 0 5 0 0)
instance(a b):CT (Gk a b) 206 [lI a,lI b] (rO (eL 2 Sd)):=J2 f206 0xeda69db5779db5f66a0577f66a05f66a053c0202480247054636028a0ab40136b4018decec9db5e8f66a05dc5a01e89db58102c002406a02 [] (Gk.eq_1 ..) (A4 0 6 0 0 (hO 5 (eL 2 Sd))) (A4 2 7 0 0 (hO 5 (eL 2 Sd)))
instance(a b):CT (LA a b) 209 [lI a,lI b] (rO lI):=Bi f209 0xeda69db5779db59db53cb2d1ec02d88d01e89db581e1fe6a02 [] (LA.eq_1 ..) (A4 0 6 0 0 (hO 5 lI))
instance(a b c d):CT (KQ a b c d) 207 [Aq a,Aq b,HL c,Au d] (rO lI):=Bi f207 0xed0901c40907050577c409070570db0705053cb2d1c58a0a0e5e4103cb360e8003cb36b4015d09018c5d01c40907050581820edde1fe93621300 [] (KQ.eq_1 ..) (A4 0 11 5 1 (hO 9 lI))
instance(a b):CT (NI a b) 208 [eI a,lI b] (rO lI):=Bi f208 0xeda69db5779db59db53cb2d1c5d88df9369db581e1fe6a02 [] (NI.eq_1 ..) (A4 0 6 0 0 (hO 5 lI))
instance(a b c d):CT (SO a b c d) 149 [Aq a,Aq b,HL c,Au d] (rT HL eI):=Fk f149 0x8013b818404460e0e5d5dea0e0eddbd59840046850b9655c35984004685700e5d5d0b0edd59846af79655c36ac9629e [] [.cell 8 (Y 2),.tmp 9] λr h e f=>by
  unfold SO at h;exact nz
instance(a b c):CT (KU a b c) 334 [eI a,lI b,lI c] (rO lI):=J2 f334 0x821807010907b20477f5ecec140701e80907b2048107b2037d026a057719014fa91907b20365367d026a058101cefe02d5 [] (KU.eq_1 ..) (A4 0 8 0 0 (hX 7 1 eI)) (A4 2 9 1 0 (hX 7 1 eI))
instance(a b):CT (Fv a b) 331 [.pt (Uo a).cells,lI b] rB:=J2 f331 0xad05d55f5ad505d58188010705b57d9d6a0677760a05609101917605605d015d5add36b1efd07e800478010705b58c800478367d9d6a069bff05d58a7001915ae65db1efd07e8002786a8c8002788dd581ba [] (Fv.eq_1 ..) (A9 0 5 0 3) (A4 2 8 0 5 (hT 7 eB))
instance(a b c):CT (CW a b c) 333 [.pt (Uo a).cells,lI b,eI c] rB:=Bi f333 0xad0702b577bc016092ff8a0308783670360702b581c5d5 [] (CW.eq_1 ..) (⟨⟩:HW 0 λ(d:Int)=>[(7,.tv (eI d))])
noncomputable def cc:PC:=PC.of N9 f332.body (xq bT 0x17d06026a065f017d06026a067d06026a063c005201d1364836470138ff7d06026a068a05609101917605605d015d7605dd7620363876a6908006b35a908006b3b1efd07e8004b300018c8004b3017d06026a0681b1efd07e8002b3ffda0a780248024704460148364701483647040ab338850b8002b361e6650309b30b030ab302d5) []
theorem AAS:CK f332 cc []:=c!
theorem AAu:PC.x9 cc=X/\PC.z1 0 cc=X:=c!
abbrev Q_332(n:Nat):Prop:=∀(b:An)(a:Fp)(l:Fp),CT (Br n b a l) 332 [.undef,lI a,lI l] (λr=>.bo (B4 b) (B4 r) 0 [])
theorem AAB(n:Nat)(_ih_332:Q_332 n)(b:An)(a:Fp)(l:Fp):CT (Br (n+1) b a l) 332 [.undef,lI a,lI l] (λr=>.bo (B4 b) (B4 r) 0 []):=iG AAS AAu λr h e d f=>by
  unfold cc;unfold f332;unfold Br at h;have:HW 0 λ(c:An×Int)=>[(0,.bx (B4 c.1)),(8,.tv (eI c.2))]:=⟨⟩;exact nz
theorem AAA:∀n:Nat,Q_332 n:=by
  intro n
  induction n with
  |zero=>exact(λa ec l=>⟨λ_ h=>d_⟩)
  |succ n b=>exact AAB n b
instance(s_0 ec l):CT (KE s_0 ec l) 332 [.undef,lI ec,lI l] (λr=>.bo (B4 s_0) (B4 r) 0 []):=⟨λr h=>by
  obtain ⟨N,a⟩:=Ck h;exact((AAA N) s_0 ec l).snd r (a N (az _))⟩
noncomputable def cZ:PC:=PC.of N9 f263.body (xq bT 0x5a04b55f5a04b56bb53c005201d13648364738ff6bb58ab4907302b3907304b3555b5b387620363876a6907306b35a907306b300018c7304b35a04b581ff3f0138850b7302b3610b758a082001385a0309b30b030ab36a02) [.AaA 332 [.s 32,.s 33,.c (.list 1 [])] 0]
theorem AAQ:CK f263 cZ []:=c!
theorem AAt:PC.x9 cZ=X/\PC.z1 0 cZ=X:=c!
abbrev Q_263(n:Nat):Prop:=∀(a:An)(l:Fp),CT (Bs n a l) 263 [.undef,lI l] (λr=>.bo (B4 a) (B4 r) 0 [])
theorem zr(n:Nat)(_ih_263:Q_263 n)(a:An)(l:Fp):CT (Bs (n+1) a l) 263 [.undef,lI l] (λr=>.bo (B4 a) (B4 r) 0 []):=iG AAQ AAt λr h d c e=>by
  unfold cZ;unfold f263;unfold Bs at h;have:HW 0 λ(b:An×Int)=>[(0,.bx (B4 b.1)),(5,.tv (eI b.2))]:=⟨⟩;exact nz
theorem zq:∀n:Nat,Q_263 n:=by
  intro n
  induction n with
  |zero=>exact(λa l=>⟨λ_ h=>d_⟩)
  |succ n b=>exact zr n b
instance(s_0 l):CT (HF s_0 l) 263 [.undef,lI l] (λr=>.bo (B4 s_0) (B4 r) 0 []):=⟨λr h=>by
  obtain ⟨N,a⟩:=Ck h;exact((zq N) s_0 l).snd r (a N (az _))⟩
instance(a b c d e f):CT (Ke a b c d e f) 200 [AL a,Aq b,Aq c,Au d,eB e,eI f] (rS (eL 2 Au)):=Fe f200 0x82030a785b3f5b00c2bf1b4636c3c3024062626b02 [.Abl [W,W,W,W,W,W,W,W,W,W,Y ⟨X,.list 2 []⟩] (.s 20),.AaA 263 [.s 22,.c (.list 1 [])] 0] (Ke.eq_1 ..)
instance(a b c):CT (KT a b c) 382 [lI a,eI b,eI c] rI:=Bi f382 0xad070200f3a2a6908d6092e80702000381bc010b3602d5 [] (KT.eq_1 ..) (A9 0 7 0 0)
instance(a b c d e):CT (Ia a b c d e) 335 [AL a,Aq b,Aq c,Au d,eB e] (rT (eL 2 Au) eI):=Fe f335 0x8182015902c085e6820eb655c35902c07f0eeaea5d5902c07f0ebdbd5c5902c08ad6ea5abdbd5902c07f96c3c54062620401 [] (Ia.eq_1 ..)
instance(a b):CT (FC a b) 155 [Se a,lI b] (rT eI eI):=Fe f155 0x9b0eb6cd8a70015c5a5c369336 [] (FC.eq_1 ..)
instance(a b c d):CT (Mg a b c d) 336 [BD a,BT b,Au c,lI d] (rT lI eB):=iF f336 0x8182180a01120a04f359e18a0aa68d5c76a68d5c6174012014550342617401201455b9bb04c99f057e03b80a018c03b801120a0403a504020dc4aa067759e1850136817401201455a80f0e0dc4aa080f0e0dc4aa083cf5f50580a80173a81473a8148a0817cf73a8145a73a881605d6060dd91044b05c9d7d9910a04028c91010dc4aa0681c4aa050cc4aa0307770cc4aa03070cc4aa03073c19014fa91985e636ee70013614c4aa0565b7010cc4aa030781993fb799014f36563640936237 [.mkx 1 [.bool T] (.s 28)] (Mg.eq_1 ..) (A4 0 12 4 3 λs0:Fp×a6=>[(10,.xo 1 (w_ eI s0.1)),(11,.xo 1 (w_ eB s0.2))]) (A4 2 13 4 2 λs2:Fp×a6=>[(10,.xo 1 (w_ eI s2.1)),(11,.xo 1 (w_ eB s2.2))]) (A9 4 18 4 4)
instance(a b c d e):CT (FL a b c d e) 267 [AL a,AI b,BT c,Ba d,eB e] (rT (eL 3 Ba) eI):=Bi f267 0x81ed100111100e0c7d067711100e0c7d0611100e0c7d063c02034803470946b602c6029be4915502c66c9f1001e811100e0c7d068103c05903c07fe4b6d4d45584f004460eeb80a80beb0ec173a80bc1bb09c99fb8f84062620401 [] (FL.eq_1 ..) (A4 0 17 14 0 (hO 16 (eL 3 Ba)))
abbrev Q_210(n:Nat):Prop:=∀(t:AC)(c:d7)(b:AG)(m:AP)(a:Bool),CT (C7 n t c b m a) 210 [AL t,AI c,BT b,Ba m,eB a] (rT Ez eI)
theorem zh(n:Nat)(_ih_210:Q_210 n)(t:AC)(c:d7)(b:AG)(m:AP)(a:Bool):CT (C7 (n+1) t c b m a) 210 [AL t,AI c,BT b,Ba m,eB a] (rT Ez eI):=Fk f210 0x81bb0a46ff59bb0a460a0117150a07aa0777ff0a013b81bb010c4605479fd0c672bb0ec97c01d0c66cac09435d550a01e817150a07aa078159bb76f7e4016c6cac55dc81bb0a460a01120a7daa077759bb010b4605479f7fbb0ec97c016c6cac09cb550a018c5d01120a7daa079b0581bb9f0e0a020f0e0a7daa0877dab8054805479f04b859bb76f7bb0ec97c016c6cac09cb550e0a028c5d010f0e0a7daa08dc500ec93fdc81bb764659bb0a46850159bb0af7bb0e497c016c6cac09435d55dc833871c962620401 [.Aap [.z ⟨T,.int .i64 0⟩,.z ⟨X,.list 1 []⟩,.z ⟨X,.list 1 []⟩,.z ⟨X,.list 1 []⟩,.z ⟨X,.list 5 []⟩]] [.cell 10 (Y 5),.tmp 11] λr h d e=>by
  unfold C7 at h;have:=A4 1 15 6 1 λs1:BA×BA=>[(10,.bx [⟨T,eI s1.1.Aaw⟩,⟨X,lI s1.1.og.d6.d3⟩,⟨X,lI s1.1.og.d6.d4⟩,⟨X,lI s1.1.og.fd⟩,⟨X,Iw s1.1.fu⟩]),(14,.bx [⟨T,eI s1.2.Aaw⟩,⟨X,lI s1.2.og.d6.d3⟩,⟨X,lI s1.2.og.d6.d4⟩,⟨X,lI s1.2.og.fd⟩,⟨X,Iw s1.2.fu⟩])];have:=A4 3 18 6 1 λs3:BA=>[(10,.bx [⟨T,eI s3.Aaw⟩,⟨X,lI s3.og.d6.d3⟩,⟨X,lI s3.og.d6.d4⟩,⟨X,lI s3.og.fd⟩,⟨X,Iw s3.fu⟩])];have:=A4 5 23 21 0 λs5:BA=>[(10,.bx [⟨T,eI s5.Aaw⟩,⟨X,lI s5.og.d6.d3⟩,⟨X,lI s5.og.d6.d4⟩,⟨X,lI s5.og.fd⟩,⟨X,Iw s5.fu⟩])];exact nz
theorem zg:∀n:Nat,Q_210 n:=by
  intro n
  induction n with
  |zero=>exact(λt c a m fq=>⟨λ_ h=>d_⟩)
  |succ n b=>exact zh n b
instance(t c h_2 m fq):CT (Qg t c h_2 m fq) 210 [AL t,AI c,BT h_2,Ba m,eB fq] (rT Ez eI):=⟨λr h=>by
  obtain ⟨N,a⟩:=Ck h;exact((zg N) t c h_2 m fq).snd r (a N (az _))⟩
instance(a b c d e):CT (Jv a b c d e) 150 [AL a,AI b,BT c,Ba d,eB e] (rT eB eI):=Fe f150 0x9b5a01cd72bb0e497c016c6cac553662620401 [] (Jv.eq_1 ..)
instance(a b c d):CT (IN a b c d) 92 [AL a,Bz b,BT c,Ba d] (rT HL eI):=Fk f92 0x8184b60d0b08030d0b08033c018a088d36817c030f426c6cac10425559846a46853684f07cd4550b42d45559846a46853684fc7cd4d4555bb95559840046d8910159846af7e4d46c9fb95559840046850e030f42d4d4555bb9556ac9629e [] [.cell 8 (Y 2),.tmp 9] λr h f g=>by
  unfold IN at h;have:HJ 95 λ(e:Int)=>[(11,.tv (eI e))]:=⟨⟩;exact nz
instance(a b c):CT (Hb a b c) 151 [AL a,BT b,HL c] (rT BT eI):=Fk f151 0x81b16c0d06020e0d0b06040577daa801d1014860905c91a904a80d06028c5c710d0b06040581035010c93f5559b10119f78484f0fc117cc33859b10119f7017c6c550110c9939e [.Aap [.v (.s 37) 0 2,.v (.s 37) 1 2,.z ⟨X,.list 1 []⟩]] [.cell 6 (Y 3),.tmp 7] λr h e f=>by
  unfold Hb at h;have:HW 0 λ(d:AG×Int)=>[(13,.bx [⟨T,lI d.1.d5.d3⟩,⟨T,lE d.1.d5.d4⟩,⟨X,(eL 1 lI) d.1.ej⟩]),(14,.tv (eI d.2))]:=⟨⟩;exact nz
end Go.Sf.Sc
