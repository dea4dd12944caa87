/- Contracts of the functions. -/
import Derived.Test.YtiaddfklojalbaaGreatCon4
set_option linter.all false
set_option maxRecDepth 100000
set_option maxHeartbeats 4000000
open Option renaming some->Y,none->W
open Bool renaming true->X,false->T
open List renaming map->w?
namespace Go.Sf.Sc
open Go Go.Sf Go.Proofs.Tryz
abbrev Q_251(n:Nat):Prop:=∀(c:c8),CT (E1 n c) 251 [AR c] rB
theorem xC(n:Nat)(_ih_251:Q_251 n)(c:c8):CT (E1 (n+1) c) 251 [AR c] rB:=Fj f251 0x9e3002b4becf097f5f009fc43002aabecf01b6 [] λh=>by
  unfold E1 at h;have:=BJ 0 3 1 1;exact nz
theorem xB:∀n:Nat,Q_251 n:=by
  intro n
  induction n with
  |zero=>exact(λc=>⟨λ_ h=>e_⟩)
  |succ n a=>exact xC n a
instance(c):CT (OX c) 251 [AR c] rB:=⟨λr h=>by
  obtain ⟨N,a⟩:=Dc h;exact((xB N) c).snd r (a N (a5 _))⟩
abbrev Q_252(n:Nat):Prop:=∀(c:c8),CT (FX n c) 252 [AR c] (rT eI eI)
theorem xE(n:Nat)(_ih_252:Q_252 n)(c:c8):CT (FX (n+1) c) 252 [AR c] (rT eI eI):=Fj f252 0xa1327302730284855d7301030673ecdf322cab32a191cf097f5f7301039fc40673ec81a132b6 [] λh=>by
  unfold FX at h;have:=Bu 0 6 1 1 λs0:Int×Int=>[(4,.tv (eI s0.1)),(5,.tv (eI s0.2))];have:HJ 33 λ(a:Int)=>[(5,.tv (eI a))]:=⟨⟩;exact nz
theorem xD:∀n:Nat,Q_252 n:=by
  intro n
  induction n with
  |zero=>exact(λc=>⟨λ_ h=>e_⟩)
  |succ n a=>exact xE n a
instance(c):CT (PW c) 252 [AR c] (rT eI eI):=⟨λr h=>by
  obtain ⟨N,a⟩:=Dc h;exact((xD N) c).snd r (a N (a5 _))⟩
instance(a):CT (ML a) 196 [AR a] rI:=Fe f196 0xaaebab618191cf57becf01b6 [] (ML.eq_1 ..)
instance(a b):CT (Ns a b) 299 [CG a,eI b] rB:=CW f299 0x9e05b203b48501920241daa7009fa75cb203dee0 [] (Ns.eq_1 ..) (BJ 0 5 2 2)
instance(a b c):CT (MN a b c) 253 [AS a,eI b,CG c] rI:=CW f253 0x9e890503b401be5c4400698d74890503debdbbf185018d746a32 [] (MN.eq_1 ..) (BJ 0 8 5 3)
instance(a b c):CT (Il a b c) 254 [BD a,BD b,BR c] rB:=Fe f254 0xcb0ec40a0e5d5c0e559601fe [] (Il.eq_1 ..)
abbrev Q_197(n:Nat):Prop:=∀(t:AC)(p:d5)(c:c8),CT (Ft n t p c) 197 [AS t,CG p,AR c] rI
theorem w8(n:Nat)(_ih_197:Q_197 n)(t:AC)(p:d5)(c:c8):CT (Ft (n+1) t p c) 197 [AS t,CG p,AR c] rI:=Fj f197 0x9e0a0705bab49bcf097f5fbb55009fc40a0705ba8107058d07058d3cf9bb044257be5502a55b04fbbd5502a55b04fbbdbb04428da5855df909c9bb01fe [] λh=>by
  unfold Ft at h;have:=BJ 0 10 5 1;exact nz
theorem w7:∀n:Nat,Q_197 n:=by
  intro n
  induction n with
  |zero=>exact(λt p c=>⟨λ_ h=>e_⟩)
  |succ n a=>exact w8 n a
instance(t p c):CT (YK t p c) 197 [AS t,CG p,AR c] rI:=⟨λr h=>by
  obtain ⟨N,a⟩:=Dc h;exact((w7 N) t p c).snd r (a N (a5 _))⟩
instance(a b c):CT (MM a b c) 137 [AS a,CG b,AR c] rI:=Fe f137 0x810ecfbb55bdcfbdbbe1fe [] (MM.eq_1 ..)
instance(a b):CT (MP a b) 84 [AS a,Bb b] rI:=Fe f84 0x810ecf1042bb01a557be32fa06a5828291f3578a9d800d749d920d42bdf3bdf355bdbb01a557be5d57016c0191e1a9 [] (MP.eq_1 ..)
instance(a):CT (Jf a) 85 [Bb a] rB:=Fe f85 0xcb75f70b800b740a75c60b920b74a89210740a030f74a8c55c75ba42755e41e30ba7f909c9bb0174b6 [] (Jf.eq_1 ..)
instance(a b):CT (Jg a b) 86 [AS a,BD b] rB:=Jl f86 0x9e05dddf05dde95e04b485f080da5d05dd9fa2e95e049e9f5d5cdddea9 [] (Jg.eq_1 ..) (BJ 0 5 3 0) (BJ 2 6 2 0)
instance(a b):CT (Nv a b) 87 [AS a,BD b] rB:=CW f87 0x9e05ddb4be60a75d605f5d5d55fcef5f009ff6dddea9 [] (Nv.eq_1 ..) (BJ 0 5 3 1)
instance(a b c):CT (MR a b c) 47 [AS a,DE b,Bb c] rI:=Fe f47 0xaa8a9dfa01a5010a9dfa06a5019dfa01a557bef3bdf355bd9601fe [] (MR.eq_1 ..)
instance(a b c):CT (IR a b c) 25 [AS a,DE b,(eL 25 Bb) c] rI:=Jl f25 0x9e09045e04b49bf319433296009f3209045e048104dd08045e04b4e78d41da5d04dd9fa208045e04aa9b9657e7326ab2 [] (IR.eq_1 ..) (BJ 0 8 3 0) (BJ 2 9 2 0)
instance(a b c d):CT (Fu a b c d) 7 [AS a,DE b,(eL 25 Bb) c,CM d] rB:=CW f7 0xcb0a75c6010a75f75c0bc65c0b0107020209070203b4cdf6dbb3fdfa06411943320702029f3209070203aa850e0196578a9d76019d019601936ab2 [] (Fu.eq_1 ..) (BJ 0 9 2 0)
instance(a b c):CT (Np a b c) 97 [AS a,eI b,lI c] rI:=CW f97 0x9e09070203b4eb5e410443328cab8004433260909f3209070203aae7010b32829101f1830241da5d5785db3293b202 [] (Np.eq_1 ..) (BJ 0 9 7 0)
instance(a b):CT (MJ a b) 56 [AS a,CM b] (rT eI eI):=Jl f56 0x819e0bddb4debe60a7c6605fc65df1dee75f5dfceff7009ff7010bdd815e0209ddb481327e8ca78cc6555e029fc60109ddaa81e7c60ba757819be657de6c01915532a9 [] (MJ.eq_1 ..) (BJ 0 9 3 0) (BJ 2 11 3 1)
instance(a b):CT (DU a b) 57 [lI a,eI b] rB:=CW f57 0x9e05d1b4850160909fabd181bc [] (DU.eq_1 ..) (BJ 0 5 0 0)
instance(a b):CT (GA a b) 61 [lI a,eI b] (rO lI):=Jl f61 0x82189ae9cadfe9cab1056b05dfb1056b05b1056b053c01f4321485016032e9ca9f32b1056b058119014fa6199a6932e9cadece01406b02 [] (GA.eq_1 ..) (Bu 0 6 1 0 (hX 5 1 eI)) (Bu 2 7 0 0 (hX 5 1 eI))
instance(a b c):CT (QU a b c) 58 [DE a,Bb b,lI c] (rS Lc):=Fk f58 0xede5083e0806020a89065e06df0a89065e060a89065e063cdc01413103480347074617d8a71dee17d85f1dee5d0401413101f40bf7011d0342eb17d8a71deaa817d85f1dea0a0e605d5fab17d8011d0342fcef5f0806029fc40a89065e068189065e050989065e06df0989065e060989065e063cdc6d01d4f0046d01f40bc6011dee8a0e60f05dab17d8011dee89065e059fa20989065e06811f03421fee1a0b5f800d421adb920d4204501dc93f1bfac3b3fdfae315c96ab2 [.zt [.g 18 0 2,.g 18 1 2,.z ⟨X,.xl 1 []⟩,.z ⟨X,.xl 1 []⟩]] [.cell 6 (Y 4)] λr h f i=>by
  unfold QU at h;have:HW 0 λ(e:CS×Int)=>[(8,.bx [⟨X,lI e.1.d7.bq⟩,⟨X,lE e.1.d7.ca⟩,⟨X,.xl 1 (w? eI e.1.c9)⟩,⟨X,.xl 1 (w? eI e.1.d6)⟩]),(9,.tv (eI e.2))]:=⟨⟩;have:HW 2 λ(d:CS×Int)=>[(8,.bx [⟨X,lI d.1.d7.bq⟩,⟨X,lE d.1.d7.ca⟩,⟨X,.xl 1 (w? eI d.1.c9)⟩,⟨X,.xl 1 (w? eI d.1.d6)⟩]),(10,.tv (eI d.2))]:=⟨⟩;exact nz
instance(a):CT (E7 a) 98 [EN a] rB:=Fe f98 0xcb9d8d749df8b6 [] (E7.eq_1 ..)
instance(a b c):CT (MK a b c) 150 [AS a,BD b,BD c] rI:=Fe f150 0xaa8a9d96019d96bd55bdf1016c0191e1fe [] (MK.eq_1 ..)
instance(a b):CT (Fx a b) 269 [.pt (Ue a).cells,lI b] rB:=Jl f269 0x9e05d1655cd105d18188010705ca89e96b06df010aa860f8f8a860c4f65d5d32fcef8004c8010705ca9f8004c83289e96b06a1ff05d1cd01a75c0b015ffcef8002c86b9f8002c8abd181bc [] (Fx.eq_1 ..) (BJ 0 5 0 3) (Bu 2 8 0 5 (hT 7 eB))
instance(a b c):CT (DG a b c) 271 [.pt (Ue a).cells,lI b,eI c] rB:=CW f271 0x9e0702cab485016090ff8a0308c83275320702ca81d3d1 [] (DG.eq_1 ..) (⟨⟩:HW 0 λ(d:Int)=>[(7,.tv (eI d))])
noncomputable def ah:PC:=PC.of MU f270.body (xq bT 0x18906026b06848906026b068906026b063c005201d4324832470131ff8906026b06eb60f8f8a860c4c4a85da20a203231010a9a8c8006ac5c8c8006acfcef8004ac00019f8004ac018906026b0681fcef8002acffdc0ac80248024702460148324701483247040aac31e78002ac610b01690309ac0b030aac02d1) []
theorem xZ:CK f270 ah []:=b!
theorem yA:PC.t5 ah=X/\PC.tg 0 ah=X:=b!
abbrev Q_270(n:Nat):Prop:=∀(b:Aq)(a:Fp)(l:Fp),CT (Ch n b a l) 270 [.undef,lI a,lI l] (λr=>.bo (CA b) (CA r) 0 [])
theorem xI(n:Nat)(_ih_270:Q_270 n)(b:Aq)(a:Fp)(l:Fp):CT (Ch (n+1) b a l) 270 [.undef,lI a,lI l] (λr=>.bo (CA b) (CA r) 0 []):=ZD xZ yA λr h e d f=>by
  unfold ah;unfold f270;unfold Ch at h;have:HW 0 λ(c:Aq×Int)=>[(0,.bx (CA c.1)),(8,.tv (eI c.2))]:=⟨⟩;exact nz
theorem xH:∀n:Nat,Q_270 n:=by
  intro n
  induction n with
  |zero=>exact(λa c9 l=>⟨λ_ h=>e_⟩)
  |succ n b=>exact xI n b
instance(s_0 c9 l):CT (My s_0 c9 l) 270 [.undef,lI c9,lI l] (λr=>.bo (CA s_0) (CA r) 0 []):=⟨λr h=>by
  obtain ⟨N,a⟩:=Dc h;exact((xH N) s_0 c9 l).snd r (a N (a5 _))⟩
noncomputable def af:PC:=PC.of MU f213.body (xq bT 0x5c04ca655c04ca73ca3c005201d43248324731ff73ca8a9d8c9202ac8c9204acfa6d010a203231010a9a8c9206ac5c8c9206ac00019f9204ac5c04ca81ff3f0131e79202ac610b01ff8a082001315c0309ac0b030aac6b02) [.Aac 270 [.s 32,.s 33,.c (.list 1 [])] 0]
theorem xW:CK f213 af []:=b!
theorem xz:PC.t5 af=X/\PC.tg 0 af=X:=b!
abbrev Q_213(n:Nat):Prop:=∀(a:Aq)(l:Fp),CT (Ci n a l) 213 [.undef,lI l] (λr=>.bo (CA a) (CA r) 0 [])
theorem xA(n:Nat)(_ih_213:Q_213 n)(a:Aq)(l:Fp):CT (Ci (n+1) a l) 213 [.undef,lI l] (λr=>.bo (CA a) (CA r) 0 []):=ZD xW xz λr h d c e=>by
  unfold af;unfold f213;unfold Ci at h;have:HW 0 λ(b:Aq×Int)=>[(0,.bx (CA b.1)),(5,.tv (eI b.2))]:=⟨⟩;exact nz
theorem w9:∀n:Nat,Q_213 n:=by
  intro n
  induction n with
  |zero=>exact(λa l=>⟨λ_ h=>e_⟩)
  |succ n b=>exact xA n b
instance(s_0 l):CT (JN s_0 l) 213 [.undef,lI l] (λr=>.bo (CA s_0) (CA r) 0 []):=⟨λr h=>by
  obtain ⟨N,a⟩:=Dc h;exact((w9 N) s_0 l).snd r (a N (a5 _))⟩
instance(a b c d e f):CT (PH a b c d e f) 151 [AS a,BD b,BD c,BR d,eB e,eI f] (rS (eL 2 BR)):=Fe f151 0x82030ac85b3f5b00c2bf294632969602406a6a7302 [.Aa6 [W,W,W,W,W,W,W,W,W,W,Y ⟨X,.list 2 []⟩] (.s 20),.Aac 213 [.s 22,.c (.list 1 [])] 0] (PH.eq_1 ..)
instance(a):CT (Nq a) 152 [BD a] (rS BR):=Fk f152 0xb355033e5e0205dddf01f4011dc35e0269151dc35cdd815e0204dddf01f4011d315e0269151d31ecdd8102501ec93f3f0b5f3fdb02c9b6 [.mkx 1 [.int .i64 0] (.s 8),.mkx 1 [.int .i64 0] (.s 12),.zt [.w 9,.w 13]] [.cell 2 (Y 2)] λr h d e=>by
  unfold Nq at h;have:HW 0 λ(c:cE×Int)=>[(3,.bx [⟨X,.xl 1 (w? eI c.1.bq)⟩,⟨X,.xl 1 (w? eI c.1.ca)⟩]),(4,.tv (eI c.2))]:=⟨⟩;have:HW 2 λ(b:cE×Int)=>[(3,.bx [⟨X,.xl 1 (w? eI b.1.bq)⟩,⟨X,.xl 1 (w? eI b.1.ca)⟩]),(5,.tv (eI b.2))]:=⟨⟩;exact nz
instance(a b c d):CT (PG a b c d) 99 [AS a,BD b,BD c,eB d] (rT (eL 2 BR) eI):=Fe f99 0x8182015702c0e701820e7d96965702c09b5596d340936a30 [] (PG.eq_1 ..)
instance(a b c):CT (Kg a b c) 100 [lI a,lI b,eI c] rB:=CW f100 0x9e0702cab48705ab608c909f320702ca81d3d1 [] (Kg.eq_1 ..) (BJ 0 7 0 0)
instance(a b c d e):CT (MS a b c d e) 101 [EN a,eI b,Bb c,Lc d,BR e] (rS EN):=Fk f101 0x74b07440c3e0c0a021310e808df1310e8081310e8083cdc054205030574f40305741d0342be01800d42141310e8093c1f03744a014131014fa61e034203480347074660f860c45d04014131fcef5f141310e8093c01608cc55f858cc5810bf70c0a029fc41310e8088110e8071110e808df1110e8081110e8083cdc044205ba74f4ba741deebe01920d42b2d4d3121110e8093c1fea4a6d014fa61eead4f0046d121110e8093c01608ca75d858ca7810bc610e8079fa21110e808dec00d013bdce304480447144613460258ec4803e304470de89a090f0de89a0adfdc0174d4608c5fc504c30de89a099f805b01740f0de89a0a810de89a090e0de89a0adfdc3101d460f0a704310de89a099f925b01740e0de89a0a8102c9075020c93f030542ba744f8d7456014ff8561be6b3fdfae31fc96a6a32 [.zt [.g 27 0 2,.g 27 1 2,.w 31,.w 35,.v (.s 37) 0 1,.v (.s 39) 0 1,.z ⟨X,.list 4 []⟩]] [.cell 10 (Y 7)] λr h j k=>by
  unfold MS at h;have:=Bu 0 14 7 1 λs0:cE=>[(13,.bx [⟨X,lI s0.bq⟩,⟨X,lI s0.ca⟩])];have:=Bu 2 15 7 2 λs2:cE=>[(13,.bx [⟨X,lI s2.bq⟩,⟨X,lI s2.ca⟩])];have:HW 4 λ(f:Ay×Fp×Int)=>[(12,.bx [⟨X,lI f.1.d7.bq⟩,⟨X,lE f.1.d7.ca⟩,⟨X,.xl 1 (w? eI f.1.c9)⟩,⟨X,.xl 1 (w? eI f.1.d6)⟩,⟨T,eI f.1.AaM⟩,⟨T,eI f.1.x9⟩,⟨X,(eL 4 JC) f.1.kg⟩]),(16,.ow (lI f.2.1)),(17,.tv (eI f.2.2))]:=⟨⟩;have:HW 6 λ(i:Ay×Int)=>[(12,.bx [⟨X,lI i.1.d7.bq⟩,⟨X,lE i.1.d7.ca⟩,⟨X,.xl 1 (w? eI i.1.c9)⟩,⟨X,.xl 1 (w? eI i.1.d6)⟩,⟨T,eI i.1.AaM⟩,⟨T,eI i.1.x9⟩,⟨X,(eL 4 JC) i.1.kg⟩]),(19,.tv (eI i.2))]:=⟨⟩;exact nz
noncomputable def jW:PC:=PC.of MU f59.body (xq bT 0x81074b2a460400020604c104840604c1040604c1040b09b104c107840b09b104c1070b09b104c10781074b0107446c074b1fc97c6b5207443157074b2a46cdf75c0bc6074b1fc90e55024332e5da8dacf3197f5eac010744ff0b09b104c1078a9d0b5fc580027f329ddba7920243320604c1049f320b09b104c107aa074b012a466c8291e6965b6dff0604c104cd5f0bf6dbdbb3fdfada8dacb3fdfa0141197f5eac0400029f5eac010604c104aa074b2a46e703e357074b07448e074457074b2a4685baacdc04c805baac011fc9b601) []
theorem z7:CK f59 jW [.cell 4 (Y 7),.tmp 5]:=b!
theorem AAF:PC.t5 jW=X/\PC.tg 0 jW=X:=b!
abbrev Q_59(n:Nat):Prop:=∀(p:BP)(a:Ay),CT (C0 n p a) 59 [.undef,EN a] (λr=>.bo (Da p) (Da r.2.2) 0 [EN r.1,eI r.2.1])
theorem zy(n:Nat)(_ih_59:Q_59 n)(p:BP)(b:Ay):CT (C0 (n+1) p b) 59 [.undef,EN b] (λr=>.bo (Da p) (Da r.2.2) 0 [EN r.1,eI r.2.1]):=ZD z7 AAF λr h d c e=>by
  unfold jW;unfold f59;unfold C0 at h;have:HW 0 λ(a:BP×Ay×Int)=>[(0,.bx (Da a.1)),(4,.bx [⟨X,lI a.2.1.d7.bq⟩,⟨X,lE a.2.1.d7.ca⟩,⟨X,lI a.2.1.c9⟩,⟨X,lI a.2.1.d6⟩,⟨T,eI a.2.1.AaM⟩,⟨T,eI a.2.1.x9⟩,⟨X,(eL 4 JC) a.2.1.kg⟩]),(6,.tv (eI a.2.2))]:=⟨⟩;have:=Bu 2 11 9 0 λs2:BP×Ay=>[(0,.bx (Da s2.1)),(4,.bx [⟨X,lI s2.2.d7.bq⟩,⟨X,lE s2.2.d7.ca⟩,⟨X,lI s2.2.c9⟩,⟨X,lI s2.2.d6⟩,⟨T,eI s2.2.AaM⟩,⟨T,eI s2.2.x9⟩,⟨X,(eL 4 JC) s2.2.kg⟩])];exact nz
theorem zx:∀n:Nat,Q_59 n:=by
  intro n
  induction n with
  |zero=>exact(λp a=>⟨λ_ h=>e_⟩)
  |succ n b=>exact zy n b
instance(p x_1):CT (JO p x_1) 59 [.undef,EN x_1] (λr=>.bo (Da p) (Da r.2.2) 0 [EN r.1,eI r.2.1]):=⟨λr h=>by
  obtain ⟨N,a⟩:=Dc h;exact((zx N) p x_1).snd r (a N (a5 _))⟩
instance(a):CT (Lr a) 60 [eI a] (rO lI):=CW f60 0x82023004c103dfb2d40230693204c103dec001400001 [] (Lr.eq_1 ..) (Bu 0 4 0 0 (hO 3 lI))
instance(a b c d e):CT (FC a b c d e) 28 [AS a,DE b,(eL 25 Bb) c,CM d,lI e] (rT EL eI):=Fk f28 0xa013b81f216465503e315463f0bc6e6b302c902460e030542c50eba42a757f2011a466c074b1fc97c6b522c460e0bf70e0bc6e65b58110a08045812110a0806040208dfdc03c8044804470e01f3194332550403c85b5b58110a08049f325812110a08060402089ec2bf2b4601550a0806730206100a0806730207b4f21a46be6092d9f7c40a08067302069ff701100a0806730207cb08067302060f0a0806730207b4f21a46be608cc6a20a08067302069fc6010f0a0806730207aaf2011a466c019176f1f2011a467e01960118c9936a040202 [.Aa6 [W,W,W,Y ⟨X,.list 4 []⟩,W] (.s 87),.mko 1 [.list 1 []] (.s 149)] [.cell 10 (Y 6),.tmp 11] λr h f g=>by
  unfold FC at h;have:=Bu 0 15 8 0 λs0:Al=>[(10,.bx [⟨X,lI s0.hV.ci.bq⟩,⟨X,lE s0.hV.ci.ca⟩,⟨X,(eL 1 lI) s0.hV.eo⟩,⟨X,(eL 4 JC) s0.Aan⟩,⟨X,lI s0.Iso.bq⟩,⟨X,lI s0.Iso.ca⟩])];have:=Bu 2 16 8 1 λs2:Al=>[(10,.bx [⟨X,lI s2.hV.ci.bq⟩,⟨X,lE s2.hV.ci.ca⟩,⟨X,(eL 1 lI) s2.hV.eo⟩,⟨X,(eL 4 JC) s2.Aan⟩,⟨X,lI s2.Iso.bq⟩,⟨X,lI s2.Iso.ca⟩])];have:=Bu 4 18 2 0 λs4:BP=>[(88,.bx (Da s4))];exact nz
instance(a b c d):CT (Jh a b c d) 10 [AS a,DE b,(eL 25 Bb) c,CM d] (rT EL eI):=Fk f10 0x81f27c0ea67601960118c9936ab2 [] [.cell 8 (Y 6),.tmp 9] λr h e f=>by
  unfold Jh at h;exact nz
instance(a b):CT (Je a b) 30 [lI a,lI b] rB:=CW f30 0x9e05d1b485603260909fabd1aae7010b01bc [] (Je.eq_1 ..) (BJ 0 5 0 0)
instance(a b):CT (Nl a b) 37 [BD a,BD b] rB:=CW f37 0x9e05ddb4bfef5fef5f009ff6ddaacd5f0bc49d5da2a9 [.bin (.a [0,0,0]) .neq (.s 32) (.s 37)] (Nl.eq_1 ..) (BJ 0 5 2 1)
instance(a b):CT (KQ a b) 38 [lI a,lI b] rI:=CW f38 0x8175010bbc05d1b405603260328560328cbcffcd013275abd181bc [] (KQ.eq_1 ..) (⟨⟩:HW 0 λ(c:Int)=>[(5,.tv (eI c))])
instance(a b):CT (J4 a b) 17 [CM a,CM b] rB:=CW f17 0x9e05ddb4850e8ca78ca7009fa75cddaacda70bf89de6e601a9 [] (J4.eq_1 ..) (BJ 0 5 2 2)
instance(a b):CT (Jc a b) 62 [lI a,lI b] rB:=CW f62 0x9e05d1b485603260909fabd1aae7010b01bc [] (Jc.eq_1 ..) (BJ 0 5 0 0)
instance(a b):CT (Ll a b) 29 [BR a,BR b] rB:=Fe f29 0xcb0e5f5f7d5da2a9 [] (Ll.eq_1 ..)
instance(a b):CT (He a b) 11 [EL a,EL b] rB:=CW f11 0x9e05ddb48a9d5e41c35e4101740a9dfa01a55bc35c5d5deded14c914c9e5dac5e5dac5009fc55cddaa8a9d5504a504740a75c50b8d749d7631763101a9 [] (He.eq_1 ..) (BJ 0 5 2 3)
instance(a b c d):CT (Io a b c d) 16 [AS a,DE b,(eL 25 Bb) c,CM d] (rT EL eI):=Fk f16 0x81f27c0ea67601960118c9936ab2 [] [.cell 8 (Y 6),.tmp 9] λr h e f=>by
  unfold Io at h;exact nz
instance(a b c d):CT (KT a b c d) 18 [AS a,DE b,(eL 25 Bb) c,CM d] (rT EL eI):=Fk f18 0x81f27c0ea67601960118c9936ab2 [] [.cell 8 (Y 6),.tmp 9] λr h e f=>by
  unfold KT at h;exact nz
end Go.Sf.Sc
