/- Contracts of the functions. -/
import Derived.Test.YtiaddfklojalbaaGreatCon0
set_option linter.all false
set_option maxRecDepth 100000
set_option maxHeartbeats 4000000
open Option renaming some->Y,none->W
open List renaming map->w?
namespace Go.Sf.Sc
open Go Go.Sf Go.Proofs.Tryz
instance(a):CT (LY a) 319 [QF a] rB:=Fe f319 0xcba8ab32a8ab9001 [] (LY.eq_1 ..)
instance AAU(b:ByteArray)(d:Int->K1)(c:FuncId)(a:Fq)[g:∀(e:Int),CT (d e) c (QF e::a) rB]:CT (Hk b d) 320 [eS b,.clo c a] rI:=CW f320 0x815c01ff05d1655c01ff8a0f1232ab0cabd181bc [] (Hk.eq_1 ..) (⟨⟩:HW 0 λ(f:Int)=>[(5,.tv (eI f))])
instance(a):CT (Ki a) 322 [QF a] rB:=Fe f322 0x81a8ab9001 [] (Ki.eq_1 ..)
instance(a):CT (N5 a) 321 [QF a] rB:=Fe f321 0x81a8320a0e320e9001 [] (N5.eq_1 ..)
instance(a):CT (Lx a) 346 [QF a] rB:=Fe f346 0x81a832a8ab9001 [] (Lx.eq_1 ..)
instance(a):CT (IB a) 323 [eS a] (rT eI eI):=Fe f323 0xa19a578185015781eb129aab0c5c613f0d019001 [.call 320 [.s 6,.c (.clo 346 [])]] (IB.eq_1 ..)
instance(a):CT (N4 a) 324 [eS a] rB:=Fe f324 0xcb0e0d013f5c0c9001 [.lst 1 [.c (.str ⟨#[45,62]⟩),.c (.str ⟨#[60,61]⟩),.c (.str ⟨#[62,61]⟩),.c (.str ⟨#[61,61]⟩),.c (.str ⟨#[33,61]⟩)]] (N4.eq_1 ..)
instance(a):CT (KD a) 282 [eS a] (λr=>.tp [eI r.1,eI r.2.1,eI r.2.2]):=Fe f282 0x81a17781a1053f6181a10e61a132a191610561a10157a16c3f610e61a10157a16c3f610e6112329001 [.call 320 [.s 15,.c (.clo 321 [])],.call 320 [.s 23,.c (.clo 322 [])],.call 325 [.c (.str ⟨#[123,125,40,41,91,93,44,59,58,61,43,45,42,60,62,33,38,124,46,63]⟩),.s 42]] (KD.eq_1 ..)
instance(a):CT (Kj a) 225 [Xe a] (rT eS eB):=CW f225 0xa1a80c0132a85dab3281a111910157bfbfecd304d33c013f3f01855d81c43fb6 [.mv (.c (.str ⟨#[]⟩)),.bin (.s) .add (.c (.str ⟨#[34]⟩)) (.s 13),.bin (.s) .add (.s 14) (.c (.str ⟨#[34]⟩)),.bin (.s) .eql (.s 16) (.c (.str ⟨#[]⟩)),.mv (.c (.str ⟨#[]⟩))] (Kj.eq_1 ..) (⟨⟩:HJ 12 λ(b:ByteArray)=>[(4,.tv (eS b))])
instance(a):CT (ES a) 163 [eS a] rB:=Fe f163 0x8161019100469001 [] (ES.eq_1 ..)
instance(a b):CT (N8 a b) 164 [CZ a,.pt (CZ b).cells] rB:=Fe f164 0x81065da2e0 [] (N8.eq_1 ..)
abbrev Q_165(n:Nat):Prop:=∀(t:AC)(a:Int),CT (De n t a) 165 [AS t,eI a] (λr=>.Aa5 4 (w? F4 r))
theorem w2(n:Nat)(_ih_165:Q_165 n)(t:AC)(a:Int):CT (De (n+1) t a) 165 [AS t,eI a] (λr=>.Aa5 4 (w? F4 r)):=Fj f165 0x99044f8d41da5d1905b20305b2033c191a01556c80da5d04ce044ee0 [] λh=>by
  unfold De at h;have:HJ 14 λ(b:List gi)=>[(5,.xo 4 (w? F4 b))]:=⟨⟩;exact nz
theorem wz:∀n:Nat,Q_165 n:=by
  intro n
  induction n with
  |zero=>exact(λt a=>⟨λ_ h=>e_⟩)
  |succ n b=>exact w2 n b
instance(t a):CT (Ma t a) 165 [AS t,eI a] (λr=>.Aa5 4 (w? F4 r)):=⟨λr h=>by
  obtain ⟨N,b⟩:=Dc h;exact((wz N) t a).snd r (b N (a5 _))⟩
instance(a b):CT (JK a b) 227 [F4 a,.pt (F4 b).cells] rB:=Fe f227 0x81065da2e0 [] (JK.eq_1 ..)
instance(a):CT (I9 a) 228 [lB a] rI:=CW f228 0x9eb5080004cc77810e324532a19d6181606b69b508000497aae79001 [] (I9.eq_1 ..) (BJ 0 10 9 0)
instance(a b):CT (GH a b) 166 [F4 a,lA b] rI:=CW f166 0xaa8801060106013c01a875c5a75c5fe7c581a8f8a8a7f65fbdc577810e1061819da2e0 [] (GH.eq_1 ..) (⟨⟩:HJ 40 λ(c:Bool)=>[(6,.tv (eB c))])
instance(a b):CT (KG a b) 104 [AS a,eI b] rI:=CW f104 0x9eb102b49b044532e50443909f32b1028175c50b0157e701820e0155778175c5a10a9af65fa10e100445015da19d5d053ded00c9e5daa2e0 [] (KG.eq_1 ..) (BJ 1 7 6 0)
instance(a b):CT (LZ a b) 167 [eI a,.pt (AS b).cells] rB:=Fe f167 0xcb755d329abc [] (LZ.eq_1 ..)
instance(a b):CT (N7 a b) 169 [Cu a,.pt (Cu b).cells] rB:=Fe f169 0x81065da2e0 [] (N7.eq_1 ..)
instance(a b):CT (KX a b) 170 [eI a,eI b] rB:=Fe f170 0xcb0aa8329aab32a8329abc [] (KX.eq_1 ..)
instance(a b):CT (KE a b) 105 [AS a,eI b] rI:=CW f105 0x817719013c010a9d03e30305749dba42c519610a080fa732080f5f61810e100745015fa19d5d8110053d074b01c90744077fc4e0 [] (KE.eq_1 ..) (⟨⟩:HJ 25 λ(c:Bool)=>[(25,.tv (eB c))])
instance(a):CT (Dy a) 64 [AS a] (rT eS eI):=Jl f64 0x81bf002e2d2cecd5de5d7e0155074bdec9074407436b692e2d2cecd7c3321d1c1becd5de5d7e0155ed9ec9e5da32691d1c1becd73177bfcb75f6db81bf8175a23fb6 [.mv (.c (.str ⟨#[]⟩)),.mv (.c (.str ⟨#[]⟩)),.mv (.c (.str ⟨#[]⟩)),.mv (.c (.str ⟨#[]⟩))] (Dy.eq_1 ..) (BJ 1 29 28 0) (BJ 3 46 45 0)
instance(a):CT (ND a) 70 [eI a] rB:=Fe f70 0x81a8ab9001 [] (ND.eq_1 ..)
instance(a b c):CT (MY a b c) 71 [AS a,DE b,eI c] rI:=Fe f71 0xaa8a07055c01ab32a1605e41077f5f5d6080077f5f5d57be618cc46ab2 [] (MY.eq_1 ..)
instance(a b):CT (G5 a b) 35 [AS a,DE b] rI:=Jl f35 0x9e44435e04d59b0196816b6944435e04975f5e022726255e05d58a9af05c6180da5d57be61818c5e02692726255e05d73157cd5f0bf6dbdb57016c0191e1a9 [] (G5.eq_1 ..) (BJ 0 39 38 0) (BJ 2 68 67 0)
instance(a):CT (Fa a) 36 [lI a] (rO lI):=CW f36 0x821830b508bacc01f4053214a117d8013069b508ba819594991a32400001 [] (Fa.eq_1 ..) (Bu 0 10 9 0 (hX 3 1 eI))
instance(a b):CT (EY a b) 13 [AS a,DE b] (rT DE eI):=Fk f13 0x4013b81b302460e5f0e5d57b332467e96d3c9a9 [] [.cell 4 (Y 2),.tmp 5] λr h c d=>by
  unfold EY at h;exact nz
instance(a):CT (Eu a) 89 [CZ a] rB:=Fe f89 0x81758d74b6 [] (Eu.eq_1 ..)
instance(a b):CT (Mp a b) 172 [eI a,.pt (AS b).cells] rB:=Fe f172 0xcb755d329abc [] (Mp.eq_1 ..)
instance(a b):CT (Gs a b) 111 [AS a,lI b] rI:=Fe f111 0xaa8e100157016c0191e1e0 [] (Gs.eq_1 ..)
instance(a b):CT (Ly a b) 174 [AS a,eI b] (rO lI):=CW f174 0x82182914055cb2033c0180da5dff19014fa601199a695cb230ce0140e0 [] (Ly.eq_1 ..) (⟨⟩:HW 0 λ(c:Int×Fp)=>[(1,.tv (eI c.1)),(5,.xo 1 (w? eI c.2))])
instance(a b c):CT (KF a b c) 112 [AS a,eI b,eI c] rB:=Fe f112 0x810e7d01e193b202 [] (KF.eq_1 ..)
instance(a b c d):CT (Hf a b c d) 67 [AS a,eI b,eI c,eI d] rB:=Fe f67 0xcb0e5e41077fc4557d80077fc4f1cd5f32a8ab0ea632e1935e0103 [] (Hf.eq_1 ..)
instance(a b):CT (FO a b) 139 [AS a,DE b] rI:=Fe f139 0x8161b30249919601a9 [] (FO.eq_1 ..)
instance(a b):CT (Hv a b) 107 [eI a,eI b] rB:=Fe f107 0xcb9a329abc [] (Hv.eq_1 ..)
instance(a):CT (Md a) 106 [eI a] rB:=Fe f106 0x819d9001 [] (Md.eq_1 ..)
instance(a b):CT (NW a b) 109 [Bx a,eI b] rB:=Fe f109 0xcb0e9af80a0e9a5f7da2e0 [] (NW.eq_1 ..)
instance(a b):CT (Me a b) 108 [Bx a,.pt (BD b).cells] rB:=Fe f108 0x819ddb7601e0 [] (Me.eq_1 ..)
instance(a):CT (Dh a) 65 [BD a] rI:=Fe f65 0xaa8e105f57bf5d57cdf60ba2b6 [.call 49 [.s 14,.c (.clo 106 [])]] (Dh.eq_1 ..)
instance(a b):CT (HO a b) 255 [eI a,.pt (AS b).cells] rB:=Fe f255 0x8175a2bc [] (HO.eq_1 ..)
instance(a b):CT (HP a b) 256 [Bx a,.pt (AS b).cells] rB:=Fe f256 0x81755fa2e0 [] (HP.eq_1 ..)
instance(a b c):CT (C5 a b c) 257 [eI a,eI b,eI c] rB:=Fe f257 0xcb9a329a3202d1 [] (C5.eq_1 ..)
instance(t a):CT (FG t a) 110 [AS t,eI a] (rT lA eI):=tD f110 0x818218070115140703cc014d0354044c0e170354044c01140114de07016915140703819514991a01f104c09ba601e10440e0 [] (FG.eq_1 ..) (Bu 0 21 20 0 (hX 7 4 F4)) (⟨⟩:HS 31) (⟨⟩:HX 33 λ(a:gi)(v:List ByteArray)=>gi.mk a.gp a.Low a.Aag v)
instance(a b c):CT (Ge a b c) 258 [AS a,CG b,FI c] (rT F4 eB):=Fk f258 0x81ede50443c457ed0346be7501c48291605dc6f1ed0346be75c6a203c9fe [] [.cell 6 (Y 4),.tmp 7] λr h d e=>by
  unfold Ge at h;exact nz
instance(a b):CT (Ic a b) 329 [eI a,Qu b] rB:=Fe f329 0x81a8c4a8c40a9a5d5ca2b601 [] (Ic.eq_1 ..)
instance(a b):CT (JT a b) 300 [eI a,GT b] rI:=Fe f300 0x8177cb9d550342329d55c36181a85d5ca2b601 [] (JT.eq_1 ..)
instance(a b):CT (Hu a b) 259 [eI a,lT b] rI:=CW f259 0x9e1312110004d59bbb5c4b04c9bb05430069131211000497aae70157eb329abc [] (Hu.eq_1 ..) (BJ 0 19 18 0)
instance(a b):CT (Df a b) 198 [AS a,CG b] rI:=CW f198 0xaaa014bdba42c5085e3c3b3a085e06cc3c3b3a085e063c3b3a085e063c01f492ee148592ee578a9d80ea0a9d05c592ea0861ed034991e5bb55ed05c9e50443085e693c3b3a085e06d7ee993fc557cdba425c0ba757bec5578a0e10f77d10c6bde657016c0191e1a9 [.mkx 1 [.bool false] (.s 55)] (Df.eq_1 ..) (Bu 0 60 59 0 (hX 8 1 eB))
instance(a b):CT (Ny a b) 301 [eI a,.pt (AS b).cells] rB:=Fe f301 0x8175a2bc [] (Ny.eq_1 ..)
instance(a b):CT (Nz a b) 302 [Bx a,.pt (AS b).cells] rB:=Fe f302 0x81755fa2e0 [] (Nz.eq_1 ..)
instance(a b):CT (J7 a b) 260 [AS a,BD b] rB:=Fe f260 0xcb9d10c49d10a2a9 [] (J7.eq_1 ..)
instance(a b):CT (Ov a b) 304 [FI a,.pt (FI b).cells] rB:=Fe f304 0x81a85ff65da2e0 [] (Ov.eq_1 ..)
instance(a b c):CT (LQ a b c) 261 [AS a,Bb b,eI c] rI:=Fe f261 0xaa8e100445015e41e357ebc4a8c4a88d41e3a2a8a20a7501f65fb306c955ea8291605d925b06a557cd925be35d5c5d073ded05c9e5da5e4106746ab2 [] (LQ.eq_1 ..)
instance(a b):CT (J6 a b) 199 [AS a,Bb b] rI:=CW f199 0x9e2f2e5e04d59b01f355816b692f2e5e04975e41e37781755e41e3a10a75ba41e35c8d41c38d41e3a19dfa06a5bdfa0674a9 [] (J6.eq_1 ..) (BJ 1 47 46 0)
instance(a b c):CT (Dd a b c) 68 [BD a,BD b,BR c] rI:=Jl f68 0x9e494847730306d5eba760a75d5c5f605f5d57855d5dadfce4ef5fef5f57cd5fab6181606b69494847730306d7c3738d2c2b2a730306d585f0f057cd5dab6181605c048d692c2b2a730306d73157cd5f0bf6dbdbbd55bde1fe [] (Dd.eq_1 ..) (BJ 0 44 43 0) (BJ 2 73 72 0)
instance(a):CT (Ez a) 69 [lI a] rI:=Fe f69 0x81152a142914991a9001 [] (Ez.eq_1 ..)
instance(a b c):CT (Cn a b c) 33 [BD a,BD b,BR c] rB:=Fe f33 0xcb755f0ec40a755d0e5d5c0e559601fe [] (Cn.eq_1 ..)
instance(a b):CT (IV a b) 241 [lI a,eI b] rI:=CW f241 0x9e09896b05d5eb600532329a578a9aab6181606b6909896b059781bc [] (IV.eq_1 ..) (BJ 0 9 8 0)
instance(a b):CT (LV a b) 242 [lI a,eI b] rB:=Fe f242 0x8161019132bc [] (LV.eq_1 ..)
instance(a b):CT (Mn a b) 177 [BD a,If b] rI:=CW f177 0x9e1e1d1c5e05d58a9d5e41d95fa29d80d95f5d816000691e1d1c5e05d7c3bd0b5f5fbddba2a9 [] (Mn.eq_1 ..) (BJ 0 30 29 0)
instance(a b):CT (FY a b) 115 [BD a,If b] rI:=Fe f115 0x810e96bde1a9 [] (FY.eq_1 ..)
instance(a b):CT (ER a b) 73 [BD a,If b] (λr=>.tp [BD r.1,BR r.2.1,eI r.2.2]):=Fk f73 0x73023b81b3b302460e5f0e5d550873ba2b2a2908f508ccdcc303480347760401744aee91a7a24ac3915f5dfcef5f81600873ba692b2a2908f508d7c308f50519181708f508ccdc3101d4f00431816008f5056919181708f508d731fd57b3b3324604467e96d3c9fda9 [] [.cell 4 (Y 2),.cell 5 (Y 2),.tmp 6] λr h c d=>by
  unfold ER at h;have:=Bu 0 25 24 0 λs0:ci=>[(8,.bx [⟨true,lI s0.bq⟩,⟨true,lE s0.ca⟩])];have:=Bu 2 43 42 0 λs2:ci=>[(8,.bx [⟨true,lI s2.bq⟩,⟨true,lE s2.ca⟩])];exact nz
instance(a):CT (LP a) 200 [Bb a] rI:=Fe f200 0xaabe550da55b06a5bd550da55b06a557016cb3b30249fd1191550ba55b0174b6 [] (LP.eq_1 ..)
instance(a b):CT (Kh a b) 262 [lI a,eI b] (rO lI):=CW f262 0x82029a89050004cc89050004890500043cb2d4d3be32815c016989050004a101c001406b02 [] (Kh.eq_1 ..) (Bu 0 8 7 0 (hO 5 lI))
instance(a):CT (LN a) 201 [Bb a] (rT lI lI):=Fe f201 0x82820e0b805be3800d420e0b925be3920d74400140b6 [] (LN.eq_1 ..)
instance(a b c):CT (Lt a b c) 263 [eI a,.pt (AS b).cells,.pt (BD c).cells] rB:=Fe f263 0x815e410443f0a202d1 [] (Lt.eq_1 ..)
instance(a b c):CT (Hl a b c) 264 [eI a,.pt (BD b).cells,.pt (AS c).cells] rB:=Fe f264 0x819d60a75d605f5d5d55fcefc402d1 [] (Hl.eq_1 ..)
instance(a b c d):CT (H7 a b c d) 202 [AS a,BD b,lI c,lI d] rB:=Fe f202 0xcb9d10329d10326a5e02 [] (H7.eq_1 ..)
instance(a):CT (FQ a) 331 [AR a] rB:=Fe f331 0x81a8c55c75ba4275a775f775c67580ee0b92eef909c9bb0474b6 [] (FQ.eq_1 ..)
abbrev AbL(n:Nat):Prop:=∀(c:c8),CT (Bf n c) 305 [AR c] rB
abbrev AbN(n:Nat):Prop:=∀(k:c8),CT (Bv n k) 333 [AR k] rB
theorem xK(n:Nat)(_ih_305:AbL n)(_ih_333:AbN n)(c:c8):CT (Bf (n+1) c) 305 [AR c] rB:=Fj f305 0xcb083f5f32ff04d304d3656173d33c010a0ecf5c011a09043005651a090430058173d33c010a0ecf5c6173d33c010a0ecf5c61058331a10bc4b6 [.call 332 [.s 42,.c (.clo 333 [])]] λh=>by
  unfold Bf at h;have:HJ 10 λ(a:Bool)=>[(4,.tv (eB a))]:=⟨⟩;exact nz
theorem xQ(n:Nat)(_ih_305:AbL n)(_ih_333:AbN n)(k:c8):CT (Bv (n+1) k) 333 [AR k] rB:=Fj f333 0x819dcf01b6 [] λh=>by
  unfold Bv at h;exact nz
theorem qH:∀n:Nat,AbL n/\AbN n:=by
  intro n
  induction n with
  |zero=>exact⟨(λc=>⟨λ_ h=>e_⟩),(λk=>⟨λ_ h=>e_⟩)⟩
  |succ n a=>exact⟨xK n a.1 a.2,xQ n a.1 a.2⟩
instance(c):CT (HZ c) 305 [AR c] rB:=⟨λr h=>by
  obtain ⟨N,a⟩:=Dc h;exact((qH N).1 c).snd r (a N (a5 _))⟩
instance(k):CT (RM k) 333 [AR k] rB:=⟨λr h=>by
  obtain ⟨N,a⟩:=Dc h;exact((qH N).2 k).snd r (a N (a5 _))⟩
abbrev Q_306(n:Nat):Prop:=∀(c:c8),CT (Cl n c) 306 [AR c] (rT eI eI)
theorem xM(n:Nat)(_ih_306:Q_306 n)(c:c8):CT (Cl (n+1) c) 306 [AR c] (rT eI eI):=Fj f306 0xa1327302730284855d7301030dd6730106cc322cab32a191cf094b0ac9cf0943730103690dd6730106d7c3a132b6 [] λh=>by
  unfold Cl at h;have:=Bu 0 13 12 0 λs0:Int×Int=>[(4,.tv (eI s0.1)),(5,.tv (eI s0.2))];have:HJ 31 λ(a:Int)=>[(5,.tv (eI a))]:=⟨⟩;exact nz
theorem xL:∀n:Nat,Q_306 n:=by
  intro n
  induction n with
  |zero=>exact(λc=>⟨λ_ h=>e_⟩)
  |succ n a=>exact xM n a
instance(c):CT (JB c) 306 [AR c] (rT eI eI):=⟨λr h=>by
  obtain ⟨N,a⟩:=Dc h;exact((xL N) c).snd r (a N (a5 _))⟩
instance(a):CT (F3 a) 265 [AR a] rI:=Fe f265 0xaaebab618191cf57becf01b6 [] (F3.eq_1 ..)
instance(a b):CT (IE a b) 334 [FI a,.pt [eI b]] rB:=Fe f334 0xd08d5beae0 [] (IE.eq_1 ..)
instance(a b c):CT (Eo a b c) 307 [AS a,CG b,eI c] rI:=CW f307 0x9e8904033c083d014b05304b0b49837701be10a70069c503890403083d014b0bc901bdbbe16ab2 [] (Eo.eq_1 ..) (⟨⟩:HW 0 λ(d:Int)=>[(8,.tv (.pt [eI d]))])
abbrev Q_266(n:Nat):Prop:=∀(t:AC)(p:d5)(c:c8),CT (CP n t p c) 266 [AS t,CG p,AR c] rI
theorem xG(n:Nat)(_ih_266:Q_266 n)(t:AC)(p:d5)(c:c8):CT (CP (n+1) t p c) 266 [AS t,CG p,AR c] rI:=Fj f266 0x9e353433040305d59bcfbb55094b0ac9cf09430069353433040305d7c3738d738d3cf9bb57be5502fbe6bd5502fbe6bdc5bbf185c5c5f909c9bb044285a293bfb6 [.Abu (.s 1)] λh=>by
  unfold CP at h;have:=BJ 0 53 52 0;exact nz
theorem xF:∀n:Nat,Q_266 n:=by
  intro n
  induction n with
  |zero=>exact(λt p c=>⟨λ_ h=>e_⟩)
  |succ n a=>exact xG n a
instance(t p c):CT (Mu t p c) 266 [AS t,CG p,AR c] rI:=⟨λr h=>by
  obtain ⟨N,a⟩:=Dc h;exact((xF N) t p c).snd r (a N (a5 _))⟩
instance(a b c):CT (Dg a b c) 203 [AS a,CG b,AR c] rI:=Fe f203 0x810ecfbb55bdcfbdbbe1fe [] (Dg.eq_1 ..)
instance(a b):CT (Is a b) 140 [AS a,Bb b] rI:=Fe f140 0x810ecf1042bb01a557be32fa06a5828291f3bdf3bdf355bdbb01a557be5d57016c0191e1a9 [] (Is.eq_1 ..)
instance(a b):CT (Ix a b) 142 [CZ a,.pt [eI b]] rB:=Fe f142 0xd003c4e0 [] (Ix.eq_1 ..)
instance(a b c):CT (FN a b c) 90 [AS a,DE b,Bb c] rI:=Jl f90 0x9e727170050305d5be60a7925bc3605f925bc35d55fc7603430069727170050305d701c8c3055e646362050305d58e105d0b3d014b0bc960055e69646362050305978ea6925be3925bc357cd805bc30b800b740a75925bc30b920b74a89210740a08030f740861a88d41c35c75ba41e3755e41e375ba41c30b5e41c3bdf355bd9601fe [] (FN.eq_1 ..) (BJ 0 100 99 0) (BJ 2 114 113 0)
instance(a):CT (CY a) 48 [Gw a] rI:=CW f48 0x9e1e1d1cecd59bf35502fb194b0cc9f3194300691e1d1cecd7044257bfc657016cb30249915502fb57e7ba74b6 [.call 88 [.s 25,.c (.clo 89 [])]] (CY.eq_1 ..) (BJ 0 30 29 0)
instance(a b c):CT (K9 a b c) 66 [AS a,eI b,lI c] rI:=CW f66 0x9e2322210204d5eba78cab5f6032ed8103c9e504436b69232221020497aae7010b32829101f1830241da5d5785db3293b202 [] (K9.eq_1 ..) (BJ 0 35 34 0)
instance(a b):CT (Ec a b) 32 [AS a,CM b] (rT eI eI):=Jl f32 0x819e3e3d3c5e05d5debe60a7c6605fc65df1dee75f5dad81e47603436b693e3d3c5e05d70141315e022827265e05d581327e8cf855a18c5e02692827265e05d76d5781e7c60ba757819be657de6c01915532a9 [] (Ec.eq_1 ..) (BJ 0 40 39 0) (BJ 2 62 61 0)
instance(a b c):CT (Lv a b c) 102 [AS a,Bb b,CM c] rI:=Fe f102 0x816101917655bdf3f1016c0191e1fe [] (Lv.eq_1 ..)
instance(a b):CT (Ky a b) 308 [eI a,.pt (AS b).cells] rB:=Fe f308 0x8175a2bc [] (Ky.eq_1 ..)
instance(a b):CT (Kz a b) 309 [Bx a,.pt (AS b).cells] rB:=Fe f309 0x81755fa2e0 [] (Kz.eq_1 ..)
instance(a b):CT (GM a b) 267 [AS a,BD b] rB:=Fe f267 0xcb9d10c49d10a2a9 [] (GM.eq_1 ..)
instance(a b c):CT (FE a b c) 207 [AS a,BD b,BD c] rI:=CW f207 0xaa8a9d96019d96738d181716730306d59b55b3fd550243738d691817167303069702c79657016c0191e1fe [] (FE.eq_1 ..) (BJ 0 24 23 0)
instance(a b):CT (I8 a b) 315 [AS a,eI b] (rT lI eI):=CW f315 0x8182020701131207025ccc131207025c131207025c3cb2d4d38e3255de070169131207025c97a2c05701c09ba601553240e0 [] (I8.eq_1 ..) (Bu 0 19 18 0 (hO 7 lI))
instance(a):CT (G0 a) 275 [AS a] (rO (eL 1 (eL 1 eB))):=Jl f275 0x8202300d0c3004ccb2d418020d0c0530051c1b1a0d0c053008cc01f4011481600d0c053005691c1b1a0d0c05300897de82910155993fdbde30690d0c300497a2c00140b6 [.mkx 1 [.bool false] (.s 18)] (G0.eq_1 ..) (Bu 0 13 12 0 (hO 3 (eL 1 (eL 1 eB)))) (Bu 2 28 27 0 (hX 5 1 eB))
instance(a b c d):CT (G2 a b c d) 216 [AS a,BD b,BD c,BR d] rI:=Jl f216 0x9e474645b10506d5eba760a75d5c5f605f5d57855d5dadfce4ef5fef5f57cd5fab6181606b69474645b10506d7c3b1050325242309b10507d58860f0608ca257cd5dab61818cb105036925242309b10507d731820ef1cd5f0bf6db0ba26aa9 [] (G2.eq_1 ..) (BJ 0 37 36 0) (BJ 2 71 70 0)
theorem zr(l:Fp)(r:Bool)(h:IA l=Y r):AW prog 272 [lI l] (.sh (eB r)):=by
  unfold IA at h;rw[<-pz]at h;split at h
  · rename_i a
    cases h;exact fM l a
  .cases h
instance AAl(l:Fp):Ct Go.Proofs.Tryz.prog (IA l) 272 [lI l] (rS eB):=⟨zr l⟩
instance(a b c d e):CT (GD a b c d e) 214 [AS a,BD b,BD c,BR d,eB e] rI:=Fe f214 0xaa8a0a0e5f7d5d32bd9696bd5596016a6a0401 [] (GD.eq_1 ..)
instance(a b c):CT (F1 a b c) 273 [AS a,CG b,CM c] rI:=Fe f273 0x816101917655bdbbe1fe [] (F1.eq_1 ..)
instance(a b):CT (Ey a b) 313 [Qu a,lI b] rI:=Fe f313 0xd05f60a2575f85a2e0 [] (Ey.eq_1 ..)
instance(a b):CT (HC a b) 341 [eI a,eI b] (rT eI Kl):=Fe f341 0xa15c3f5c3f013f61817c01283f013f32bc [.cvt .u64 (.s 9),.cvt .u64 (.s 11),.bin (.w) .shr (.s 16) (.c (.int .u64 63)),.bin (.w) .shr (.s 18) (.c (.int .u64 63)),.cvt .i64 (.s 21)] (HC.eq_1 ..)
instance(a b):CT (FR a b) 340 [Qu a,.pt [lI b]] (λr=>.tp [eI r.1,Kl r.2.1,eB r.2.2]):=Fe f340 0x81a132a1915f605d037781a10a75035d5c5d81a132a1915fd0a232e0 [] (FR.eq_1 ..)
instance(a b):CT (Gi a b) 314 [GT a,lI b] rB:=Fe f314 0xcba8aba2a8ab5d810ea60e320e32578a08320861a1117c010f55034261a1117c010f55c3611001a9 [] (Gi.eq_1 ..)
instance(a b c):CT (Ia a b c) 274 [CG a,CM b,BR c] (rT lI eI):=Jl f274 0x81821808d84b4a0804d501c0882014bbf904c9bb05430801694c4b4a0804d70442085e1918170908730308d501c08501201455ee191817d6090873030a191817d6090873030a3c01f401f40580ee321401148a0817d801145c6192ee81605f60605d5da7ed05c9e50443085e691918170908730308d7ee99993fc53fc53240fe [.mkx 1 [.int .i64 0] (.s 17),.mkx 1 [.bool false] (.s 20)] (Ia.eq_1 ..) (Bu 0 25 24 0 λs0:Fp×QQ=>[(8,.xo 1 (w? eI s0.1)),(9,.xo 1 (w? eB s0.2))]) (BJ 2 76 75 0)
instance(a b c d):CT (Ew a b c d) 215 [AS a,CG b,CM c,BR d] (rT lI eI):=Fe f215 0x81827c0e5576bb5701c09b9631e6f101c09b76bb5532406aa9 [] (Ew.eq_1 ..)
instance(a b c d):CT (Jk a b c d) 153 [AS a,Bb b,CM c,Dv d] rI:=Fe f153 0xaabef857016c8291e676bb01a557850e030ffbe6fa01a5016aa9 [] (Jk.eq_1 ..)
instance(a b c d):CT (GE a b c d) 154 [AS a,BD b,BD c,BR d] (rT BD eI):=Fk f154 0x81b3550c08022726250c080606ccdc3101d4f0043181600c0802692726250c080606d7310250fd3f0e5f57b3ec467e969657b3ec467e559601fd6aa9 [.zt [.z ⟨true,.list 1 []⟩,.w 34]] [.cell 8 (Y 2),.tmp 9] λr h e f=>by
  unfold GE at h;have:=Bu 0 39 38 0 λs0:ci=>[(12,.bx [⟨true,lI s0.bq⟩,⟨true,lE s0.ca⟩])];exact nz
instance(a):CT (DO a) 217 [Ig a] rI:=Fe f217 0x810e5504fbbd5506a502fb01b6 [] (DO.eq_1 ..)
instance(a b):CT (Gg a b) 276 [lI a,lI b] (rO (eL 2 Xd)):=Jl f276 0x82029ab5056b05ccb5056b05b5b1056b07dfb5b1056b07b5b1056b073c0202480247054632028a0a9d01329d01ab60326032b5056b059f32b5b1056b07d0615c0169b5056b0597d3c002406b02 [] (Gg.eq_1 ..) (Bu 0 10 9 0 (hO 5 (eL 2 Xd))) (Bu 2 7 0 0 (hO 5 (eL 2 Xd)))
instance(a):CT (D8 a) 218 [Ig a] (rT (eL 2 Xd) (eL 2 Xd)):=Fe f218 0x82820e80044280e30e92044292e302400240b6 [] (D8.eq_1 ..)
instance(a):CT (Dm a) 277 [Ig a] (rO lI):=CW f277 0x820230b5083005ccb5083005b50830053cb2d4d3be01920442a18c3069b5083005d75b0674c00140b6 [] (Dm.eq_1 ..) (Bu 0 10 9 0 (hO 3 lI))
instance(a):CT (DZ a) 219 [Ig a] (rO lI):=CW f219 0x820204010dd6043006cc0dd60430060dd60430063cb2d4d38a0a0ea7320e5f329d0180e3ad81e4ef0401690dd6043006d70141eac0820e08440140b6 [] (DZ.eq_1 ..) (Bu 0 13 12 0 (hO 4 lI))
instance(a b c):CT (G9 a b c) 220 [eI a,lI b,lI c] (rO lI):=Jl f220 0x82020a01201f1e0a04cc201f1e0a04201f1e0a043cb2d4d38861818c0a0169201f1e0a04979801c0070111100f070205cc11100f07020511100f0702053c01f40114be32a18c07016911100f0702059781993f324002d1 [.mkx 1 [.bool false] (.s 13)] (G9.eq_1 ..) (Bu 0 17 16 0 (hX 7 1 eB)) (Bu 2 32 31 0 (hO 10 lI))
instance(a b c d):CT (HK a b c d) 155 [BD a,BD b,If c,BR d] (rT If eI):=Fk f155 0x8013b81b302460e5f5f0b5f0e5d5ddb77b3014681750e084481b30146d075010b01828291084457b332467e0844084b0dc906469696d3c96aa9 [] [.cell 8 (Y 2),.tmp 9] λr h e f=>by
  unfold HK at h;exact nz
instance(a b c d e f):CT (F2 a b c d e f) 278 [AS a,CG b,AR c,CM d,Dv e,eB f] rI:=Fe f278 0xaabef857016c8291e676bb55bd01e6e6e6f1016c01917655bdcfbbe1936a6a9a [] (F2.eq_1 ..)
instance(a b c):CT (Gh a b c) 352 [eI a,lI b,lI c] (rO lI):=CW f352 0x821807010f0e0d070205cc01f48c3214a18c0701690f0e0d0702059781991a3247014002d1 [] (Gh.eq_1 ..) (Bu 0 15 14 0 (hX 7 1 eI))
theorem xb:CK f335 (.seq (.region [⟨Y 4,.mv (.c (.int .i64 0)),W⟩] [0,1])
 (.seq (.seq (.region [⟨Y 5,.mv (.s 0),W⟩,
    ⟨Y 6,.isn (.s 5),W⟩] [0,1,6])
  (.cond (.s 6) (.seq (.region [⟨Y 4,.mv (.c (.int .i64 (-1))),W⟩] [4])
   (.ret))
  (.skip [0,1])))
 (.seq (.region [⟨Y 7,.mv (.s 0),W⟩,
    ⟨Y 8,.mv (.s 1),W⟩,
    ⟨Y 9,.iad (.s 7) (.s 8) 1,W⟩,
    ⟨Y 10,.ld (.s 9),W⟩,
    ⟨Y 4,.mv (.s 10),W⟩] [4])
 (.ret)))) [.tmp 4]:=b!
instance AAX(l:Option Fp)(i:Int):Ct Go.Proofs.Tryz.prog (LS l i) 335 [(eO 1 eI) l,eI i] (rS eI):=Fi xb λr h a b=>by
  cases l with
  |none=>replace h:Y (-1)=Y r:=h;exact au|some l=>replace h:((Wx l).bind λ_=>(idx l i).bind λx=>Y x)=Y r:=h;exact au
end Go.Sf.Sc
