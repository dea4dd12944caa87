/- Contracts of the functions. -/
import Derived.Test.YtpagkickoiafkaaGreatCon4
set_option linter.all false
set_option maxRecDepth 100000
set_option maxHeartbeats 4000000
open Option renaming some->Y,none->W
open Bool renaming true->X,false->T
open List renaming map->v?
namespace Go.Sf.Sc
open Go Go.Sf Go.Proofs.Tryz
instance(a b c d e):CT (I3 a b c d e) 102 [AO a,An b,An c,Aw d,eB e] rI:=Fe f102 0x810e0138f3a8e838ac6060e4 [] (I3.eq_1 ..)
instance(a b c):CT (Ki a b c) 99 [AO a,BP b,Bq c] rI:=Fe f99 0x815e017c6ba8c89aaced [] (Ki.eq_1 ..)
instance(a b):CT (I4 a b) 162 [Rh a,lI b] rI:=Fe f162 0xbc5c5d9f555c859fdb [] (I4.eq_1 ..)
instance(a b):CT (Kf a b) 216 [Rh a,lI b] (rT eI eB):=Fe f216 0xa2055c5d9f5581cb015a585a55815c855a30db [] (Kf.eq_1 ..)
instance(a b):CT (MQ a b) 163 [FQ a,lI b] rB:=Fe f163 0xf8a501969fa501965a558a0830085e817c01380342a27c01ac6edb [] (MQ.eq_1 ..)
instance(a b c):CT (Hm a b c) 101 [BP a,Bq b,Aw c] (rT lI eI):=H6 f101 0xf518087308a1b201c08820149a0578d24208018dd26e0e08a181085bc1086a0306b201c08501201438cc0c0bc1086a03080c0bc1086a03083c014de90577cc3014014de901148a0817e90114585e6ccc815d5c5d5d5a5aa7ef06c9eadfa7085b8de2c1086a030681993fd4993fd43040ed [.mkx 1 [.int .i64 0] (.s 16),.mkx 1 [.bool T] (.s 19)] (Hm.eq_1 ..) (BG 0 10 3 2 λs0:Fp×Ne=>[(8,.xo 1 (v? eI s0.1)),(9,.xo 1 (v? eB s0.2))]) (BA 2 14 3 4)
instance(a b c d):CT (MV a b c d) 103 [AO a,BP b,Bq c,Aw d] (rT lI eI):=Fe f103 0xf56f906b9a5501c0e8c6c6a801c0c86b9a3830406092 [] (MV.eq_1 ..)
instance(a b):CT (HV a b) 104 [lI a,lI b] rB:=B0 f104 0xaa05cab285dc5d8c8d96cab4e0010bfa [] (HV.eq_1 ..) (BA 0 5 0 0)
instance(a b c d):CT (JU a b c d) 105 [AO a,An b,An c,Aw d] (rT An eI):=Fk f105 0x81a6380b3e0b08020c0b8489ba014de95d915a9f1d320b080265151db90c0b848981025011c927a8a658ee90f3ac08c96092 [] [.cell 8 (Y 2),.tmp 9] λr h f g=>by
  unfold JU at h;have:HW 0 λ(e:ci×Int)=>[(11,.bx [⟨X,.xl 1 (v? eI e.1.bq)⟩,⟨X,.xl 3 (v? CD e.1.ca)⟩]),(12,.tv (eI e.2))]:=⟨⟩;exact nz
instance(a b c d):CT (PO a b c d) 165 [An a,An b,FP c,Aw d] rI:=Fe f165 0x8190a8e838ac6092 [] (PO.eq_1 ..)
instance(a b):CT (Dw a b) 218 [lI a,eI b] rB:=B0 f218 0xaa05cab285015d8c8d96ca81bd [] (Dw.eq_1 ..) (BA 0 5 0 0)
instance(a b):CT (GB a b) 166 [lI a,lI b] (rO (eL 2 Rg)):=H6 f166 0x8202cf89b1ba89b1fc6905bafc6905fc69053c02024802470f4630028a0ab60130b60196dcdc89b1f0fc6905bc5801f089b18102c002406902 [] (GB.eq_1 ..) (BG 0 6 0 0 (hO 5 (eL 2 Rg))) (BG 2 7 0 0 (hO 5 (eL 2 Rg)))
instance(a b):CT (J6 a b) 169 [lI a,lI b] (rO lI):=B0 f169 0x8202cf89b1ba89b189b13cb3c4dc02d09601f089b1d9c001406902 [] (J6.eq_1 ..) (BG 0 6 0 0 (hO 5 lI))
instance(a b c d):CT (JS a b c d) 167 [An a,An b,FP c,Aw d] (rO lI):=B0 f167 0x820209010bc1070505ba0bc1070574c10705053cb3c401028ab85b41d65c300e77d65c30b6015c09018dbe0bc1070505f50e5a9fc0014093601300 [] (JS.eq_1 ..) (BG 0 11 5 1 (hO 9 lI))
instance(a b):CT (L5 a b) 168 [eI a,lI b] (rO lI):=B0 f168 0x8202cf89b1ba89b189b13cb3c40102d09601653089b1d9c001406902 [] (L5.eq_1 ..) (BG 0 6 0 0 (hO 5 lI))
instance(a b c d):CT (RP a b c d) 106 [An a,An b,FP c,Aw d] (rT FP eI):=Fk f106 0x8013b81a602460e0e5c5c0b5c0e0e5a5ae555a60646e090f3a8a6064685740e5c5c0b0e5a5a55a60106ee90f3ace76092 [] [.cell 8 (Y 2),.tmp 9] λr h e f=>by
  unfold RP at h;exact nz
instance(a b c):CT (JX a b c) 284 [eI a,lI b,lI c] (rO lI):=H6 f284 0x821807010907b304ba014de9dcdc140701f00907b3048107b30384026905ba19014fa91907b303653084026905d9ce014002ca [] (JX.eq_1 ..) (BG 0 8 0 0 (hX 7 1 eI)) (BG 2 9 1 0 (hX 7 1 eI))
instance(a b):CT (FO a b) 281 [.pt (UT a).cells,lI b] rB:=H6 f281 0xaa05ca5f58ca05ca8188010705b184896906ba010aa55de2e2a55dbef65a5a30bbec6bd6770497010705b18d7704973084896906a2ff05cacb01a7580b015cbbec6bd6770297698d77029796ca81bd [] (FO.eq_1 ..) (BA 0 5 0 3) (BG 2 8 0 5 (hT 7 eB))
instance(a b c):CT (C1 a b c) 283 [.pt (UT a).cells,lI b,eI c] rB:=B0 f283 0xaa0702b1b285015d8cff8a0308973074300702b1d902ca [] (C1.eq_1 ..) (⟨⟩:HW 0 λ(d:Int)=>[(7,.tv (eI d))])
noncomputable def ay:PC:=PC.of OK f282.body (xq bT 0x1840602690675840602690684060269063c005201c4304830470132ff8406026906f45de2e2a55dbebea55a9f0a2030b9a501917706cd58917706cdbbec6bd67704cd00018d770497b9840602690681bbec6bd67702cdfff70a970248024702460148304701483047040acd32e07702cd5e0b01650309cd0b030acd02ca) []
theorem yd:CK f282 ay []:=b!
theorem y4:PC.pE ay=X/\PC.r0 0 ay=X:=b!
abbrev Q_282(n:Nat):Prop:=∀(b:Am)(a:Fp)(l:Fp),CT (CO n b a l) 282 [.undef,lI a,lI l] (λr=>.bo (Bx b) (Bx r) 0 [])
theorem yO(n:Nat)(_ih_282:Q_282 n)(b:Am)(a:Fp)(l:Fp):CT (CO (n+1) b a l) 282 [.undef,lI a,lI l] (λr=>.bo (Bx b) (Bx r) 0 []):=qh yd y4 λr h e d f=>by
  unfold ay;unfold f282;unfold CO at h;have:HW 0 λ(c:Am×Int)=>[(0,.bx (Bx c.1)),(8,.tv (eI c.2))]:=⟨⟩;exact nz
theorem yM:∀n:Nat,Q_282 n:=by
  intro n
  induction n with
  |zero=>exact(λa d6 l=>⟨λ_ h=>d!⟩)
  |succ n b=>exact yO n b
instance(s_0 d6 l):CT (M9 s_0 d6 l) 282 [.undef,lI d6,lI l] (λr=>.bo (Bx s_0) (Bx r) 0 []):=⟨λr h=>by
  obtain ⟨N,a⟩:=Cl h;exact((yM N) s_0 d6 l).snd r (a N (aN _))⟩
noncomputable def ax:PC:=PC.of OK f215.body (xq bT 0x5804b15f5804b16ab13c005201c43048304732ff6ab18ab6916c02cd916c04cd385959b90a2030b9a501916c06cd58916c06cd00018d6c04cd5804b181ff3f0132e06c02cd5e0b01ff8a08200132580309cd0b030acd6902) [.wi 282 [.s 32,.s 33,.c (.list 1 [])] 0]
theorem yc:CK f215 ax []:=b!
theorem yz:PC.pE ax=X/\PC.r0 0 ax=X:=b!
abbrev Q_215(n:Nat):Prop:=∀(a:Am)(l:Fp),CT (CP n a l) 215 [.undef,lI l] (λr=>.bo (Bx a) (Bx r) 0 [])
theorem yG(n:Nat)(_ih_215:Q_215 n)(a:Am)(l:Fp):CT (CP (n+1) a l) 215 [.undef,lI l] (λr=>.bo (Bx a) (Bx r) 0 []):=qh yc yz λr h d c e=>by
  unfold ax;unfold f215;unfold CP at h;have:HW 0 λ(b:Am×Int)=>[(0,.bx (Bx b.1)),(5,.tv (eI b.2))]:=⟨⟩;exact nz
theorem yF:∀n:Nat,Q_215 n:=by
  intro n
  induction n with
  |zero=>exact(λa l=>⟨λ_ h=>d!⟩)
  |succ n b=>exact yG n b
instance(s_0 l):CT (JH s_0 l) 215 [.undef,lI l] (λr=>.bo (Bx s_0) (Bx r) 0 []):=⟨λr h=>by
  obtain ⟨N,a⟩:=Cl h;exact((yF N) s_0 l).snd r (a N (aN _))⟩
instance(a b c d e f):CT (NR a b c d e f) 160 [AO a,An b,An c,Aw d,eB e,eI f] (rS (eL 2 Aw)):=Fe f160 0x82030a97593f5900c2bf104630f3f3024060606a02 [.Aa7 [W,W,W,W,W,W,W,W,W,W,Y ⟨X,.list 2 []⟩] (.s 20),.wi 215 [.s 22,.c (.list 1 [])] 0] (NR.eq_1 ..)
instance(a b c):CT (JW a b c) 327 [lI a,eI b,eI c] rI:=B0 f327 0xaa07020003b28acf91965d8cf007020003b485010b3002ca [] (JW.eq_1 ..) (BA 0 7 0 0)
instance(a b c d e):CT (LP a b c d e) 285 [AO a,An b,An c,Aw d,eB e] (rT (eL 2 Aw) eI):=Fe f285 0xf5f202c0e001820e0138f3a802c0c80b5c0b5c5c5502c0c8e5e55a5502c0cb5c0bf6e5e55502c0e838ac02406060e4 [] (LP.eq_1 ..)
instance(a b):CT (Es a b) 112 [Rh a,lI b] (rT eI eI):=Fe f112 0xa20e01a881cb015a585a30db [] (Es.eq_1 ..)
instance(a b c d):CT (LR a b c d) 286 [BP a,Bq b,Aw c,lI d] (rT lI eB):=qf f286 0xf5180a01120a0403b201c08aa501969fa501965a5e6f0120143803425e6f012014ac42de05c99a0578d2420a018dd26e120a0403f804020d0b0ab706b201c0850130816f01201438cce30d0b0ab708e30d0b0ab7083c014de9014de90577026e6ccc146ccc148a0817e96ccc14586ccc815d5c5d5d5a5aa7ef06c9eadfa70a04028de20d0b0ab706810b0ab7050c0b0ab70307ba0c0b0ab703070c0b0ab703073c19014fa919e001304de9740130140b0ab70565a16e0c0b0ab7030781993fd499014f30563040936031 [.mkx 1 [.bool T] (.s 28)] (LR.eq_1 ..) (BG 0 12 4 3 λs0:Fp×Ne=>[(10,.xo 1 (v? eI s0.1)),(11,.xo 1 (v? eB s0.2))]) (BG 2 13 4 2 λs2:Fp×Ne=>[(10,.xo 1 (v? eI s2.1)),(11,.xo 1 (v? eB s2.2))]) (BA 4 18 4 4)
instance(a b c d e):CT (Hn a b c d e) 219 [AO a,AI b,Bq c,Bp d,eB e] (rT (eL 3 Bp) eI):=B0 f219 0xf502100111100e0c8406ba11100e0c840611100e0c84063c02034803471146013802433002a2fba7380243306b9a1001f011100e0c84068103c05503c080fb0138c6c638a6e702460e773277cc0b77320ed86ccc0bd8de0ac99a046e03406060e4 [] (Hn.eq_1 ..) (BG 0 17 14 0 (hO 16 (eL 3 Bp)))
abbrev Q_170(n:Nat):Prop:=∀(t:AC)(c:c9)(b:AH)(m:AN)(a:Bool),CT (Dx n t c b m a) 170 [AO t,AI c,Bq b,Bp m,eB a] (rT Ea eI)
theorem yC(n:Nat)(_ih_170:Q_170 n)(t:AC)(c:c9)(b:AH)(m:AN)(a:Bool):CT (Dx (n+1) t c b m a) 170 [AO t,AI c,Bq b,Bp m,eB a] (rT Ea eI):=Fk f170 0xbc4b124676de12460a0117150a07b707baff0a013bbc4b01144605479a6b0343306dde12c97c016b0343306bad09435c380a01f017150a07b707b4de0112eefb016b6bad38bcbc4b12460a01120a84b707b2de01134605479a80de12c97c016b6bad09785c380a018dbe120a84b707a205bc4b9a0e0a02e30a84b708baf70442054805479a04044255de0112eede12c97c016b6bad09785c380e0a028dbee30a84b708bc5012c93fbcbc4b01124655de124685f2de12eede12497c016b6bad09435c38bc83b912c96060e4 [.tl [.z ⟨T,.int .i64 0⟩,.z ⟨X,.list 1 []⟩,.z ⟨X,.list 1 []⟩,.z ⟨X,.list 1 []⟩,.z ⟨X,.list 5 []⟩]] [.cell 10 (Y 5),.tmp 11] λr h d e=>by
  unfold Dx at h;have:=BG 1 15 6 1 λs1:BC×BC=>[(10,.bx [⟨T,eI s1.1.x8⟩,⟨X,lI s1.1.gh.cE.bq⟩,⟨X,lI s1.1.gh.cE.ca⟩,⟨X,lI s1.1.gh.ek⟩,⟨X,H8 s1.1.ej⟩]),(14,.bx [⟨T,eI s1.2.x8⟩,⟨X,lI s1.2.gh.cE.bq⟩,⟨X,lI s1.2.gh.cE.ca⟩,⟨X,lI s1.2.gh.ek⟩,⟨X,H8 s1.2.ej⟩])];have:=BG 3 18 6 1 λs3:BC=>[(10,.bx [⟨T,eI s3.x8⟩,⟨X,lI s3.gh.cE.bq⟩,⟨X,lI s3.gh.cE.ca⟩,⟨X,lI s3.gh.ek⟩,⟨X,H8 s3.ej⟩])];have:=BG 5 23 21 0 λs5:BC=>[(10,.bx [⟨T,eI s5.x8⟩,⟨X,lI s5.gh.cE.bq⟩,⟨X,lI s5.gh.cE.ca⟩,⟨X,lI s5.gh.ek⟩,⟨X,H8 s5.ej⟩])];exact nz
theorem yB:∀n:Nat,Q_170 n:=by
  intro n
  induction n with
  |zero=>exact(λt c a m ei=>⟨λ_ h=>d!⟩)
  |succ n b=>exact yC n b
instance(t c h_2 m ei):CT (SM t c h_2 m ei) 170 [AO t,AI c,Bq h_2,Bp m,eB ei] (rT Ea eI):=⟨λr h=>by
  obtain ⟨N,a⟩:=Cl h;exact((yB N) t c h_2 m ei).snd r (a N (aN _))⟩
instance(a b c d e):CT (MW a b c d e) 107 [AO a,AI b,Bq c,Bp d,eB e] (rT eB eI):=Fe f107 0xa258f2816dde12497c016b6bad38306060e4 [] (MW.eq_1 ..)
instance(a b c d):CT (L8 a b c d) 64 [AO a,CE b,Bq c,Bp d] (rT FP eI):=Fk f64 0x81a601380d0b08030d0b08033c018a089630817c030f426b6bad1042a8a60106468530a6e77cc6380b42c6a8a60106468530a608c97cc6c63859b5a8a60646d0e255a60106eefbc66b9ab5a8a60646850e030f42c6c63859b5ace76092 [] [.cell 8 (Y 2),.tmp 9] λr h f g=>by
  unfold L8 at h;have:HJ 95 λ(e:Int)=>[(11,.tv (eI e))]:=⟨⟩;exact nz
instance(a b c):CT (KU a b c) 108 [AO a,Bq b,FP c] (rT Bq eI):=Fk f108 0x81bb6b0d06020e0d0b060405baf7026ec401485d915ae24704cc0d06028d5a730d0b06040581035010c93fa8bb0115eea6a6e708c9117c38c655bb0115ee017c6bac10c9ed [.tl [.v (.s 37) 0 2,.v (.s 37) 1 2,.z ⟨X,.list 1 []⟩]] [.cell 6 (Y 3),.tmp 7] λr h e f=>by
  unfold KU at h;have:HW 0 λ(d:AH×Int)=>[(13,.bx [⟨T,lI d.1.ci.bq⟩,⟨T,lE d.1.ci.ca⟩,⟨X,(eL 1 lI) d.1.eg⟩]),(14,.tv (eI d.2))]:=⟨⟩;exact nz
instance(a b):CT (L0 a b) 110 [lI a,eI b] (rO lI):=H6 f110 0x8218cf89b1ba89b1fc6905bafc6905fc69053c014de930148501dc89b1f0fc69058119014fa919cf653089b1d9ce01406902 [] (L0.eq_1 ..) (BG 0 6 1 0 (hX 5 1 eI)) (BG 2 7 0 0 (hX 5 1 eI))
instance(a b):CT (LT a b) 109 [eI a,lI b] (rO lI):=Fe f109 0x820e0130406902 [] (LT.eq_1 ..)
instance(a b c):CT (Mu a b c) 65 [AO a,Bq b,FP c] (rT Bq Aw):=Fk f65 0x706023ba6bb02460e5c0b77320e5a0bd86b01bb10c97c386b38e710c9ed [] [.cell 6 (Y 3),.cell 7 (Y 2)] λr h d e=>by
  unfold Mu at h;exact nz
instance(a b):CT (HZ a b) 66 [lI a,lI b] (rO lI):=B0 f66 0x8202cf89b1bab3c45d913002cff089b1d9c001406902 [] (HZ.eq_1 ..) (BG 0 6 0 0 (hO 5 lI))
instance(a b c d e):CT (Fu a b c d e) 67 [lI a,lI b,eI c,lI d,eI e] (rO lI):=B0 f67 0x82020c01d10b045b0007bad10b045b000775b3c40102d10b045b00073cb3c45d5ddc300285dc0c016530d10b045b0007d9c0820e013040045b6905 [] (Fu.eq_1 ..) (BG 0 13 2 0 λs0:Int×Fp=>[(4,.tv (eI s0.1)),(12,.ow (lI s0.2))])
instance(a b):CT (IB a b) 111 [lI a,eI b] rB:=B0 f111 0xaa05cab285015d8c8d96ca81bd [] (IB.eq_1 ..) (BA 0 5 0 0)
noncomputable def ou:PC:=PC.of OK f68.body (xq bT 0x35003530806020f09848906ba0f098489060f098489063cf70141320348034707465da75a5d5c5a5ae44132bbec6bd65c8e01770d420806028dbe0f098489068109848905c184b70775c184b707c184b7073c1fcc21221923cc0dc184b7b60d0bc184b70aba19014fa977e630190dc184b708f00e0d0bc184b70ad9ce01fb915aac4a59b9c4915a045932ffc184b707d0016c0d42098489058d9fc184b70781a608c93859da13c993ab92) []
theorem AAl:CK f68 ou [.cell 8 (Y 3)]:=b!
theorem AAr:PC.pE ou=X:=b!
instance(a b c d):CT (L7 a b c d) 68 [AO a,CE b,.agg [.undef,.undef,.undef],Aw d] (λr=>.ag [⟨X,lI c.ci.bq⟩,⟨X,lE c.ci.ca⟩,⟨X,.xn (v? lI c.eg)⟩] 2 (.vS [⟨X,lI r.ci.bq⟩,⟨X,lE r.ci.ca⟩,⟨X,.xn (v? lI r.eg)⟩])):=zv AAl AAr λr h i g j=>by
  unfold ou;unfold f68;unfold L7 at h;have:HW 0 λ(e:AH×Int)=>[(6,.bx [⟨X,lI e.1.ci.bq⟩,⟨X,lE e.1.ci.ca⟩,⟨X,.xn (v? lI e.1.eg)⟩]),(10,.tv (eI e.2))]:=⟨⟩;have:=BG 2 14 11 0 (hX 13 1 eI);have:HW 4 λ(f:AH×Int)=>[(6,.bx [⟨X,lI f.1.ci.bq⟩,⟨X,lE f.1.ci.ca⟩,⟨X,.xn (v? lI f.1.eg)⟩]),(15,.tv (eI f.2))]:=⟨⟩;exact nz
instance(a):CT (LO a) 69 [Bq a] (λr=>.vS [⟨X,lI r.ci.bq⟩,⟨X,lE r.ci.ca⟩,⟨X,.xn (v? lI r.eg)⟩]):=Fk f69 0x35003535b02045b0104ba1fcc2122014f91e25623cc5b028de2045b010481035013c93f1bc613c9c3 [.tl [.g 7 0 2,.g 7 1 2,.z ⟨X,.xn []⟩]] [.cell 2 (Y 3)] λr h b c=>by
  unfold LO at h;have:=BG 0 4 1 2 λs0:AH=>[(3,.bx [⟨X,lI s0.ci.bq⟩,⟨X,lE s0.ci.ca⟩,⟨X,.xn (v? lI s0.eg)⟩])];exact nz
noncomputable def ov:PC:=PC.of OK f70.body (xq bT 0x81bb6b073e0a0702130c0a846a07ba26240177e63025240123cc55bb1546f45b41e677df309677e677df3030fb91d838815d6ce6305a5e7c01380241e6300a0702f0130c0a846a07810c0a846a06d10a846a07bad10a846a07100ed10a846a09b2bb15468acf30a577e63077df965d6ce6305a5d6ce6305a5e7c01380241e630d10a846a076530100ed10a846a09815e7c01380241e6300c0a846a06f0d10a846a07f55b41066e10c993ab60e4) []
theorem AAm:CK f70 ov [.cell 10 (Y 3),.tmp 11]:=b!
theorem AAs:PC.pE ov=X:=b!
instance(a b c d e):CT (NS a b c d e) 70 [AO a,CE b,.agg [.undef,.undef,.undef],Aw d,lI e] (λr=>.ag [⟨X,lI c.ci.bq⟩,⟨X,lE c.ci.ca⟩,⟨X,.xn (v? lI c.eg)⟩] 2 (.tp [Bq r.1,eI r.2])):=zv AAm AAs λr h g f i=>by
  unfold ov;unfold f70;unfold NS at h;have:=BG 0 13 12 0 λs0:AH=>[(10,.bx [⟨X,lI s0.ci.bq⟩,⟨X,lE s0.ci.ca⟩,⟨X,(eL 1 lI) s0.eg⟩])];have:=BG 2 16 13 0 λs2:AH=>[(10,.bx [⟨X,lI s2.ci.bq⟩,⟨X,lE s2.ci.ca⟩,⟨X,(eL 1 lI) s2.eg⟩])];have:=BG 4 19 12 0 λs4:AH×AH=>[(7,.bx [⟨X,lI s4.1.ci.bq⟩,⟨X,lE s4.1.ci.ca⟩,⟨X,.xn (v? lI s4.1.eg)⟩]),(10,.bx [⟨X,lI s4.2.ci.bq⟩,⟨X,lE s4.2.ci.ca⟩,⟨X,(eL 1 lI) s4.2.eg⟩])];exact nz
instance(a b c d):CT (I5 a b c d) 30 [AO a,CE b,Bq c,Bp d] (rT IX eI):=Fk f30 0x81e11746f36b6b6bd355e11646cb7732580bd855e10116468530bb6f010257a7380353d3380d013b03500257381b6bd338a6e702460e0b5c5c0b7759da770d42770b420ee55a0b6c59da6c0d426c0b42a6e702460e5c77320e5ad8a6bbe713c97c386ba8e10116eea6e77c6b6bd3a8e10116ee0e6bd3ac14c96092 [] [.cell 8 (Y 38),.tmp 9] λr h e f=>by
  unfold I5 at h;exact nz
instance(a):CT (N6 a) 161 [An a] (rS Aw):=Fk f161 0xa638033e5b0205f9ba014de9011db55b0265151db558f9815b0204f9ba014de9011d325b0265151db904f981025015c93f3f0b5c3fe5e7c3 [.mkx 1 [.int .i64 0] (.s 8),.mkx 1 [.int .i64 0] (.s 12),.tl [.w 9,.w 13]] [.cell 2 (Y 2)] λr h d e=>by
  unfold N6 at h;have:HW 0 λ(c:cE×Int)=>[(3,.bx [⟨X,.xl 1 (v? eI c.1.bq)⟩,⟨X,.xl 1 (v? eI c.1.ca)⟩]),(4,.tv (eI c.2))]:=⟨⟩;have:HW 2 λ(b:cE×Int)=>[(3,.bx [⟨X,.xl 1 (v? eI b.1.bq)⟩,⟨X,.xl 1 (v? eI b.1.ca)⟩]),(5,.tv (eI b.2))]:=⟨⟩;exact nz
instance(a b c d):CT (Px a b c d) 100 [AO a,An b,An c,eB d] (rT (eL 2 Aw) eI):=Fe f100 0xf5f202c0e001820e7338f3a802c0e838ac0240936031 [] (Px.eq_1 ..)
instance(a b c d):CT (KV a b c d) 63 [AO a,BP b,Bq c,eB d] (rT (eL 3 Bp) eI):=B0 f63 0xf5020d730d0b8905ba0e0d0b89050e0d0b89053c020348034711460138024330026dfb380243306b9a0d01f00e0d0b89058103c05503c080fb01c6c6a803c0c86b9aac0340936031 [] (KV.eq_1 ..) (BG 0 14 11 0 (hO 13 (eL 3 Bp)))
instance(a b c):CT (Hp a b c) 29 [AO a,CE b,Bq c] (rT (eL 3 Bp) eI):=B0 f29 0xf5020b010c0b096a0306ba0c0b096a03060c0b096a03063c02034803476b034330026de114497c6b0343306bd3380b01f00c0b096a03068103c05503c080fb030f426b9ab5a803c0c86bd3ac0340ed [] (Hp.eq_1 ..) (BG 0 12 9 0 (hO 11 (eL 3 Bp)))
instance(a b c d):CT (Mf a b c d) 10 [AO a,CE b,Bq c,eI d] (rO (eL 38 IX)):=B0 f10 0x82020b010c0b09b70307ba02264826472644b3e114c97c6b0343306bd3380b01ff8acf3074300c0b09b703078126c001fb6bd3382640936031 [] (Mf.eq_1 ..) (⟨⟩:HW 0 λ(e:List Au×Int)=>[(11,.ow ((eL 38 IX) e.1)),(12,.tv (eI e.2))])
instance(a b):CT (EA a b) 74 [lI a,lI b] rB:=B0 f74 0xaa05cab285dc5d8c8d96cab4e0010bfa [] (EA.eq_1 ..) (BA 0 5 0 0)
instance(a b):CT (Ly a b) 39 [An a,An b] rB:=B0 f39 0xaa05f9b2bf6bd65c6bd65c008df6f9b4cb5c0bbeb65a9f92 [.bin (.a [0,0,0]) .neq (.s 32) (.s 37)] (Ly.eq_1 ..) (BA 0 5 2 1)
instance(a b):CT (Er a b) 40 [lI a,lI b] rI:=B0 f40 0x8174010bbd05cab205dcdc85dc91bdffcb01307496ca81bd [] (Er.eq_1 ..) (⟨⟩:HW 0 λ(c:Int)=>[(5,.tv (eI c))])
instance(a b):CT (Ij a b) 12 [Bq a,Bq b] rB:=B0 f12 0xaa05f9b2850e91a791a7008da758f9b4cba70be208903238b992 [] (Ij.eq_1 ..) (BA 0 5 2 2)
instance(a b):CT (Ii a b) 77 [Aw a,Aw b] rB:=Fe f77 0x81b85c5c735a9f92 [] (Ii.eq_1 ..)
instance(a b):CT (J8 a b) 130 [BP a,BP b] rB:=H6 f130 0xaa06f9b2bf9a0578d2429a0578d242008dd26e06f9815b0205f9b2bfeadfa7eadfa75b028da758f9b4cbd2420bd26e0a74a70be2a5d4a16e08903238b992 [.bin (.a [0,0,0,0]) .neq (.s 49) (.s 54),.bin (.a [0,0,0,0,0]) .neq (.s 67) (.s 72)] (J8.eq_1 ..) (BA 0 5 2 2) (BA 2 6 2 4)
instance(a b):CT (Qc a b) 131 [FP a,FP b] rB:=Fe f131 0x81b85c5c735a9f92 [] (Qc.eq_1 ..)
abbrev Q_132(n:Nat):Prop:=∀(a:c9)(b:c9),CT (HQ n a b) 132 [AI a,AI b] rB
theorem xw(n:Nat)(_ih_132:Q_132 n)(a:c9)(b:c9):CT (HQ (n+1) a b) 132 [AI a,AI b] rB:=Fj f132 0xaa05f9b2d0ad09785cad09785c008df6f9b48ab69a04429a046e0a0890cc38026e0a745c0bf65a9f92 [] λh=>by
  unfold HQ at h;have:=BA 0 5 2 1;exact nz
theorem xu:∀n:Nat,Q_132 n:=by
  intro n
  induction n with
  |zero=>exact(λa b=>⟨λ_ h=>d!⟩)
  |succ n c=>exact xw n c
instance(a b):CT (Tl a b) 132 [AI a,AI b] rB:=⟨λr h=>by
  obtain ⟨N,c⟩:=Cl h;exact((xu N) a b).snd r (c N (aN _))⟩
instance(a b):CT (N9 a b) 75 [CE a,CE b] rB:=Fe f75 0x81b8ad1042ad106e0a900d42380d6e0a900b42380b6eb89ada9a066eb89ab59a016e0a07030f42030f6e065a9f92 [] (N9.eq_1 ..)
instance(a b):CT (Ik a b) 76 [Bp a,Bp b] rB:=Fe f76 0x81b8a7e2b87732773273d86cb992 [] (Ik.eq_1 ..)
instance(a b):CT (OC a b) 41 [IX a,IX b] rB:=Fe f41 0xf890244238246e0a90224238226eb86b19426b196eb8d332d3323081b86b1f426b1f6e0e6b1c426b1c6e92 [] (OC.eq_1 ..)
instance(a b):CT (Kk a b) 13 [AO a,IX b] rB:=Fe f13 0x81b826442644585ee114c97c6b19426b1c42d332ac92 [] (Kk.eq_1 ..)
instance(a b c):CT (DX a b c) 44 [An a,eI b,eI c] (rO lI):=H6 f44 0x82020701845b5875845b58845b583cb34801450130c43048014501304709845b0106ff09845b01067509845b0106fff46cd65c6c03435d0530f60109845b0106810b01ff845b588acf5b41d6f60177d65c07018dbe845b58d9c0014093b302 [] (DX.eq_1 ..) (BG 0 8 3 1 (hO 7 lI)) (⟨⟩:HW 2 λ(d:Int)=>[(9,.tv (eI d))])
instance(a b):CT (Pw a b) 81 [lI a,eI b] rB:=B0 f81 0xaa05cab285015d8c8d96ca81bd [] (Pw.eq_1 ..) (BA 0 5 0 0)
instance(a b):CT (GY a b) 82 [An a,lI b] (rO lI):=B0 f82 0x8202cf89b304bab3c46c0343dc5c02cff089b304f5a90b3040db [] (GY.eq_1 ..) (BG 0 6 1 0 (hO 5 lI))
abbrev Q_43(n:Nat):Prop:=∀(a:AH)(b:AH)(c:Fp),CT (D4 n a b c) 43 [Bq a,Bq b,lI c] (rT lI eB)
theorem AAY(n:Nat)(_ih_43:Q_43 n)(a:AH)(b:AH)(c:Fp):CT (D4 (n+1) a b c) 43 [Bq a,Bq b,lI c] (rT lI eB):=Fj f43 0xd9c000eb045b0575eb045b05eb045b05f55ef57c016b6bffeb045b0588010bc108045b070c0bc108045b08ba01a50e0e0e9130c6c60e0e30c6c6580e0e0e01dcc6c60e0e30c6c60bc108045b07ff8a96300c0bc108045b08a28201c430483047ffeb045b05f40e91a791e2a591d891d8738c8d6cb9eb045b05b48201e0d85e0b01304060b3 [] λh=>by
  unfold D4 at h;have:=BA 0 9 4 0;have:HW 2 λ(d:Bool×Int)=>[(11,.tv (eB d.1)),(12,.tv (eI d.2))]:=⟨⟩;exact nz
theorem AAX:∀n:Nat,Q_43 n:=by
  intro n
  induction n with
  |zero=>exact(λa b images=>⟨λ_ h=>d!⟩)
  |succ n c=>exact AAY n c
instance(a b images):CT (Tj a b images) 43 [Bq a,Bq b,lI images] (rT lI eB):=⟨λr h=>by
  obtain ⟨N,c⟩:=Cl h;exact((AAX N) a b images).snd r (c N (aN _))⟩
instance(a b c):CT (N4 a b c) 14 [AO a,Bq b,Bq c] (rT Aw eI):=Fk f14 0x81a6380e3e0e0602e30cb706bae30cb70610e30cb707ba10e30cb70713121110e30cb70aba014de9dcdc1db510e30cb707f013121110e30cb70af5820edcdcc60e30c6e30cb706f010e30cb707810e0602f0e30cb70681025019c93f3f0b77b955a60646cbd80b6cb9085e826f013f6b6b55a60646cbd8580bd855a60106ee017c6ba8a60106ee017c6bace7ed [.call 43 [.s 54,.s 55,.c (.list 1 [])],.mkx 1 [.int .i64 0] (.s 77),.tl [.v (.s 73) 0 1,.w 78]] [.cell 6 (Y 2),.tmp 7] λr h d e=>by
  unfold N4 at h;have:=BG 0 15 12 0 λs0:cE=>[(14,.bx [⟨T,lI s0.bq⟩,⟨X,.xl 1 (v? eI s0.ca)⟩])];have:=BG 2 16 12 0 λs2:cE=>[(14,.bx [⟨T,lI s2.bq⟩,⟨X,.xl 1 (v? eI s2.ca)⟩])];have:=BG 4 19 17 0 λs4:cE=>[(14,.bx [⟨T,lI s4.bq⟩,⟨X,.xl 1 (v? eI s4.ca)⟩])];exact nz
end Go.Sf.Sc
