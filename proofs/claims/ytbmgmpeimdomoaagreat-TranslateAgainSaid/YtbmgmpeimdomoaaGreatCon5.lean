/- Contracts of the functions. -/
import Derived.Test.YtbmgmpeimdomoaaGreatCon4
set_option linter.all false
set_option maxRecDepth 100000
set_option maxHeartbeats 4000000
open Option renaming some->Y,none->W
open Bool renaming true->X,false->T
open List renaming map->w_
namespace Go.Sf.Sc
open Go Go.Sf Go.Proofs.Tryz
instance(a b c):CT (QZ a b c) 25 [AN a,ER b,(eL 25 Bp) c] rB:=CJ f25 0x810e28468dde07de047ee5e01943308ddeec07de0481c60b3069ad [] (QZ.eq_1 ..) (BC 0 7 2 0)
instance(a):CT (QV a) 26 [B4 a] rB:=CJ f26 0xaa31027ec60b92ba009afe310281a677fea9e301bc [] (QV.eq_1 ..) (BC 0 3 1 2)
instance(a b c d):CT (FP a b c d) 9 [AN a,ER b,(eL 25 Bp) c,B4 d] rB:=CJ f9 0xda0a77cff47791325b0bcf5b0b01070202090702f3a6e95bd6a208c9555c0641194330070202ec0907020381c60e018da6a97301a9018d019369ad [] (FP.eq_1 ..) (BC 0 9 2 0)
instance(a b c):CT (Ou a b c) 224 [AN a,eI b,lI c] rI:=CJ f224 0xaa090702f3a6055e41e23092b291e230619dec0907020381c60b010b30f6015558830241d45dc6d63093ad02 [] (Ou.eq_1 ..) (BC 0 9 7 0)
instance(a b):CT (Jp a b) 149 [AN a,B4 b] (rT eI eI):=IU f149 0xa1000b5ef358cbc461bacf615fcf5d5558cb85ef5d97f8909132009a9132010b5e03815e02095ef3fb307f92ba92cf555e029acf01095e0381fb850bcf0bba58cb7fe358cb6c017d5530b3 [] (Jp.eq_1 ..) (BC 0 9 3 0) (BC 2 11 3 1)
instance(a b c):CT (Ju a b c) 89 [AN a,Bp b,B4 c] rI:=Fe f89 0x8160017d7355b4e0d8f2 [] (Ju.eq_1 ..)
instance(a b c):CT (Jr a b c) 225 [AN a,Au b,Au c] rI:=Fe f225 0x81a6a98d01a98db455b455846c017dd8f2 [] (Jr.eq_1 ..)
instance(a):CT (KM a) 299 [lI a] rB:=IU f299 0xaad3027ed30204d3f3c6fcfcd3026a3004d303aaecd302816b01 [] (KM.eq_1 ..) (BC 0 3 0 0) (BC 2 4 3 0)
instance(a b c d e):CT (NN a b c d e) 226 [AN a,Au b,Au c,A4 d,eB e] rI:=IU f226 0x81a60aa9c5a95d300804020c800604057ea605ba61ba5d5b5f615f5dc65d5d9797e8f843925f5fdce6a6e9925f5b925f0804029ac50c8006040581800604040b80bb067ee5ed61ed5d55a6775ded5bed800604049aa70b80bb0681a6e9ef5bd60ba769690401 [] (NN.eq_1 ..) (BC 0 11 8 0) (BC 2 12 8 1)
instance(a b c d e):CT (Jq a b c d e) 150 [AN a,Au b,Au c,A4 d,eB e] rI:=Fe f150 0x810e018d8db4558d0169690401 [] (Jq.eq_1 ..)
instance(a b c):CT (LK a b c) 221 [AN a,B9 b,B4 c] rI:=Fe f221 0x8160017d7355b4b1d8f2 [] (LK.eq_1 ..)
instance(a b):CT (Js a b) 233 [Ry a,lI b] rI:=Fe f233 0xdb5f61a7585f85a7e1 [] (Js.eq_1 ..)
instance(a b):CT (LI a b) 340 [Ry a,lI b] (rT eI eB):=Fe f340 0xa1055f61a7fb8a77015d5b5dfb5f855d30e1 [] (LI.eq_1 ..)
instance(a b):CT (NI a b) 298 [H4 a,lI b] rB:=Fe f298 0xda0a96b2a70a96b25da608300860817d01550342a17d01d889e1 [] (NI.eq_1 ..)
instance(a b c):CT (Ii a b c) 223 [B9 a,B4 b,A4 c] (rT lI eI):=IU f223 0x8182180875089f7e84c0882014b10590c14208019ac14275089f81085eac08f5067e84c08501201455d9ccac08f508ccac08f5083c01f10591d9301401f101148a0817df01145b6076d981615f61615d5dbaf705c9ebd4ba085e9afeac08f50681993fd7993fd73040f2 [.mkx 1 [.int .i64 0] (.s 16),.mkx 1 [.bool T] (.s 19)] (Ii.eq_1 ..) (BG 0 10 3 2 λs0:Fp×MV=>[(8,.xo 1 (w_ eI s0.1)),(9,.xo 1 (w_ eB s0.2))]) (BC 2 14 3 4)
instance(a b c d):CT (NO a b c d) 151 [AN a,B9 b,B4 c,A4 d] (rT lI eI):=Fe f151 0x8182740e5573b184e47f8d32e35584e47f73b155304069b3 [] (NO.eq_1 ..)
instance(a b):CT (Mq a b) 152 [lI a,lI b] rB:=CJ f152 0xaa05dd7ec6fc619d9ab2dd81c60b010b01ca [] (Mq.eq_1 ..) (BC 0 5 0 0)
instance(a b c d):CT (KL a b c d) 153 [AN a,Au b,Au c,A4 d] (rT Au eI):=Fk f153 0x81a2550b3e0b0802cc80a57e01f161eda71d320b08026a151d3201cc80a58102501dc9275558a2f0467f8d8d0108c969b3 [] [.cell 8 (Y 2),.tmp 9] λr h f g=>by
  unfold KL at h;have:HW 0 λ(e:bk×Int)=>[(11,.bx [⟨X,.xl 1 (w_ eI e.1.az)⟩,⟨X,.xl 3 (w_ CC e.1.bi)⟩]),(12,.tv (eI e.2))]:=⟨⟩;exact nz
instance(a b c d):CT (P0 a b c d) 227 [Au a,Au b,G7 c,A4 d] rI:=Fe f227 0x810e8db4558d0169b3 [] (P0.eq_1 ..)
instance(a b):CT (EW a b) 300 [lI a,eI b] rB:=CJ f300 0xaa05dd7ec601619d9ab2dd81ca [] (EW.eq_1 ..) (BC 0 5 0 0)
instance(a b):CT (G3 a b) 228 [lI a,lI b] (rO (eL 2 Rx)):=IU f228 0xfd96a5bd7ea5bd07a56b057e07a56b0507a56b053c0202480247054630028a0aa90130a901b2fcfca5bdec07a56b05db5b01eca5bd8102c002406b02 [] (G3.eq_1 ..) (BG 0 6 0 0 (hO 5 (eL 2 Rx))) (BG 2 7 0 0 (hO 5 (eL 2 Rx)))
instance(a b):CT (Kl a b) 231 [lI a,lI b] (rO lI):=CJ f231 0xfd96a5bd7ea5bda5bd3cadd1fc02c43096eca5bdcbe4406b02 [] (Kl.eq_1 ..) (BG 0 6 0 0 (hO 5 lI))
instance(a b c d):CT (KJ a b c d) 229 [Au a,Au b,G7 c,A4 d] (rO lI):=CJ f229 0xfd09010bac0705057e0bac070577ac0705053cadd1d08a0a0e5e4103e6300e9103e630a9015f09019ac50bac07050581820e5da7e44093691300 [] (KJ.eq_1 ..) (BG 0 11 5 1 (hO 9 lI))
instance(a b):CT (Mt a b) 230 [eI a,lI b] (rO lI):=CJ f230 0xfd96a5bd7ea5bda5bd3cadd1d0c430966a30a5bdcbe4406b02 [] (Mt.eq_1 ..) (BG 0 6 0 0 (hO 5 lI))
instance(a b c d):CT (Rd a b c d) 154 [Au a,Au b,G7 c,A4 d] (rT G7 eI):=Fk f154 0x8013b81a202460e0e5f5fef0e0e5d5dd658a20146850b0e8d8d58a2014685770e5f5f0b0e5d5d58a230467f8d8dd0c969b3 [] [.cell 8 (Y 2),.tmp 9] λr h e f=>by
  unfold Rd at h;exact nz
instance(a b c):CT (KO a b c) 341 [eI a,lI b,lI c] (rO lI):=IU f341 0x821807010907ad047e01f1fcfc140701ec0907ad048107ad0380026b057e19014fb51907ad036a3080026b05cbce014002dd [] (KO.eq_1 ..) (BG 0 8 0 0 (hX 7 1 eI)) (BG 2 9 1 0 (hX 7 1 eI))
instance(a b):CT (GE a b) 369 [.pt (US a).cells,lI b] rB:=IU f369 0xaa05dd655bdd05dd8188010705bd80a56b067ef4b661fefeb661c55f5b5d5d3097f89091048c010705bd9a91048c3080a56b06a1ff05dd8a7701ba5b0b015f97f89091028c6b9a91028cb2dd81ca [] (GE.eq_1 ..) (BC 0 5 0 3) (BG 2 8 0 5 (hT 7 eB))
instance(a b c):CT (DJ a b c) 371 [.pt (US a).cells,lI b,eI c] rB:=CJ f371 0xaa0702bd7ec601619dff8a03088c3077300702bdcb02dd [] (DJ.eq_1 ..) (⟨⟩:HW 0 λ(d:Int)=>[(7,.tv (eI d))])
noncomputable def cQ:PC:=PC.of M9 f370.body (xq bT 0x18006026b0665018006026b068006026b063c005201d1304830470132ff8006026b068a0561fefeb661c5c5b65da70a203032f496929106be5b929106be97f8909104be00019a9104be018006026b068197f8909102beffea0a8c0248024702460148304701483047040abe32850b9102be600b016a0309be0b030abe02dd) []
theorem zb:CK f370 cQ []:=b!
theorem AAA:PC.p0 cQ=X/\PC.r0 0 cQ=X:=b!
abbrev Q_370(n:Nat):Prop:=∀(b:An)(a:Fp)(l:Fp),CT (Ch n b a l) 370 [.undef,lI a,lI l] (λr=>.bo (B7 b) (B7 r) 0 [])
theorem zO(n:Nat)(_ih_370:Q_370 n)(b:An)(a:Fp)(l:Fp):CT (Ch (n+1) b a l) 370 [.undef,lI a,lI l] (λr=>.bo (B7 b) (B7 r) 0 []):=cb zb AAA λr h e d f=>by
  unfold cQ;unfold f370;unfold Ch at h;have:HW 0 λ(c:An×Int)=>[(0,.bx (B7 c.1)),(8,.tv (eI c.2))]:=⟨⟩;exact nz
theorem zN:∀n:Nat,Q_370 n:=by
  intro n
  induction n with
  |zero=>exact(λa cE l=>⟨λ_ h=>d_⟩)
  |succ n b=>exact zO n b
instance(s_0 cE l):CT (N7 s_0 cE l) 370 [.undef,lI cE,lI l] (λr=>.bo (B7 s_0) (B7 r) 0 []):=⟨λr h=>by
  obtain ⟨N,a⟩:=De h;exact((zN N) s_0 cE l).snd r (a N (R0 _))⟩
noncomputable def cO:PC:=PC.of M9 f339.body (xq bT 0x5b04bd655b04bd6dbd3c005201d13048304732ff6dbd8aa9927602be927604be555c5c32f4203032f496927606be5b927606be00019a7604be5b04bd81ff3f0132850b7602be600b7c8a082001325b0309be0b030abe6b02) [.Aad 370 [.s 32,.s 33,.c (.list 1 [])] 0]
theorem zZ:CK f339 cO []:=b!
theorem z7:PC.p0 cO=X/\PC.r0 0 cO=X:=b!
abbrev Q_339(n:Nat):Prop:=∀(a:An)(l:Fp),CT (Ci n a l) 339 [.undef,lI l] (λr=>.bo (B7 a) (B7 r) 0 [])
theorem zI(n:Nat)(_ih_339:Q_339 n)(a:An)(l:Fp):CT (Ci (n+1) a l) 339 [.undef,lI l] (λr=>.bo (B7 a) (B7 r) 0 []):=cb zZ z7 λr h d c e=>by
  unfold cO;unfold f339;unfold Ci at h;have:HW 0 λ(b:An×Int)=>[(0,.bx (B7 b.1)),(5,.tv (eI b.2))]:=⟨⟩;exact nz
theorem zF:∀n:Nat,Q_339 n:=by
  intro n
  induction n with
  |zero=>exact(λa l=>⟨λ_ h=>d_⟩)
  |succ n b=>exact zI n b
instance(s_0 l):CT (KA s_0 l) 339 [.undef,lI l] (λr=>.bo (B7 s_0) (B7 r) 0 []):=⟨λr h=>by
  obtain ⟨N,a⟩:=De h;exact((zF N) s_0 l).snd r (a N (R0 _))⟩
instance(a b c d e f):CT (OI a b c d e f) 296 [AN a,Au b,Au c,A4 d,eB e,eI f] (rS (eL 2 A4)):=Fe f296 0x82030a8c5c3f5c00c2bf2946308d8d024069696d02 [.Abl [W,W,W,W,W,W,W,W,W,W,Y ⟨X,.list 2 []⟩] (.s 20),.Aad 339 [.s 22,.c (.list 1 [])] 0] (OI.eq_1 ..)
instance(a b c):CT (KN a b c) 372 [lI a,eI b,eI c] rI:=CJ f372 0xaa070200f3a69692b2619dec0702000381c6010b3002dd [] (KN.eq_1 ..) (BC 0 7 0 0)
instance(a b c d e):CT (ME a b c d e) 342 [AN a,Au b,Au c,A4 d,eB e] (rT (eL 2 A4) eI):=Fe f342 0x8182015802c0850b01820e018d8d5802e47fefef5f5802e47fd6d65d5802c08ae9ef5bd6d65802e47f558dd04069690401 [] (ME.eq_1 ..)
instance(a b):CT (FX a b) 160 [Ry a,lI b] (rT eI eI):=Fe f160 0xa10e0155fb8a77015d5b5d30e1 [] (FX.eq_1 ..)
instance(a b c d):CT (MH a b c d) 343 [B9 a,B4 b,A4 c,lI d] (rT lI eB):=gj f343 0x8182180a01120a04f384c08a0a96b2a70a96b25d6074012014550342607401201455cdc304c9b10590c1420a019ac189120a0403da04020d0b0abb067e84c0850130817401201455d90f0e0d0b0abb080f0e0d0b0abb083c01f101f10591fa76d91476d9148a0817df76d9145b76d981615f61615d5dbaf705c9ebd4ba0a04029afe0d0b0abb06810b0abb05cc0abb03077ecc0abb0307cc0abb03073c19014fb519850b0130f1770130140b0abb056a9f89cc0abb030781993fd799014f30563040936931 [.mkx 1 [.bool T] (.s 28)] (MH.eq_1 ..) (BG 0 12 4 3 λs0:Fp×MV=>[(10,.xo 1 (w_ eI s0.1)),(11,.xo 1 (w_ eB s0.2))]) (BG 2 13 4 2 λs2:Fp×MV=>[(10,.xo 1 (w_ eI s2.1)),(11,.xo 1 (w_ eB s2.2))]) (BC 4 18 4 4)
instance(a b c d e):CT (Ij a b c d e) 301 [AN a,AQ b,B4 c,CH d,eB e] (rT (eL 3 CH) eI):=CJ f301 0x81fd100111100e0c80067e11100e0c800611100e0c80063c02034803470946015502433002a1f65ea802433073b11001ec11100e0c80068103c05803e46cf6018d32e355a202c902460e913291d90b91320ecf76d90bcfc309c9b10489034069690401 [] (Ij.eq_1 ..) (BG 0 17 14 0 (hO 16 (eL 3 CH)))
abbrev Q_232(n:Nat):Prop:=∀(t:AC)(c:ca)(b:AH)(m:AU)(a:Bool),CT (EX n t c b m a) 232 [AN t,AQ c,B4 b,CH m,eB a] (rT FJ eI)
theorem yw(n:Nat)(_ih_232:Q_232 n)(t:AC)(c:ca)(b:AH)(m:AU)(a:Bool):CT (EX (n+1) t c b m a) 232 [AN t,AQ c,B4 b,CH m,eB a] (rT FJ eI):=Fk f232 0x81c30a46ff58c30a460a0117150a07bb077eff0a013b81c3010c460547b1dc43306cc30ec97d01dc433073c809435f550a01ec17150a07bb078158c3f4466cf6017373c855db81c30a460a01120a80bb077e58c3010b460547b1016cc30ec97d017373c809e6550a019ac5120a80bb07a10581c3b10e0a020f0e0a80bb087eea044205480547b104044258c3f4466cc30ec97d017373c809e6550e0a029ac50f0e0a80bb08db500ec93fdb81c3f44658c30a46850158c30a466cc30e497d017373c809435f55db833275c969690401 [.x8 [.z ⟨T,.int .i64 0⟩,.z ⟨X,.list 1 []⟩,.z ⟨X,.list 1 []⟩,.z ⟨X,.list 1 []⟩,.z ⟨X,.list 5 []⟩]] [.cell 10 (Y 5),.tmp 11] λr h d e=>by
  unfold EX at h;have:=BG 1 15 6 1 λs1:BD×BD=>[(10,.bx [⟨T,eI s1.1.Aal⟩,⟨X,lI s1.1.gN.bn.az⟩,⟨X,lI s1.1.gN.bn.bi⟩,⟨X,lI s1.1.gN.ei⟩,⟨X,Iy s1.1.ew⟩]),(14,.bx [⟨T,eI s1.2.Aal⟩,⟨X,lI s1.2.gN.bn.az⟩,⟨X,lI s1.2.gN.bn.bi⟩,⟨X,lI s1.2.gN.ei⟩,⟨X,Iy s1.2.ew⟩])];have:=BG 3 18 6 1 λs3:BD=>[(10,.bx [⟨T,eI s3.Aal⟩,⟨X,lI s3.gN.bn.az⟩,⟨X,lI s3.gN.bn.bi⟩,⟨X,lI s3.gN.ei⟩,⟨X,Iy s3.ew⟩])];have:=BG 5 23 21 0 λs5:BD=>[(10,.bx [⟨T,eI s5.Aal⟩,⟨X,lI s5.gN.bn.az⟩,⟨X,lI s5.gN.bn.bi⟩,⟨X,lI s5.gN.ei⟩,⟨X,Iy s5.ew⟩])];exact nz
theorem yv:∀n:Nat,Q_232 n:=by
  intro n
  induction n with
  |zero=>exact(λt c a m ec=>⟨λ_ h=>d_⟩)
  |succ n b=>exact yw n b
instance(t c h_2 m ec):CT (Sh t c h_2 m ec) 232 [AN t,AQ c,B4 h_2,CH m,eB ec] (rT FJ eI):=⟨λr h=>by
  obtain ⟨N,a⟩:=De h;exact((yv N) t c h_2 m ec).snd r (a N (R0 _))⟩
instance(a b c d e):CT (NP a b c d e) 155 [AN a,AQ b,B4 c,CH d,eB e] (rT eB eI):=Fe f155 0xa15b01fb6cc30e497d017373c8553069690401 [] (NP.eq_1 ..)
instance(a b c d):CT (Mw a b c d) 90 [AN a,Bp b,B4 c,CH d] (rT G7 eI):=Fk f90 0x81a201550d0b08030d0b08033c018a08b230817d030f427373c810a858a230468530a202c97de3550ba8325558a230468530a208c97de3e3555c01a858a20146c4fe58a230466cf6e373b101a858a20146850e030fa832e3555c01a8d0c969b3 [] [.cell 8 (Y 2),.tmp 9] λr h f g=>by
  unfold Mw at h;have:HJ 95 λ(e:Int)=>[(11,.tv (eI e))]:=⟨⟩;exact nz
instance(a b c):CT (K6 a b c) 156 [AN a,B4 b,G7 c] (rT B4 eI):=Fk f156 0x8197730d06020e0d0b0604057eeafad1014861edfe4704d90d06029a5d750d0b060405810350f93f5558970111466ca2a202c908c9117d8d3258970111466c017d73d8f9f2 [.x8 [.v (.s 37) 0 2,.v (.s 37) 1 2,.z ⟨X,.list 1 []⟩]] [.cell 6 (Y 3),.tmp 7] λr h e f=>by
  unfold K6 at h;have:HW 0 λ(d:AH×Int)=>[(13,.bx [⟨T,lI d.1.bk.az⟩,⟨T,lE d.1.bk.bi⟩,⟨X,(eL 1 lI) d.1.d6⟩]),(14,.tv (eI d.2))]:=⟨⟩;exact nz
instance(a b):CT (Ms a b) 158 [lI a,eI b] (rO lI):=IU f158 0x821896a5bd7ea5bd07a56b057e07a56b0507a56b053c01f130148501fca5bdec07a56b058119014fb519966a30a5bdcbce01406b02 [] (Ms.eq_1 ..) (BG 0 6 1 0 (hX 5 1 eI)) (BG 2 7 0 0 (hX 5 1 eI))
instance(a b):CT (MJ a b) 157 [eI a,lI b] (rO lI):=Fe f157 0x820e0130406b02 [] (MJ.eq_1 ..)
instance(a b c):CT (Nq a b c) 91 [AN a,B4 b,G7 c] (rT B4 A4):=Fk f91 0x706023ba29702460e5f0b91320e5d0bcf730197f97d55735502c9f9f2 [] [.cell 6 (Y 3),.cell 7 (Y 2)] λr h d e=>by
  unfold Nq at h;exact nz
instance(a b):CT (IP a b) 92 [lI a,lI b] (rO lI):=CJ f92 0xfd96a5bd7eadd16192300296eca5bdcbe4406b02 [] (IP.eq_1 ..) (BG 0 6 0 0 (hO 5 lI))
instance(a b c d e):CT (Ga a b c d e) 93 [lI a,lI b,eI c,lI d,eI e] (rO lI):=CJ f93 0xfd0c010dccde00077e0dccde00076501add1d00dccde00073cadd16161fc300285fc0c016a300dccde0007cbc0820e013040de6b05 [] (Ga.eq_1 ..) (BG 0 13 2 0 λs0:Int×Fp=>[(4,.tv (eI s0.1)),(12,.ow (lI s0.2))])
instance(a b):CT (I6 a b) 159 [lI a,eI b] rB:=CJ f159 0xaa05dd7ec601619d9ab2dd81ca [] (I6.eq_1 ..) (BC 0 5 0 0)
noncomputable def qG:PC:=PC.of M9 f94.body (xq bT 0x35003530806020f0980a5067e0f0980a5060f0980a5063cea01413203480347074661ba5d615f5d5d0401413297f8e68e01910d420806029ac50f0980a506810980a505ac80bb076501ac80bb07ac80bb073c1fd921221923d90dac80bba90d0bac80bb0a7e19014fb591e230190dac80bb08ec0e0d0bac80bb0acbce01f6edd84a5c3201d1ed045c32ffac80bb07c401760d420980a5059aa7ac80bb0781a208c9555cee1ec993abb3) []
theorem ABO:CK f94 qG [.cell 8 (Y 3)]:=b!
theorem ABV:PC.p0 qG=X:=b!
instance(a b c d):CT (Mv a b c d) 94 [AN a,Bp b,.agg [.undef,.undef,.undef],A4 d] (λr=>.ag [⟨X,lI c.bk.az⟩,⟨X,lE c.bk.bi⟩,⟨X,.xn (w_ lI c.d6)⟩] 2 (.oag [⟨X,lI r.bk.az⟩,⟨X,lE r.bk.bi⟩,⟨X,.xn (w_ lI r.d6)⟩])):=FiA ABO ABV λr h i g j=>by
  unfold qG;unfold f94;unfold Mv at h;have:HW 0 λ(e:AH×Int)=>[(6,.bx [⟨X,lI e.1.bk.az⟩,⟨X,lE e.1.bk.bi⟩,⟨X,.xn (w_ lI e.1.d6)⟩]),(10,.tv (eI e.2))]:=⟨⟩;have:=BG 2 14 11 0 (hX 13 1 eI);have:HW 4 λ(f:AH×Int)=>[(6,.bx [⟨X,lI f.1.bk.az⟩,⟨X,lE f.1.bk.bi⟩,⟨X,.xn (w_ lI f.1.d6)⟩]),(15,.tv (eI f.2))]:=⟨⟩;exact nz
instance(a):CT (MD a) 95 [B4 a] (λr=>.oag [⟨X,lI r.bk.az⟩,⟨X,lE r.bk.bi⟩,⟨X,.xn (w_ lI r.d6)⟩]):=Fk f95 0x35003535e02def07e1fd92122014f92fe5623d95e029afedef08103501ec93f1be31ec9bc [.x8 [.g 7 0 2,.g 7 1 2,.z ⟨X,.xn []⟩]] [.cell 2 (Y 3)] λr h b c=>by
  unfold MD at h;have:=BG 0 4 1 2 λs0:AH=>[(3,.bx [⟨X,lI s0.bk.az⟩,⟨X,lE s0.bk.bi⟩,⟨X,.xn (w_ lI s0.d6)⟩])];exact nz
noncomputable def qH:PC:=PC.of M9 f96.body (xq bT 0x819773073e0a0702130c0a806d077e26240191e23025240123d9589711468a055e41e291d430b291e291d43030f692cf55816176e2305d607d01550241e2300a0702ec130c0a806d07810c0a806d060d0c0a806d077e0d0c0a806d07100e0d0c0a806d097e589711468a9630b691e23091d4b26176e2305d6176e2305d607d01550241e2300d0c0a806d076a30100e0d0c0a806d0981607d01550241e2300c0a806d06ec0d0c0a806d0781825e410689f993ab690401) []
theorem ABP:CK f96 qH [.cell 10 (Y 3),.tmp 11]:=b!
theorem ABW:PC.p0 qH=X:=b!
instance(a b c d e):CT (OK a b c d e) 96 [AN a,Bp b,.agg [.undef,.undef,.undef],A4 d,lI e] (λr=>.ag [⟨X,lI c.bk.az⟩,⟨X,lE c.bk.bi⟩,⟨X,.xn (w_ lI c.d6)⟩] 2 (.tp [B4 r.1,eI r.2])):=FiA ABP ABW λr h g f i=>by
  unfold qH;unfold f96;unfold OK at h;have:=BG 0 13 12 0 λs0:AH=>[(10,.bx [⟨X,lI s0.bk.az⟩,⟨X,lE s0.bk.bi⟩,⟨X,(eL 1 lI) s0.d6⟩])];have:=BG 2 16 13 0 λs2:AH=>[(10,.bx [⟨X,lI s2.bk.az⟩,⟨X,lE s2.bk.bi⟩,⟨X,(eL 1 lI) s2.d6⟩])];have:=BG 4 19 12 0 λs4:AH×AH=>[(7,.bx [⟨X,lI s4.1.bk.az⟩,⟨X,lE s4.1.bk.bi⟩,⟨X,.xn (w_ lI s4.1.d6)⟩]),(10,.bx [⟨X,lI s4.2.bk.az⟩,⟨X,lE s4.2.bk.bi⟩,⟨X,(eL 1 lI) s4.2.d6⟩])];exact nz
instance(a b c d):CT (Jt a b c d) 48 [AN a,Bp b,B4 c,CH d] (rT RQ eI):=Fk f48 0x81264b2a468d737373e058264b0e468a7791325b0bcf58264b754685309774d0575ea80353e0550d013b03500257551b73e055a202c902460eef5f0b318cee910d42910b420ed65d0b765cee760d42760b42a202c902460e5f91320e5dcfa29702c91ec97d55735558264b75466ca202c97d7373e05558264b75467f73e0d811c969b3 [] [.cell 8 (Y 38),.tmp 9] λr h e f=>by
  unfold Jt at h;exact nz
instance(a):CT (Ov a) 297 [Au a] (rS A4):=Fk f297 0xa255033e5e02055ef301f1011dcd5e026a151dcd5b5e03815e02def301f1011d325e026a151d3201de038102501fc93f3fef3fd602c9bc [.mkx 1 [.int .i64 0] (.s 8),.mkx 1 [.int .i64 0] (.s 12),.x8 [.w 9,.w 13]] [.cell 2 (Y 2)] λr h d e=>by
  unfold Ov at h;have:HW 0 λ(b:bn×Int)=>[(3,.bx [⟨X,.xl 1 (w_ eI b.1.az)⟩,⟨X,.xl 1 (w_ eI b.1.bi)⟩]),(4,.tv (eI b.2))]:=⟨⟩;have:HW 2 λ(c:bn×Int)=>[(3,.bx [⟨X,.xl 1 (w_ eI c.1.az)⟩,⟨X,.xl 1 (w_ eI c.1.bi)⟩]),(5,.tv (eI c.2))]:=⟨⟩;exact nz
instance(a b c d):CT (QW a b c d) 222 [AN a,Au b,Au c,eB d] (rT (eL 2 A4) eI):=Fe f222 0x8182015802c0850b01820e758d8d5802e47f558dd040936931 [] (QW.eq_1 ..)
instance(a b c d):CT (K7 a b c d) 148 [AN a,B9 b,B4 c,eB d] (rT (eL 3 CH) eI):=CJ f148 0x81fd0d750d0ba5057e0e0d0ba5050e0d0ba5053c020348034709460155024330026cf65502433073b10d01ec0e0d0ba5058103c05803e46cf601e3e3555803e47f73b1d80340936931 [] (K7.eq_1 ..) (BG 0 14 11 0 (hO 13 (eL 3 CH)))
instance(a b c):CT (Il a b c) 88 [AN a,Bp b,B4 c] (rT (eL 3 CH) eI):=CJ f88 0x81fd0b01cc09f5067ecc09f506cc09f5063c0203480347dc4330026c264b11497ddc433073e0550b01eccc09f5068103c05803e46cf6030f4273b101a85803e47f73e0d80340f2 [] (Il.eq_1 ..) (BG 0 12 9 0 (hO 11 (eL 3 CH)))
instance(a b c d):CT (NW a b c d) 47 [AN a,Bp b,B4 c,eI d] (rO (eL 38 RQ)):=CJ f47 0xfd0b01cc09bb03077e02264826472644ad264b11c97ddc433073e0550b7c8a96307730cc09bb03078126e4f673e0552640936931 [] (NW.eq_1 ..) (⟨⟩:HW 0 λ(e:List BH×Int)=>[(11,.ow ((eL 38 RQ) e.1)),(12,.tv (eI e.2))])
instance(a b c d):CT (ML a b c d) 22 [AN a,(eL 25 Bp) b,(eL 1 M8) c,eI d] (rO (eL 4 J2)):=gj f22 0xfd09010bacde01077e0a013b9702731f4126433004480447ebe230028177013ffcff0901850b010dccacde01090e0dccacdef47e0e0dccacdef4e70e0dccacde010c7e020226482647264426433002044804471446731941269030020e0dccacdef4ece70e0dccacde010c81820e73e0194330550dccacde0109ec0e0dccacdef48126c004c0097c8a963077300bacde01078197f9114604c00440935e0103 [.cvt .i64 (.s 72)] (ML.eq_1 ..) (⟨⟩:HW 0 λ(e:List DC×AH×Int)=>[(9,.ow ((eL 4 J2) e.1)),(10,.bx [⟨T,lI e.2.1.bk.az⟩,⟨T,lE e.2.1.bk.bi⟩,⟨T,(eL 1 lI) e.2.1.d6⟩]),(11,.tv (eI e.2.2))]) (BG 2 14 1 0 λs2:List DC×List BH=>[(12,.ow ((eL 4 J2) s2.1)),(13,.ow ((eL 38 RQ) s2.2))]) (BG 4 16 15 0 λs4:List DC×List BH=>[(12,.ow ((eL 4 J2) s4.1)),(13,.ow ((eL 38 RQ) s4.2))])
instance(a b c d):CT (NZ a b c d) 23 [AN a,ER b,(eL 25 Bp) c,(eL 4 J2) d] (rT B4 eI):=Fk f23 0x8197730b0802cc08de067e97731f4258970111466c264b11c97d730141e23073e0194376d43055589711468a770176d4b276e2300b0802eccc08de068197f9114658971146850b0158970111467f018d01f9695e02 [] [.cell 8 (Y 3),.tmp 9] λr h e f=>by
  unfold NZ at h;have:=BG 0 12 3 0 λs0:AH×AH=>[(8,.bx [⟨X,lI s0.1.bk.az⟩,⟨X,lE s0.1.bk.bi⟩,⟨X,(eL 1 lI) s0.1.d6⟩]),(11,.bx [⟨T,lI s0.2.bk.az⟩,⟨T,lE s0.2.bk.bi⟩,⟨T,(eL 1 lI) s0.2.d6⟩])];exact nz
end Go.Sf.Sc
