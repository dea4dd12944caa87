/- Contracts of the functions. -/
import Derived.Test.YtbmgmpeimdomoaaGreatCon4
set_option linter.all false
set_option maxRecDepth 100000
set_option maxHeartbeats 4000000
open Option renaming some->Y,none->W
open Bool renaming true->X,false->T
open List renaming map->w!
namespace Go.Sf.Sc
open Go Go.Sf Go.Proofs.Tryz
instance(a b c d):CT (K5 a b c d) 9 [AN a,F5 b,(eL 25 Bm) c,CF d] rB:=CA f9 0xe30a76cd010a7690325b0bcd5bfc070202090702037d9de55bd4ad08c9555c0641194330070202ea0907020381c1f48d9daa7301aa018d019369ac [] (K5.eq_1 ..) (BA 0 9 2 0)
instance(a b c):CT (Oe a b c) 224 [AN a,eI b,lI c] rI:=CA f224 0xa8090702037d9d055e41e130919790e1306096ea0907020381c1fc0b30f5015558830241d35dc1d43093ac02 [] (Oe.eq_1 ..) (BA 0 9 7 0)
instance(a b):CT (JV a b) 149 [AN a,CF b] (rT eI eI):=H9 f149 0xa2000be77dd601c460b4cd605fcd5d55d60185ef5da7fd8c903200929032010be7815e0209e77dd6306c0e91b491cd555e0292cd0109e781d6850bcd0bb4d69ae2d67f01895530b1 [] (JV.eq_1 ..) (BA 0 9 3 0) (BA 2 11 3 1)
instance(a b c):CT (Ja a b c) 89 [AN a,Bm b,CF c] rI:=Fe f89 0x816101897355b2dedbf8 [] (Ja.eq_1 ..)
instance(a b c):CT (JX a b c) 225 [AN a,Au b,Au c] rI:=Fe f225 0x819daa8d01aa8db255b255587f0189dbf8 [] (JX.eq_1 ..)
instance(a):CT (J1 a) 299 [lI a] rB:=H9 f299 0xa8d1027dd10204d1037dc1ededd1026a3004d103a8ead102816b01 [] (J1.eq_1 ..) (BA 0 3 0 0) (BA 2 4 3 0)
instance(a b c d e):CT (M1 a b c d e) 226 [AN a,Au b,Au c,A2 d,eB e] rI:=H9 f226 0x819d0aaac5aa5d300804020c7e0604057d9d05b460b45d5b5f605f5dc15d5da7a7e8fd43915f5fd5e09de5915f5b915f08040292c50c7e060405817e0604040b7eb6067de4f060f05d559d765df05bf07e06040492a60b7eb606819de5ef5bd40ba669690401 [] (M1.eq_1 ..) (BA 0 11 8 0) (BA 2 12 8 1)
instance(a b c d e):CT (JW a b c d e) 150 [AN a,Au b,Au c,A2 d,eB e] rI:=Fe f150 0x81f48d8db2558d0169690401 [] (JW.eq_1 ..)
instance(a b c):CT (K0 a b c) 221 [AN a,B4 b,CF c] rI:=Fe f221 0x816101897355b2b3dbf8 [] (K0.eq_1 ..)
instance(a b):CT (JY a b) 233 [Ri a,lI b] rI:=Fe f233 0xbe5f60a6585f85a6df [] (JY.eq_1 ..)
instance(a b):CT (Ky a b) 340 [Ri a,lI b] (rT eI eB):=Fe f340 0xa2055f60a6d68a76015d5b5dd65f855d30df [] (Ky.eq_1 ..)
instance(a b):CT (My a b) 298 [Hh a,lI b] rB:=Fe f298 0xe3a50197a6a501975d9d08300861818901550342a28901db80df [] (My.eq_1 ..)
instance(a b c):CT (IK a b c) 223 [B4 a,CF b,A2 c] (rT lI eI):=H9 f223 0x8182180875089f7dfbc0882014b3058cc842080192c84275089f81085ea9086d03067dfbc08501201455dacba9086d0308cba9086d03083c01f10590da301401f101148a0817dd01145b6174da81605f60605d5db4f705c9e9d3b4085e92f9a9086d030681993fd8993fd83040f8 [.mkx 1 [.int .i64 0] (.s 16),.mkx 1 [.bool T] (.s 19)] (IK.eq_1 ..) (BI 0 10 3 2 λs0:Fp×MV=>[(8,.xo 1 (w! eI s0.1)),(9,.xo 1 (w! eB s0.2))]) (BA 2 14 3 4)
instance(a b c d):CT (M2 a b c d) 151 [AN a,B4 b,CF c,A2 d] (rT lI eI):=Fe f151 0x8182770e5573b3fbc09a8d32e255fbc09a73b355304069b1 [] (M2.eq_1 ..)
instance(a b):CT (MS a b) 152 [lI a,lI b] rB:=CA f152 0xa805cf7dc1ed60969297cf81c1fcfcc3 [] (MS.eq_1 ..) (BA 0 5 0 0)
instance(a b c d):CT (J0 a b c d) 153 [AN a,Au b,Au c,A2 d] (rT Au eI):=Fk f153 0x81ad550b3e0b0802cb7e9e7d01f160f0a61d320b08026a151d3201cb7e9e8102501dc9275558adf3ee0e8d8d0108c969b1 [] [.cell 8 (Y 2),.tmp 9] λr h f g=>by
  unfold J0 at h;have:HW 0 λ(e:bi×Int)=>[(11,.bx [⟨X,.xl 1 (w! eI e.1.az)⟩,⟨X,.xl 3 (w! B6 e.1.be)⟩]),(12,.tv (eI e.2))]:=⟨⟩;exact nz
instance(a b c d):CT (Po a b c d) 227 [Au a,Au b,IY c,A2 d] rI:=Fe f227 0x810e8db2558d0169b1 [] (Po.eq_1 ..)
instance(a b):CT (EJ a b) 300 [lI a,eI b] rB:=CA f300 0xa805cf7dc10160969297cf81c3 [] (EJ.eq_1 ..) (BA 0 5 0 0)
instance(a b):CT (Gl a b) 228 [lI a,lI b] (rO (eL 2 Rh)):=H9 f228 0xfaca9ebb7d9ebbfe6b057dfe6b05fe6b053c0202480247054630028a0aaa0130aa0197eded9ebbeafe6b05be5b01ea9ebb8102c002406b02 [] (Gl.eq_1 ..) (BI 0 6 0 0 (hO 5 (eL 2 Rh))) (BI 2 7 0 0 (hO 5 (eL 2 Rh)))
instance(a b):CT (KP a b) 231 [lI a,lI b] (rO lI):=CA f231 0xfaca9ebb7d9ebb9ebb3cacd9ed02c49701ea9ebbebc001406b02 [] (KP.eq_1 ..) (BI 0 6 0 0 (hO 5 lI))
instance(a b c d):CT (Jy a b c d) 229 [Au a,Au b,IY c,A2 d] (rO lI):=CA f229 0xfa09010ba90705057d0ba9070576a90705053cacd9cc8a0a0e5e4103e0300e9003e030aa015f090192c50ba907050581820e5da6c0014093691300 [] (Jy.eq_1 ..) (BI 0 11 5 1 (hO 9 lI))
instance(a b):CT (MY a b) 230 [eI a,lI b] (rO lI):=CA f230 0xfaca9ebb7d9ebb9ebb3cacd9ccc497016a309ebbebc001406b02 [] (MY.eq_1 ..) (BI 0 6 0 0 (hO 5 lI))
instance(a b c d):CT (RQ a b c d) 154 [Au a,Au b,IY c,A2 d] (rT IY eI):=Fk f154 0x8013b81ad02460e0e5f5fef0e0e5d5dd458ad0146850b0e8d8d58ad014685760e5f5f0b0e5d5d58ad30ee0e8d8dccc969b1 [] [.cell 8 (Y 2),.tmp 9] λr h e f=>by
  unfold RQ at h;exact nz
instance(a b c):CT (J3 a b c) 341 [eI a,lI b,lI c] (rO lI):=H9 f341 0x821807010907ac047d01f1eded140701ea0907ac048107ac037e026b057d19014fb51907ac036a307e026b05ebce014002cf [] (J3.eq_1 ..) (BI 0 8 0 0 (hX 7 1 eI)) (BI 2 9 1 0 (hX 7 1 eI))
instance(a b):CT (Fx a b) 369 [.pt (T4 a).cells,lI b] rB:=H9 f369 0xa805cf655bcf05cf8188010705bb7e9e6b067d010aa560f9f9a560c55f5b5d5d30a7fd8c900484010705bb92900484307e9e6b06a2ff05cf8a7601b45bfc5fa7fd8c9002846b9290028497cf81c3 [] (Fx.eq_1 ..) (BA 0 5 0 3) (BI 2 8 0 5 (hT 7 eB))
instance(a b c):CT (DB a b c) 371 [.pt (T4 a).cells,lI b,eI c] rB:=CA f371 0xa80702bb7dc1016096ff8a0308843076300702bb81cccf [] (DB.eq_1 ..) (⟨⟩:HW 0 λ(d:Int)=>[(7,.tv (eI d))])
noncomputable def ai:PC:=PC.of Mp f370.body (xq bT 0x17e06026b0665017e06026b067e06026b063c005201d9304830470132ff7e06026b068a0560f9f9a560c5c5a55da60a20303201a501919006bd5b919006bda7fd8c9004bd0001929004bd017e06026b0681a7fd8c9002bdfff20a840248024702460148304701483047040abd32850b9002bd61fc6a0309bd0b030abd02cf) []
theorem yH:CK f370 ai []:=b!
theorem yh:PC.sx ai=X/\PC.tl 0 ai=X:=b!
abbrev Q_370(n:Nat):Prop:=∀(b:Al)(a:Fp)(l:Fp),CT (Cd n b a l) 370 [.undef,lI a,lI l] (λr=>.bo (B3 b) (B3 r) 0 [])
theorem xu(n:Nat)(_ih_370:Q_370 n)(b:Al)(a:Fp)(l:Fp):CT (Cd (n+1) b a l) 370 [.undef,lI a,lI l] (λr=>.bo (B3 b) (B3 r) 0 []):=av yH yh λr h e d f=>by
  unfold ai;unfold f370;unfold Cd at h;have:HW 0 λ(c:Al×Int)=>[(0,.bx (B3 c.1)),(8,.tv (eI c.2))]:=⟨⟩;exact nz
theorem xt:∀n:Nat,Q_370 n:=by
  intro n
  induction n with
  |zero=>exact(λa ci l=>⟨λ_ h=>c?⟩)
  |succ n b=>exact xu n b
instance(s_0 ci l):CT (Nk s_0 ci l) 370 [.undef,lI ci,lI l] (λr=>.bo (B3 s_0) (B3 r) 0 []):=⟨λr h=>by
  obtain ⟨N,a⟩:=DX h;exact((xt N) s_0 ci l).snd r (a N (R0 _))⟩
noncomputable def af:PC:=PC.of Mp f339.body (xq bT 0x5b04bb655b04bb6dbb3c005201d93048304732ff6dbb8aaa917402bd917404bd555c5c32010a20303201a501917406bd5b917406bd0001927404bd5b04bb81ff3f0132850b7402bd610b7c8a082001325b0309bd0b030abd6b02) [.Aad 370 [.s 32,.s 33,.c (.list 1 [])] 0]
theorem yF:CK f339 af []:=b!
theorem yf:PC.sx af=X/\PC.tl 0 af=X:=b!
abbrev Q_339(n:Nat):Prop:=∀(a:Al)(l:Fp),CT (Ce n a l) 339 [.undef,lI l] (λr=>.bo (B3 a) (B3 r) 0 [])
theorem xj(n:Nat)(_ih_339:Q_339 n)(a:Al)(l:Fp):CT (Ce (n+1) a l) 339 [.undef,lI l] (λr=>.bo (B3 a) (B3 r) 0 []):=av yF yf λr h d c e=>by
  unfold af;unfold f339;unfold Ce at h;have:HW 0 λ(b:Al×Int)=>[(0,.bx (B3 b.1)),(5,.tv (eI b.2))]:=⟨⟩;exact nz
theorem xi:∀n:Nat,Q_339 n:=by
  intro n
  induction n with
  |zero=>exact(λa l=>⟨λ_ h=>c?⟩)
  |succ n b=>exact xj n b
instance(s_0 l):CT (Jq s_0 l) 339 [.undef,lI l] (λr=>.bo (B3 s_0) (B3 r) 0 []):=⟨λr h=>by
  obtain ⟨N,a⟩:=DX h;exact((xi N) s_0 l).snd r (a N (R0 _))⟩
instance(a b c d e f):CT (Ny a b c d e f) 296 [AN a,Au b,Au c,A2 d,eB e,eI f] (rS (eL 2 A2)):=Fe f296 0x82030a845c3f5c00c2bf2946308d8d024069696d02 [.Abj [W,W,W,W,W,W,W,W,W,W,Y ⟨X,.list 2 []⟩] (.s 20),.Aad 339 [.s 22,.c (.list 1 [])] 0] (Ny.eq_1 ..)
instance(a b c):CT (J2 a b c) 372 [lI a,eI b,eI c] rI:=CA f372 0xa8070200037d9dca91976096ea0702000381c1010b3002cf [] (J2.eq_1 ..) (BA 0 7 0 0)
instance(a b c d e):CT (Ls a b c d e) 342 [AN a,Au b,Au c,A2 d,eB e] (rT (eL 2 A2) eI):=Fe f342 0x8182015802c085fc82f48d8d5802c09aefef5f5802c09ad4d45d5802c08ae5ef5bd4d45802c09a558dcc4069690401 [] (Ls.eq_1 ..)
instance(a b):CT (FI a b) 160 [Ri a,lI b] (rT eI eI):=Fe f160 0xa2f455d68a76015d5b5d30df [] (FI.eq_1 ..)
instance(a b c d):CT (Lu a b c d) 343 [B4 a,CF b,A2 c,lI d] (rT lI eB):=ez f343 0x8182180a01120a04037dfbc08aa50197a6a501975d6177012014550342617701201455d0d704c9b3058cc8420a0192c880120a0403e304020d0b0ab6067dfbc0850130817701201455da0f0e0d0b0ab6080f0e0d0b0ab6083c01f101f10590028074da1474da148a0817dd74da145b74da81605f60605d5db4f705c9e9d3b40a040292f90d0b0ab606810b0ab605cb0ab603077dcb0ab60307cb0ab603073c19014fb51985fc30f1760130140b0ab6056a9f80cb0ab6030781993fd899014f30563040936931 [.mkx 1 [.bool T] (.s 28)] (Lu.eq_1 ..) (BI 0 12 4 3 λs0:Fp×MV=>[(10,.xo 1 (w! eI s0.1)),(11,.xo 1 (w! eB s0.2))]) (BI 2 13 4 2 λs2:Fp×MV=>[(10,.xo 1 (w! eI s2.1)),(11,.xo 1 (w! eB s2.2))]) (BA 4 18 4 4)
instance(a b c d e):CT (IL a b c d e) 301 [AN a,AQ b,CF c,CB d,eB e] (rT (eL 3 CB) eI):=CA f301 0x81fa100111100e0c7e067d11100e0c7e0611100e0c7e063c02034803470946015502433002a2f5b45502433073b31001ea11100e0c7e068103c05803c07ff5018d32e255ad02c902460e903290da0b90320ecd74da0bcdd709c9b30480034069690401 [] (IL.eq_1 ..) (BI 0 17 14 0 (hO 16 (eL 3 CB)))
abbrev Q_232(n:Nat):Prop:=∀(t:AC)(c:bq)(b:AH)(m:AT)(a:Bool),CT (EK n t c b m a) 232 [AN t,AQ c,CF b,CB m,eB a] (rT E7 eI)
theorem xU(n:Nat)(_ih_232:Q_232 n)(t:AC)(c:bq)(b:AH)(m:AT)(a:Bool):CT (EK (n+1) t c b m a) 232 [AN t,AQ c,CF b,CB m,eB a] (rT E7 eI):=Fk f232 0xbe4b0a46ff58d70a460a0117150a07b6077dff0a013bbe4b010c460547b3d543306cd70ec98901d5433073c609435f550a01ea17150a07b6078158d7010aeef5017373c655bebe4b0a460a01120a7eb6077d58d7010b460547b37fd70ec989017373c609e0550a0192c5120a7eb607a205be4bb30e0a020f0e0a7eb6087df2044205480547b304044258d7010aeed70ec989017373c609e0550e0a0292c50f0e0a7eb608be500ec93fbebe4b010a4658d70a46850158d70aeed70e4989017373c609435f55be833275c969690401 [.x9 [.z ⟨T,.int .i64 0⟩,.z ⟨X,.list 1 []⟩,.z ⟨X,.list 1 []⟩,.z ⟨X,.list 1 []⟩,.z ⟨X,.list 5 []⟩]] [.cell 10 (Y 5),.tmp 11] λr h d e=>by
  unfold EK at h;have:=BI 1 15 6 1 λs1:BD×BD=>[(10,.bx [⟨T,eI s1.1.Aam⟩,⟨X,lI s1.1.gE.bk.az⟩,⟨X,lI s1.1.gE.bk.be⟩,⟨X,lI s1.1.gE.eg⟩,⟨X,Ie s1.1.eo⟩]),(14,.bx [⟨T,eI s1.2.Aam⟩,⟨X,lI s1.2.gE.bk.az⟩,⟨X,lI s1.2.gE.bk.be⟩,⟨X,lI s1.2.gE.eg⟩,⟨X,Ie s1.2.eo⟩])];have:=BI 3 18 6 1 λs3:BD=>[(10,.bx [⟨T,eI s3.Aam⟩,⟨X,lI s3.gE.bk.az⟩,⟨X,lI s3.gE.bk.be⟩,⟨X,lI s3.gE.eg⟩,⟨X,Ie s3.eo⟩])];have:=BI 5 23 21 0 λs5:BD=>[(10,.bx [⟨T,eI s5.Aam⟩,⟨X,lI s5.gE.bk.az⟩,⟨X,lI s5.gE.bk.be⟩,⟨X,lI s5.gE.eg⟩,⟨X,Ie s5.eo⟩])];exact nz
theorem xT:∀n:Nat,Q_232 n:=by
  intro n
  induction n with
  |zero=>exact(λt c a m eb=>⟨λ_ h=>c?⟩)
  |succ n b=>exact xU n b
instance(t c h_2 m eb):CT (SN t c h_2 m eb) 232 [AN t,AQ c,CF h_2,CB m,eB eb] (rT E7 eI):=⟨λr h=>by
  obtain ⟨N,a⟩:=DX h;exact((xT N) t c h_2 m eb).snd r (a N (R0 _))⟩
instance(a b c d e):CT (M3 a b c d e) 155 [AN a,AQ b,CF c,CB d,eB e] (rT eB eI):=Fe f155 0xa25b01d66cd70e4989017373c6553069690401 [] (M3.eq_1 ..)
instance(a b c d):CT (Mb a b c d) 90 [AN a,Bm b,CF c,CB d] (rT IY eI):=Fk f90 0x81ad01550d0b08030d0b08033c018a0897308189030f427373c610ba58ad30468530ad02c989e2550bba325558ad30468530ad08c989e2e2555c01ba58ad0146c4f958ad30eef5e273b301ba58ad0146850e030fba32e2555c01baccc969b1 [] [.cell 8 (Y 2),.tmp 9] λr h f g=>by
  unfold Mb at h;have:HJ 95 λ(e:Int)=>[(11,.tv (eI e))]:=⟨⟩;exact nz
instance(a b c):CT (Kk a b c) 156 [AN a,CF b,IY c] (rT CF eI):=Fk f156 0x81a7730d06020e0d0b0604057df20280d9014860f0f94704da0d0602925d750d0b06040581035010c93f5558a70111eeadad02c908c911898d3258a70111ee018973db10c9f8 [.x9 [.v (.s 37) 0 2,.v (.s 37) 1 2,.z ⟨X,.list 1 []⟩]] [.cell 6 (Y 3),.tmp 7] λr h e f=>by
  unfold Kk at h;have:HW 0 λ(d:AH×Int)=>[(13,.bx [⟨T,lI d.1.bi.az⟩,⟨T,lE d.1.bi.be⟩,⟨X,(eL 1 lI) d.1.d5⟩]),(14,.tv (eI d.2))]:=⟨⟩;exact nz
instance(a b):CT (MW a b) 158 [lI a,eI b] (rO lI):=H9 f158 0x8218ca9ebb7d9ebbfe6b057dfe6b05fe6b053c01f130148501ed9ebbeafe6b058119014fb519ca6a309ebbebce01406b02 [] (MW.eq_1 ..) (BI 0 6 1 0 (hX 5 1 eI)) (BI 2 7 0 0 (hX 5 1 eI))
instance(a b):CT (Lw a b) 157 [eI a,lI b] (rO lI):=Fe f157 0x82f430406b02 [] (Lw.eq_1 ..)
instance(a b c):CT (NR a b c) 91 [AN a,CF b,IY c] (rT CF A2):=Fk f91 0x706023bada702460e5f0b90320e5d0bcd7301a710c98955735502c910c9f8 [] [.cell 6 (Y 3),.cell 7 (Y 2)] λr h d e=>by
  unfold NR at h;exact nz
instance(a b):CT (H4 a b) 92 [lI a,lI b] (rO lI):=CA f92 0xfaca9ebb7dacd960913002caea9ebbebc001406b02 [] (H4.eq_1 ..) (BI 0 6 0 0 (hO 5 lI))
instance(a b c d e):CT (GN a b c d e) 93 [lI a,lI b,eI c,lI d,eI e] (rO lI):=CA f93 0xfa0c010dcbf600077d0dcbf600076501acd9cc0dcbf600073cacd96060ed300285ed0c016a300dcbf60007ebc082f43040f66b05 [] (GN.eq_1 ..) (BI 0 13 2 0 λs0:Int×Fp=>[(4,.tv (eI s0.1)),(12,.ow (lI s0.2))])
instance(a b):CT (Ii a b) 159 [lI a,eI b] rB:=CA f159 0xa805cf7dc10160969297cf81c3 [] (Ii.eq_1 ..) (BA 0 5 0 0)
noncomputable def oY:PC:=PC.of Mp f94.body (xq bT 0x35003530806020f097e9e067d0f097e9e060f097e9e063cf201413203480347074660b45d605f5d5d04014132a7fde08e01900d4208060292c50f097e9e0681097e9e05a97eb6076501a97eb607a97eb6073c1fda21221923da0da97eb6aa0d0ba97eb60a7d19014fb590e130190da97eb608ea0e0d0ba97eb60aebce01f5f0db4a5c3201d9f0045c32ffa97eb607c401740d42097e9e0592a6a97eb60781ad08c9555cec1ec993abb1) []
theorem AAZ:CK f94 oY [.cell 8 (Y 3)]:=b!
theorem AAg:PC.sx oY=X:=b!
instance(a b c d):CT (Ma a b c d) 94 [AN a,Bm b,.agg [.undef,.undef,.undef],A2 d] (λr=>.ag [⟨X,lI c.bi.az⟩,⟨X,lE c.bi.be⟩,⟨X,.xn (w! lI c.d5)⟩] 2 (.oag [⟨X,lI r.bi.az⟩,⟨X,lE r.bi.be⟩,⟨X,.xn (w! lI r.d5)⟩])):=zh AAZ AAg λr h i g j=>by
  unfold oY;unfold f94;unfold Ma at h;have:HW 0 λ(f:AH×Int)=>[(6,.bx [⟨X,lI f.1.bi.az⟩,⟨X,lE f.1.bi.be⟩,⟨X,.xn (w! lI f.1.d5)⟩]),(10,.tv (eI f.2))]:=⟨⟩;have:=BI 2 14 11 0 (hX 13 1 eI);have:HW 4 λ(e:AH×Int)=>[(6,.bx [⟨X,lI e.1.bi.az⟩,⟨X,lE e.1.bi.be⟩,⟨X,.xn (w! lI e.1.d5)⟩]),(15,.tv (eI e.2))]:=⟨⟩;exact nz
instance(a):CT (Lr a) 95 [CF a] (λr=>.oag [⟨X,lI r.bi.az⟩,⟨X,lE r.bi.be⟩,⟨X,.xn (w! lI r.d5)⟩]):=Fk f95 0x35003535e02f6f37d1fda2122014f91f95623da5e0292f9f6f38103501ec93f1be21ec9bc [.x9 [.g 7 0 2,.g 7 1 2,.z ⟨X,.xn []⟩]] [.cell 2 (Y 3)] λr h b c=>by
  unfold Lr at h;have:=BI 0 4 1 2 λs0:AH=>[(3,.bx [⟨X,lI s0.bi.az⟩,⟨X,lE s0.bi.be⟩,⟨X,.xn (w! lI s0.d5)⟩])];exact nz
noncomputable def oZ:PC:=PC.of Mp f96.body (xq bT 0x81a773073e0a0702130c0a7e6d077d26240190e13025240123da58a711468a055e41e190d3309790e190d33030f591cd55816074e1305d618901550241e1300a0702ea130c0a7e6d07810c0a7e6d060d0c0a7e6d077d0d0c0a7e6d07100e0d0c0a7e6d097d58a711468aca30a590e13090d3976074e1305d6074e1305d618901550241e1300d0c0a7e6d076a30100e0d0c0a7e6d0981618901550241e1300c0a7e6d06ea0d0c0a7e6d0781825e41068010c993ab690401) []
theorem AAa:CK f96 oZ [.cell 10 (Y 3),.tmp 11]:=b!
theorem AAh:PC.sx oZ=X:=b!
instance(a b c d e):CT (N0 a b c d e) 96 [AN a,Bm b,.agg [.undef,.undef,.undef],A2 d,lI e] (λr=>.ag [⟨X,lI c.bi.az⟩,⟨X,lE c.bi.be⟩,⟨X,.xn (w! lI c.d5)⟩] 2 (.tp [CF r.1,eI r.2])):=zh AAa AAh λr h g f i=>by
  unfold oZ;unfold f96;unfold N0 at h;have:=BI 0 13 12 0 λs0:AH=>[(10,.bx [⟨X,lI s0.bi.az⟩,⟨X,lE s0.bi.be⟩,⟨X,(eL 1 lI) s0.d5⟩])];have:=BI 2 16 13 0 λs2:AH=>[(10,.bx [⟨X,lI s2.bi.az⟩,⟨X,lE s2.bi.be⟩,⟨X,(eL 1 lI) s2.d5⟩])];have:=BI 4 19 12 0 λs4:AH×AH=>[(7,.bx [⟨X,lI s4.1.bi.az⟩,⟨X,lE s4.1.bi.be⟩,⟨X,.xn (w! lI s4.1.d5)⟩]),(10,.bx [⟨X,lI s4.2.bi.az⟩,⟨X,lE s4.2.bi.be⟩,⟨X,(eL 1 lI) s4.2.d5⟩])];exact nz
instance(a b c d):CT (JZ a b c d) 48 [AN a,Bm b,CF c,CB d] (rT RF eI):=Fk f48 0x81264b2a468d737373de58264b0e468a7690325b0bcd58264b75468530a777cc57b4550353de550d013b03500257551b73de55ad02c902460eef5f0b3184ec900d42900b420ed45d0b745cec740d42740b42ad02c902460e5f90320e5dcdada702c91ec98955735558264b75eead02c9897373de5558264b75ee0e73dedb11c969b1 [] [.cell 8 (Y 38),.tmp 9] λr h e f=>by
  unfold JZ at h;exact nz
instance(a):CT (Of a) 297 [Au a] (rS A2):=Fk f297 0xad55033e5e0205e77d01f1011dd05e026a151dd05be7815e0204e77d01f1011d325e026a151d32f3e78102501fc93f3fef3fd402c9bc [.mkx 1 [.int .i64 0] (.s 8),.mkx 1 [.int .i64 0] (.s 12),.x9 [.w 9,.w 13]] [.cell 2 (Y 2)] λr h d e=>by
  unfold Of at h;have:HW 0 λ(c:bk×Int)=>[(3,.bx [⟨X,.xl 1 (w! eI c.1.az)⟩,⟨X,.xl 1 (w! eI c.1.be)⟩]),(4,.tv (eI c.2))]:=⟨⟩;have:HW 2 λ(b:bk×Int)=>[(3,.bx [⟨X,.xl 1 (w! eI b.1.az)⟩,⟨X,.xl 1 (w! eI b.1.be)⟩]),(5,.tv (eI b.2))]:=⟨⟩;exact nz
instance(a b c d):CT (QJ a b c d) 222 [AN a,Au b,Au c,eB d] (rT (eL 2 A2) eI):=Fe f222 0x8182015802c085fc820e758d8d5802c09a558dcc40936931 [] (QJ.eq_1 ..)
instance(a b c d):CT (Km a b c d) 148 [AN a,B4 b,CF c,eB d] (rT (eL 3 CB) eI):=CA f148 0x81fa0d750d0b9e057d0e0d0b9e050e0d0b9e053c020348034709460155024330026cf55502433073b30d01ea0e0d0b9e058103c05803c07ff501e2e2555803c09a73b3db0340936931 [] (Km.eq_1 ..) (BI 0 14 11 0 (hO 13 (eL 3 CB)))
instance(a b c):CT (IN a b c) 88 [AN a,Bm b,CF c] (rT (eL 3 CB) eI):=CA f88 0x81fafccb096d03067dcb096d0306cb096d03063c0203480347d54330026c264b114989d5433073de55fceacb096d03068103c05803c07ff5030f4273b301ba5803c09a73dedb0340f8 [] (IN.eq_1 ..) (BI 0 12 9 0 (hO 11 (eL 3 CB)))
instance(a b c d):CT (M9 a b c d) 47 [AN a,Bm b,CF c,eI d] (rO (eL 38 RF)):=CA f47 0xfafccb09b603077d02264826472644ac264b11c989d5433073de550b7c8aca307630cb09b603078126c001f573de552640936931 [] (M9.eq_1 ..) (⟨⟩:HW 0 λ(e:List BG×Int)=>[(11,.ow ((eL 38 RF) e.1)),(12,.tv (eI e.2))])
instance(a b c d):CT (Ly a b c d) 22 [AN a,(eL 25 Bm) b,(eL 1 Nn) c,eI d] (rO (eL 4 Ji)):=ez f22 0xfa09010ba9f601077d0a013ba702731f4126433004480447e9e130028176013fedff090185fc0dcba9f601090e0dcba9f6010a7d0e0dcba9f6010ae60e0dcba9f6010c7d020226482647264426433002044804471446731941268c30020e0dcba9f6010aeae60e0dcba9f6010c81820e73de194330550dcba9f60109ea0e0dcba9f6010a8126c004c0097c8aca3076300ba9f6010781a710c9114604c00440935e0103 [.cvt .i64 (.s 72)] (Ly.eq_1 ..) (⟨⟩:HW 0 λ(e:List C8×AH×Int)=>[(9,.ow ((eL 4 Ji) e.1)),(10,.bx [⟨T,lI e.2.1.bi.az⟩,⟨T,lE e.2.1.bi.be⟩,⟨T,(eL 1 lI) e.2.1.d5⟩]),(11,.tv (eI e.2.2))]) (BI 2 14 1 0 λs2:List C8×List BG=>[(12,.ow ((eL 4 Ji) s2.1)),(13,.ow ((eL 38 RF) s2.2))]) (BI 4 16 15 0 λs4:List C8×List BG=>[(12,.ow ((eL 4 Ji) s4.1)),(13,.ow ((eL 38 RF) s4.2))])
instance(a b c d):CT (NC a b c d) 23 [AN a,F5 b,(eL 25 Bm) c,(eL 4 Ji) d] (rT CF eI):=Fk f23 0x81a7730b0802cb08f6067da7731f4258a70111ee264b11c989730141e13073de194374d3305558a711468a760174d39774e1300b0802eacb08f60681a710c9114658a7114685fc58a70111eef48d0110c9695e02 [] [.cell 8 (Y 3),.tmp 9] λr h e f=>by
  unfold NC at h;have:=BI 0 12 3 0 λs0:AH×AH=>[(8,.bx [⟨X,lI s0.1.bi.az⟩,⟨X,lE s0.1.bi.be⟩,⟨X,(eL 1 lI) s0.1.d5⟩]),(11,.bx [⟨T,lI s0.2.bi.az⟩,⟨T,lE s0.2.bi.be⟩,⟨T,(eL 1 lI) s0.2.d5⟩])];exact nz
instance(a b):CT (MT a b) 65 [lI a,lI b] rB:=CA f65 0xa805cf7dc1ed60969297cf81c1fcfcc3 [] (MT.eq_1 ..) (BA 0 5 0 0)
instance(a b):CT (Oc a b) 31 [Au a,Au b] rB:=CA f31 0xa805e77d58bfd5e0d5e000925f5be7819de50bc5aa5da6b1 [.bin (.a [0,0,0]) .neq (.s 32) (.s 37)] (Oc.eq_1 ..) (BA 0 5 2 1)
instance(a b):CT (Kl a b) 32 [lI a,lI b] rI:=CA f32 0x8176010bc305cf7d5805eded85ed91c3ff8a7601307697cf81c3 [] (Kl.eq_1 ..) (⟨⟩:HW 0 λ(c:Int)=>[(5,.tv (eI c))])
instance(a b):CT (Od a b) 12 [CF a,CF b] rB:=CA f12 0xa805e77dc10e91b491b40092b45be7819d76b40bf9aae2e201b1 [] (Od.eq_1 ..) (BA 0 5 2 2)
end Go.Sf.Sc
