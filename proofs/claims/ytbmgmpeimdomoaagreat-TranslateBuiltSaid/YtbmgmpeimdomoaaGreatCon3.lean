/- Contracts of the functions. -/
import Derived.Test.YtbmgmpeimdomoaaGreatCon2
set_option linter.all false
set_option maxRecDepth 100000
set_option maxHeartbeats 4000000
open Option renaming some->Y,none->W
open Bool renaming true->X
namespace Go.Sf.Sc
open Go Go.Sf Go.Proofs.Tryz
instance(a b c d):CT (Mf a b c d) 57 [AN a,Bm b,CF c,CB d] (rT RF eI):=Fk f57 0x81264b26440f3e58264b0e468a7631841f425b0b745c1f4258264b75ee0152db528d024a244202460eef9022429032900d42900b420b3184ec0ed4742242cd740d42740b420b745cec024a224202460e5f0b90320e5d0bcd3f12c90f460e730e73de58264b0e46880158264b754685308189030f427373c61042b301ba58264b75468530ad02c989e2550bba325558264b75eead08c989e2e2555c01ba58264b75ee0e7373dedb11c969b1 [.stq 38 [W,W,W,W,W,W,W,W,W,W,W,W,W,W,W,W,W,W,W,W,W,W,W,W,W,W,W,W,W,W,W,Y ⟨X,.list 1 []⟩,Y ⟨X,.list 3 []⟩,Y ⟨X,.xn []⟩,W,W,W,W] (.s 15) (.s 82)] [.cell 8 (Y 38),.tmp 9] λr h e f=>by
  unfold Mf at h;exact nz
instance(a b c d):CT (KY a b c d) 28 [AN a,Bm b,CF c,CB d] (rT RF eI):=Fk f28 0x81264b770e7373de5558264b75ee0e73dedb11c969b1 [] [.cell 8 (Y 38),.tmp 9] λr h e f=>by
  unfold KY at h;exact nz
instance(a b c d):CT (E1 a b c d) 10 [AN a,F5 b,(eL 25 Bm) c,(eL 4 Ji) d] (rT CF eI):=Fk f10 0x81a7730b08021f1e1d0b080402079ba7731f4258a70111ee264b11c98973d073de1943a65558a711468a76015d5b5df714c9e9e10b08026a1f1e1d0b08040207a18113c958a7114685fc58a70111ee0e1046018d0110c9695e02 [] [.cell 8 (Y 3),.tmp 9] λr h e f=>by
  unfold E1 at h;have:=BI 0 31 30 0 λs0:AH×AH=>[(8,.bx [⟨X,lI s0.1.bi.az⟩,⟨X,lE s0.1.bi.be⟩,⟨X,(eL 1 lI) s0.1.d5⟩]),(11,.bx [⟨false,lI s0.2.bi.az⟩,⟨false,lE s0.2.bi.be⟩,⟨false,(eL 1 lI) s0.2.d5⟩])];exact nz
instance(a b c):CT (D3 a b c) 35 [Au a,Au b,A2 c] rB:=Fe f35 0xe3e50ec50a765d0e5d5b0e558d01f8 [] (D3.eq_1 ..)
instance(a b c d):CT (E3 a b c d) 13 [AN a,F5 b,(eL 25 Bm) c,OI d] rB:=Fe f13 0xe30e5504ba5c32e2755504ba5c32e2586c0189733255586ca710c9899f808d019369ac [] (E3.eq_1 ..)
instance(a b c):CT (Em a b c) 59 [eI a,.pt (G0 b).cells,.pt [eI c]] rB:=Fe f59 0xbe039174028002cf [] (Em.eq_1 ..)
instance(a b c):CT (Eo a b c) 61 [B6 a,.pt (G0 b).cells,.pt [eI c]] rB:=Fe f61 0xbe03605d90028093ac02 [] (Eo.eq_1 ..)
instance(a b c):CT (CC a b c) 29 [G0 a,CF b,eI c] rI:=Fe f29 0x819d0e1090327510cdc103587f018973e2b2b301f8 [] (CC.eq_1 ..)
noncomputable def aa:PC:=PC.of Mp f118.body (xq bT 0xeb4a0d840132c3) []
theorem yB:CK f118 aa [.tmp 4]:=b!
theorem yd:PC.sx aa=X/\PC.tl 0 aa=X:=b!
instance(a b):CT (Cy a b) 118 [.undef,eI b] (λr=>.bo (Ax a) (Ax r.2) 0 [eB r.1]):=av yB yd λr h d c e=>by
  unfold aa;unfold f118;unfold Cy at h;exact nz
instance(a):CT (Dq a) 119 [CW a] rB:=Fe f119 0xe3aa9f80aaf9bc [] (Dq.eq_1 ..)
instance(a b):CT (Fa a b) 260 [eI a,lI b] (rO lI):=CA f260 0xfaca7eca049b7eca047eca043cacd9ccc430815b016a7eca04a201c001406b02 [] (Fa.eq_1 ..) (BI 0 8 7 0 (hO 5 lI))
instance(a b):CT (Dj a b) 186 [.pt (V2 a).cells,Bm b] (λr=>.oag [⟨X,lI r.up.az⟩,⟨X,lE r.up.be⟩,⟨X,lI r.ci⟩,⟨X,lI r.c8⟩]):=Fk f186 0x45004536d02706f6e07b600089b706f6e07b60008706f6e07b600083cf2014132f2034203480347074617ddb41417dd5f145d0401413201d9f303428e605d9002845c0103058401a7fde081606d026a706f6e07b60008a18e900d42ef07b6d10638373607b6d1099b38373607b6d10938373607b6d1093cf25c32f20280d9f0045c3201d9f30280f10bcd01148e60f07402845c01030584616007b6d1066a38373607b6d109a18e740d42d407b6d10626252407b6d1099b01f13014a29107b6d1066a26252407b6d109dc5c0d42993fd4ad08c9555cec045015c93f3f0e3184d00e745cd015c9bc01 [.x9 [.w 19,.w 24],.x9 [.g 25 0 2,.g 25 1 2,.z ⟨X,.list 1 []⟩,.z ⟨X,.list 1 []⟩],.mkx 1 [.int .i64 0] (.s 32)] [.cell 4 (Y 4)] λr h c d=>by
  unfold Dj at h;have:=BI 0 38 37 0 (hX 7 1 eI);have:=BI 2 56 55 0 λs2:Cc×Fp=>[(5,.bx [⟨X,lI s2.1.up.az⟩,⟨X,lE s2.1.up.be⟩,⟨X,lI s2.1.ci⟩,⟨X,lI s2.1.c8⟩]),(7,.xo 1 (List.map eI s2.2))];have:=BI 4 112 111 0 λs4:Cc=>[(5,.bx [⟨X,lI s4.up.az⟩,⟨X,lE s4.up.be⟩,⟨X,lI s4.ci⟩,⟨X,lI s4.c8⟩])];exact nz
instance(a b c d):CT (KV a b c d) 187 [AN a,Au b,Au c,eB d] (rT (eL 2 A2) eI):=Fe f187 0x818277f41246558d5802c09a558dcc40936931 [] (KV.eq_1 ..)
instance(a b c):CT (H7 a b c) 188 [(eL 1 eB) a,lI b,eI c] rB:=CA f188 0xa80ba90200059b58870530eda2606b92a9020005a181cccf [] (H7.eq_1 ..) (BA 0 11 10 0)
instance(a b):CT (H6 a b) 262 [lI a,lI b] (rO lI):=CA f262 0xfacaa908055b9bacd90e30028160ca6aa908055ba1ebc001406b02 [] (H6.eq_1 ..) (BI 0 10 9 0 (hO 5 lI))
instance(a b c d e):CT (EE a b c d e) 189 [CW a,eI b,Bm c,UT d,A2 e] (rS CW):=Fk f189 0x74b07440e3e0e0a02b9b8b7e60e0ca9080a9bf201410580d9f301410580f1011d0342b9b8b719e60e0ca9080b3c1f03804a014132014fb51e03420348034707463f3fb4143f3f5f145d04014132a7fde0b9b8b719e60e0ca9080b3c016005305f6cf4d8810b903281600e0a026ab9b8b7e60e0ca9080aa18e900d42efe60e0ca97e087a7978e60ecba97e0c9bf25c0580d9f35c0580f101f1301d0280147a79781514e60ecba97e0e3c1f02804a5c32014fb51e0280d9f0045c327a79781514e60ecba97e0e3c016005305d6cf4b4810bcd8160e60e0ca97e086a7a7978e60ecba97e0ca18e740d42d4e60ecba97e09646362e60ecba97e0c9b01f191a614a291e60ecba97e096a646362e60ecba97e0cdc5c0d42993fd4ad08c9555cec075017c93f3f0e9005420e74054204480447e90ec8421ad81ab43f0e90320ecdf714c91446134602460e90058045015f0e74058045015d61810b3184d00b745cd016c9696930 [.x9 [.w 61,.w 65],.x9 [.w 82,.w 86],.x9 [.g 66 0 2,.g 66 1 2,.w 69,.w 72,.w 78,.g 87 0 2,.g 87 1 2],.mkx 1 [.int .i64 0] (.s 94),.xin (.s 216) (.s 218) 1,.xln (.s 219),.xin (.s 221) (.s 223) 1,.xln (.s 224)] [.cell 10 (Y 7)] λr h f i=>by
  unfold EE at h;have:=BI 0 100 99 0 (hX 16 1 eI);have:=BI 2 122 121 0 λs2:AI×Fp=>[(14,.bx [⟨X,lI s2.1.ea.az⟩,⟨X,lE s2.1.ea.be⟩,⟨X,.xl 1 (List.map eB s2.1.ci)⟩,⟨X,.xl 1 (List.map eB s2.1.c8)⟩,⟨X,(eL 4 Ji) s2.1.og⟩,⟨X,lI s2.1.l3.az⟩,⟨X,lI s2.1.l3.be⟩]),(16,.xo 1 (List.map eI s2.2))];have:=BI 4 185 184 0 λs4:AI=>[(14,.bx [⟨X,lI s4.ea.az⟩,⟨X,lE s4.ea.be⟩,⟨X,.xl 1 (List.map eB s4.ci)⟩,⟨X,.xl 1 (List.map eB s4.c8)⟩,⟨X,(eL 4 Ji) s4.og⟩,⟨X,lI s4.l3.az⟩,⟨X,lI s4.l3.be⟩])];exact nz
noncomputable def jQ:PC:=PC.of Mp f64.body (xq bT 0xa801363534d1059b5800d2de01074432194b810cc9de19436b016a363534d105dc04845c32ff580052328176c84281064a078416460259055ac85a15463f0b74005a0259005a32810e0744a85232be0306bdf20684050306bd01bc01) [.mko 1 [.list 1 []] (.s 31)]
theorem AAY:CK f64 jQ [.tmp 4]:=b!
theorem AAf:PC.sx jQ=X/\PC.tl 0 jQ=X:=b!
noncomputable def ac:PC:=PC.of Mp f120.body (xq bT 0xa8012e2d2c090705020008652e2d2c0907050200082e2d2c090705020008a8d2074432580052328a7690325b0bcd074b16c90e55e9de010744ff2e2d2c0907050200088aaa0b3184d05f9f80aa0b745cd05db4ad02c955024300016a2e2d2c090705020008a18158005201326cf5e2e2555c5c5c32c176d80bb4045015c91bde320169020002) []
theorem yC:CK f120 ac [.tmp 8]:=b!
theorem ye:PC.sx ac=X/\PC.tl 0 ac=X:=b!
abbrev Q_64(n:Nat):Prop:=∀(p:Ah)(a:AI),CT (A5 n p a) 64 [.undef,CW a] (λr=>.bo (Ax p) (Ax r.2) 0 [eB r.1])
abbrev AbW(n:Nat):Prop:=∀(p:Ah)(b:AI)(a:Int)(c:d3),CT (BS n p b a c) 120 [.undef,CW b,eI a,Bm c] (λr=>.bo (Ax p) (Ax r.2) 0 [eB r.1])
theorem AAV(n:Nat)(_ih_64:Q_64 n)(_ih_120:AbW n)(p:Ah)(a:AI):CT (A5 (n+1) p a) 64 [.undef,CW a] (λr=>.bo (Ax p) (Ax r.2) 0 [eB r.1]):=av AAY AAf λr h c b d=>by
  unfold jQ;unfold f64;unfold A5 at h;have:=BI 1 54 53 0 λs1:Ah=>[(0,.bx (Ax s1))];exact nz
theorem xM(n:Nat)(_ih_64:Q_64 n)(_ih_120:AbW n)(p:Ah)(a:AI)(b:Int)(c:d3):CT (BS (n+1) p a b c) 120 [.undef,CW a,eI b,Bm c] (λr=>.bo (Ax p) (Ax r.2) 0 [eB r.1]):=av yC ye λr h e d f=>by
  unfold ac;unfold f120;unfold BS at h;have:=BI 0 46 45 0 λs0:Ah=>[(0,.bx (Ax s0))];exact nz
theorem uR:∀n:Nat,Q_64 n/\AbW n:=by
  intro n
  induction n with
  |zero=>exact⟨(λp b=>⟨λ_ h=>c?⟩),(λp b c d=>⟨λ_ h=>c?⟩)⟩
  |succ n a=>exact⟨AAV n a.1 a.2,xM n a.1 a.2⟩
instance(p x_1):CT (Fd p x_1) 64 [.undef,CW x_1] (λr=>.bo (Ax p) (Ax r.2) 0 [eB r.1]):=⟨λr h=>by
  obtain ⟨N,a⟩:=DX h;exact((uR N).1 p x_1).snd r (a N (R0 _))⟩
instance(p x_1 i_2 r_3):CT (RA p x_1 i_2 r_3) 120 [.undef,CW x_1,eI i_2,Bm r_3] (λr=>.bo (Ax p) (Ax r.2) 0 [eB r.1]):=⟨λr h=>by
  obtain ⟨N,a⟩:=DX h;exact((uR N).2 p x_1 i_2 r_3).snd r (a N (R0 _))⟩
instance(a b c):CT (CD a b c) 30 [G0 a,CF b,lI c] (rT OI eI):=Fk f30 0x81064b064407845c58064b1a46887c06013b81064b030d845c1a4685030d845ca85207445c00c2bf19465b44074b16c918463f0b90323f0bcd17460e90320ecd0118c969ac [.mko 1 [.bool false] (.s 23),.mko 1 [.bool false] (.s 28),.Abj [W,W,W,W,W,W,W,W,W,W,W,W,W,W] (.s 33)] [.cell 6 (Y 6),.tmp 7] λr h d e=>by
  unfold CD at h;exact nz
instance(a b c d):CT (GL a b c d) 15 [AN a,F5 b,(eL 25 Bm) c,CF d] (rT OI eI):=Fk f15 0x81064b770eb573b358064b011aee0e73b3d719c91046018d0118c99369ac [] [.cell 8 (Y 6),.tmp 9] λr h e f=>by
  unfold GL at h;exact nz
instance(a b c d):CT (Ia a b c d) 11 [AN a,F5 b,(eL 25 Bm) c,CF d] (rT OI eI):=Fk f11 0x81064b770eb573b358064b011aee0e73b3d719c91046018d0118c99369ac [] [.cell 8 (Y 6),.tmp 9] λr h e f=>by
  unfold Ia at h;exact nz
end Go.Sf.Sc
