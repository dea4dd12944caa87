/- Contracts of the functions. -/
import Derived.Test.YtbmgmpeimdomoaaGreatCon2
set_option linter.all false
set_option maxRecDepth 100000
set_option maxHeartbeats 4000000
open Option renaming some->Y,none->W
open Bool renaming true->X,false->T
namespace Go.Sf.Sc
open Go Go.Sf Go.Proofs.Tryz
instance(a b c d):CT (M0 a b c d) 57 [AN a,Bp b,B4 c,CH d] (rT RQ eI):=Fk f57 0x81264b26440f3e58264b0e468a77318c1f425b0b765c1f4258264b75466c0152d8528d024a244202460eef9122429132910d42910b420b318cee0ed6762242cf760d42760b420b765cee024a224202460e5f0b91320e5d0bcf3f12c90f460e730e73e058264b0e46880158264b75468530817d030f427373c81042b101a858264b75468530a202c97de3550ba8325558264b75466ca208c97de3e3555c01a858264b75467f7373e0d811c969b3 [.stq 38 [W,W,W,W,W,W,W,W,W,W,W,W,W,W,W,W,W,W,W,W,W,W,W,W,W,W,W,W,W,W,W,Y ⟨X,.list 1 []⟩,Y ⟨X,.list 3 []⟩,Y ⟨X,.xn []⟩,W,W,W,W] (.s 15) (.s 82)] [.cell 8 (Y 38),.tmp 9] λr h e f=>by
  unfold M0 at h;exact nz
instance(a b c d):CT (Kt a b c d) 28 [AN a,Bp b,B4 c,CH d] (rT RQ eI):=Fk f28 0x81264b740e7373e05558264b75467f73e0d811c969b3 [] [.cell 8 (Y 38),.tmp 9] λr h e f=>by
  unfold Kt at h;exact nz
instance(a b c d):CT (GV a b c d) 10 [AN a,ER b,(eL 25 Bp) c,(eL 4 J2) d] (rT B4 eI):=Fk f10 0x8197730b08021f1e1d0b080402079b97731f4258970111466c264b11c97d73cd73e01943a755589711468a77015d5b5df714c9ebe20b08026a1f1e1d0b080402079e8113c958971146850b0158970111467f1046018d01f9695e02 [] [.cell 8 (Y 3),.tmp 9] λr h e f=>by
  unfold GV at h;have:=BG 0 31 30 0 λs0:AH×AH=>[(8,.bx [⟨X,lI s0.1.bk.az⟩,⟨X,lE s0.1.bk.bi⟩,⟨X,(eL 1 lI) s0.1.d6⟩]),(11,.bx [⟨T,lI s0.2.bk.az⟩,⟨T,lE s0.2.bk.bi⟩,⟨T,(eL 1 lI) s0.2.d6⟩])];exact nz
instance(a b c):CT (ED a b c) 35 [Au a,Au b,A4 c] rB:=Fe f35 0xdae90ec50a775d0e5d5b0e558d01f2 [] (ED.eq_1 ..)
instance(a b c d):CT (Dm a b c d) 13 [AN a,ER b,(eL 25 Bp) c,Lw d] rB:=Fe f13 0xda0e5504a85c32e3755504a85c32e3586c017d733255586c97f97d9f898d019369ad [] (Dm.eq_1 ..)
instance(a b c):CT (E4 a b c) 59 [eI a,.pt (HO b).cells,.pt [eI c]] rB:=Fe f59 0xdb039276fa02dd [] (E4.eq_1 ..)
instance(a b c):CT (E5 a b c) 61 [CC a,.pt (HO b).cells,.pt [eI c]] rB:=Fe f61 0xdb03615d91fa93ad02 [] (E5.eq_1 ..)
instance(a b c):CT (By a b c) 29 [HO a,B4 b,eI c] rI:=Fe f29 0x81a60e1091327510cfc603846c017d73e3b4b101f2 [] (By.eq_1 ..)
noncomputable def cM:PC:=PC.of M9 f118.body (xq bT 0xcb4a0d8c0132ca) []
theorem zV:CK f118 cM [.tmp 4]:=b!
theorem zy:PC.p0 cM=X/\PC.r0 0 cM=X:=b!
instance(a b):CT (C4 a b) 118 [.undef,eI b] (λr=>.bo (Ax a) (Ax r.2) 0 [eB r.1]):=cb zV zy λr h d c e=>by
  unfold cM;unfold f118;unfold C4 at h;exact nz
instance(a):CT (D0 a) 119 [Cb a] rB:=Fe f119 0xdaa99f89a9febc [] (D0.eq_1 ..)
instance(a b):CT (Fv a b) 260 [eI a,lI b] (rO lI):=CJ f260 0xfd968096049b8096048096043cadd1d0c430815b016a809604a101e4406b02 [] (Fv.eq_1 ..) (BG 0 8 7 0 (hO 5 lI))
instance(a b):CT (Dp a b) 186 [.pt (W9 a).cells,Bp b] (λr=>.oag [⟨X,lI r.t5.az⟩,⟨X,lE r.t5.bi⟩,⟨X,lI r.cE⟩,⟨X,lI r.c9⟩]):=Fk f186 0x45004536d02706f6e07bb00089b706f6e07bb0008706f6e07bb00083cea014132ea034203480347074617dfba1417df5f145d0401413201d1f003428e615d91028c5c0103058c0197f8e681616d026a706f6e07bb00089e8e910d42ef07bbd30638373607bbd3099b38373607bbd30938373607bbd3093cea5c32eafad1ed045c3201d1f0faf10bcf01148e61ed76028c5c0103058c606107bbd3066a38373607bbd3099e8e760d42d607bbd30626252407bbd3099b01f13014a19207bbd3066a26252407bbd309d55c0d42993fd6a208c9555cee045015c93f3f0e318ccd0e765ccd15c9bc01 [.x8 [.w 19,.w 24],.x8 [.g 25 0 2,.g 25 1 2,.z ⟨X,.list 1 []⟩,.z ⟨X,.list 1 []⟩],.mkx 1 [.int .i64 0] (.s 32)] [.cell 4 (Y 4)] λr h c d=>by
  unfold Dp at h;have:=BG 0 38 37 0 (hX 7 1 eI);have:=BG 2 56 55 0 λs2:Cg×Fp=>[(5,.bx [⟨X,lI s2.1.t5.az⟩,⟨X,lE s2.1.t5.bi⟩,⟨X,lI s2.1.cE⟩,⟨X,lI s2.1.c9⟩]),(7,.xo 1 (List.map eI s2.2))];have:=BG 4 112 111 0 λs4:Cg=>[(5,.bx [⟨X,lI s4.t5.az⟩,⟨X,lE s4.t5.bi⟩,⟨X,lI s4.cE⟩,⟨X,lI s4.c9⟩])];exact nz
instance(a b c d):CT (Kr a b c d) 187 [AN a,Au b,Au c,eB d] (rT (eL 2 A4) eI):=Fe f187 0x8182740e011246558d5802e47f558dd040936931 [] (Kr.eq_1 ..)
instance(a b c):CT (IS a b c) 188 [(eL 1 eB) a,lI b,eI c] rB:=CJ f188 0xaa0bac0200059b58870530fca1616b9aac0200059ecb02dd [] (IS.eq_1 ..) (BC 0 11 10 0)
instance(a b):CT (IR a b) 262 [lI a,lI b] (rO lI):=CJ f262 0xfd96ac08055b9badd10e30028161966aac08055b9ecbe4406b02 [] (IR.eq_1 ..) (BG 0 10 9 0 (hO 5 lI))
instance(a b c d e):CT (EP a b c d e) 189 [Cb a,eI b,Bp c,Uw d,A4 e] (rS Cb):=Fk f189 0x74b07440e3e0e0a02b9b8b7e70e0cac080a9bea01410589d1f001410589f1011d0342b9b8b719e70e0cac080b3c1f03894a014132014fb51e03420348034707463f3fba143f3f5f145d0401413297f8e6b9b8b719e70e0cac080b3c016105305f7f01d7810b913281610e0a026ab9b8b7e70e0cac080a9e8e910d42efe70e0cac80087a7978e70eccac800c9bea5c0589d1f05c0589f101f1301dfa147a79781514e70eccac800e3c1ffa4a5c32014fb51efad1ed045c327a79781514e70eccac800e3c016105305d7f01ba810bcf8161e70e0cac80086a7a7978e70eccac800c9e8e760d42d6e70eccac8009646362e70eccac800c9b01f192a714a192e70eccac80096a646362e70eccac800cd55c0d42993fd6a208c9555cee075017c93f3f0e9105420e76054204480447eb0ec1421ad71aba3f0e91320ecff714c91446134602460e91058945015f0e76058945015d60810b318ccd0b765ccd16c9696930 [.x8 [.w 61,.w 65],.x8 [.w 82,.w 86],.x8 [.g 66 0 2,.g 66 1 2,.w 69,.w 72,.w 78,.g 87 0 2,.g 87 1 2],.mkx 1 [.int .i64 0] (.s 94),.xin (.s 216) (.s 218) 1,.xln (.s 219),.xin (.s 221) (.s 223) 1,.xln (.s 224)] [.cell 10 (Y 7)] λr h f i=>by
  unfold EP at h;have:=BG 0 100 99 0 (hX 16 1 eI);have:=BG 2 122 121 0 λs2:AI×Fp=>[(14,.bx [⟨X,lI s2.1.d7.az⟩,⟨X,lE s2.1.d7.bi⟩,⟨X,.xl 1 (List.map eB s2.1.cE)⟩,⟨X,.xl 1 (List.map eB s2.1.c9)⟩,⟨X,(eL 4 J2) s2.1.mN⟩,⟨X,lI s2.1.l6.az⟩,⟨X,lI s2.1.l6.bi⟩]),(16,.xo 1 (List.map eI s2.2))];have:=BG 4 185 184 0 λs4:AI=>[(14,.bx [⟨X,lI s4.d7.az⟩,⟨X,lE s4.d7.bi⟩,⟨X,.xl 1 (List.map eB s4.cE)⟩,⟨X,.xl 1 (List.map eB s4.c9)⟩,⟨X,(eL 4 J2) s4.mN⟩,⟨X,lI s4.l6.az⟩,⟨X,lI s4.l6.bi⟩])];exact nz
noncomputable def ki:PC:=PC.of M9 f64.body (xq bT 0xaa01363534d3059b5800d2e001074432194b810cc9e019436b016a363534d305d5048c5c32ff580052328177c14281064a078c16460259055ac15a15463f0b76005a0259005a32810e0744aa5232db0306beea068c050306be01bc01) [.mko 1 [.list 1 []] (.s 31)]
theorem ABN:CK f64 ki [.tmp 4]:=b!
theorem ABU:PC.p0 ki=X/\PC.r0 0 ki=X:=b!
noncomputable def cN:PC:=PC.of M9 f120.body (xq bT 0xaa012e2d2c090705020008652e2d2c0907050200082e2d2c090705020008aad2074432580052328a7791325b0bcf074b16c90e55ebe0010744ff2e2d2c0907050200088aa90b318ccd5f9f89a90b765ccd5dbaa202c955024300016a2e2d2c0907050200089e8158005201326cf6e3e3555c5c5c32c677d70bba045015c91be0320169020002) []
theorem zW:CK f120 cN [.tmp 8]:=b!
theorem z6:PC.p0 cN=X/\PC.r0 0 cN=X:=b!
abbrev Q_64(n:Nat):Prop:=∀(p:Ai)(a:AI),CT (A7 n p a) 64 [.undef,Cb a] (λr=>.bo (Ax p) (Ax r.2) 0 [eB r.1])
abbrev AbP(n:Nat):Prop:=∀(p:Ai)(c:AI)(a:Int)(b:d4),CT (BY n p c a b) 120 [.undef,Cb c,eI a,Bp b] (λr=>.bo (Ax p) (Ax r.2) 0 [eB r.1])
theorem ABK(n:Nat)(_ih_64:Q_64 n)(_ih_120:AbP n)(p:Ai)(a:AI):CT (A7 (n+1) p a) 64 [.undef,Cb a] (λr=>.bo (Ax p) (Ax r.2) 0 [eB r.1]):=cb ABN ABU λr h c b d=>by
  unfold ki;unfold f64;unfold A7 at h;have:=BG 1 54 53 0 λs1:Ai=>[(0,.bx (Ax s1))];exact nz
theorem ym(n:Nat)(_ih_64:Q_64 n)(_ih_120:AbP n)(p:Ai)(c:AI)(a:Int)(b:d4):CT (BY (n+1) p c a b) 120 [.undef,Cb c,eI a,Bp b] (λr=>.bo (Ax p) (Ax r.2) 0 [eB r.1]):=cb zW z6 λr h e d f=>by
  unfold cN;unfold f120;unfold BY at h;have:=BG 0 46 45 0 λs0:Ai=>[(0,.bx (Ax s0))];exact nz
theorem vp:∀n:Nat,Q_64 n/\AbP n:=by
  intro n
  induction n with
  |zero=>exact⟨(λp b=>⟨λ_ h=>d_⟩),(λp b c d=>⟨λ_ h=>d_⟩)⟩
  |succ n a=>exact⟨ABK n a.1 a.2,ym n a.1 a.2⟩
instance(p x_1):CT (Fy p x_1) 64 [.undef,Cb x_1] (λr=>.bo (Ax p) (Ax r.2) 0 [eB r.1]):=⟨λr h=>by
  obtain ⟨N,a⟩:=De h;exact((vp N).1 p x_1).snd r (a N (R0 _))⟩
instance(p x_1 i_2 r_3):CT (RM p x_1 i_2 r_3) 120 [.undef,Cb x_1,eI i_2,Bp r_3] (λr=>.bo (Ax p) (Ax r.2) 0 [eB r.1]):=⟨λr h=>by
  obtain ⟨N,a⟩:=De h;exact((vp N).2 p x_1 i_2 r_3).snd r (a N (R0 _))⟩
instance(a b c):CT (Bz a b c) 30 [HO a,B4 b,lI c] (rT Lw eI):=Fk f30 0x81064b0644078c5c58064b1a46887c06013b81064b030d8c5c1a4685030d8c5caa5207445c00c2bf19465b44074b16c918463f0b91323f0bcf17460e91320ecf0118c969ad [.mko 1 [.bool T] (.s 23),.mko 1 [.bool T] (.s 28),.Abl [W,W,W,W,W,W,W,W,W,W,W,W,W,W] (.s 33)] [.cell 6 (Y 6),.tmp 7] λr h d e=>by
  unfold Bz at h;exact nz
instance(a b c d):CT (DZ a b c d) 15 [AN a,ER b,(eL 25 Bp) c,B4 d] (rT Lw eI):=Fk f15 0x81064b740eb573b158064b011a467f73b1c319c91046018d0118c99369ad [] [.cell 8 (Y 6),.tmp 9] λr h e f=>by
  unfold DZ at h;exact nz
instance(a b c):CT (O9 a b c) 36 [AN a,ER b,B4 c] rI:=Fe f36 0x8160017d7355b48d01f2 [] (O9.eq_1 ..)
instance(a b c):CT (Nd a b c) 37 [ER a,Au b,eI c] (rS G7):=Fk f37 0xa25507060225242307065e079b25242307065e0725242307065e073cea0189d1f0cd8501615d5f9781f8900706026a25242307065e07d5cd0706de050f0e0d0706de089b0f0e0d0706de080f0e0d0706de083cea3201d1f0328501eda1920706de056a0f0e0d0706de08d53202c902c969ad [] [.cell 6 (Y 2)] λr h d e=>by
  unfold Nd at h;have:=BG 0 15 14 0 λs0:BN=>[(7,.bx [⟨X,lI s0.az⟩,⟨X,lI s0.bi⟩])];have:=BG 2 37 36 0 λs2:BN=>[(7,.bx [⟨X,lI s2.az⟩,⟨X,lI s2.bi⟩])];exact nz
instance(a b):CT (Qv a b) 73 [AN a,B4 b] rI:=Fe f73 0x8160017d73d8b3 [] (Qv.eq_1 ..)
instance(a b c):CT (Ly a b c) 38 [AN a,B4 b,G7 c] (rT B4 eI):=Fk f38 0x8197730c06022726250c0604069beafad10e92ba04d981610c06026a2726250c060406d5320350f93f5558970111466ca2a2024908c9117d8d3258970111467f73d8f9f2 [.x8 [.v (.s 34) 0 2,.v (.s 34) 1 2,.z ⟨X,.list 1 []⟩]] [.cell 6 (Y 3),.tmp 7] λr h d e=>by
  unfold Ly at h;have:=BG 0 39 38 0 λs0:AH=>[(12,.bx [⟨T,lI s0.bk.az⟩,⟨T,lE s0.bk.bi⟩,⟨X,(eL 1 lI) s0.d6⟩])];exact nz
instance(a b c d):CT (HH a b c d) 14 [AN a,ER b,B4 c,eI d] (λr=>.tp [B4 r.1,G7 r.2.1,eI r.2.2]):=Fk f14 0x908023b81a297557358a297304611466c97f97d557355a202c90e01e35558a297014611468a05309658a297304611467f738dd0c9f9936931 [] [.cell 8 (Y 3),.cell 9 (Y 2),.tmp 10] λr h e f=>by
  unfold HH at h;exact nz
instance(a b c d):CT (Ea a b c d) 16 [AN a,ER b,(eL 25 Bp) c,B4 d] (rT Lw eI):=Fk f16 0x81064b740eb573b158064b011a467f73b1c319c91046018d0118c99369ad [] [.cell 8 (Y 6),.tmp 9] λr h e f=>by
  unfold Ea at h;exact nz
instance(a b c d):CT (Iv a b c d) 11 [AN a,ER b,(eL 25 Bp) c,B4 d] (rT Lw eI):=Fk f11 0x81064b740eb573b158064b011a467f73b1c319c91046018d0118c99369ad [] [.cell 8 (Y 6),.tmp 9] λr h e f=>by
  unfold Iv at h;exact nz
end Go.Sf.Sc
