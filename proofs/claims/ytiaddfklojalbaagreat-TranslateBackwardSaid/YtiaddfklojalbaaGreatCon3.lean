/- Contracts of the functions. -/
import Derived.Test.YtiaddfklojalbaaGreatCon2
set_option linter.all false
set_option maxRecDepth 100000
set_option maxHeartbeats 4000000
open Option renaming some->Y,none->W
open Bool renaming true->X,false->T
namespace Go.Sf.Sc
open Go Go.Sf Go.Proofs.Tryz
instance(a b c d):CT (Lu a b c d) 103 [AS a,Bb b,CM c,Dv d] (rT kY eI):=Fk f103 0x81264b26440f3e57264b0e46cd805b1f425c0b925b1f4257264b7d466c0152e15296024a244202460e0b5f802242f7800d42800b420b805be30edb922242c6920d42920b420b925be3024a224202460e5f0bf70e5d0bc63f12c90f460e760e76f357264b0e46880157264b7d4685328191030f427676cf1042bb01a557264b7d468532b302c991e6550bfbf1264b7d466cb3fd91e6e6fa01a557264b7d467e7676f3e111c96aa9 [.stq 38 [W,W,W,W,W,W,W,W,W,W,W,W,W,W,W,W,W,W,W,W,W,W,W,W,W,W,W,W,W,W,W,Y ⟨X,.list 1 []⟩,Y ⟨X,.list 3 []⟩,Y ⟨X,.xn []⟩,W,W,W,W] (.s 15) (.s 82)] [.cell 8 (Y 38),.tmp 9] λr h e f=>by
  unfold Lu at h;exact nz
instance(a b c d):CT (KB a b c d) 63 [AS a,Bb b,CM c,Dv d] (rT kY eI):=Fk f63 0x81264b7c0e7676f3f1264b7d467e76f3e111c96aa9 [] [.cell 8 (Y 38),.tmp 9] λr h e f=>by
  unfold KB at h;exact nz
instance(a b c d):CT (GG a b c d) 31 [AS a,DE b,(eL 25 Bb) c,(eL 4 JC) d] (rT CM eI):=Fk f31 0x81ad760b08021f1e1d0b08040207ccad761f4257ad0111466c264b11c99176c376f31943a2f1ad1146cd015d5c5ded14c9e504430b0802691f1e1d0b08040207978113c957ad1146e70157ad0111467e104601960110c96a5e02 [] [.cell 8 (Y 3),.tmp 9] λr h e f=>by
  unfold GG at h;have:=Bu 0 31 30 0 λs0:AJ×AJ=>[(8,.bx [⟨X,lI s0.1.ci.bq⟩,⟨X,lE s0.1.ci.ca⟩,⟨X,(eL 1 lI) s0.1.eo⟩]),(11,.bx [⟨T,lI s0.2.ci.bq⟩,⟨T,lE s0.2.ci.ca⟩,⟨T,(eL 1 lI) s0.2.eo⟩])];exact nz
instance(a b c):CT (D5 a b c) 34 [BD a,BD b,BR c] rB:=Fe f34 0xcb755f0ec40a755d0e5d5c0e559601fe [] (D5.eq_1 ..)
instance(a b c d):CT (DK a b c d) 12 [AS a,DE b,(eL 25 Bb) c,EL d] rB:=Fe f12 0xcb0e5504a56de67d5504a56de6576c01917631f16cad10c9918d749601936ab2 [] (DK.eq_1 ..)
instance(a b c):CT (Es a b c) 50 [eI a,.pt (Gw b).cells,.pt [eI c]] rB:=Fe f50 0xd0038c92ea02d1 [] (Es.eq_1 ..)
instance(a b c):CT (Et a b c) 52 [Bx a,.pt (Gw b).cells,.pt [eI c]] rB:=Fe f52 0xd003605d80ea93b202 [] (Et.eq_1 ..)
instance(a b c):CT (B4 a b c) 26 [Gw a,CM b,eI c] rI:=Fe f26 0xaa8a0e10f77d10c657850357016c019176e6bdbb01fe [] (B4.eq_1 ..)
noncomputable def jX:PC:=PC.of MU f93.body (xq bT 0x81dc0dc80131bc) []
theorem z8:CK f93 jX [.tmp 4]:=b!
theorem AAG:PC.t5 jX=X/\PC.tg 0 jX=X:=b!
instance(a b):CT (C4 a b) 93 [.undef,eI b] (λr=>.bo (A3 a) (A3 r.2) 0 [eB r.1]):=ZD z8 AAG λr h d c e=>by
  unfold jX;unfold f93;unfold C4 at h;exact nz
instance(a):CT (Dq a) 94 [Cc a] rB:=Fe f94 0xcb9d8d749df8b6 [] (Dq.eq_1 ..)
instance(a b):CT (FZ a b) 206 [eI a,lI b] (rO lI):=CW f206 0x82029a899a04cc899a04899a043cb2d4d3be32815c0169899a04a101c001406b02 [] (FZ.eq_1 ..) (Bu 0 8 7 0 (hO 5 lI))
instance(a b):CT (Dl a b) 144 [.pt (WE a).cells,Bb b] (λr=>.oag [⟨X,lI r.x3.bq⟩,⟨X,lE r.x3.ca⟩,⟨X,lI r.c9⟩,⟨X,lI r.d6⟩]):=Fk f144 0x45004537302706f6eb1730008cc706f6eb1730008706f6eb17300083cdc014131dc034203480347074617d8a71417d85f145d0401413101d4ec03428e605d8002c85b010305c801fcef5f8160730269706f6eb1730008978e800d420b5fb173c106383736b173c109cc383736b173c109383736b173c1093cdc6ddcead4f0046d01d4eceaf40bc601148e60f09202c85b010305c86160b173c10669383736b173c109978e920d42dbb173c106262524b173c109cc01f43214a18cb173c10669262524b173c109d75b0d42993fdbb3fdfae3045015c93f3f0e805bc30e925bc315c9b601 [.zt [.w 19,.w 24],.zt [.g 25 0 2,.g 25 1 2,.z ⟨X,.list 1 []⟩,.z ⟨X,.list 1 []⟩],.mkx 1 [.int .i64 0] (.s 32)] [.cell 4 (Y 4)] λr h c d=>by
  unfold Dl at h;have:=Bu 0 38 37 0 (hX 7 1 eI);have:=Bu 2 56 55 0 λs2:Cg×Fp=>[(5,.bx [⟨X,lI s2.1.x3.bq⟩,⟨X,lE s2.1.x3.ca⟩,⟨X,lI s2.1.c9⟩,⟨X,lI s2.1.d6⟩]),(7,.xo 1 (List.map eI s2.2))];have:=Bu 4 112 111 0 λs4:Cg=>[(5,.bx [⟨X,lI s4.x3.bq⟩,⟨X,lE s4.x3.ca⟩,⟨X,lI s4.c9⟩,⟨X,lI s4.d6⟩])];exact nz
instance(a b c d):CT (J8 a b c d) 145 [AS a,BD b,BD c,eB d] (rT (eL 2 BR) eI):=Fe f145 0x81827c0e01124655965702c09b5596d340936a30 [] (J8.eq_1 ..)
instance(a b c):CT (Hn a b c) 146 [(eL 1 eB) a,lI b,eI c] rB:=CW f146 0x9e0bb5020005d58705326032a1606b9fb50200059781d3d1 [] (Hn.eq_1 ..) (BJ 0 11 10 0)
instance(a b):CT (Hm a b) 209 [lI a,lI b] (rO lI):=CW f209 0x82029ab508055cccb2d40e320281609a69b508055c97dec001406b02 [] (Hm.eq_1 ..) (Bu 0 10 9 0 (hO 5 lI))
instance(a b c d e):CT (EI a b c d e) 147 [Cc a,eI b,Bb c,Us d,BR e] (rS Cc):=Fk f147 0x74b07440e3e0e0a02b9b8b7100f0e0cb5080accdc01410574d4ec01410574f4011d0342b9b8b719100f0e0cb5080b3c1f03744a014131014fa61e03420348034707463f3fa7143f3f5f145d04014131fcef5fb9b8b719100f0e0cb5080b3c016005325f7e01c5810bf781600e0a0269b9b8b7100f0e0cb5080a978e800d420b5f100f0e0ce2087a7978100f0ee80cccdc5b0574d4ec5b0574f401f4321dea147a79781514100f0ee80e3c1fea4a6d014fa61eead4f0046d7a79781514100f0ee80e3c016005325d7e01a7810bc68160100f0e0ce208697a7978100f0ee80c978e920d42db100f0ee809646362100f0ee80ccc01f48ca214a18c100f0ee80969646362100f0ee80cd75b0d42993fdbb3fdfae3075017c93f3f0e8005420e92054204480447e50eba421ac51aa73f0ef70ec6ed14c91446134602460e80057445015f0e92057445015d61810b805bc30b925bc316c96a6a32 [.zt [.w 61,.w 65],.zt [.w 82,.w 86],.zt [.g 66 0 2,.g 66 1 2,.w 69,.w 72,.w 78,.g 87 0 2,.g 87 1 2],.mkx 1 [.int .i64 0] (.s 94),.xin (.s 216) (.s 218) 1,.xln (.s 219),.xin (.s 221) (.s 223) 1,.xln (.s 224)] [.cell 10 (Y 7)] λr h f i=>by
  unfold EI at h;have:=Bu 0 100 99 0 (hX 16 1 eI);have:=Bu 2 122 121 0 λs2:AH×Fp=>[(14,.bx [⟨X,lI s2.1.d7.bq⟩,⟨X,lE s2.1.d7.ca⟩,⟨X,.xl 1 (List.map eB s2.1.c9)⟩,⟨X,.xl 1 (List.map eB s2.1.d6)⟩,⟨X,(eL 4 JC) s2.1.kg⟩,⟨X,lI s2.1.l4.bq⟩,⟨X,lI s2.1.l4.ca⟩]),(16,.xo 1 (List.map eI s2.2))];have:=Bu 4 185 184 0 λs4:AH=>[(14,.bx [⟨X,lI s4.d7.bq⟩,⟨X,lE s4.d7.ca⟩,⟨X,.xl 1 (List.map eB s4.c9)⟩,⟨X,.xl 1 (List.map eB s4.d6)⟩,⟨X,(eL 4 JC) s4.kg⟩,⟨X,lI s4.l4.bq⟩,⟨X,lI s4.l4.ca⟩])];exact nz
noncomputable def jV:PC:=PC.of MU f55.body (xq bT 0x9e01363534c105d500d2f301074431194b810cc9f319436b0169363534c105d704c86d770052318175ba4281064a07c816460259055aba5a15463f0b92005a0259005a31810e07449e5231d00306acdc06c8050306ac01b601) [.mko 1 [.list 1 []] (.s 31)]
theorem z6:CK f55 jV [.tmp 4]:=b!
theorem AAE:PC.t5 jV=X/\PC.tg 0 jV=X:=b!
noncomputable def jY:PC:=PC.of MU f95.body (xq bT 0x9e012e2d2c090705020008652e2d2c0907050200082e2d2c0907050200089ed207443157005231cdf75c0bc6074b16c90e55e5f3010744ff2e2d2c0907050200088a9d0b805bc35f8d749d0b925bc35da7b302c95502430001692e2d2c09070502000897aa005201316c8291e6e6fa5b6d578575c50ba7045015c91bf331016a020002) []
theorem AAA:CK f95 jY [.tmp 8]:=b!
theorem AAH:PC.t5 jY=X/\PC.tg 0 jY=X:=b!
abbrev Q_55(n:Nat):Prop:=∀(p:AZ)(a:AH),CT (A9 n p a) 55 [.undef,Cc a] (λr=>.bo (A3 p) (A3 r.2) 0 [eB r.1])
abbrev Q_95(n:Nat):Prop:=∀(p:AZ)(a:AH)(c:Int)(b:ei),CT (Ba n p a c b) 95 [.undef,Cc a,eI c,Bb b] (λr=>.bo (A3 p) (A3 r.2) 0 [eB r.1])
theorem zw(n:Nat)(_ih_55:Q_55 n)(_ih_95:Q_95 n)(p:AZ)(a:AH):CT (A9 (n+1) p a) 55 [.undef,Cc a] (λr=>.bo (A3 p) (A3 r.2) 0 [eB r.1]):=ZD z6 AAE λr h c b d=>by
  unfold jV;unfold f55;unfold A9 at h;have:=Bu 1 54 53 0 λs1:AZ=>[(0,.bx (A3 s1))];exact nz
theorem z1(n:Nat)(_ih_55:Q_55 n)(_ih_95:Q_95 n)(p:AZ)(b:AH)(a:Int)(c:ei):CT (Ba (n+1) p b a c) 95 [.undef,Cc b,eI a,Bb c] (λr=>.bo (A3 p) (A3 r.2) 0 [eB r.1]):=ZD AAA AAH λr h e d f=>by
  unfold jY;unfold f95;unfold Ba at h;have:=Bu 0 46 45 0 λs0:AZ=>[(0,.bx (A3 s0))];exact nz
theorem uC:∀n:Nat,Q_55 n/\Q_95 n:=by
  intro n
  induction n with
  |zero=>exact⟨(λp b=>⟨λ_ h=>e_⟩),(λp b c d=>⟨λ_ h=>e_⟩)⟩
  |succ n a=>exact⟨zw n a.1 a.2,z1 n a.1 a.2⟩
instance(p x_1):CT (Ff p x_1) 55 [.undef,Cc x_1] (λr=>.bo (A3 p) (A3 r.2) 0 [eB r.1]):=⟨λr h=>by
  obtain ⟨N,a⟩:=Dc h;exact((uC N).1 p x_1).snd r (a N (a5 _))⟩
instance(p x_1 i_2 r_3):CT (QA p x_1 i_2 r_3) 95 [.undef,Cc x_1,eI i_2,Bb r_3] (λr=>.bo (A3 p) (A3 r.2) 0 [eB r.1]):=⟨λr h=>by
  obtain ⟨N,a⟩:=Dc h;exact((uC N).2 p x_1 i_2 r_3).snd r (a N (a5 _))⟩
instance(a b c):CT (B5 a b c) 27 [Gw a,CM b,lI c] (rT EL eI):=Fk f27 0x81f2064407c85b57f21a468801ff06013b81f2030dc85b1a4685030dc85b9e5207445b00c2bf19465c44074b16c918463f0bf73f0bc617460ef70ec60118c96ab2 [.mko 1 [.bool T] (.s 23),.mko 1 [.bool T] (.s 28),.Aa6 [W,W,W,W,W,W,W,W,W,W,W,W,W,W] (.s 33)] [.cell 6 (Y 6),.tmp 7] λr h d e=>by
  unfold B5 at h;exact nz
instance(a b c d):CT (DX a b c d) 14 [AS a,DE b,(eL 25 Bb) c,CM d] (rT EL eI):=Fk f14 0x81f27c0ea676bb57f2011a467e76bbf919c9104601960118c9936ab2 [] [.cell 8 (Y 6),.tmp 9] λr h e f=>by
  unfold DX at h;exact nz
instance(a b c d):CT (Iw a b c d) 8 [AS a,DE b,(eL 25 Bb) c,CM d] (rT EL eI):=Fk f8 0x81f27c0ea676bb57f2011a467e76bbf919c9104601960118c9936ab2 [] [.cell 8 (Y 6),.tmp 9] λr h e f=>by
  unfold Iw at h;exact nz
instance(a b c d):CT (II a b c d) 15 [AS a,DE b,(eL 25 Bb) c,CM d] (rT EL eI):=Fk f15 0x81f27c0ea676bb57f2011a467e76bbf919c9104601960118c9936ab2 [] [.cell 8 (Y 6),.tmp 9] λr h e f=>by
  unfold II at h;exact nz
instance(a b c):CT (N6 a b c) 39 [AS a,DE b,CM c] rI:=Fe f39 0x816101917655bd9601fe [] (N6.eq_1 ..)
instance(a b c):CT (MZ a b c) 40 [DE a,BD b,eI c] (rS If):=Fk f40 0xb355b102252423b15e07cc252423b15e07252423b15e073cdc0174d4ecc38501605d5fad81e4efb10269252423b15e07d7c3b1045e050f0e0db1045e08cc0f0e0db1045e080f0e0db1045e083cdc3101d4ec318501f0a18cb1045e05690f0e0db1045e08d73102c902c96ab2 [] [.cell 6 (Y 2)] λr h d e=>by
  unfold MZ at h;have:=Bu 0 15 14 0 λs0:B7=>[(7,.bx [⟨X,lI s0.bq⟩,⟨X,lI s0.ca⟩])];have:=Bu 2 37 36 0 λs2:B7=>[(7,.bx [⟨X,lI s2.bq⟩,⟨X,lI s2.ca⟩])];exact nz
instance(a b):CT (Pm a b) 72 [AS a,CM b] rI:=Fe f72 0x8161019176e1a9 [] (Pm.eq_1 ..)
instance(a b c):CT (K8 a b c) 41 [AS a,CM b,If c] (rT CM eI):=Fk f41 0x81ad760c06022726250c060406ccdcead40e8ca704ee81600c0602692726250c060406d731035010c93ff1ad0111466cb3b30249fd1191963157ad0111467e76e110c9fe [.zt [.v (.s 34) 0 2,.v (.s 34) 1 2,.z ⟨X,.list 1 []⟩]] [.cell 6 (Y 3),.tmp 7] λr h d e=>by
  unfold K8 at h;have:=Bu 0 39 38 0 λs0:AJ=>[(12,.bx [⟨T,lI s0.ci.bq⟩,⟨T,lE s0.ci.ca⟩,⟨X,(eL 1 lI) s0.eo⟩])];exact nz
instance(a b c d):CT (MW a b c d) 19 [AS a,DE b,CM c,eI d] (λr=>.tp [CM r.1,If r.2.1,eI r.2.2]):=Fk f19 0x908023b81b3ad557657b3ad324611466cad10c991557655b302c90e01e6f1b3ad01461146eb329a57b3ad324611467e7696d3c910c9936a30 [] [.cell 8 (Y 3),.cell 9 (Y 2),.tmp 10] λr h e f=>by
  unfold MW at h;exact nz
end Go.Sf.Sc
