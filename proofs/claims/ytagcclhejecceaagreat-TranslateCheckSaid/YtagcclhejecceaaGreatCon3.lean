/- Contracts of the functions. -/
import Derived.Test.YtagcclhejecceaaGreatCon0
import Derived.Test.YtagcclhejecceaaGreatCon1
import Derived.Test.YtagcclhejecceaaGreatCon2
import Derived.Test.YtagcclhejecceaaGreatTryzShelf
import Derived.Test.YtagcclhejecceaaGreatTw
set_option linter.all false
set_option maxRecDepth 100000
set_option maxHeartbeats 4000000
namespace Go.Sf.Sc
open Go Go.Sf Go.Proofs.Tryz
instance(a b c d):CT (K8 a b c d) 47 [AM a,Bg b,CE c,B7 d] (rT Y7 eI):=Fk f47 0x81264b26440f3e58264b0e46ca317f1f425c0b735b1f4258264b75466c0152d9528d024a244202460eee902242fe900d42900b420b317fdb0ed6732242d1730d42730b420b735bdb024a224202460e5e0bfe0e5d0bd13f12c90f460e770e77e758264b0e4688fb264b75468530818c030f427777c81042b4bbad264b75468530a902c98cc1550b42c1ad264b75466ca908c98cc1c1e6bbad264b7546847777e7d911c969a8 [.zh 38 [none,none,none,none,none,none,none,none,none,none,none,none,none,none,none,none,none,none,none,none,none,none,none,none,none,none,none,none,none,none,none,some ⟨true,.list 1 []⟩,some ⟨true,.list 3 []⟩,some ⟨true,.xn []⟩,none,none,none,none] (.s 15) (.s 82)] [.cell 8 (some 38),.tmp 9] fun r h e f=>by
  unfold K8 at h;exact nz
instance(a b c d):CT (JN a b c d) 24 [AM a,Bg b,CE c,B7 d] (rT Y7 eI):=Fk f24 0x81264b760e7777e7ad264b75468477e7d911c969a8 [] [.cell 8 (some 38),.tmp 9] fun r h e f=>by
  unfold JN at h;exact nz
instance(a b c d):CT (EJ a b c d) 8 [AM a,EO b,(eL 25 Bg) c,(eL 4 E7) d] (rT CE eI):=Fk f8 0x81a7770b08021f1e1d0b08040207daa7771f4258a70111466c264b11c98c77bb77e71943a2ada71146ca015d5c5df614c9ece40b08026a1f1e1d0b08040207a18113c958a71146e5fba7011146841046018d0110c9695f02 [] [.cell 8 (some 3),.tmp 9] fun r h e f=>by
  unfold EJ at h;have:=BH 0 31 30 0 fun s0:AH×AH=>[(8,.bx [⟨true,lI s0.1.c9.ca⟩,⟨true,lE s0.1.c9.ci⟩,⟨true,(eL 1 lI) s0.1.eo⟩]),(11,.bx [⟨false,lI s0.2.c9.ca⟩,⟨false,lE s0.2.c9.ci⟩,⟨false,(eL 1 lI) s0.2.eo⟩])];exact nz
instance(a b c):CT (Dc a b c) 31 [Al a,Al b,As c] rB:=Fe f31 0xdd745e0ec60a745d0e5d5c0e558d01f1 [] (Dc.eq_1 ..)
instance(a b c d):CT (EK a b c d) 13 [AM a,EO b,(eL 25 Bg) c,F7 d] rB:=Fe f13 0xdd0e55fce632c17555fce632c1586c018c7732ad6ca710c98c9b7e8d019369b3 [] (EK.eq_1 ..)
instance(a b c):CT (F4 a b c) 72 [eI a,.pt (F8 b).cells,.pt [eI c]] rB:=Fe f72 0xba039173fa02cf [] (F4.eq_1 ..)
instance(a b c):CT (F5 a b c) 74 [Bp a,.pt (F8 b).cells,.pt [eI c]] rB:=Fe f74 0xba03605d90fa93b302 [] (F5.eq_1 ..)
instance(a b c):CT (Df a b c) 35 [F8 a,CE b,eI c] rI:=Fe f35 0xb28a0e10fe7510d158850358016c018c77c1e3b401f1 [] (Df.eq_1 ..)
noncomputable def YZ:PC:=PC.of LH f140.body (xq bT 0xd84a0d7f0132bd) []
theorem sK:CK f140 YZ [.tmp 4]:=by decide +kernel
theorem sq:PC.wl YZ=true/\PC.wm 0 YZ=true:=by decide +kernel
instance(a b):CT (C9 a b) 140 [.undef,eI b] (fun r=>.bo (Ar a) (Ar r.2) 0 [eB r.1]):=Yk sK sq fun r h d c e=>by
  unfold YZ;unfold f140;unfold C9 at h;exact nz
instance(a):CT (GR a) 141 [CG a] rB:=Fe f141 0xdda69b7ea6f5be [] (GR.eq_1 ..)
instance(a b):CT (G3 a b) 277 [eI a,lI b] (rO lI):=Bz f277 0x8202cc80cc04da80cc0480cc043cb3dcd0c530815cfd80cc049e01c001406b02 [] (G3.eq_1 ..) (BH 0 8 7 0 (hO 5 lI))
instance(a b):CT (F3 a b) 209 [.pt (UV a).cells,Bg b] (fun r=>.wQ [⟨true,lI r.wy.ca⟩,⟨true,lE r.wy.ci⟩,⟨true,lI r.d7⟩,⟨true,lI r.ei⟩]):=Fk f209 0x45004536d02706f6e07b60008da706f6e07b60008706f6e07b600083cf7014132f7034203480347074617e1aa1417e15e145d0401413201dcf303428e605d90027f5b0103057f01a7e9f85e81606d026a706f6e07b60008a18e900d42ee07b6d30638373607b6d309da38373607b6d30938373607b6d3093cf75b32f7fadceb045b3201dcf3faf40bd101148e60eb73027f5b0103057f616007b6d3066a38373607b6d309a18e730d42d607b6d30626252407b6d309da01f430149e9107b6d3066a26252407b6d309e05b0d42993fd6a908c9e6db045016c93f3f0e317fbb0e735bbb16c9be01 [.wP [.w 19,.w 24],.wP [.g 25 0 2,.g 25 1 2,.z ⟨true,.list 1 []⟩,.z ⟨true,.list 1 []⟩],.yg 1 [.int .i64 0] (.s 32)] [.cell 4 (some 4)] fun r h c d=>by
  unfold F3 at h;have:=BH 0 38 37 0 (hX 7 1 eI);have:=BH 2 56 55 0 fun s2:Cm×Fp=>[(5,.bx [⟨true,lI s2.1.wy.ca⟩,⟨true,lE s2.1.wy.ci⟩,⟨true,lI s2.1.d7⟩,⟨true,lI s2.1.ei⟩]),(7,.xo 1 (List.map eI s2.2))];have:=BH 4 112 111 0 fun s4:Cm=>[(5,.bx [⟨true,lI s4.wy.ca⟩,⟨true,lE s4.wy.ci⟩,⟨true,lI s4.d7⟩,⟨true,lI s4.ei⟩])];exact nz
instance(a b c d):CT (NF a b c d) 210 [AM a,Al b,Al c,eB d] (rT (eL 2 As) eI):=Fe f210 0x8182760e011446558d5802c09a558dd040936931 [] (NF.eq_1 ..)
instance(a b c):CT (LD a b c) 211 [(eL 1 eB) a,lI b,eI c] rB:=Bz f211 0xa50bc3020005d5870530ea9e606b96c3020005a181d0cf [] (LD.eq_1 ..) (A4 0 11 10 0)
instance(a b):CT (LC a b) 279 [lI a,lI b] (rO lI):=Bz f279 0x8202ccc308055cdab3dc0e30028160cc6ac308055ca1d8c001406b02 [] (LC.eq_1 ..) (BH 0 10 9 0 (hO 5 lI))
instance(a b c d e):CT (G8 a b c d e) 212 [CG a,eI b,Bg c,SS d,As e] (rS CG):=Fk f212 0x74b07440e3e0e0a02b9b8b7100f0e0cc3080adaf70141057edcf30141057ef4011d0342b9b8b719100f0e0cc3080b3c1f037e4a014132014fb11e03420348034707463f3faa143f3f5e145d04014132a7e9f85eb9b8b719100f0e0cc3080b3c016005305e8401d7810bfe81600e0a026ab9b8b7100f0e0cc3080aa18e900d42ee100f0e0cc380087a7978100f0ee8c3800cdaf75b057edcf35b057ef401f4301dfa147a79781514100f0ee8c3800e3c1ffa4a5b32014fb11efadceb045b327a79781514100f0ee8c3800e3c016005305d8401aa810bd18160100f0e0cc380086a7a7978100f0ee8c3800ca18e730d42d6100f0ee8c38009646362100f0ee8c3800cda01f491a2149e91100f0ee8c380096a646362100f0ee8c3800ce05b0d42993fd6a908c9e6db075018c93f3f0e9005420e73054204480447ec0ecd421ad71aaa3f0efe0ed1f614c91646154602460e90057e45015e0e73057e45015d61810b317fbb0b735bbb17c9696930 [.wP [.w 61,.w 65],.wP [.w 82,.w 86],.wP [.g 66 0 2,.g 66 1 2,.w 69,.w 72,.w 78,.g 87 0 2,.g 87 1 2],.yg 1 [.int .i64 0] (.s 94),.zv (.s 216) (.s 218) 1,.y8 (.s 219),.zv (.s 221) (.s 223) 1,.y8 (.s 224)] [.cell 10 (some 7)] fun r h f i=>by
  unfold G8 at h;have:=BH 0 100 99 0 (hX 16 1 eI);have:=BH 2 122 121 0 fun s2:A5×Fp=>[(14,.bx [⟨true,lI s2.1.wu.ca⟩,⟨true,lE s2.1.wu.ci⟩,⟨true,.xl 1 (List.map eB s2.1.d7)⟩,⟨true,.xl 1 (List.map eB s2.1.ei)⟩,⟨true,(eL 4 E7) s2.1.xG⟩,⟨true,lI s2.1.yC.ca⟩,⟨true,lI s2.1.yC.ci⟩]),(16,.xo 1 (List.map eI s2.2))];have:=BH 4 185 184 0 fun s4:A5=>[(14,.bx [⟨true,lI s4.wu.ca⟩,⟨true,lE s4.wu.ci⟩,⟨true,.xl 1 (List.map eB s4.d7)⟩,⟨true,.xl 1 (List.map eB s4.ei)⟩,⟨true,(eL 4 E7) s4.xG⟩,⟨true,lI s4.yC.ca⟩,⟨true,lI s4.yC.ci⟩])];exact nz
noncomputable def dc:PC:=PC.of LH f77.body (xq bT 0xa501363534d305d500d2e701074432194b810cc9e719436bfd363534d305e0047f5b327c0052328174cd4281064a077f18460259055acd5a17463f0b73005a0259005a32810e0744a55232ba0306bcf7067f050306bc01be01) [.yR 1 [.list 1 []] (.s 31)]
theorem uu:CK f77 dc [.tmp 4]:=by decide +kernel
theorem u7:PC.wl dc=true/\PC.wm 0 dc=true:=by decide +kernel
noncomputable def Ya:PC:=PC.of LH f142.body (xq bT 0xa5012e2d2c090705020008652e2d2c0907050200082e2d2c090705020008a5d207443258005232cafe5c0bd1074b17c90e55ece7010744ff2e2d2c0907050200088aa60b317fbb5e9b7ea60b735bbb5daaa902c955024300fd2e2d2c090705020008a1b2005201326c828cc1c1e65b5b32588574d70baa045016c91be7320169020002) []
theorem sL:CK f142 Ya [.tmp 8]:=by decide +kernel
theorem su:PC.wl Ya=true/\PC.wm 0 Ya=true:=by decide +kernel
abbrev Q_77(n:Nat):Prop:=∀(p:Ag)(a:A5),CT (BI n p a) 77 [.undef,CG a] (fun r=>.bo (Ar p) (Ar r.2) 0 [eB r.1])
abbrev zx(n:Nat):Prop:=∀(p:Ag)(c:A5)(a:Int)(b:gp),CT (Bn n p c a b) 142 [.undef,CG c,eI a,Bg b] (fun r=>.bo (Ar p) (Ar r.2) 0 [eB r.1])
theorem uq(n:Nat)(_ih_77:Q_77 n)(_ih_142:zx n)(p:Ag)(a:A5):CT (BI (n+1) p a) 77 [.undef,CG a] (fun r=>.bo (Ar p) (Ar r.2) 0 [eB r.1]):=Yk uu u7 fun r h c b d=>by
  unfold dc;unfold f77;unfold BI at h;have:=BH 1 54 53 0 fun s1:Ag=>[(0,.bx (Ar s1))];exact nz
theorem ra(n:Nat)(_ih_77:Q_77 n)(_ih_142:zx n)(p:Ag)(c:A5)(a:Int)(b:gp):CT (Bn (n+1) p c a b) 142 [.undef,CG c,eI a,Bg b] (fun r=>.bo (Ar p) (Ar r.2) 0 [eB r.1]):=Yk sL su fun r h e d f=>by
  unfold Ya;unfold f142;unfold Bn at h;have:=BH 0 46 45 0 fun s0:Ag=>[(0,.bx (Ar s0))];exact nz
theorem oK:∀n:Nat,Q_77 n/\zx n:=by
  intro n
  induction n with
  |zero=>exact⟨(fun p b=>⟨fun _ h=>by cases h⟩),(fun p b c d=>⟨fun _ h=>by cases h⟩)⟩
  |succ n a=>exact⟨uq n a.1 a.2,ra n a.1 a.2⟩
instance(p x_1):CT (Gg p x_1) 77 [.undef,CG x_1] (fun r=>.bo (Ar p) (Ar r.2) 0 [eB r.1]):=⟨fun r h=>by
  obtain ⟨N,a⟩:=DD h;exact((oK N).1 p x_1).snd r (a N (az _))⟩
instance(p x_1 i_2 r_3):CT (PX p x_1 i_2 r_3) 142 [.undef,CG x_1,eI i_2,Bg r_3] (fun r=>.bo (Ar p) (Ar r.2) 0 [eB r.1]):=⟨fun r h=>by
  obtain ⟨N,a⟩:=DD h;exact((oK N).2 p x_1 i_2 r_3).snd r (a N (az _))⟩
instance(a b c):CT (Dg a b c) 36 [F8 a,CE b,lI c] (rT F7 eI):=Fk f36 0x81064b0644077f5b58064b1c468801ff06013b81064b030d7f5b1c4685030d7f5ba55207445b00c2bf1b465c44074b17c91a463f0bfe3f0bd119460efe0ed10119c969b3 [.yR 1 [.bool false] (.s 23),.yR 1 [.bool false] (.s 28),.yn [none,none,none,none,none,none,none,none,none,none,none,none,none,none] (.s 33)] [.cell 6 (some 6),.tmp 7] fun r h d e=>by
  unfold Dg at h;exact nz
instance(a b c d):CT (FM a b c d) 16 [AM a,EO b,(eL 25 Bg) c,CE d] (rT F7 eI):=Fk f16 0x81064b760eb177b458064b011c468477b4e21ac91046018d0119c99369b3 [] [.cell 8 (some 6),.tmp 9] fun r h e f=>by
  unfold FM at h;exact nz
end Go.Sf.Sc
