/- Contracts of the functions. -/
import Derived.Test.YtfcfkigfmofniaaGreatCon4
set_option linter.all false
set_option maxRecDepth 100000
set_option maxHeartbeats 4000000
open Bool renaming true->X,false->T
namespace Go.Sf.Sc
open Go Go.Sf Go.Proofs.Tryz
instance(a):CT (OB a) 19 [HH a] (λr=>.tp [AJ r.1,(eL 25 BX) r.2.1,Bk r.2.2]):=Fk f19 0x402023b9f828c0eb102388c1dc92b4603452d0b7e03427e034202452d0b710342710342d07805726378066e02194819470e0f443802024a5c370eea370f4b1cc90f440f73b5d07805ff8a9e65db726378068119c08c17c90e5e5b10c9194017c9a5 [] [.cell 2 (some 2),.tmp 3,.cell 4 (some 3)] λr h c d=>by
  unfold OB at h;have:HW 0 λ(b:List gn×Int)=>[(6,.ow ((eL 25 BX) b.1)),(7,.tv (eI b.2))]:=⟨⟩;exact nz
instance(a):CT (LB a) 41 [AJ a] rB:=Fj f41 0xa608cb6eba0c7107735e007c9608cb8130fccdfc036336046e633604726336066eba0c80bc6336047c7f707263360681e47f70050c5bd402c9adc67f41c65bfc037c7f41c676633604819a050c71c6769e657f41c676307c76fc0389e4966576a5 [] λh=>by
  unfold LB at h;have:=Ay 0 4 1 0 (hT 3 eI);have:HW 2 λ(b:Int)=>[(5,.tv (eI b))]:=⟨⟩;have:HW 4 λ(c:Int)=>[(7,.tv (eI c))]:=⟨⟩;have:=A3 6 8 1 1;exact nz
instance(a):CT (JW a) 78 [Ah a] rB:=Fe f78 0xb465966576a5 [] (JW.eq_1 ..)
instance(a):CT (LC a) 42 [Bk a] rB:=Bl f42 0xa636026eba0b80b5007cdb360281e4dba938b6a5 [] (LC.eq_1 ..) (A3 0 3 1 2)
instance(a):CT (JX a) 122 [BB a] rB:=Fe f122 0xb4659b700a65b56b38b6a5 [] (JX.eq_1 ..)
instance(a b):CT (RK a b) 123 [Hk a,eI b] rB:=Fe f123 0x8158655e0b76d8 [] (RK.eq_1 ..)
instance(a b):CT (Pc a b) 124 [Ao a,eI b] rB:=Fe f124 0x8158655e0b76d8 [] (Pc.eq_1 ..)
abbrev Q_176(n:Nat):Prop:=∀(c:d5)(a:Int),CT (Cc n c a) 176 [AI c,eI a] rI
theorem ud(n:Nat)(_ih_176:Q_176 n)(c:d5)(a:Int):CT (Cc (n+1) c a) 176 [AI c,eI a] rI:=Fj f176 0xb8300578cd6b01b209735e30ff8a9e65960578de9aa9380270a96f04709ed8 [] λh=>by
  unfold Cc at h;have:HW 0 λ(b:Int×Int)=>[(1,.tv (eI b.1)),(5,.tv (eI b.2))]:=⟨⟩;exact nz
theorem uc:∀n:Nat,Q_176 n:=by
  intro n
  induction n with
  |zero=>exact(λc tc=>⟨λ_ h=>c?⟩)
  |succ n a=>exact ud n a
instance(c tc):CT (QJ c tc) 176 [AI c,eI tc] rI:=⟨λr h=>by
  obtain ⟨N,a⟩:=Cq h;exact((uc N) c tc).snd r (a N (b6 _))⟩
instance(a):CT (JY a) 125 [AI a] rB:=Fe f125 0xc50eb201a5 [] (JY.eq_1 ..)
instance(a):CT (Pf a) 79 [BX a] rB:=Fe f79 0xb40eb210700a0e380d700a0e380b700a0e6f06700a0e6f0170050c76a5 [] (Pf.eq_1 ..)
instance(a b):CT (Gw a b) 240 [AJ a,Ah b] rB:=Hz f240 0xa6065dcde45e71c4960571c45e007c96065dde5d02055dcde45b807605805b5d027c76055d03b8a2 [] (Gw.eq_1 ..) (A3 0 5 3 0) (A3 2 6 3 1)
instance(a b c d):CT (N6 a b c d) 241 [AJ a,BB b,eI c,eI d] (rT IF eB):=Fk f241 0x81d4ad04c155d401468afa30fd5881e980d93855d401468a65d9309e02c9625d02 [] [.cell 8 (some 4),.tmp 9] λr h e f=>by
  unfold N6 at h;exact nz
instance(a):CT (Mh a) 242 [eI a] rB:=Fe f242 0xb49e058401 [] (Mh.eq_1 ..)
instance(a b):CT (JH a b) 334 [eI a,Q7 b] rI:=Fe f334 0x819a0596f8960a58760576a501 [] (JH.eq_1 ..)
instance(a b):CT (Pb a b) 291 [eI a,GP b] rI:=Fe f291 0x810e380370aa8d709a05760576a501 [] (Pb.eq_1 ..)
instance(a b):CT (MD a b) 243 [eI a,lT b] rI:=Bl f243 0xa692cdaa6f057384be92debaf39a9e58b7 [] (MD.eq_1 ..) (A3 0 5 1 0)
instance(a b):CT (LE a b) 244 [BB a,eI b] rB:=Bl f244 0xa60578cdba01710241c6b5007cdb057803b8d8 [] (LE.eq_1 ..) (A3 0 5 2 2)
instance(a b):CT (Gy a b) 177 [AJ a,BB b] rI:=Hz f177 0xa60d5d6ee8016f00647f700d5d81aaecbc36085dcd9aa97e0270f8bc710270f87102700861d40249745e5b6f38d405c9adc6b5367cdb085ddee49b7065b59a057f7005bce8cf38aacf7d6901748da2 [] (Gy.eq_1 ..) (A3 0 8 3 2) (A3 2 13 3 3)
instance(a):CT (HQ a) 335 [AI a] rB:=Fe f335 0xb4057f410470f8659b41f10b5d41f130c5657e5cf165715cf1657ebd0b710270a5 [] (HQ.eq_1 ..)
instance(a):CT (MO a) 292 [AI a] rB:=Bl f292 0x81ff55655ec5b40eb201655e190401039119040103c5b40eb201655ec5b40eb201655ec583b6a5 [] (MO.eq_1 ..) (⟨⟩:HJ 25 λ(b:Bool)=>[(25,.tv (eB b))])
abbrev Q_245(n:Nat):Prop:=∀(c:d5),CT (EL n c) 245 [AI c] rB
theorem uj(n:Nat)(_ih_245:Q_245 n)(c:d5):CT (EL (n+1) c) 245 [AI c] rB:=Fj f245 0xa636026ee8b209735e007c96360281e8b201a5 [] λh=>by
  unfold EL at h;have:=A3 0 3 1 1;exact nz
theorem ui:∀n:Nat,Q_245 n:=by
  intro n
  induction n with
  |zero=>exact(λc=>⟨λ_ h=>c?⟩)
  |succ n a=>exact uj n a
instance(c):CT (Oi c) 245 [AI c] rB:=⟨λr h=>by
  obtain ⟨N,a⟩:=Cq h;exact((ui N) c).snd r (a N (b6 _))⟩
abbrev Q_246(n:Nat):Prop:=∀(c:d5),CT (Eo n c) 246 [AI c] (rT eI eI)
theorem ul(n:Nat)(_ih_246:Q_246 n)(c:d5):CT (Eo (n+1) c) 246 [AI c] (rT eI eI):=Fj f246 0x8930630263026c855b630103d001046e302c309e8974b209735e6301037c96d00104818930a5 [] λh=>by
  unfold Eo at h;have:=Ay 0 6 1 1 λs0:Int×Int=>[(4,.tv (eI s0.1)),(5,.tv (eI s0.2))];have:HJ 33 λ(a:Int)=>[(5,.tv (eI a))]:=⟨⟩;exact nz
theorem uk:∀n:Nat,Q_246 n:=by
  intro n
  induction n with
  |zero=>exact(λc=>⟨λ_ h=>c?⟩)
  |succ n a=>exact ul n a
instance(c):CT (Pw c) 246 [AI c] (rT eI eI):=⟨λr h=>by
  obtain ⟨N,a⟩:=Cq h;exact((uk N) c).snd r (a N (b6 _))⟩
instance(a):CT (MM a) 178 [AI a] rI:=Fe f178 0x819a9e588974b2e8b201a5 [] (MM.eq_1 ..)
instance(a b):CT (N7 a b) 293 [BB a,eI b] rB:=Bl f293 0xa60578cdba01710241c6b5007cdb057803b8d8 [] (N7.eq_1 ..) (A3 0 5 2 2)
instance(a b c):CT (MN a b c) 247 [AJ a,eI b,BB c] rI:=Bl f247 0xa6a805cd7dca016f00647f70a80503b8aa6f38ba017f706230 [] (MN.eq_1 ..) (A3 0 8 5 3)
instance(a b c):CT (Gu a b c) 248 [Ah a,Ah b,Ao c] rI:=Hz f248 0xa60a639b6e9a05b560b576055e605e5bba5b5b9f9ff5f56d0343805e5ef65ee45e809605805e007c960a639b81637f09639b6eba805b60805b5be45b807605805b637f7c7609639b81e45e0b96655bf0aa38aa8df7 [] (Gu.eq_1 ..) (A3 0 9 3 0) (A3 2 10 3 1)
instance(a):CT (Em a) 186 [lI a] rB:=Hz f186 0xa6d7026ed70204d7cdbae0e0d702643004d703a6bed702819701 [] (Em.eq_1 ..) (A3 0 3 0 0) (A3 2 4 3 0)
instance(a b c):CT (IP a b c) 249 [Ah a,Ah b,Ao c] rB:=Fe f249 0xb40e960a0e76050eb18df7 [] (IP.eq_1 ..)
abbrev Q_179(n:Nat):Prop:=∀(t:eb)(p:d7)(c:d5),CT (E0 n t p c) 179 [AJ t,BB p,AI c] rI
theorem uf(n:Nat)(_ih_179:Q_179 n)(t:eb)(p:d7)(c:d5):CT (E0 (n+1) t p c) 179 [AJ t,BB p,AI c] rI:=Fj f179 0xa60a07059b6eaab209735e6f38007c960a07059b8107057f07057f3c756ff1e838bdeaf1cfaa38bdeaf1cfaa6ff1bc38855b7509c96f01f7 [] λh=>by
  unfold E0 at h;have:=A3 0 10 5 1;exact nz
theorem ue:∀n:Nat,Q_179 n:=by
  intro n
  induction n with
  |zero=>exact(λt p c=>⟨λ_ h=>c?⟩)
  |succ n a=>exact uf n a
instance(t p c):CT (XD t p c) 179 [AJ t,BB p,AI c] rI:=⟨λr h=>by
  obtain ⟨N,a⟩:=Cq h;exact((ue N) t p c).snd r (a N (b6 _))⟩
instance(a b c):CT (KQ a b c) 126 [AJ a,BB b,AI c] rI:=Fe f126 0x810eb26f38aab2aa6f8df7 [] (KQ.eq_1 ..)
instance(a b c):CT (Gx a b c) 189 [AJ a,Ah b,Ah c] rI:=Fe f189 0x819aa9388da9b1aa38aa387d6901748df7 [] (Gx.eq_1 ..)
instance(a b c):CT (MH a b c) 180 [AJ a,Ah b,Ah c] rB:=Fe f180 0xb40a0a65960a657605655e0b76050eb18d0a0e8d0a0e386b8df7 [] (MH.eq_1 ..)
instance(a b c):CT (PE a b c) 127 [AJ a,BB b,Bk c] rB:=Fe f127 0xb40ecfcf8d0a0e6d6b6f01f7 [] (PE.eq_1 ..)
abbrev Q_128(n:Nat):Prop:=∀(c:d5),CT (FW n c) 128 [AI c] rB
theorem uX(n:Nat)(_ih_128:Q_128 n)(c:d5):CT (FW (n+1) c) 128 [AI c] rB:=Fj f128 0xc5657e5cf10b715cf13036026ee8b209735e307c963602b8a5 [] λh=>by
  unfold FW at h;have:=A3 0 3 1 1;exact nz
theorem uW:∀n:Nat,Q_128 n:=by
  intro n
  induction n with
  |zero=>exact(λc=>⟨λ_ h=>c?⟩)
  |succ n a=>exact uX n a
instance(c):CT (Qt c) 128 [AI c] rB:=⟨λr h=>by
  obtain ⟨N,a⟩:=Cq h;exact((uW N) c).snd r (a N (b6 _))⟩
abbrev Q_129(n:Nat):Prop:=∀(p:d7)(c:d5)(b:Int)(a:Int),CT (Dy n p c b a) 129 [BB p,AI c,eI b,eI a] rB
theorem uZ(n:Nat)(_ih_129:Q_129 n)(p:d7)(c:d5)(b:Int)(a:Int):CT (Dy (n+1) p c b a) 129 [BB p,AI c,eI b,eI a] rB:=Fj f129 0x81580a010da7055d066ee830b209735e6f0a017c960da7055d0681a7055d050ca7055d066e019ea7055d057c7eb60ca7055d06810b7e37a7bb060ba7bb076e019ea7bb067c71b60ba7bb07810bd98109bb0509bb053c756ff1855b7509c96f01625d02 [] λh=>by
  unfold Dy at h;have:HJ 17 λ(d:d7)=>[(9,.bx [⟨T,lI d.d3.ca⟩,⟨T,lE d.d3.ci⟩,⟨T,lS d.ed⟩,⟨T,eI d.ff⟩,⟨T,lT d.mo⟩])]:=⟨⟩;have:HW 0 λ(e:Int×Int)=>[(10,.tv (eI e.1)),(11,.tv (eI e.2))]:=⟨⟩;have:HW 2 λ(f:Int×Int)=>[(10,.tv (eI f.1)),(12,.tv (eI f.2))]:=⟨⟩;have:=A3 4 13 5 1;exact nz
theorem uY:∀n:Nat,Q_129 n:=by
  intro n
  induction n with
  |zero=>exact(λp c ea ec=>⟨λ_ h=>c?⟩)
  |succ n a=>exact uZ n a
instance(p c ea ec):CT (Pv p c ea ec) 129 [BB p,AI c,eI ea,eI ec] rB:=⟨λr h=>by
  obtain ⟨N,a⟩:=Cq h;exact((uY N) p c ea ec).snd r (a N (b6 _))⟩
instance(a b c d):CT (ML a b c d) 80 [AJ a,BB b,AI c,Bk d] rB:=Fe f80 0xb40a0eb26f010a657eb60a6571b60a0eb26b6d6f8d050eb26f389aa96d010aa96f01a9b20162a2 [] (ML.eq_1 ..)
instance(a b c):CT (KU a b c) 43 [AJ a,BX b,Bk c] rB:=Fe f43 0xb40e6db210426fb98d0a0eeb6b8df7 [] (KU.eq_1 ..)
abbrev Q_44(n:Nat):Prop:=∀(p:d7)(c:d5)(a:Int),CT (C5 n p c a) 44 [BB p,AI c,eI a] rB
theorem xa(n:Nat)(_ih_44:Q_44 n)(p:d7)(c:d5)(a:Int):CT (C5 (n+1) p c a) 44 [BB p,AI c,eI a] rB:=Fj f44 0x8158780a070402046ee801b209735e6f78ff8a9e65960a07040204810704020309070402046e015807040203ff8a9e657eb60907040204810b7e3707e504a8e5056e015807e504ff8a9e6571b6a8e505810bd907e50407e5043c756ff1855b7509c96f016278 [] λh=>by
  unfold C5 at h;have:HJ 14 λ(b:d7)=>[(7,.bx [⟨T,lI b.d3.ca⟩,⟨T,lE b.d3.ci⟩,⟨T,lS b.ed⟩,⟨T,eI b.ff⟩,⟨T,lT b.mo⟩])]:=⟨⟩;have:HW 0 λ(d:Int×Int)=>[(2,.tv (eI d.1)),(8,.tv (eI d.2))]:=⟨⟩;have:HW 2 λ(e:Int×Int)=>[(2,.tv (eI e.1)),(9,.tv (eI e.2))]:=⟨⟩;have:HW 4 λ(f:Int)=>[(10,.tv (eI f))]:=⟨⟩;exact nz
theorem xZ:∀n:Nat,Q_44 n:=by
  intro n
  induction n with
  |zero=>exact(λp c a=>⟨λ_ h=>c?⟩)
  |succ n b=>exact xa n b
instance(p c ways):CT (Mj p c ways) 44 [BB p,AI c,eI ways] rB:=⟨λr h=>by
  obtain ⟨N,a⟩:=Cq h;exact((xZ N) p c ways).snd r (a N (b6 _))⟩
instance(a b c):CT (N9 a b c) 253 [AJ a,BB b,eI c] rI:=Bl f253 0xa60a070402046e9a055e7ec6db055b71c6b50064300a07040204819a057e0270f87e0270f8bc710270f87102700afa960596e9605bd938e4d976055bd405c9adc6db6278 [] (N9.eq_1 ..) (A3 0 10 2 0)
instance(a b):CT (MQ a b) 184 [AJ a,BX b] rI:=Bl f184 0xa6065dcdaa016fd538007c5d410670065ddeba0b5d41d5e49b410670057f41b97f41d5e8ead538aaea0670a2 [] (MQ.eq_1 ..) (A3 0 6 3 8)
instance(a):CT (OA a) 185 [BX a] rI:=Fe f185 0x810e380d42ead58d8c8c0849fb1174380b42eab9aa380b42ea0170a5 [] (OA.eq_1 ..)
instance(a b):CT (RL a b) 297 [lI a,eI b] rB:=Bl f297 0xa692cdba016084be92deb7 [] (RL.eq_1 ..) (A3 0 5 0 0)
instance(a b):CT (Ln a b) 254 [eI a,lI b] (rO lI):=Bl f254 0xef58e76ee7e73c78cccbca30586430e7b8d6409702 [] (Ln.eq_1 ..) (Ay 0 6 0 0 (hO 5 lI))
instance(a):CT (KC a) 187 [BX a] (rT lI lI):=Fe f187 0x82820e7e0d420b7e5cd50e710d420b715c0670400140a5 [] (KC.eq_1 ..)
instance(a b c d):CT (LH a b c d) 188 [AJ a,Ah b,lI c,lI d] rB:=Hz f188 0xa60a639b6ee860b55b605e5b5b389ff56d0343e05e00be0a639b81637f09bb056e55830241044360e05b5b637fbe09bb05b8625d02 [] (LH.eq_1 ..) (A3 0 9 2 0) (A3 2 10 3 0)
instance(a b):CT (KS a b) 131 [AJ a,BX b] rI:=Fe f131 0x810eb210426fb938e830ead53882e9eb9aa97e0d70a9710d42aaebaaeb38aa6fb938e85b7d6901748da2 [] (KS.eq_1 ..)
instance(a b):CT (MU a b) 81 [AJ a,(eL 25 BX) b] rI:=Bl f81 0xa60778cdaaeb19c13800be0778debaf37d6901748dd8 [] (MU.eq_1 ..) (A3 0 7 1 0)
instance(a b c):CT (N2 a b c) 132 [AJ a,eI b,lI c] rI:=Bl f132 0xa6090702cd9a055d4104c18030057e04c16084be090702debaf30b30e9c355830241c65bbaf030937802 [] (N2.eq_1 ..) (A3 0 9 7 0)
instance(a b):CT (Gv a b) 82 [AJ a,Bk b] (rT eI eI):=Hz f82 0x89000b5dcd55b8ca60b5d9605ed95b3855b8850b5e5b9ff5f67e37007c7eb60b5dde5d02095dcddd307780b580d9385d027c71b6095ddedd850bd90bb555b877cf55b86901743830a2 [] (Gv.eq_1 ..) (A3 0 9 3 0) (A3 2 11 3 1)
instance(a b c):CT (KW a b c) 45 [AJ a,(eL 25 BX) b,Bk c] rI:=Fe f45 0x816101746d38aa018d6230 [] (KW.eq_1 ..)
instance(a b c):CT (MT a b c) 20 [AJ a,(eL 25 BX) b,Bk c] rB:=Bl f20 0xb40a657eb60a6571b630050e6dc307053604a80536056e010a0eb2104119c16f01411973300a65715c06411973300a657e5c01411973300a65715c014119c130e86deb19c13807053604bea8053605899aa96d010aa98d0a65300a653065306230 [] (MT.eq_1 ..) (Ay 0 8 1 0 (hT 7 eB))
instance(a):CT (HN a) 52 [Bk a] (λr=>.yy [⟨X,lI r.d3.ca⟩,⟨X,lE r.d3.ci⟩,⟨X,.xn (List.map lI r.em)⟩]):=Fk f52 0x35003535d02e501046e1fbd2122014f80db5623bd5d027cdbe501048103501ec93f1bcf1ec9a5 [.yz [.g 7 0 2,.g 7 1 2,.z ⟨X,.xn []⟩]] [.cell 2 (some 3)] λr h b c=>by
  unfold HN at h;have:=Ay 0 4 1 2 λs0:fl=>[(3,.bx [⟨X,lI s0.d3.ca⟩,⟨X,lE s0.d3.ci⟩,⟨X,.xn (List.map lI s0.em)⟩])];exact nz
instance(a b c):CT (Io a b c) 87 [AJ a,BX b,Bk c] rI:=Fe f87 0x816101746d38aaeb8df7 [] (Io.eq_1 ..)
instance(a b):CT (G5 a b) 146 [lI a,lI b] rB:=Bl f146 0xa692cdbae06084be92debaf3f3b7 [] (G5.eq_1 ..) (A3 0 5 0 0)
instance(a):CT (JL a) 301 [lI a] rB:=Hz f301 0xa6d7026ed70204d7cdbae0e0d702643004d703a6bed702819701 [] (JL.eq_1 ..) (A3 0 3 0 0) (A3 2 4 3 0)
instance(a b c d e):CT (MI a b c d e) 257 [AJ a,Ah b,Ah c,Ao d,eB e] rI:=Hz f257 0x819a0aa996a95b300804020cb304056e9a05b560b576055e605e5bba5b5b9f9ff5f56d0343805e5ef65ee45e809605805e0804027c960cb3040581b304040bb363066ee8805b60805b5b38e45b807605805bb304047c760bb3630681e45e0b96655b0b7662620401 [] (MI.eq_1 ..) (A3 0 11 8 0) (A3 2 12 8 1)
instance(a b c d e):CT (Il a b c d e) 194 [AJ a,Ah b,Ah c,Ao d,eB e] rI:=Fe f194 0x810e01b1b1aab18d62620401 [] (Il.eq_1 ..)
instance(a b c):CT (KP a b c) 135 [AJ a,BB b,Bk c] rI:=Fe f135 0x816101746d38aa6f8df7 [] (KP.eq_1 ..)
instance(a b):CT (Im a b) 192 [Q7 a,lI b] rI:=Fe f192 0xc55e6076555e8576d8 [] (Im.eq_1 ..)
instance(a b):CT (KJ a b) 256 [Q7 a,lI b] (rT eI eB):=Fe f256 0x89055e6076dd8afa76055bdd5e855b30d8 [] (KJ.eq_1 ..)
instance(a b):CT (MC a b) 193 [GP a,lI b] rB:=Fe f193 0xb40a583005760a5830055b9a083008618174c303428974018d70d8 [] (MC.eq_1 ..)
instance(a b c):CT (HO a b c) 137 [BB a,Bk b,Ao c] (rT lI eI):=Hz f137 0x818218086b087f6e7dc08820146f0573ec08017cec6b087f81085da70863ed6e7dc08501201438bd0c0ba7086303080c0ba7086303085fe3057ebd301401e301148a0817d1011401588171bd81605e60605b5bb5d405c9adc6b5085d7cdba70863ed81993fbc993fbc3040f7 [.mkx 1 [.int .i64 0] (.s 16),.mkx 1 [.bool T] (.s 19)] (HO.eq_1 ..) (Ay 0 10 3 2 λs0:Fp×a6=>[(8,.xo 1 (List.map eI s0.1)),(9,.xo 1 (List.map eB s0.2))]) (A3 2 14 3 4)
instance(a b c d):CT (MJ a b c d) 195 [AJ a,BB b,Bk c,Ao d] (rT lI eI):=Fe f195 0x81826a0e386d6f7dd677b137cf387dd6776d6f38304062a2 [] (MJ.eq_1 ..)
instance(a b c d):CT (JK a b c d) 196 [AJ a,Ah b,Ah c,Ao d] (rT Ah eI):=Fk f196 0x818c380b3e0b08020c0bb3056e01e360805b761d370b080264151db60c0bb3058102501bc92738558ccb467738b18dfb62a2 [] [.cell 8 (some 2),.tmp 9] λr h f g=>by
  unfold JK at h;have:HW 0 λ(e:d3×Int)=>[(11,.bx [⟨X,.xl 1 (List.map eI e.1.ca)⟩,⟨X,.xl 3 (List.map Bu e.1.ci)⟩]),(12,.tv (eI e.2))]:=⟨⟩;exact nz
instance(a b c d):CT (PD a b c d) 258 [Ah a,Ah b,Hk c,Ao d] rI:=Fe f258 0x810eb1aab18d62a2 [] (PD.eq_1 ..)
instance(a b):CT (Dp a b) 302 [lI a,eI b] rB:=Bl f302 0xa692cdba016084be92deb7 [] (Dp.eq_1 ..) (A3 0 5 0 0)
instance(a b):CT (F3 a b) 259 [lI a,lI b] (rO (eL 2 Q6)):=Hz f259 0xef58e76ee77292056e7292057292053c0202480247054630028a0aa90130a9013005e0e0e7be729205815858bee78102c002409702 [] (F3.eq_1 ..) (Ay 0 6 0 0 (hO 5 (eL 2 Q6))) (Ay 2 7 0 0 (hO 5 (eL 2 Q6)))
instance(a b):CT (Jo a b) 262 [lI a,lI b] (rO lI):=Bl f262 0xef58e76ee7e73c78cce002ca3058bee7b8d6409702 [] (Jo.eq_1 ..) (Ay 0 6 0 0 (hO 5 lI))
instance(a b c d):CT (JJ a b c d) 260 [Ah a,Ah b,Hk c,Ao d] (rO lI):=Bl f260 0xef09010ba70705056e0ba7070565a70705053c78cccb8a0a0e5d41c45e300e7ec45e30a9015e09017c960ba707050581820e5b76d64093621300 [] (JJ.eq_1 ..) (Ay 0 11 5 1 (hO 9 lI))
instance(a b):CT (Lj a b) 261 [eI a,lI b] (rO lI):=Bl f261 0xef58e76ee7e73c78cccbca30586430e7b8d6409702 [] (Lj.eq_1 ..) (Ay 0 6 0 0 (hO 5 lI))
instance(a b c d):CT (Qs a b c d) 197 [Ah a,Ah b,Hk c,Ao d] (rT Hk eI):=Fk f197 0x8013b818c04f20e5e5e0b5e0e0e5b5bf0558c0346850b0eb1b1558c034685650e5e5e0b0e5b5b558c0103467738b18df462a2 [] [.cell 8 (some 2),.tmp 9] λr h e f=>by
  unfold Qs at h;exact nz
instance(a b c):CT (JN a b c) 341 [eI a,lI b,lI c] (rO lI):=Hz f341 0x82180701090778046e01e3e0e0140701be0907780481077803a87800056e19014fac190778036430a8780005b8ce0140780003 [] (JN.eq_1 ..) (Ay 0 8 0 0 (hX 7 1 eI)) (Ay 2 9 1 0 (hX 7 1 eI))
instance(a b):CT (E5 a b) 298 [.pt (TD a).cells,lI b] rB:=Hz f298 0xa692036c920392de880107e2b392066e010af860dbdbf8609696055b5b309ff5f67e04900107e27c7e049030b3920689ff92038afadbfa5e9ff5f67e0290977c7e02903092deb7 [] (E5.eq_1 ..) (A3 0 5 0 3) (Ay 2 8 0 5 (hT 7 eB))
instance(a b c):CT (Cl a b c) 300 [.pt (TD a).cells,lI b,eI c] rB:=Bl f300 0xa6077800046eba016084ff8a03089030653007780004b8780003 [] (Cl.eq_1 ..) (⟨⟩:HW 0 λ(d:Int)=>[(7,.tv (eI d))])
noncomputable def ZW:PC:=PC.of OI f299.body (xq bT 0x1b37800066cb3780006b37800063c005201cc304830470137ffb37800068a0560dbdbf8609696f85b760a2030b60a58807e0690b605807e06c89ff5f67e04c800017c7e0490b6b3780006819ff5f67e02c8ffe60a900248024704460148304701483047040ac837850b7e02c861f3640309c80b030ac8780003) []
theorem vI:CK f299 ZW []:=d_
theorem vf:PC.yh ZW=X/\PC.yj 0 ZW=X:=d_
abbrev Q_299(n:Nat):Prop:=∀(b:Ae)(a:Fp)(l:Fp),CT (CA n b a l) 299 [.undef,lI a,lI l] (λr=>.bo (Bp b) (Bp r) 0 [])
theorem ux(n:Nat)(_ih_299:Q_299 n)(b:Ae)(a:Fp)(l:Fp):CT (CA (n+1) b a l) 299 [.undef,lI a,lI l] (λr=>.bo (Bp b) (Bp r) 0 []):=nP vI vf λr h e d f=>by
  unfold ZW;unfold f299;unfold CA at h;have:HW 0 λ(c:Ae×Int)=>[(0,.bx (Bp c.1)),(8,.tv (eI c.2))]:=⟨⟩;exact nz
theorem uw:∀n:Nat,Q_299 n:=by
  intro n
  induction n with
  |zero=>exact(λa ea l=>⟨λ_ h=>c?⟩)
  |succ n b=>exact ux n b
instance(s_0 ea l):CT (M4 s_0 ea l) 299 [.undef,lI ea,lI l] (λr=>.bo (Bp s_0) (Bp r) 0 []):=⟨λr h=>by
  obtain ⟨N,a⟩:=Cq h;exact((uw N) s_0 ea l).snd r (a N (b6 _))⟩
end Go.Sf.Sc
