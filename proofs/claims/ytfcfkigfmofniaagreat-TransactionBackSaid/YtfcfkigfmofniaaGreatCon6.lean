/- Contracts of the functions. -/
import Derived.Test.YtfcfkigfmofniaaGreatCon5
set_option linter.all false
set_option maxRecDepth 100000
set_option maxHeartbeats 4000000
open Option renaming some->Y,none->W
open Bool renaming true->X,false->T
open List renaming map->u!
namespace Go.Sf.Sc
open Go Go.Sf Go.Proofs.Tryz
noncomputable def ZV:PC:=PC.of OI f255.body (xq bT 0x163f96c63f963f93c005201cc3048304737ff63f98aa9807102c8807104c8ea5cb60a2030b60a5880710690b605807106c800017c710490b663f981ff3f0137850b7102c861f3ff8a082001b6050309c80b030ac89702) [.zi 299 [.s 32,.s 33,.c (.list 1 [])] 0]
theorem vG:CK f255 ZV []:=d_
theorem ve:PC.yh ZV=X/\PC.yj 0 ZV=X:=d_
abbrev Q_255(n:Nat):Prop:=∀(a:Ae)(l:Fp),CT (CB n a l) 255 [.undef,lI l] (λr=>.bo (Bp a) (Bp r) 0 [])
theorem uo(n:Nat)(_ih_255:Q_255 n)(a:Ae)(l:Fp):CT (CB (n+1) a l) 255 [.undef,lI l] (λr=>.bo (Bp a) (Bp r) 0 []):=nP vG ve λr h d c e=>by
  unfold ZV;unfold f255;unfold CB at h;have:HW 0 λ(b:Ae×Int)=>[(0,.bx (Bp b.1)),(5,.tv (eI b.2))]:=⟨⟩;exact nz
theorem um:∀n:Nat,Q_255 n:=by
  intro n
  induction n with
  |zero=>exact(λa l=>⟨λ_ h=>c?⟩)
  |succ n b=>exact uo n b
instance(s_0 l):CT (I5 s_0 l) 255 [.undef,lI l] (λr=>.bo (Bp s_0) (Bp r) 0 []):=⟨λr h=>by
  obtain ⟨N,a⟩:=Cq h;exact((um N) s_0 l).snd r (a N (b6 _))⟩
instance(a b c d e f):CT (NG a b c d e f) 190 [AJ a,Ah b,Ah c,Ao d,eB e,eI f] (rS (eL 2 Ao)):=Fe f190 0x82030a905c3f5c00c2bf2c4630b1b1024062626302 [.Aay [W,W,W,W,W,W,W,W,W,W,Y ⟨X,.list 2 []⟩] (.s 20),.zi 255 [.s 22,.c (.list 1 [])] 0] (NG.eq_1 ..)
instance(a b c):CT (JM a b c) 362 [lI a,eI b,eI c] rI:=Bl f362 0xa6070200cd9a588030056084be070200deba010b30780003 [] (JM.eq_1 ..) (A3 0 7 0 0)
instance(a b c d e):CT (LD a b c d e) 342 [AJ a,Ah b,Ah c,Ao d,eB e] (rT (eL 2 Ao) eI):=Fe f342 0x8182015502c085f3820e01b1b15502d6770b5e0b5e5e5502d677f0f05b5502c08a655e0b96655bf05502d677b18d024062620401 [] (LD.eq_1 ..)
instance(a b):CT (EZ a b) 203 [Q7 a,lI b] (rT eI eI):=Fe f203 0x890ec3dd8afa76055b30d8 [] (EZ.eq_1 ..)
instance(a b c d):CT (LF a b c d) 343 [BB a,Bk b,Ao c,lI d] (rT lI eB):=gT f343 0x8182180a01120a04cd7dc08a0a583005760a5830055b616a012014380342616a0120148d427504c96f0573ec0a017c9b70120a0403b404020de1d0066e7dc0850130816a01201438bd0f0e0de1d0080f0e0de1d0085fe301e3057e027071bd1471bd148a0817d171bd14010571bd81605e60605b5bb5d405c9adc6b50a04027cdb0de1d00681e1d0050ce1d003076e0ce1d003070ce1d003073c19014fac1985f330e3fa3014e1d005647f700ce1d0030781993fbc99014f30563040936236 [.mkx 1 [.bool T] (.s 28)] (LF.eq_1 ..) (Ay 0 12 4 3 λs0:Fp×a6=>[(10,.xo 1 (u! eI s0.1)),(11,.xo 1 (u! eB s0.2))]) (Ay 2 13 4 2 λs2:Fp×a6=>[(10,.xo 1 (u! eI s2.1)),(11,.xo 1 (u! eB s2.2))]) (A3 4 18 4 4)
instance(a b c d e):CT (HP a b c d e) 303 [AJ a,AI b,Bk c,Bf d,eB e] (rT (eL 3 Bf) eI):=Bl f303 0x81ef100111100e0cb36e11100e0cb311100e0cb33c02034803470946c302c10289e9b53802c16d6f1001be11100e0cb38103c05503d669e901b137cf388cf404f27e377ebd0b7e370ed971bd0bd97509c96f0470034062620401 [] (HP.eq_1 ..) (Ay 0 17 14 0 (hO 16 (eL 3 Bf)))
abbrev Q_263(n:Nat):Prop:=∀(t:eb)(c:d5)(b:fl)(m:AO)(a:Bool),CT (Dq n t c b m a) 263 [AJ t,AI c,Bk b,Bf m,eB a] (rT EO eI)
theorem ur(n:Nat)(_ih_263:Q_263 n)(t:eb)(c:d5)(b:fl)(m:AO)(a:Bool):CT (Dq (n+1) t c b m a) 263 [AJ t,AI c,Bk b,Bf m,eB a] (rT EO eI):=Fk f263 0xd30a46ffdf0a460a0117150a7263076eff0a013bd3010c4605476f6d03c169750ec974016d03c16db209435e380a01be17150a72630781df010a4669e9016d6db238c5d30a460a01120ab363076edf010b4605476f0169750ec974016d6db209735e380a017c96120ab363078905d36f0e0a020f0e0ab363086ee6f1054805476f04f1df010a4669750ec974016d6db209735e380e0a027c960f0e0ab36308c5500ec93fc5d3010a46df0a468501df0a4669750e4974016d6db209435e38c583376bc962620401 [.yz [.z ⟨T,.int .i64 0⟩,.z ⟨X,.list 1 []⟩,.z ⟨X,.list 1 []⟩,.z ⟨X,.list 1 []⟩,.z ⟨X,.list 5 []⟩]] [.cell 10 (Y 5),.tmp 11] λr h d e=>by
  unfold Dq at h;have:=Ay 1 15 6 1 λs1:A1×A1=>[(10,.bx [⟨T,eI s1.1.zg⟩,⟨X,lI s1.1.n8.d4.ca⟩,⟨X,lI s1.1.n8.d4.ci⟩,⟨X,lI s1.1.n8.ff⟩,⟨X,Hr s1.1.gl⟩]),(14,.bx [⟨T,eI s1.2.zg⟩,⟨X,lI s1.2.n8.d4.ca⟩,⟨X,lI s1.2.n8.d4.ci⟩,⟨X,lI s1.2.n8.ff⟩,⟨X,Hr s1.2.gl⟩])];have:=Ay 3 18 6 1 λs3:A1=>[(10,.bx [⟨T,eI s3.zg⟩,⟨X,lI s3.n8.d4.ca⟩,⟨X,lI s3.n8.d4.ci⟩,⟨X,lI s3.n8.ff⟩,⟨X,Hr s3.gl⟩])];have:=Ay 5 23 21 0 λs5:A1=>[(10,.bx [⟨T,eI s5.zg⟩,⟨X,lI s5.n8.d4.ca⟩,⟨X,lI s5.n8.d4.ci⟩,⟨X,lI s5.n8.ff⟩,⟨X,Hr s5.gl⟩])];exact nz
theorem uq:∀n:Nat,Q_263 n:=by
  intro n
  induction n with
  |zero=>exact(λt c a m f0=>⟨λ_ h=>c?⟩)
  |succ n b=>exact ur n b
instance(t c h_2 m f0):CT (Rf t c h_2 m f0) 263 [AJ t,AI c,Bk h_2,Bf m,eB f0] (rT EO eI):=⟨λr h=>by
  obtain ⟨N,a⟩:=Cq h;exact((uq N) t c h_2 m f0).snd r (a N (b6 _))⟩
instance(a b c d e):CT (MK a b c d e) 198 [AJ a,AI b,Bk c,Bf d,eB e] (rT eB eI):=Fe f198 0x890158dd69750e4974016d6db2383062620401 [] (MK.eq_1 ..)
instance(a b c d):CT (Lp a b c d) 138 [AJ a,BX b,Bk c,Bf d] (rT Hk eI):=Fk f138 0x818cc30d0b08030d0b08035f8a08309e8174030f426d6db2104238558c01034685308cf474cf380b42cf38558c01034685308cfb74cfcfeab938558c0346cadb558c01034669e9cf6d6fb938558c0346850e030f42cfcfeab98df462a2 [] [.cell 8 (Y 2),.tmp 9] λr h f g=>by
  unfold Lp at h;have:HJ 95 λ(e:Int)=>[(11,.tv (eI e))]:=⟨⟩;exact nz
instance(a b c):CT (J9 a b c) 199 [AJ a,Bk b,Hk c] (rT Bk eI):=Fk f199 0x819f6d0d06020e0d0b0604056ee60270cc014860805bdb4704bd0d06027c5b6b0d0b06040581035010c93f38559f011446698c8cf4fb1174b137559f0114466901746d8d10c9f7 [.yz [.v (.s 37) 0 2,.v (.s 37) 1 2,.z ⟨X,.list 1 []⟩]] [.cell 6 (Y 3),.tmp 7] λr h e f=>by
  unfold J9 at h;have:HW 0 λ(d:fl×Int)=>[(13,.bx [⟨T,lI d.1.d3.ca⟩,⟨T,lE d.1.d3.ci⟩,⟨X,(eL 1 lI) d.1.em⟩]),(14,.tv (eI d.2))]:=⟨⟩;exact nz
instance(a b):CT (Li a b) 201 [lI a,eI b] (rO lI):=Hz f201 0x821858e76ee77292056e7292057292055fe330148501e0e7be7292058119014fac19586430e7b8ce01409702 [] (Li.eq_1 ..) (Ay 0 6 1 0 (hX 5 1 eI)) (Ay 2 7 0 0 (hX 5 1 eI))
instance(a b):CT (LI a b) 200 [eI a,lI b] (rO lI):=Fe f200 0x820e0130409702 [] (LI.eq_1 ..)
instance(a b c):CT (Mi a b c) 139 [AJ a,Bk b,Hk c] (rT Bk Ao):=Fk f139 0x72023b8c9f04f25e0b7e370e5b0bd96d019f10c974386d38f410c9f7 [] [.cell 6 (Y 3),.cell 7 (Y 2)] λr h d e=>by
  unfold Mi at h;exact nz
instance(a b):CT (G7 a b) 140 [lI a,lI b] (rO lI):=Bl f140 0xef58e76e78cc6080300258bee7b8d6409702 [] (G7.eq_1 ..) (Ay 0 6 0 0 (hO 5 lI))
instance(a b c d e):CT (FX a b c d e) 141 [lI a,lI b,eI c,lI d,eI e] (rO lI):=Bl f141 0xef0c01d20be500076ed20be500076c78cccbd20be500073c78cc6060e0300285e00c016430d20be50007b8c0820e013040e59705 [] (FX.eq_1 ..) (Ay 0 13 2 0 λs0:Int×Fp=>[(4,.tv (eI s0.1)),(12,.ow (lI s0.2))])
instance(a b):CT (Hu a b) 202 [lI a,eI b] rB:=Bl f202 0xa692cdba016084be92deb7 [] (Hu.eq_1 ..) (A3 0 5 0 0)
noncomputable def fb:PC:=PC.of OI f142.body (xq bT 0x35003530806020f09b305066e0f09b305060f09b305065f4a01413703480347074660b55b605e5b5b040141379ff5f65e8e017e0d420806027c960f09b305068109b30505a7b363076ca7b36307a7b363073c1fbd21221923bd0da7b363a90d0ba7b3630a6e19014fac7e04c1190da7b36308be0e0d0ba7b3630ab8ce01e9805b8d4a5cb6cc805b045c37ffa7b36307ca01710d4209b305057c76a7b36307818cfbead51ec993aba2) []
theorem vC:CK f142 fb [.cell 8 (Y 3)]:=d_
theorem va:PC.yh fb=X:=d_
instance(a b c d):CT (Lo a b c d) 142 [AJ a,BX b,.agg [.undef,.undef,.undef],Ao d] (λr=>.ag [⟨X,lI c.d3.ca⟩,⟨X,lE c.d3.ci⟩,⟨X,.xn (u! lI c.em)⟩] 2 (.yy [⟨X,lI r.d3.ca⟩,⟨X,lE r.d3.ci⟩,⟨X,.xn (u! lI r.em)⟩])):=wt vC va λr h i g j=>by
  unfold fb;unfold f142;unfold Lo at h;have:HW 0 λ(e:fl×Int)=>[(6,.bx [⟨X,lI e.1.d3.ca⟩,⟨X,lE e.1.d3.ci⟩,⟨X,.xn (u! lI e.1.em)⟩]),(10,.tv (eI e.2))]:=⟨⟩;have:=Ay 2 14 11 0 (hX 13 1 eI);have:HW 4 λ(f:fl×Int)=>[(6,.bx [⟨X,lI f.1.d3.ca⟩,⟨X,lE f.1.d3.ci⟩,⟨X,.xn (u! lI f.1.em)⟩]),(15,.tv (eI f.2))]:=⟨⟩;exact nz
noncomputable def fc:PC:=PC.of OI f143.body (xq bT 0x819f6d073e0a0702130c0aa863076e2624017e04c125240123bd559f14468a055d4104437ec63030057e04437ec63030e980d93881607104c15b6174c3024104c10a0702be130c0aa86307810c0aa86306d20aa863076ed20aa86307100ed20aa863096e559f14468a5830f87e04c17ec63005607104c15b607104c15b6174c3024104c1d20aa863076430100ed20aa86309816174c3024104c10c0aa86306bed20aa8630781825d41067010c993ab620401) []
theorem vD:CK f143 fc [.cell 10 (Y 3),.tmp 11]:=d_
theorem vb:PC.yh fc=X:=d_
instance(a b c d e):CT (NI a b c d e) 143 [AJ a,BX b,.agg [.undef,.undef,.undef],Ao d,lI e] (λr=>.ag [⟨X,lI c.d3.ca⟩,⟨X,lE c.d3.ci⟩,⟨X,.xn (u! lI c.em)⟩] 2 (.tp [Bk r.1,eI r.2])):=wt vD vb λr h g f i=>by
  unfold fc;unfold f143;unfold NI at h;have:=Ay 0 13 12 0 λs0:fl=>[(10,.bx [⟨X,lI s0.d3.ca⟩,⟨X,lE s0.d3.ci⟩,⟨X,(eL 1 lI) s0.em⟩])];have:=Ay 2 16 13 0 λs2:fl=>[(10,.bx [⟨X,lI s2.d3.ca⟩,⟨X,lE s2.d3.ci⟩,⟨X,(eL 1 lI) s2.em⟩])];have:=Ay 4 19 12 0 λs4:fl×fl=>[(7,.bx [⟨X,lI s4.1.d3.ca⟩,⟨X,lE s4.1.d3.ci⟩,⟨X,.xn (u! lI s4.1.em)⟩]),(10,.bx [⟨X,lI s4.2.d3.ca⟩,⟨X,lE s4.2.d3.ci⟩,⟨X,(eL 1 lI) s4.2.em⟩])];exact nz
instance(a b c d):CT (KT a b c d) 89 [AJ a,BX b,Bk c,Bf d] (rT Na eI):=Fk f89 0x81fe2d46b16d6d6deb55fe0e468a657eb665d955fe6b4685309f6acb57b5380353eb380d013b03500257381b6deb388cf404f20b5e5e0b7e5cd57e0d427e0b420ef05b0b715cd5710d42710b428cf404f25e7e370e5bd98c9ff41ec974386d3855fe6b46698cf4746d6deb3855fe6b46776deb8d11c962a2 [] [.cell 8 (Y 38),.tmp 9] λr h e f=>by
  unfold KT at h;exact nz
instance(a b c d):CT (Lq a b c d) 84 [AJ a,(eL 25 BX) b,Bk c,EK d] (rT Na eI):=Fk f84 0x8013b81fe6a0e6db96deb1943763855fe0e468afa76057611c9936230 [] [.cell 8 (Y 38),.tmp 9] λr h e f=>by
  unfold Lq at h;exact nz
instance(a b c):CT (JP a b c) 49 [AJ a,(eL 25 BX) b,Du c] (λr=>.tp [(eL 38 Na) r.1,eI r.2.1,eI r.2.2]):=Bl f49 0x89820bcb0a010ce10536066e9f6d1f420226482647264402dd26c03069fe11c974adc6bc6dc30a017c7f700ce1053606819f10c96d3726c0dd26c0850bbcdd26d6776db6383026406230 [] (JP.eq_1 ..) (Ay 0 12 5 3 λs0:List Ax×fl=>[(10,.ow ((eL 38 Na) s0.1)),(11,.bx [⟨T,lI s0.2.d3.ca⟩,⟨T,lE s0.2.d3.ci⟩,⟨T,(eL 1 lI) s0.2.em⟩])])
instance(a b):CT (KV a b) 51 [lI a,lI b] (rO lI):=Bl f51 0xef58e76ee73c78cc60803002e73c78cc0285e058bee7b8d6409702 [] (KV.eq_1 ..) (Ay 0 6 0 0 (hO 5 lI))
instance(a b c):CT (Ip a b c) 23 [AJ a,(eL 25 BX) b,Du c] (λr=>.tp [Bk r.1,Ao r.2.1,eI r.2.2]):=Fk f23 0x72023b818c9f380e6dd272040ed20972066e8c04f27e224126c15e0e71224126c15b9f6d1f4126c1d27204be0ed2097206818c9ff410c90eea376d37558c9f01034614466901821174ad018df410c96230 [] [.cell 6 (Y 3),.cell 7 (Y 2),.tmp 8] λr h d e=>by
  unfold Ip at h;have:=Ay 0 14 9 0 λs0:fl×d4=>[(12,.bx [⟨T,lI s0.1.d3.ca⟩,⟨T,lE s0.1.d3.ci⟩,⟨T,(eL 1 lI) s0.1.em⟩]),(13,.bx [⟨T,lI s0.2.ca⟩,⟨T,lI s0.2.ci⟩])];exact nz
instance(a):CT (N4 a) 191 [Ah a] (rS Ao):=Fk f191 0x8c38033e5d02055dcd01e3011db95d0264151d0170055dde5d02e5cd01e3011d375d0264151db6e5de02501fc93f3f0b5e3ff0f4a5 [.mkx 1 [.int .i64 0] (.s 8),.mkx 1 [.int .i64 0] (.s 12),.yz [.w 9,.w 13]] [.cell 2 (Y 2)] λr h d e=>by
  unfold N4 at h;have:HW 0 λ(b:d4×Int)=>[(3,.bx [⟨X,.xl 1 (u! eI b.1.ca)⟩,⟨X,.xl 1 (u! eI b.1.ci)⟩]),(4,.tv (eI b.2))]:=⟨⟩;have:HW 2 λ(c:d4×Int)=>[(3,.bx [⟨X,.xl 1 (u! eI c.1.ca)⟩,⟨X,.xl 1 (u! eI c.1.ci)⟩]),(5,.tv (eI c.2))]:=⟨⟩;exact nz
instance(a b c d):CT (Pe a b c d) 136 [AJ a,Ah b,Ah c,eB d] (rT (eL 2 Ao) eI):=Fe f136 0x8182015502c085f3820e6bb1b15502d677b18d0240936236 [] (Pe.eq_1 ..)
instance(a b c d):CT (KB a b c d) 88 [AJ a,BB b,Bk c,eB d] (rT (eL 3 Bf) eI):=Bl f88 0x81ef0d6b0d0b0605056e0e0d0b0605050e0d0b0605053c02034803470946c302c10269e93802c16d6f0d01be0e0d0b0605058103c05503d669e9c337cf385503d6776d6f8d0340936236 [] (KB.eq_1 ..) (Ay 0 14 11 0 (hO 13 (eL 3 Bf)))
instance(a b c):CT (HT a b c) 53 [AJ a,BX b,Bk c] (rT (eL 3 Bf) eI):=Bl f53 0x81eff30c0b0963ed6e0c0b0963ed0c0b0963ed3c02034803476d03c10269fe1149746d03c16deb38f3be0c0b0963ed8103c05503d669e9030f426d6fb9385503d6776deb8d0340f7 [] (HT.eq_1 ..) (Ay 0 12 9 0 (hO 11 (eL 3 Bf)))
instance(a b c):CT (G8 a b c) 24 [AJ a,(eL 25 BX) b,Bk c] (rT (eL 4 EK) eI):=Hz f24 0x81ef080109080536056e09080536050ca7080536076e02044804471246f630020908053605be0ca708053607815504d669e96deb19c1380801be09080536058104d604406230 [] (G8.eq_1 ..) (Ay 0 9 1 0 (hO 8 (eL 4 EK))) (Ay 2 12 10 0 (hO 8 (eL 4 EK)))
instance(a):CT (Ir a) 92 [Ba a] rI:=Bl f92 0xa636026e9a056058ec809b7058e47f4137809b700580ec007c9b70360281ba0b9b70a5 [] (Ir.eq_1 ..) (A3 0 3 1 4)
instance(a b c):CT (KX a b c) 90 [AJ a,(eL 25 BX) b,Ba c] rI:=Fe f90 0x810e6f7d69cb1174adb68d6230 [] (KX.eq_1 ..)
instance(a):CT (Iq a) 145 [Bf a] (rS Bf):=Fk f145 0x783b9f09460148db47044601487e37ac0148d9ac0fc9a5 [] [.cell 2 (Y 3)] λr h b c=>by
  unfold Iq at h;exact nz
instance(a):CT (JO a) 144 [Du a] (λr=>.yy [⟨X,lI r.hV.d3.ca⟩,⟨X,lE r.hV.d3.ci⟩,⟨X,.xn (u! lI r.hV.em)⟩,⟨X,(eL 4 EK) r.gt⟩]):=Fk f144 0x45004535d02e501046ee603420448044712f20359015ac6bc71c6bc0403425d027c7f70e5010481045015c93f1b6d3715c9a5 [.yz [.g 7 0 3,.g 7 1 3,.g 7 2 3,.z ⟨X,.list 4 []⟩]] [.cell 2 (Y 4)] λr h b c=>by
  unfold JO at h;have:=Ay 0 4 1 3 λs0:AS=>[(3,.bx [⟨X,lI s0.hV.d3.ca⟩,⟨X,lE s0.hV.d3.ci⟩,⟨X,.xn (u! lI s0.hV.em)⟩,⟨X,(eL 4 EK) s0.gt⟩])];exact nz
instance(a b c d):CT (LJ a b c d) 91 [AJ a,(eL 25 BX) b,Du c,EK d] (rT Du eI):=Fk f91 0x81d4ad0f3ee603420448044712f20359015ad75a040342045015c91bad55d401154669fe114974ad6dc355d41546850bbc55d4011546698c9f084910c91174ad018d15c9936230 [] [.cell 8 (Y 4),.tmp 9] λr h e f=>by
  unfold LJ at h;exact nz
instance(a b c d):CT (Qu a b c d) 54 [AJ a,(eL 25 BX) b,Ba c,EK d] (rT Ba eI):=Fk f54 0x8013bd3164601489b7047addf01134669d415c974adadb638df011346776f018ddc936230 [] [.cell 8 (Y 5),.tmp 9] λr h e f=>by
  unfold Qu at h;exact nz
instance(a):CT (HU a) 93 [Ba a] (λr=>.yy [⟨X,lI r.ei.hV.d3.ca⟩,⟨X,lE r.ei.hV.d3.ci⟩,⟨X,.xn (u! lI r.ei.hV.em)⟩,⟨X,(eL 4 EK) r.ei.gt⟩,⟨X,lI r.fd⟩]):=Fk f93 0x783b05503f01489b70471bad37dca5 [.yz [.g 5 0 4,.g 5 1 4,.g 5 2 4,.g 5 3 4,.w 9]] [.cell 2 (Y 5)] λr h b c=>by
  unfold HU at h;exact nz
instance(a):CT (MV a) 55 [Ba a] (rT Ba eI):=Fk f55 0xd36f053ee60470cc0b7f413704f10550dc1b6fdf1346850becdf011346776f01dca5 [] [.cell 2 (Y 5),.tmp 3] λr h b c=>by
  unfold MV at h;exact nz
instance(a):CT (LK a) 56 [Ba a] (rT Ba eI):=Fk f56 0xd36fe604704565ecec75dc0e6fdf1346850becdf011346776f01dca5 [] [.cell 2 (Y 5),.tmp 3] λr h b c=>by
  unfold LK at h;exact nz
instance(a b c):CT (JQ a b c) 57 [AJ a,(eL 25 BX) b,Ba c] (rT Ba eI):=Fk f57 0xd36fe6047045589b704a03413704456058ec7f413775dc0e6fdf1346690becdf011346776f018ddc6230 [] [.cell 6 (Y 5),.tmp 7] λr h d e=>by
  unfold JQ at h;exact nz
instance(a b c d):CT (IR a b c d) 25 [AJ a,(eL 25 BX) b,Ba c,Rt d] (rT Ba eI):=Fk f25 0xd31346ffdf6a0e6fc3c5d36a0e6fc5d36a0e6fc5d36a0eadb96fc3c583b6dc936230 [] [.cell 8 (Y 5),.tmp 9] λr h e f=>by
  unfold IR at h;exact nz
instance(a b c d):CT (Hv a b c d) 8 [AJ a,(eL 25 BX) b,Ba c,(eL 2 EC) d] (rO (eL 5 Rt)):=Bl f8 0xef0901a706fc066ca706fc06a706fc06a706fc063c756f02054805476f026975dc746f6fc30ba706fc070ba706fc073c044ab9ad0443faee3f027330ffa706fc06850b30e96d018d8c9f084910c91174adb638855b7516c91c460505ee3f02c10901bea706fc06c5c00540bf933602 [.AaF (.s 2),.zJ (.s 27) (.c (.int .i64 0)) 1 2,.zp .i64 (.s 29),.zJ (.s 59) (.c (.int .i64 1)) 1 2,.zp .i64 (.s 61)] (Hv.eq_1 ..) (Ay 0 10 3 0 λs0:AG×List Bi=>[(6,.bx [⟨T,lI s0.1.ei.hV.d3.ca⟩,⟨T,lE s0.1.ei.hV.d3.ci⟩,⟨T,(eL 1 lI) s0.1.ei.hV.em⟩,⟨T,(eL 4 EK) s0.1.ei.gt⟩,⟨T,lI s0.1.fd⟩]),(9,.ow ((eL 5 Rt) s0.2))])
instance(a b):CT (G6 a b) 29 [lI a,lI b] rB:=Bl f29 0xa692cdbae06084be92debaf3f3b7 [] (G6.eq_1 ..) (A3 0 5 0 0)
instance(a b):CT (Ny a b) 34 [Ah a,Ah b] rB:=Bl f34 0xa6055dcd55bff65ef65e007c96055ddee45e0b96a95b76a2 [.bin (.a [0,0,0]) .neq (.s 32) (.s 37)] (Ny.eq_1 ..) (A3 0 5 2 1)
instance(a b):CT (KA a b) 35 [lI a,lI b] rI:=Bl f35 0x81fa0bb792cd5505e0e085e080b7ff8afa30653092deb7 [] (KA.eq_1 ..) (⟨⟩:HW 0 λ(c:Int)=>[(5,.tv (eI c))])
instance(a b):CT (N1 a b) 15 [Bk a,Bk b] rB:=Bl f15 0xa6055dcdba0e80b580b5007cdb055ddee4b50bdba9cf38b6a2 [] (N1.eq_1 ..) (A3 0 5 2 2)
instance(a b):CT (QI a b) 94 [Ao a,Ao b] rB:=Fe f94 0xb40e5e5e6b5b76a2 [] (QI.eq_1 ..)
instance(a b):CT (IQ a b) 58 [(eL 4 EK) a,(eL 4 EK) b] rB:=Bl f58 0xa692cd9aa95d41014104c15d410141c6300aa9ea014104c1ea0141c630057104c171044384be92debaf3f3b7 [] (IQ.eq_1 ..) (A3 0 5 0 0)
instance(a b):CT (OC a b) 28 [Du a,Du b] rB:=Fe f28 0xb40ebcbc6b6d376db6a2 [] (OC.eq_1 ..)
instance(a b):CT (OD a b) 12 [Ba a,Ba b] rB:=Fe f12 0xb40eecec6bad37adb6a2 [] (OD.eq_1 ..)
end Go.Sf.Sc
