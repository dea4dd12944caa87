/- Contracts of the functions. -/
import Derived.Test.YtpagkickoiafkaaGreatCon0
set_option linter.all false
set_option maxRecDepth 100000
set_option maxHeartbeats 4000000
open Option renaming some->Y
open Bool renaming true->X,false->T
namespace Go.Sf.Sc
open Go Go.Sf Go.Proofs.Tryz
instance(a b c):CT (Il a b c) 19 [eS a,eI b,eI c] (rS HI):=Fk f19 0x74b0046018cc902ca [] [.cell 6 (Y 7)] λr h d e=>by
  unfold Il at h;exact nz
instance c6:CT (IC ) 6 [] (rT AO F1):=Fk f6 0xa6a60246a9a938a601c9014607473f3f3f3f3f3f04473f3f3f3f3fe701c900 [.bld [.str ⟨#[]⟩,.int .i64 0,.bool T,.list 4 []] [(0,1,.c (.str ⟨#[67,108,97,115,115]⟩)),(1,1,.c (.int .i64 (-1)))],.bld [.str ⟨#[]⟩,.int .i64 0,.bool T,.list 4 []] [(0,1,.c (.str ⟨#[65,116,116,114,105,98,117,116,101]⟩)),(1,1,.c (.int .i64 (-1)))],.bld [.str ⟨#[]⟩,.int .i64 0,.bool T,.list 4 []] [(0,1,.c (.str ⟨#[84,97,98,108,101]⟩)),(1,1,.c (.int .i64 (-1)))],.bld [.str ⟨#[]⟩,.int .i64 0,.bool T,.list 4 []] [(0,1,.c (.str ⟨#[67,111,108,117,109,110]⟩)),(1,1,.c (.int .i64 (-1)))],.bld [.str ⟨#[]⟩,.int .i64 0,.bool T,.list 4 []] [(0,1,.c (.str ⟨#[77,97,112]⟩)),(1,1,.c (.int .i64 (-1)))],.call 19 [.c (.str ⟨#[104,97,115]⟩),.c (.int .i64 0),.c (.int .i64 1)],.call 19 [.c (.str ⟨#[119,105,116,104]⟩),.c (.int .i64 2),.c (.int .i64 3)],.call 19 [.c (.str ⟨#[111,102,67,108,97,115,115]⟩),.c (.int .i64 4),.c (.int .i64 0)],.call 19 [.c (.str ⟨#[111,102,65,116,116,114,105,98,117,116,101]⟩),.c (.int .i64 4),.c (.int .i64 1)],.call 19 [.c (.str ⟨#[116,111,84,97,98,108,101]⟩),.c (.int .i64 4),.c (.int .i64 2)],.call 19 [.c (.str ⟨#[116,111,67,111,108,117,109,110]⟩),.c (.int .i64 4),.c (.int .i64 3)]] [.cell 0 (Y 2),.cell 1 (Y 2)] λr h a b=>by
  unfold IC at h;exact nz
instance(a b c):CT (Dg a b c) 48 [eI a,eI b,eI c] rB:=Fe f48 0x81a50196013002ca [] (Dg.eq_1 ..)
abbrev Q_52(n:Nat):Prop:=∀(t:AC)(a:Int),CT (GX n t a) 52 [AO t,eI a] (rO lA)
theorem AAc(n:Nat)(_ih_52:Q_52 n)(t:AC)(a:Int):CT (GX (n+1) t a) 52 [AO t,eI a] (rO lA):=Fj f52 0x820448a141df5a04480e77df5a380447ff04c085010440db [] λh=>by
  unfold GX at h;exact nz
theorem AAb:∀n:Nat,Q_52 n:=by
  intro n
  induction n with
  |zero=>exact(λt a=>⟨λ_ h=>d!⟩)
  |succ n b=>exact AAc n b
instance(t a):CT (PK t a) 52 [AO t,eI a] (rO lA):=⟨λr h=>by
  obtain ⟨N,b⟩:=Cl h;exact((AAb N) t a).snd r (b N (aN _))⟩
instance(a):CT (Qb a) 277 [XP a] (rS eS):=Fe f277 0x815c553f3f5c855a3fc3 [.mv (.c (.str ⟨#[]⟩)),.bin (.s) .add (.c (.str ⟨#[34]⟩)) (.s 7),.bin (.s) .add (.s 8) (.c (.str ⟨#[34]⟩))] (Qb.eq_1 ..)
instance(a):CT (LM a) 320 [Oa a] rB:=Fe f320 0xf8a59630a5968c01 [] (LM.eq_1 ..)
instance(a):CT (Ix a) 321 [Oa a] rB:=Fe f321 0x81a5968c01 [] (Ix.eq_1 ..)
instance(a b c):CT (Ps a b c) 322 [eS a,eI b,eB c] rI:=B0 f322 0xd90701ff0702b1750701ff8a0a0aa5120530300e1205303008300e120530960c58300702b1d902ca [] (Ps.eq_1 ..) (⟨⟩:HW 0 λ(d:Int)=>[(7,.tv (eI d))])
instance(a b):CT (LN a b) 323 [eS a,eI b] rI:=B0 f323 0xaa05cab2f496f2058012cf8c650c5896ca81bd [] (LN.eq_1 ..) (⟨⟩:HW 0 λ(c:Int)=>[(5,.tv (eI c))])
instance ABE:CT (PJ ) 324 [] (rO lB):=Fe f324 0x823f014000 [.lst 1 [.c (.str ⟨#[45,62]⟩),.c (.str ⟨#[60,61]⟩),.c (.str ⟨#[62,61]⟩),.c (.str ⟨#[61,61]⟩),.c (.str ⟨#[33,61]⟩),.c (.str ⟨#[123]⟩),.c (.str ⟨#[125]⟩),.c (.str ⟨#[40]⟩),.c (.str ⟨#[41]⟩),.c (.str ⟨#[91]⟩),.c (.str ⟨#[93]⟩),.c (.str ⟨#[44]⟩),.c (.str ⟨#[59]⟩),.c (.str ⟨#[58]⟩),.c (.str ⟨#[61]⟩),.c (.str ⟨#[43]⟩),.c (.str ⟨#[45]⟩),.c (.str ⟨#[42]⟩),.c (.str ⟨#[60]⟩),.c (.str ⟨#[62]⟩),.c (.str ⟨#[33]⟩),.c (.str ⟨#[38]⟩),.c (.str ⟨#[124]⟩),.c (.str ⟨#[46]⟩),.c (.str ⟨#[63]⟩)]] (PJ.eq_1 ..)
instance(a b):CT (Pr a b) 278 [eS a,eI b] (λr=>.tp [XP r.1,eI r.2.1,eI r.2.2]):=Fk f278 0xa2bb0d46e4d1046905baffe43ba2bb0cdc0346dc8a06dc0d050cdc30960c580c9130e4f0d1046905f50e5581bb0103460d050596305581bb0d4685cf5581bb0dee0e3085f281bb0103460dcf30305581bb0d468530c108046906c1080469063c308e5ea20e0e01308a0e300e5e1230300fc96902 [] [.cell 4 (Y 3),.tmp 5,.tmp 6] λr h d e=>by
  unfold Pr at h;have:HJ 29 λ(c:Int×Int)=>[(9,.tv (eI c.1)),(10,.tv (eI c.2))]:=⟨⟩;have:=BG 0 13 12 0 λs0:GI=>[(4,.bx [⟨T,eI s0.fu⟩,⟨T,eS s0.Abu⟩,⟨T,eI s0.Line⟩])];exact nz
instance(a):CT (PI a) 211 [XP a] rB:=Fe f211 0x81a55a9fa50c01965e81bb0fc9117cf2bf5e0e6b01c3 [.bin (.s) .eql (.s 9) (.c (.str ⟨#[]⟩))] (PI.eq_1 ..)
instance(a):CT (FV a) 154 [eS a] rB:=Fe f154 0x810e03468c01 [] (FV.eq_1 ..)
instance(a):CT (MS a) 270 [lB a] rI:=H6 f270 0xaaf102baf10204f103b286dcdcf102653004f103b4d05d8cf0f102b4e08c01 [] (MS.eq_1 ..) (BA 0 3 0 0) (BA 2 4 3 0)
instance(a):CT (Ig a) 201 [IW a] rI:=Fe f201 0xb4f474d4a7585c55c8d455558ab65ce2b65ce0a16ec3 [] (Ig.eq_1 ..)
instance(a b):CT (N3 a b) 133 [AO a,eI b] rI:=qf f133 0xaa8402b2c8eae6308402098403b2866ce6306ce63084026530098403b4d06ce68cf084028174d40bf2cb3074d4820e01a8d0cf5c05b30389b304b2865a6cdf5a05b303653089b304b4d05aef03c9eadf9fdb [] (N3.eq_1 ..) (BA 0 6 1 0) (BA 2 8 7 0) (BA 4 9 8 0)
instance(a b):CT (Kg a b) 202 [eI a,eI b] rB:=Fe f202 0xf8b80196300efa [] (Kg.eq_1 ..)
instance(a b):CT (N2 a b) 134 [AO a,eI b] rI:=B0 f134 0xb48ab603da03056e0ab6d242a16e0ab601e2b6015c81745a05020289b304b2865a6c07785c050202653089b304b4d05a074b00c907440778bedb [] (N2.eq_1 ..) (BA 0 6 1 0)
instance(a):CT (GM a) 78 [AO a] (rT eS eI):=H6 f78 0x81bf00060102b2d96c07785c6d0e0138008dbe0601028130e402b2d96cdf5a6d0e0138308d9fe402b4bfcbf6e555bfe09f3fc3 [.mv (.c (.str ⟨#[]⟩)),.mv (.c (.str ⟨#[]⟩)),.mv (.c (.str ⟨#[]⟩)),.mv (.c (.str ⟨#[]⟩))] (GM.eq_1 ..) (BA 0 4 1 0) (BA 2 6 1 1)
instance(a b c):CT (Kh a b c) 47 [AO a,eI b,eI c] rI:=Fe f47 0xb48ab6745a30b6749f5580017cac93b302 [] (Kh.eq_1 ..)
abbrev Q_49(n:Nat):Prop:=∀(t:AC)(a:Int)(b:Int),CT (Fr n t a b) 49 [AO t,eI a,eI b] rB
theorem AAa(n:Nat)(_ih_49:Q_49 n)(t:AC)(a:Int)(b:Int):CT (Fr (n+1) t a b) 49 [AO t,eI a,eI b] rB:=Fj f49 0xf8b80177df5a385896013093b302 [] λh=>by
  unfold Fr at h;exact nz
theorem AAZ:∀n:Nat,Q_49 n:=by
  intro n
  induction n with
  |zero=>exact(λt a b=>⟨λ_ h=>d!⟩)
  |succ n c=>exact AAa n c
instance(t a b):CT (Hl t a b) 49 [AO t,eI a,eI b] rB:=⟨λr h=>by
  obtain ⟨N,c⟩:=Cl h;exact((AAZ N) t a b).snd r (c N (aN _))⟩
instance(a b c d):CT (GL a b c d) 21 [AO a,eI b,eI c,eI d] rB:=Fe f21 0x81b85b410778be3873770778bea88ab6745c960e30ac935b0103 [] (GL.eq_1 ..)
instance(a):CT (JT a) 24 [AO a] (rO lI):=B0 f24 0x820231043103ba0431d231033cb3c40102885b41df5a318d9f043103d9c00140c3 [] (JT.eq_1 ..) (BG 0 4 1 0 (hO 3 lI))
instance(a b):CT (Ed a b) 25 [AO a,eI b] (rT lA eI):=B0 f25 0xf5020701098403ba0204480447eab34a036e48a16e47ef04c9eae6300701f0098403f50e013804c05504c0c830ac0440db [] (Ed.eq_1 ..) (BG 0 9 8 0 (hO 7 lA))
instance(a b):CT (J7 a b) 8 [AO a,Hh b] (rS Bq):=Fk f8 0xbb6b6a020e0dfe06ba0e0dfe060e0dfe063cf7014132034803476be441328e5da7d85d5cd85a38bbec0746cf3f033fd65ccf3f033fd65c745c3f033fd65c6a02ffcbbea530a530745c730dfe06a20bd8fe0407b75b06baf7026e4a59b9c40104026ec4010459320b84b75b080c0b0984b75b0abab3c40505050577e6305b41e696cf3f033f02785a77e630020b84b75b08f00c0b0984b75b0af5a901fb0138815d74013f033f02785a58045b04ffcb30a530749f07b75b06f59010c910c992 [.aad (.s 38) (.c (.int .i64 0)) 1 2,.cvt .i64 (.s 40),.aad (.s 69) (.c (.int .i64 1)) 1 2,.cvt .i64 (.s 71),.aad (.s 134) (.c (.int .i64 0)) 1 3,.cvt .i64 (.s 136),.aad (.s 145) (.c (.int .i64 1)) 1 3,.cvt .i64 (.s 147),.aad (.s 154) (.c (.int .i64 2)) 1 3,.cvt .i64 (.s 156)] [.cell 4 (Y 3)] λr h f g=>by
  unfold J7 at h;have:HW 0 λ(d:AH×Int)=>[(5,.bx [⟨X,lI d.1.ci.bq⟩,⟨X,lE d.1.ci.ca⟩,⟨X,(eL 1 lI) d.1.eg⟩]),(7,.tv (eI d.2))]:=⟨⟩;have:=BG 2 12 9 0 (hO 11 lI);have:HW 4 λ(e:AH×Int)=>[(5,.bx [⟨X,lI e.1.ci.bq⟩,⟨X,lE e.1.ci.ca⟩,⟨X,(eL 1 lI) e.1.eg⟩]),(14,.tv (eI e.2))]:=⟨⟩;exact nz
instance(a):CT (FW a) 20 [An a] (λr=>.vS [⟨X,lI r.bq⟩,⟨X,lE r.ca⟩]):=Fk f20 0xb33b02503f03485c034701489f4708c9c3 [.tl [.w 6,.w 10]] [.cell 2 (Y 2)] λr h b c=>by
  unfold FW at h;exact nz
instance(a b):CT (H9 a b) 91 [eI a,eI b] (rO lI):=B0 f91 0x8202cf89b1bab3c4053002cf653089b1d9c001406902 [] (H9.eq_1 ..) (BG 0 6 1 0 (hO 5 lI))
instance(a):CT (Mg a) 50 [An a] (λr=>.vS [⟨X,lI r.bq⟩,⟨X,lI r.ca⟩]):=Fk f50 0xb33b02503f0e0b5c0ee5e7c3 [.tl [.w 6,.w 10]] [.cell 2 (Y 2)] λr h b c=>by
  unfold Mg at h;exact nz
instance(a b c d):CT (L9 a b c d) 22 [CE a,An b,An c,Aw d] (rS CE):=Fk f22 0x8013b194b0a46094638900846380846385a0ec96092 [] [.cell 8 (Y 25)] λr h e f=>by
  unfold L9 at h;exact nz
instance(a):CT (JQ a) 51 [eI a] (rO lI):=B0 f51 0x82023104f103bab3c4010231653004f103d9c001400001 [] (JQ.eq_1 ..) (BG 0 4 0 0 (hO 3 lI))
instance(a):CT (RO a) 23 [An a] (λr=>.vS [⟨X,lI r.bq⟩,⟨X,lI r.ca⟩]):=Fk f23 0xb33b02503f0e0b5c0ee5e7c3 [.tl [.w 6,.w 10]] [.cell 2 (Y 2)] λr h b c=>by
  unfold RO at h;exact nz
instance(a):CT (OD a) 7 [GU a] (rS CE):=Fk f7 0xb33b194b0e90f33f890203eb895b0107baeb895b0107eb895b01073cf7b5034803476b04b58e5da75a5d5c5a5a38bbec0746cf3f033fd6d4cf3f033fd6d4745c3f033fd6d4890203fff430a53074a16eeb895b0107a2e5895b58fc5b0106baf7b9c4745a3f91a70432895b58fff43074e2fc5b010681025008c91b38a608c93f0e0e4603452d0b7732773202452d0bd8d838a6a6024901c97c0ec9c3 [.Abe (.s 35) 0 2 X,.cvt .i64 (.s 56),.aad (.s 86) (.c (.int .i64 0)) 1 3,.cvt .i64 (.s 88),.aad (.s 97) (.c (.int .i64 1)) 1 3,.cvt .i64 (.s 99),.aad (.s 106) (.c (.int .i64 2)) 1 3,.cvt .i64 (.s 108),.bld [.str ⟨#[]⟩,.list 1 [],.list 3 [],.list 4 [],.int .i64 0,.list 5 [],.list 1 [],.list 3 [],.list 4 [],.int .i64 0,.list 5 [],.list 1 [],.list 1 [],.list 1 [],.list 1 [],.bool T,.int .i64 0,.list 9 [],.list 1 [],.list 1 [],.list 1 [],.list 3 [],.list 4 [],.int .i64 0,.list 5 []] [(0,1,.c (.str ⟨#[114]⟩))]] [.cell 2 (Y 25)] λr h e f=>by
  unfold OD at h;have:HW 0 λ(d:ci×Int)=>[(6,.bx [⟨X,lI d.1.bq⟩,⟨X,lE d.1.ca⟩]),(7,.tv (eI d.2))]:=⟨⟩;have:HW 2 λ(b:ci×Int)=>[(6,.bx [⟨X,lI b.1.bq⟩,⟨X,lE b.1.ca⟩]),(9,.tv (eI b.2))]:=⟨⟩;exact nz
instance(a):CT (NP a) 26 [AO a] rB:=Fj f26 0xaa080102b2850c6c07785c008dbe0801028130043103ba0431036a3104ba6a310407b73106b2850c91d46a31048da16e07b73106b4cbd4580c5aef04c9eadfa141df5a0431038da141df5a58043104b4f40c6cdf5a583074a141df9f308d9f043103a255cbf60b9fc3 [] λh=>by
  unfold NP at h;have:=BG 0 4 1 0 (hT 3 eI);have:HW 2 λ(b:Int)=>[(5,.tv (eI b))]:=⟨⟩;have:HW 4 λ(c:Int)=>[(7,.tv (eI c))]:=⟨⟩;have:=BA 6 8 1 1;exact nz
instance(a):CT (Jj a) 92 [An a] rB:=Fe f92 0xf874f60b9fc3 [] (Jj.eq_1 ..)
instance(a):CT (Jk a) 53 [BP a] rB:=Fe f53 0xf874d26e0a74e290b9c3 [] (Jk.eq_1 ..)
instance(a b):CT (R1 a b) 54 [FP a,eI b] rB:=Fe f54 0xbc580b5c0b9fdb [] (R1.eq_1 ..)
instance(a b):CT (Pu a b) 55 [Aw a,eI b] rB:=Fe f55 0xbc580b5c0b9fdb [] (Pu.eq_1 ..)
abbrev Q_93(n:Nat):Prop:=∀(c:c9)(a:Int),CT (Cw n c a) 93 [AI c,eI a] rI
theorem AAi(n:Nat)(_ih_93:Q_93 n)(c:c9)(a:Int):CT (Cw (n+1) c a) 93 [AI c,eI a] rI:=Fj f93 0xd996b303ba7301ad09785c30fff43074f6b303b48a0890026eb69a04425830db [] λh=>by
  unfold Cw at h;have:HW 0 λ(b:Int×Int)=>[(1,.tv (eI b.1)),(5,.tv (eI b.2))]:=⟨⟩;exact nz
theorem AAh:∀n:Nat,Q_93 n:=by
  intro n
  induction n with
  |zero=>exact(λc kp=>⟨λ_ h=>d!⟩)
  |succ n a=>exact AAi n a
instance(c kp):CT (Qd c kp) 93 [AI c,eI kp] rI:=⟨λr h=>by
  obtain ⟨N,a⟩:=Cl h;exact((AAh N) c kp).snd r (a N (aN _))⟩
instance(a):CT (Jl a) 56 [AI a] rB:=Fe f56 0xbc0ead01c3 [] (Jl.eq_1 ..)
instance(a):CT (Py a) 27 [CE a] rB:=Fe f27 0x81b8ad106e0a900d6e0a900b6eb89a066eb89ab5580c9fc3 [] (Py.eq_1 ..)
instance(a):CT (NQ a) 57 [Bq a] rB:=B0 f57 0xaa3102b2e091a7008de23102b4cbe20890b9c3 [] (NQ.eq_1 ..) (BA 0 3 1 2)
instance(a):CT (Lz a) 135 [eI a] rB:=Fe f135 0x81a5968c01 [] (Lz.eq_1 ..)
instance(a b):CT (PM a b) 136 [CD a,eI b] rB:=Fe f136 0x81a501e2a5e2a501bea55c739fdb [] (PM.eq_1 ..)
instance(a):CT (D3 a) 79 [An a] rI:=H6 f79 0xaae402b2d0e56bd65c008dbee40281303102b2d0915a308d9f3102b4cbf60b9fc3 [] (D3.eq_1 ..) (BA 0 3 1 0) (BA 2 4 1 1)
instance(a b):CT (HN a b) 143 [AO a,An b] rB:=H6 f143 0xaa06f9b2cb5c6cd6f66cd65c008dbe06f9815b0205f9b2cb5a915a58915a5b028d5a58f9d992 [] (HN.eq_1 ..) (BA 0 5 3 0) (BA 2 6 3 1)
instance(a b c d):CT (N7 a b c d) 144 [AO a,BP b,eI c,eI d] (rT IW eB):=Fk f144 0x81efeae63055ef0446cb0130a5965efb91d8a8ef0446cbd8963004c9605b02 [] [.cell 8 (Y 4),.tmp 9] λr h e f=>by
  unfold N7 at h;exact nz
instance(a):CT (Mt a) 145 [eI a] rB:=Fe f145 0x81a5968c01 [] (Mt.eq_1 ..)
instance(a b):CT (JR a b) 275 [eI a,Rh b] rI:=Fe f275 0xb4f4bea5bea5015a589fc301 [] (JR.eq_1 ..)
instance(a b):CT (Pt a b) 208 [eI a,FQ b] rI:=Fe f208 0x8190036e55e8016e55f45a589fc301 [] (Pt.eq_1 ..)
instance(a b):CT (MR a b) 146 [eI a,lT b] rI:=B0 f146 0xaa05cab2c89a05788c8d96cab4e0f2f496fa [] (MR.eq_1 ..) (BA 0 5 1 0)
instance(a b):CT (LQ a b) 147 [BP a,eI b] rB:=B0 f147 0xaa05b303b285016c0241dfa7008da758b303d9db [] (LQ.eq_1 ..) (BA 0 5 2 2)
instance(a b):CT (HP a b) 94 [AO a,BP b] rI:=H6 f94 0xaa0d5bb2d058440065a16e0d5bb4c8d242d43108f9b28ab677026ea5d46c026ea56c026e085eef04497c5c5a9a38ef06c9eadfa7318de208f9b4cbd242580ba755f4d458d455889032a8e8325580017cac92 [] (HP.eq_1 ..) (BA 0 8 3 2) (BA 2 13 3 3)
instance(a):CT (Ho a) 276 [AI a] rB:=Fe f276 0x81a5a141046ea574d24104420b5b41044230bc7477590442746c5904427477cc0b6c026ec3 [] (Ho.eq_1 ..)
instance(a):CT (Mb a) 209 [AI a] rB:=B0 f209 0x8176745cbc81b8ad580b5c19e4035f19e403bc81b8ad580b5cbc81b8ad580b5cbc83b9c3 [] (Mb.eq_1 ..) (⟨⟩:HJ 25 λ(b:Bool)=>[(25,.tv (eB b))])
abbrev Q_148(n:Nat):Prop:=∀(c:c9),CT (EW n c) 148 [AI c] rB
theorem xy(n:Nat)(_ih_148:Q_148 n)(c:c9):CT (EW (n+1) c) 148 [AI c] rB:=Fj f148 0xaa3102b2d0ad09785c008dbe3102b4d0ad01c3 [] λh=>by
  unfold EW at h;have:=BA 0 3 1 1;exact nz
theorem xx:∀n:Nat,Q_148 n:=by
  intro n
  induction n with
  |zero=>exact(λc=>⟨λ_ h=>d!⟩)
  |succ n a=>exact xy n a
instance(c):CT (Oz c) 148 [AI c] rB:=⟨λr h=>by
  obtain ⟨N,a⟩:=Cl h;exact((xx N) c).snd r (a N (aN _))⟩
abbrev Q_149(n:Nat):Prop:=∀(c:c9),CT (E8 n c) 149 [AI c] (rT eI eI)
theorem yA(n:Nat)(_ih_149:Q_149 n)(c:c9):CT (E8 (n+1) c) 149 [AI c] (rT eI eI):=Fj f149 0xa2306a026a0275855a6a0103b70104ba302c9630a27cad09785c6a01038dbeb7010481a230c3 [] λh=>by
  unfold E8 at h;have:=BG 0 6 1 1 λs0:Int×Int=>[(4,.tv (eI s0.1)),(5,.tv (eI s0.2))];have:HJ 33 λ(a:Int)=>[(5,.tv (eI a))]:=⟨⟩;exact nz
theorem xz:∀n:Nat,Q_149 n:=by
  intro n
  induction n with
  |zero=>exact(λc=>⟨λ_ h=>d!⟩)
  |succ n a=>exact yA n a
instance(c):CT (QE c) 149 [AI c] (rT eI eI):=⟨λr h=>by
  obtain ⟨N,a⟩:=Cl h;exact((xz N) c).snd r (a N (aN _))⟩
instance(a):CT (MZ a) 95 [AI a] rI:=Fe f95 0xb4f4965e817cad55d0ad01c3 [] (MZ.eq_1 ..)
instance(a b):CT (N8 a b) 210 [BP a,eI b] rB:=B0 f210 0xaa05b303b285016c0241dfa7008da758b303d9db [] (N8.eq_1 ..) (BA 0 5 2 2)
instance(a b c):CT (Ma a b c) 150 [AO a,eI b,BP c] rI:=B0 f150 0xaa840503b201d058440065a16e840503d955c89aa88501a16e6030 [] (Ma.eq_1 ..) (BA 0 8 5 3)
instance(a b c):CT (HM a b c) 151 [An a,An b,Aw c] rI:=H6 f151 0xaa0a6ad2b2f4a75da75a585c5d5c5a55855a5abbbbecec6b0343915c5c6bd65c55cb5c91f6915c008dbe0a6ad2816aa1096ad2b285915a5d915a5a55cb5a915a58915a6aa18d9f096ad2b4cb5c0bf6e5e555e855e801ed [] (HM.eq_1 ..) (BA 0 9 3 0) (BA 2 10 3 1)
instance(a):CT (E7 a) 157 [lI a] rB:=H6 f157 0xaaf102baf10204f103b285dcdcf102653004f103aaf0f102816901 [] (E7.eq_1 ..) (BA 0 3 0 0) (BA 2 4 3 0)
instance(a b c):CT (Ih a b c) 152 [An a,An b,Aw c] rB:=Fe f152 0x81b8beb85a589038aced [] (Ih.eq_1 ..)
abbrev Q_96(n:Nat):Prop:=∀(t:AC)(p:d4)(c:c9),CT (FL n t p c) 96 [AO t,BP p,AI c] rI
theorem AAk(n:Nat)(_ih_96:Q_96 n)(t:AC)(p:d4)(c:c9):CT (FL (n+1) t p c) 96 [AO t,BP p,AI c] rI:=Fj f96 0xaa0a0705d2b2c8ad09785c9a38008dbe0a0705d2810705a10705a13cde9a0442558890cc38590442c655e8cc38590442c655c89a0442d438855ade0ac99a01ed [] λh=>by
  unfold FL at h;have:=BA 0 10 5 1;exact nz
theorem AAj:∀n:Nat,Q_96 n:=by
  intro n
  induction n with
  |zero=>exact(λt p c=>⟨λ_ h=>d!⟩)
  |succ n a=>exact AAk n a
instance(t p c):CT (X8 t p c) 96 [AO t,BP p,AI c] rI:=⟨λr h=>by
  obtain ⟨N,a⟩:=Cl h;exact((AAj N) t p c).snd r (a N (aN _))⟩
instance(a b c):CT (Kj a b c) 58 [AO a,BP b,AI c] rI:=Fe f58 0x810ead9aa8c8ad55c89aaced [] (Kj.eq_1 ..)
instance(a b c):CT (HO a b c) 153 [AO a,An b,An c] rI:=Fe f153 0xb48a0890ac0890a8e855e85580017caced [] (HO.eq_1 ..)
instance(a b c):CT (MT a b c) 97 [AO a,An b,An c] rB:=Fe f97 0xf80a0a74be0a745a58745ce5589038ac0a90010a9073aced [] (MT.eq_1 ..)
instance(a b c):CT (PP a b c) 59 [AO a,BP b,Bq c] rB:=Fe f59 0xf89032c6acb86b739a01ed [] (PP.eq_1 ..)
abbrev Q_60(n:Nat):Prop:=∀(c:c9),CT (Ft n c) 60 [AI c] rB
theorem AAe(n:Nat)(_ih_60:Q_60 n)(c:c9):CT (Ft (n+1) c) 60 [AI c] rB:=Fj f60 0xbc74775904420b6c590442303102b2d0ad09785c308dbe3102d9c3 [] λh=>by
  unfold Ft at h;have:=BA 0 3 1 1;exact nz
theorem AAd:∀n:Nat,Q_60 n:=by
  intro n
  induction n with
  |zero=>exact(λc=>⟨λ_ h=>d!⟩)
  |succ n a=>exact AAe n a
instance(c):CT (RQ c) 60 [AI c] rB:=⟨λr h=>by
  obtain ⟨N,a⟩:=Cl h;exact((AAd N) c).snd r (a N (aN _))⟩
abbrev Q_61(n:Nat):Prop:=∀(p:d4)(c:c9)(b:Int)(a:Int),CT (EB n p c b a) 61 [BP p,AI c,eI b,eI a] rB
theorem AAg(n:Nat)(_ih_61:Q_61 n)(p:d4)(c:c9)(b:Int)(a:Int):CT (EB (n+1) p c b a) 61 [BP p,AI c,eI b,eI a] rB:=Fj f61 0xbc010a010dc1055b06b2d030ad09785c9a0a018dbe0dc1055b0681c1055b050cc1055b06ba5830c1055b058d77b90cc1055b06810b7732c1fe060bc1fe07ba5830c1fe068d6cb90bc1fe07810bd88109fe0509fe053cde9a0442855ade0ac99a01605b02 [] λh=>by
  unfold EB at h;have:HJ 17 λ(d:d4)=>[(9,.bx [⟨T,lI d.ci.bq⟩,⟨T,lE d.ci.ca⟩,⟨T,lS d.ed⟩,⟨T,eI d.ek⟩,⟨T,lT d.f0⟩])]:=⟨⟩;have:HW 0 λ(f:Int×Int)=>[(10,.tv (eI f.1)),(11,.tv (eI f.2))]:=⟨⟩;have:HW 2 λ(e:Int×Int)=>[(10,.tv (eI e.1)),(12,.tv (eI e.2))]:=⟨⟩;have:=BA 4 13 5 1;exact nz
theorem AAf:∀n:Nat,Q_61 n:=by
  intro n
  induction n with
  |zero=>exact(λp c d6 d7=>⟨λ_ h=>d!⟩)
  |succ n a=>exact AAg n a
instance(p c d6 d7):CT (QD p c d6 d7) 61 [BP p,AI c,eI d6,eI d7] rB:=⟨λr h=>by
  obtain ⟨N,a⟩:=Cl h;exact((AAf N) p c d6 d7).snd r (a N (aN _))⟩
instance(a b c d):CT (MY a b c d) 28 [AO a,BP b,AI c,Bq d] rB:=Fe f28 0xf8b8ad9a010a7477b90a746cb9b8ad736b9a38580ead9aa88ab66b010ab69a01b6ad016092 [] (MY.eq_1 ..)
instance(a b c):CT (Me a b c) 9 [AO a,CE b,Bq c] rB:=Fe f9 0x81b86bad10429ab5acb8d373aced [] (Me.eq_1 ..)
instance(a b c):CT (N5 a b c) 80 [AO a,eI b,lI c] rI:=B0 f80 0xaa09070203b2f45b41e630919677e6305d8cf009070203b4e0010b30fb01a8830241df5a55e05a3093b302 [] (N5.eq_1 ..) (BA 0 9 7 0)
instance(a b):CT (GN a b) 42 [AO a,Bq b] (rT eI eI):=H6 f42 0xa2000bf9b2d9d05da7d85d5cd85aa8d9e05c5abbec6bd67732008d77b90bf9815b0209f9b281306d0e91a791d8385b028d6cb909f9b481e0d80ba75581e832558180017c383092 [] (GN.eq_1 ..) (BA 0 9 3 0) (BA 2 11 3 1)
instance(a b c):CT (OA a b c) 212 [AO a,BP b,eI c] rI:=B0 f212 0xaa0a07040204b2f45c77dfa7585a6cdfa70065300a07040204b4f477026ea577026ea5d46c026ea56c026e0a7401f6befb5d5ad8a8cbd85a585aef06c9eadfe260b3 [] (OA.eq_1 ..) (BA 0 10 2 0)
instance(a b):CT (Md a b) 155 [AO a,CE b] rI:=B0 f155 0xaa06f9b2c85844da38008d5b41066e06f9b4e05b41da55cbd241da58a141b5a141da55889059daa8e859066e92 [] (Md.eq_1 ..) (BA 0 6 3 8)
instance(a b):CT (Gk a b) 325 [lI a,eI b] rI:=B0 f325 0xaa05cab2f45d05309196f28acf91965d8c8d96ca81bd [] (Gk.eq_1 ..) (BA 0 5 0 0)
instance(a b):CT (Pv a b) 326 [lI a,eI b] rB:=B0 f326 0xaa05cab285015d8c8d96ca81bd [] (Pv.eq_1 ..) (BA 0 5 0 0)
instance(a b):CT (PN a b) 279 [An a,FP b] rI:=B0 f279 0xaa07f9b28ab6a79fb65c5abbec6b0343915c5c008dbe07f9b4c80b5c5c55c8e59f92 [] (PN.eq_1 ..) (BA 0 7 3 1)
instance(a b):CT (Iy a b) 213 [An a,FP b] rI:=Fe f213 0x8190a8e80192 [] (Iy.eq_1 ..)
instance(a b):CT (Iz a b) 220 [lI a,eI b] rI:=B0 f220 0xaa05cab20185015d8c8d96ca81bd [] (Iz.eq_1 ..) (BA 0 5 0 0)
instance(a b):CT (IA a b) 171 [An a,FP b] (λr=>.tp [An r.1,Aw r.2.1,eI r.2.2]):=Fk f171 0x6a023b81a6a6024601485ca901489f4738086ad20a08fe06baf7b50348034707460ea75a0e5c5a5a04b5bbec6b0343915c5c086ad28dbe0a08fe068108fe05ebfe06baf7b9c45d915a5a043208fe058d9febfe068108c955a6a601064605ee90ace708c992 [] [.cell 4 (Y 2),.cell 5 (Y 2),.tmp 6] λr h c d=>by
  unfold IA at h;have:=BG 0 9 3 0 λs0:ci=>[(8,.bx [⟨X,lI s0.bq⟩,⟨X,lE s0.ca⟩])];have:=BG 2 10 3 1 λs2:ci=>[(8,.bx [⟨X,lI s2.bq⟩,⟨X,lE s2.ca⟩])];exact nz
instance(a):CT (OB a) 156 [CE a] rI:=Fe f156 0x81900d423859daaca6a6024908c9117c380b423859b555e80b423859016ec3 [] (OB.eq_1 ..)
instance(a b):CT (R2 a b) 280 [lI a,eI b] rB:=B0 f280 0xaa05cab285015d8c8d96ca81bd [] (R2.eq_1 ..) (BA 0 5 0 0)
instance(a b):CT (L6 a b) 214 [eI a,lI b] (rO lI):=B0 f214 0x8202cf89b1ba89b189b13cb3c40102d09601653089b1d9c001406902 [] (L6.eq_1 ..) (BG 0 6 0 0 (hO 5 lI))
instance(a):CT (KW a) 158 [CE a] (rT lI lI):=Fe f158 0x82820e770d420b7759da0e6c0d420b6c59066e400140c3 [] (KW.eq_1 ..)
instance(a b c d):CT (LS a b c d) 159 [AO a,An b,lI c,lI d] rB:=H6 f159 0xaa0a6ad2b2d05da75a5d5c5a5a38bbec6b0343dc5c00f00a6ad2816aa109fe05b2830241e65ddc5a5a6aa1f009fe05d9605b02 [] (LS.eq_1 ..) (BA 0 9 2 0) (BA 2 10 3 0)
instance(a b):CT (Mc a b) 98 [AO a,CE b] rI:=Fe f98 0x810ead10429ab5a8d0303859da3882fbd3558ab6770d6eb66c0d4255c8d355c8d3a8c89ab5a8d05a5580017cac92 [] (Mc.eq_1 ..)
instance(a b c):CT (I6 a b c) 62 [AO a,CE b,Bq c] rI:=Fe f62 0x815e017c6ba8c8d3aced [] (I6.eq_1 ..)
instance(a):CT (JV a) 217 [lI a] rB:=H6 f217 0xaaf102baf10204f103b285dcdcf102653004f103aaf0f102816901 [] (JV.eq_1 ..) (BA 0 3 0 0) (BA 2 4 3 0)
instance(a b c d e):CT (MU a b c d e) 164 [AO a,An b,An c,Aw d,eB e] rI:=H6 f164 0xb48a0ab6beb65a300804020c84060405b2f4a75da75a585c5d5c5a55855a5abbbbecec6b0343915c5c6bd65c55cb5c91f6915c0804028dbe0c8406040581840604040b84b706b2d0915a5d915a5aa8cb5a915a58915a840604048d9f0b84b706b4cb5c0bf6e50b9f6060e4 [] (MU.eq_1 ..) (BA 0 11 8 0) (BA 2 12 8 1)
end Go.Sf.Sc
