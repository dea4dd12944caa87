/- Contracts of the functions. -/
import Derived.Test.YtbmgmpeimdomoaaGreatCon0
set_option linter.all false
set_option maxRecDepth 100000
set_option maxHeartbeats 4000000
open Option renaming some->Y
open Bool renaming true->X,false->T
namespace Go.Sf.Sc
open Go Go.Sf Go.Proofs.Tryz
instance(a b c):CT (JA a b c) 39 [eS a,eI b,eI c] (rS Et):=Fk f39 0x74b1b463030c902cf [] [.cell 6 (Y 7)] λr h d e=>by
  unfold JA at h;exact nz
instance c17:CT (Ij ) 17 [] (rT AN F5):=Fk f17 0xadad0246b5b555ad1ac91c4607473f3f3f3f3f3f04473f3f3f3f3f02c91ac900 [.bld [.str ⟨#[]⟩,.int .i64 0,.bool T,.list 4 []] [(0,1,.c (.str ⟨#[67,108,97,115,115]⟩)),(1,1,.c (.int .i64 (-1)))],.bld [.str ⟨#[]⟩,.int .i64 0,.bool T,.list 4 []] [(0,1,.c (.str ⟨#[65,116,116,114,105,98,117,116,101]⟩)),(1,1,.c (.int .i64 (-1)))],.bld [.str ⟨#[]⟩,.int .i64 0,.bool T,.list 4 []] [(0,1,.c (.str ⟨#[84,97,98,108,101]⟩)),(1,1,.c (.int .i64 (-1)))],.bld [.str ⟨#[]⟩,.int .i64 0,.bool T,.list 4 []] [(0,1,.c (.str ⟨#[67,111,108,117,109,110]⟩)),(1,1,.c (.int .i64 (-1)))],.bld [.str ⟨#[]⟩,.int .i64 0,.bool T,.list 4 []] [(0,1,.c (.str ⟨#[77,97,112]⟩)),(1,1,.c (.int .i64 (-1)))],.call 39 [.c (.str ⟨#[104,97,115]⟩),.c (.int .i64 0),.c (.int .i64 1)],.call 39 [.c (.str ⟨#[119,105,116,104]⟩),.c (.int .i64 2),.c (.int .i64 3)],.call 39 [.c (.str ⟨#[111,102,67,108,97,115,115]⟩),.c (.int .i64 4),.c (.int .i64 0)],.call 39 [.c (.str ⟨#[111,102,65,116,116,114,105,98,117,116,101]⟩),.c (.int .i64 4),.c (.int .i64 1)],.call 39 [.c (.str ⟨#[116,111,84,97,98,108,101]⟩),.c (.int .i64 4),.c (.int .i64 2)],.call 39 [.c (.str ⟨#[116,111,67,111,108,117,109,110]⟩),.c (.int .i64 4),.c (.int .i64 3)]] [.cell 0 (Y 2),.cell 1 (Y 2)] λr h a b=>by
  unfold Ij at h;exact nz
instance(a b c):CT (D4 a b c) 78 [eI a,eI b,eI c] rB:=Fe f78 0x81a50197013002cf [] (D4.eq_1 ..)
abbrev Q_136(n:Nat):Prop:=∀(t:AC)(a:Int),CT (EI n t a) 136 [AN t,eI a] (rO lA)
theorem xO(n:Nat)(_ih_136:Q_136 n)(t:AC)(a:Int):CT (EI (n+1) t a) 136 [AN t,eI a] (rO lA):=Fj f136 0x8204489f41d35d04480e90d35d550447ff04c085f340df [] λh=>by
  unfold EI at h;exact nz
theorem xN:∀n:Nat,Q_136 n:=by
  intro n
  induction n with
  |zero=>exact(λt a=>⟨λ_ h=>c?⟩)
  |succ n b=>exact xO n b
instance(t a):CT (M0 t a) 136 [AN t,eI a] (rO lA):=⟨λr h=>by
  obtain ⟨N,b⟩:=DX h;exact((xN N) t a).snd r (b N (R0 _))⟩
instance(a):CT (Ql a) 284 [Xc a] (rS eS):=Fe f284 0x815f583f3f5f855d3fbc [.mv (.c (.str ⟨#[]⟩)),.bin (.s) .add (.c (.str ⟨#[34]⟩)) (.s 7),.bin (.s) .add (.s 8) (.c (.str ⟨#[34]⟩))] (Ql.eq_1 ..)
instance(a):CT (Ln a) 329 [Nn a] rB:=Fe f329 0xe3a59730a5979601 [] (Ln.eq_1 ..)
instance(a):CT (JR a) 330 [Nn a] rB:=Fe f330 0x81a5979601 [] (JR.eq_1 ..)
instance(a b c):CT (Lq a b c) 331 [eS a,eI b,eB c] rI:=CA f331 0xeb077c0702bb6501077c8a0a0aa5120530300e1205303008300e120530970c5b300702bb81cccf [] (Lq.eq_1 ..) (⟨⟩:HW 0 λ(d:Int)=>[(7,.tv (eI d))])
instance(a b):CT (IJ a b) 332 [eS a,eI b] rI:=CA f332 0xa805cf7d9d05970158057f12ca966a0c5b97cf81c3 [] (IJ.eq_1 ..) (⟨⟩:HW 0 λ(c:Int)=>[(5,.tv (eI c))])
instance AA1:CT (Pl ) 333 [] (rO lB):=Fe f333 0x823f014000 [.lst 1 [.c (.str ⟨#[45,62]⟩),.c (.str ⟨#[60,61]⟩),.c (.str ⟨#[62,61]⟩),.c (.str ⟨#[61,61]⟩),.c (.str ⟨#[33,61]⟩),.c (.str ⟨#[123]⟩),.c (.str ⟨#[125]⟩),.c (.str ⟨#[40]⟩),.c (.str ⟨#[41]⟩),.c (.str ⟨#[91]⟩),.c (.str ⟨#[93]⟩),.c (.str ⟨#[44]⟩),.c (.str ⟨#[59]⟩),.c (.str ⟨#[58]⟩),.c (.str ⟨#[61]⟩),.c (.str ⟨#[43]⟩),.c (.str ⟨#[45]⟩),.c (.str ⟨#[42]⟩),.c (.str ⟨#[60]⟩),.c (.str ⟨#[62]⟩),.c (.str ⟨#[33]⟩),.c (.str ⟨#[38]⟩),.c (.str ⟨#[124]⟩),.c (.str ⟨#[46]⟩),.c (.str ⟨#[63]⟩)]] (Pl.eq_1 ..)
instance(a b):CT (Lp a b) 285 [eS a,eI b] (λr=>.tp [Xc r.1,eI r.2.1,eI r.2.2]):=Fk f285 0xa2a71d4604010d0c046b057dff04013ba2a70c609646ed8a06ed0d050ced30970c5b0c91300401ea0d0c046b0581820ed6a76b460d05059730d6a71d4685cad6a71dee0e308501d6a76b460dca3030d6a71d468530a908046b06a908046b063c308e61a20ef4308a0e300e611230301bc96b02 [] [.cell 4 (Y 3),.tmp 5,.tmp 6] λr h d e=>by
  unfold Lp at h;have:HJ 29 λ(c:Int×Int)=>[(9,.tv (eI c.1)),(10,.tv (eI c.2))]:=⟨⟩;have:=BI 0 13 12 0 λs0:Gn=>[(4,.bx [⟨T,eI s0.fq⟩,⟨T,eS s0.AbO⟩,⟨T,eI s0.Line⟩])];exact nz
instance(a):CT (Kx a) 207 [Xc a] rB:=Fe f207 0x81a55da6a50c01976181a71bc911890158bf610e7301bc [.bin (.s) .eql (.s 9) (.c (.str ⟨#[]⟩))] (Kx.eq_1 ..)
instance(a):CT (EH a) 140 [eS a] rB:=Fe f140 0x810e00469601 [] (EH.eq_1 ..)
instance(a):CT (JS a) 283 [lB a] rI:=H9 f283 0xa8d1027dd10204d1037d5886ededd1026a3004d10381e46096ead10281c10b9601 [] (JS.eq_1 ..) (BA 0 3 0 0) (BA 2 4 3 0)
instance(a):CT (GA a) 205 [Iy a] rI:=Fe f205 0x819d0576d8b45b5fb2d8589daa5ff9aa5f850b9f80bc [] (GA.eq_1 ..)
instance(a b):CT (KO a b) 138 [AN a,eI b] rI:=ez f138 0xa87e027db2e9e1307e02097e037d588674e13074e1307e026a30097e0381e474e196ea7e028176d8fc9d763076d882f455e4ca5f05ac039eac047d58865d74d35d05ac036a309eac0481e45df700c9e9d3a6df [] (KO.eq_1 ..) (BA 0 6 1 0) (BA 2 8 7 0) (BA 4 9 8 0)
instance(a b):CT (Kz a b) 206 [eI a,eI b] rB:=Fe f206 0xe30af49730f4c3 [] (Kz.eq_1 ..)
instance(a b):CT (KN a b) 139 [AN a,eI b] rI:=CA f139 0x819daa03ec0305800aaac8429f800aaa01f9aa015f81765d0502029eac047d58865d7407e00502026a309eac0481e45d074b01c90744078cc5df [] (KN.eq_1 ..) (BA 0 6 1 0)
instance(a):CT (EO a) 82 [AN a] (rT eS eI):=H9 f82 0x81bf0006cc7dd6017407e06cf4550092c506cc813004cc7dd60174d35d6cf4553092a604cc8158bf8ae55bd458bf850ba63fbc [.mv (.c (.str ⟨#[]⟩)),.mv (.c (.str ⟨#[]⟩)),.mv (.c (.str ⟨#[]⟩)),.mv (.c (.str ⟨#[]⟩))] (EO.eq_1 ..) (BA 0 4 1 0) (BA 2 6 1 1)
instance(a b c):CT (Ht a b c) 77 [AN a,eI b,eI c] rI:=Fe f77 0x819daa765d30aa76a6587f0189db93ac02 [] (Ht.eq_1 ..)
abbrev Q_79(n:Nat):Prop:=∀(t:AC)(a:Int)(b:Int),CT (Dt n t a b) 79 [AN t,eI a,eI b] rB
theorem AAX(n:Nat)(_ih_79:Q_79 n)(t:AC)(a:Int)(b:Int):CT (Dt (n+1) t a b) 79 [AN t,eI a,eI b] rB:=Fj f79 0xe30af490d35d555b97013093ac02 [] λh=>by
  unfold Dt at h;exact nz
theorem AAW:∀n:Nat,Q_79 n:=by
  intro n
  induction n with
  |zero=>exact(λt a b=>⟨λ_ h=>c?⟩)
  |succ n c=>exact AAX n c
instance(t a b):CT (G3 t a b) 79 [AN t,eI a,eI b] rB:=⟨λr h=>by
  obtain ⟨N,c⟩:=DX h;exact((AAW N) t a b).snd r (c N (R0 _))⟩
instance(a b c d):CT (EY a b c d) 42 [AN a,eI b,eI c,eI d] rB:=Fe f42 0xe30e5e41078cc5557590078cc5559daae5970e30db935e0103 [] (EY.eq_1 ..)
instance(a):CT (Jz a) 75 [AN a] (rO lI):=CA f75 0xfa310431037d0431c831033cacd9cc885e41d35d3192a6043103ebc00140bc [] (Jz.eq_1 ..) (BI 0 4 1 0 (hO 3 lI))
instance(a b):CT (Dw a b) 76 [AN a,eI b] (rT lA eI):=CA f76 0x81fa0701097e037d0204480447e9ac4a0380489f8047f703c9e9e1300701ea097e038182f45504c05804c09a30db0440df [] (Dw.eq_1 ..) (BI 0 9 8 0 (hO 7 lA))
instance(a b):CT (KQ a b) 40 [AN a,US b] (rS CF):=Fk f40 0xa7736d020e0d6d5e067d0e0d6d5e060e0d6d5e063cf20141320348034773040141328e60b4cd605fcd5d55a7e80746ca3f033f03e0ca3f033f03e0e53f033f03e06d02ff8a76c5a530a530e5750d6d5e06a20bcd6d5e0407b65e067df202804a5c3201d9f30280d9f35c320b7eb65e08cb097eb65e0a7dacd90505050590e1305e41e197ca3f033f028c5d90e130020b7eb65e08eacb097eb65e0a8182b501f50155816076013f033f028c5d5bf604ff8a7630a53076a607b65e0681820e5510c910c9b1 [.aad (.s 38) (.c (.int .i64 0)) 1 2,.cvt .i64 (.s 40),.aad (.s 69) (.c (.int .i64 1)) 1 2,.cvt .i64 (.s 71),.aad (.s 134) (.c (.int .i64 0)) 1 3,.cvt .i64 (.s 136),.aad (.s 145) (.c (.int .i64 1)) 1 3,.cvt .i64 (.s 147),.aad (.s 154) (.c (.int .i64 2)) 1 3,.cvt .i64 (.s 156)] [.cell 4 (Y 3)] λr h f g=>by
  unfold KQ at h;have:HW 0 λ(e:AH×Int)=>[(5,.bx [⟨X,lI e.1.bi.az⟩,⟨X,lE e.1.bi.be⟩,⟨X,(eL 1 lI) e.1.d5⟩]),(7,.tv (eI e.2))]:=⟨⟩;have:=BI 2 12 9 0 (hO 11 lI);have:HW 4 λ(d:AH×Int)=>[(5,.bx [⟨X,lI d.1.bi.az⟩,⟨X,lE d.1.bi.be⟩,⟨X,(eL 1 lI) d.1.d5⟩]),(14,.tv (eI d.2))]:=⟨⟩;exact nz
instance(a):CT (GB a) 41 [Au a] (λr=>.oag [⟨X,lI r.az⟩,⟨X,lE r.be⟩]):=Fk f41 0xac3b02503f03485f03470148a64708c9bc [.x9 [.w 6,.w 10]] [.cell 2 (Y 2)] λr h b c=>by
  unfold GB at h;exact nz
instance(a b):CT (Ig a b) 137 [eI a,eI b] (rO lI):=CA f137 0xfaca9ebb7dacd9053002ca6a309ebbebc001406b02 [] (Ig.eq_1 ..) (BI 0 6 1 0 (hO 5 lI))
instance(a):CT (NB a) 80 [Au a] (λr=>.oag [⟨X,lI r.az⟩,⟨X,lI r.be⟩]):=Fk f80 0xac3b02503f0eef0ed402c9bc [.x9 [.w 6,.w 10]] [.cell 2 (Y 2)] λr h b c=>by
  unfold NB at h;exact nz
instance(a b c d):CT (Md a b c d) 43 [Bm a,Au b,Au c,A2 d] (rS Bm):=Fk f43 0x8013b194b20461f46550e551e46551e46555d0cc969b1 [] [.cell 8 (Y 25)] λr h e f=>by
  unfold Md at h;exact nz
instance(a):CT (Jw a) 81 [eI a] (rO lI):=CA f81 0xfa3104d1037dacd9cc316a3004d103ebc001400001 [] (Jw.eq_1 ..) (BI 0 4 0 0 (hO 3 lI))
instance(a):CT (RP a) 44 [Au a] (λr=>.oag [⟨X,lI r.az⟩,⟨X,lI r.be⟩]):=Fk f44 0xac3b02503f0eef0ed402c9bc [.x9 [.w 6,.w 10]] [.cell 2 (Y 2)] λr h b c=>by
  unfold RP at h;exact nz
instance(a):CT (Gt a) 20 [LZ a] (rS Bm):=Fk f20 0xac3b194b0e0e558d3f9e020309089e5e01077d09089e5e010709089e5e01073cf2d0034803477304d08e60b45d605f5d5d55a7e80746ca3f033f038cd8ca3f033f038cd8e53f033f038cd89e0203ff8a0530a530769f8009089e5e0107a2d49e5e5bfe5e01067df23201d9765d3f91b404329e5e5bff8a053076f9fe5e010681025008c91b55ad08c93f0e214603452d0b9032903202452d0bcdcd55adad02491ac9890cc9bc [.AbA (.s 35) 0 2 X,.cvt .i64 (.s 56),.aad (.s 86) (.c (.int .i64 0)) 1 3,.cvt .i64 (.s 88),.aad (.s 97) (.c (.int .i64 1)) 1 3,.cvt .i64 (.s 99),.aad (.s 106) (.c (.int .i64 2)) 1 3,.cvt .i64 (.s 108),.bld [.str ⟨#[]⟩,.list 1 [],.list 3 [],.list 4 [],.int .i64 0,.list 5 [],.list 1 [],.list 3 [],.list 4 [],.int .i64 0,.list 5 [],.list 1 [],.list 1 [],.list 1 [],.list 1 [],.bool T,.int .i64 0,.list 9 [],.list 1 [],.list 1 [],.list 1 [],.list 3 [],.list 4 [],.int .i64 0,.list 5 []] [(0,1,.c (.str ⟨#[114]⟩))]] [.cell 2 (Y 25)] λr h e f=>by
  unfold Gt at h;have:HW 0 λ(d:bi×Int)=>[(6,.bx [⟨X,lI d.1.az⟩,⟨X,lE d.1.be⟩]),(7,.tv (eI d.2))]:=⟨⟩;have:HW 2 λ(b:bi×Int)=>[(6,.bx [⟨X,lI b.1.az⟩,⟨X,lE b.1.be⟩]),(9,.tv (eI b.2))]:=⟨⟩;exact nz
instance c18:CT (GD ) 18 [] (rO (eL 25 Bm)):=Fe f18 0x8219470ee90ee9f71cc9254603472246224622462246b521460347224622460247244624462446f71cc92346034722462246b5194000 [] (GD.eq_1 ..)
instance(a):CT (Mc a) 83 [eI a] rB:=Fe f83 0x81a5979601 [] (Mc.eq_1 ..)
instance(a b):CT (K4 a b) 45 [AN a,F5 b] rI:=H9 f45 0xa809e77d9da59791c50aa5915f97915f5b915f6181605e4107e05d609007e05de4915f0092c509e7815e0207e77d9d05f0f05b6190d35de4f05e0292a607e7819de5ef5bd4d4587f0189dbb1 [] (K4.eq_1 ..) (BA 0 7 2 0) (BA 2 9 2 1)
instance(a):CT (MU a) 286 [eI a] rB:=Fe f286 0x81a5979601 [] (MU.eq_1 ..)
instance(a b):CT (Pm a b) 287 [B6 a,eI b] rB:=Fe f287 0x81a501f9a5f9a501c5a55f75a6df [] (Pm.eq_1 ..)
instance(a):CT (EP a) 208 [Au a] rI:=H9 f208 0xa804cc7de4d4d5e00092c504cc813031027de4f03092a63102819de55b0ba6bc [] (EP.eq_1 ..) (BA 0 3 1 0) (BA 2 4 1 1)
instance(a b):CT (Hw a b) 209 [AN a,Au b] rB:=H9 f209 0xa806e77d9de57403e05b7403e00092c506e7815e0205e77d9d765df05bf05e02925d5be7ebb1 [] (Hw.eq_1 ..) (BA 0 5 3 0) (BA 2 6 3 1)
instance(a b c d):CT (Og a b c d) 210 [AN a,B4 b,eI c,eI d] (rT Iy eB):=Fk f210 0x81f7e9e13058f703468a760130a59761f591cd5558f703468a76cd973003c9695e02 [] [.cell 8 (Y 4),.tmp 9] λr h e f=>by
  unfold Og at h;exact nz
instance(a):CT (NQ a) 211 [eI a] rB:=Fe f211 0x81a5979601 [] (NQ.eq_1 ..)
instance(a b):CT (Jx a b) 334 [eI a,Ri b] rI:=Fe f334 0x819d05c5a5c5a5015d5ba6bc01 [] (Jx.eq_1 ..)
instance(a b):CT (QD a b) 288 [eI a,Hh b] rI:=Fe f288 0x810e550380b2db809d055d5ba6bc01 [] (QD.eq_1 ..)
instance(a b):CT (Mz a b) 212 [eI a,lT b] rI:=CA f212 0xa805cf7db2b3058c969297cf81c1fc9d059701c3 [] (Mz.eq_1 ..) (BA 0 5 1 0)
instance(a b):CT (Lt a b) 213 [B4 a,eI b] rB:=CA f213 0xa805ac037dc101740241d3b40092b45bac03ebdf [] (Lt.eq_1 ..) (BA 0 5 2 2)
instance(a b):CT (Hx a b) 141 [AN a,B4 b] rI:=H9 f141 0xa80d5e7de45b44006a9f800d5e81b2c842d83108e77d9daa900280a5d8740280a57402800861f70349895f5db355f705c9e9d3b43192f908e7819d76c8425b0bb49d05d85bd8e4e255b2e2587f0189dbb1 [] (Hx.eq_1 ..) (BA 0 8 3 2) (BA 2 13 3 3)
instance(a b c):CT (Oi a b c) 214 [AN a,B4 b,eI c] rI:=CA f214 0xa80a070402047d9d055f90d3b45b5d74d3b4006a300a07040204819d05900280a5900280a5d8740280a57402800a76015f5bc5f5605dcd559d76cd5d5b5df705c9e9d3f969ac [] (Oi.eq_1 ..) (BA 0 10 2 0)
instance(a b):CT (M8 a b) 142 [AN a,Bm b] rI:=CA f142 0xa806e77db25b4406ba00925e41068006e781c10b5e41ec9d76c841ec5b9f41d09f41ece4555c06bab2555c0680b1 [] (M8.eq_1 ..) (BA 0 6 3 8)
instance(a b):CT (HI a b) 335 [lI a,eI b] rI:=CA f335 0xa805cf7d9d056005309197019dca919760969297cf81c3 [] (HI.eq_1 ..) (BA 0 5 0 0)
instance(a b):CT (QH a b) 336 [lI a,eI b] rB:=CA f336 0xa805cf7dc10160969297cf81c3 [] (QH.eq_1 ..) (BA 0 5 0 0)
instance(a b):CT (Pn a b) 289 [Au a,IY b] rI:=CA f289 0xa807e77d9daab4a6aa5f5da7fd43915f5f0092c507e781b2ef5fb2d4a6b1 [] (Pn.eq_1 ..) (BA 0 7 3 1)
instance(a b):CT (JT a b) 215 [Au a,IY b] rI:=Fe f215 0x810e8db2dbb1 [] (JT.eq_1 ..)
instance(a b):CT (JU a b) 290 [lI a,eI b] rI:=CA f290 0xa805cf7dfb850160969297cf81c3 [] (JU.eq_1 ..) (BA 0 5 0 0)
instance(a b):CT (Ih a b) 216 [Au a,IY b] (λr=>.tp [Au r.1,A2 r.2.1,eI r.2.2]):=Fk f216 0x6d023b81adad024601485fb50148a64755086dc80a086d5e067df2d00348034707460eb45d0e5f5d5d04d0a7fd43915f5f086dc892c50a086d5e0681086d5e0509086d5e067df23201d960f05d0432086d5e0592a609086d5e068108c958adad304604ee0e8dccc908c9b1 [] [.cell 4 (Y 2),.cell 5 (Y 2),.tmp 6] λr h c d=>by
  unfold Ih at h;have:=BI 0 9 3 0 λs0:bi=>[(8,.bx [⟨X,lI s0.az⟩,⟨X,lE s0.be⟩])];have:=BI 2 10 3 1 λs2:bi=>[(8,.bx [⟨X,lI s2.az⟩,⟨X,lE s2.be⟩])];exact nz
instance(a b c):CT (Hu a b c) 217 [Au a,Au b,A2 c] rI:=H9 f217 0xa80a6dc87d9d05b460b45d5b5f605f5dc15d5da7a7e8fd43915f5fd5e09de5915f5b915f0092c50a6dc8816d9f096dc87dc1f060f05d9d765df05bf06d9f92a6096dc8819de5ef5bd4d4b255b2dbf8 [] (Hu.eq_1 ..) (BA 0 9 3 0) (BA 2 10 3 1)
instance(a):CT (Oj a) 143 [Bm a] rI:=Fe f143 0x810e550dba5c06ba01adad024908c91189550bba5cd0b2550bba5c0180bc [] (Oj.eq_1 ..)
instance(a):CT (FX a) 144 [lI a] rB:=H9 f144 0xa8d1027dd10204d1037dc1ededd1026a3004d103a8ead102816b01 [] (FX.eq_1 ..) (BA 0 3 0 0) (BA 2 4 3 0)
instance(a b):CT (R3 a b) 291 [lI a,eI b] rB:=CA f291 0xa805cf7dc10160969297cf81c3 [] (R3.eq_1 ..) (BA 0 5 0 0)
instance(a b):CT (MZ a b) 218 [eI a,lI b] (rO lI):=CA f218 0xfaca9ebb7d9ebb9ebb3cacd9ccc497016a309ebbebc001406b02 [] (MZ.eq_1 ..) (BI 0 6 0 0 (hO 5 lI))
instance(a):CT (Kn a) 145 [Bm a] (rT lI lI):=Fe f145 0x82820e900d420b3184ec0e740d420b745c0680400140bc [] (Kn.eq_1 ..)
instance(a b c d):CT (Lv a b c d) 146 [AN a,Au b,lI c,lI d] rB:=H9 f146 0xa80a6dc87de460b45d605f5d5d55a7fd43ed5f00ea0a6dc8816d9f096d5e057d58830241e160ed5d5d6d9fea096d5e05eb695e02 [] (Lv.eq_1 ..) (BA 0 9 2 0) (BA 2 10 3 0)
instance(a):CT (IM a) 368 [AQ a] rB:=Fe f368 0x81a59f410480a576c84104420b5e41044230be763184044276745c04427690da0b740280bc [] (IM.eq_1 ..)
instance(a):CT (M7 a) 337 [AQ a] rB:=CA f337 0x81ff58e5bee30ec65bef190401036519040103bee30ec65befbee30ec65befbe833201bc [] (M7.eq_1 ..) (⟨⟩:HJ 25 λ(b:Bool)=>[(25,.tv (eB b))])
abbrev Q_292(n:Nat):Prop:=∀(c:bq),CT (Ez n c) 292 [AQ c] rB
theorem xb(n:Nat)(_ih_292:Q_292 n)(c:bq):CT (Ez (n+1) c) 292 [AQ c] rB:=Fj f292 0xa831027de4c609e00092c5310281e4c601bc [] λh=>by
  unfold Ez at h;have:=BA 0 3 1 1;exact nz
theorem xa:∀n:Nat,Q_292 n:=by
  intro n
  induction n with
  |zero=>exact(λc=>⟨λ_ h=>c?⟩)
  |succ n a=>exact xb n a
instance(c):CT (PS c) 292 [AQ c] rB:=⟨λr h=>by
  obtain ⟨N,a⟩:=DX h;exact((xa N) c).snd r (a N (R0 _))⟩
abbrev Q_293(n:Nat):Prop:=∀(c:bq),CT (FY n c) 293 [AQ c] (rT eI eI)
theorem xd(n:Nat)(_ih_293:Q_293 n)(c:bq):CT (FY (n+1) c) 293 [AQ c] (rT eI eI):=Fj f293 0xa2306d026d026501855d6d0103b6f37d302c9730a289c609e06d010392c5b6f381a230bc [] λh=>by
  unfold FY at h;have:=BI 0 6 1 1 λs0:Int×Int=>[(4,.tv (eI s0.1)),(5,.tv (eI s0.2))];have:HJ 33 λ(a:Int)=>[(5,.tv (eI a))]:=⟨⟩;exact nz
theorem xc:∀n:Nat,Q_293 n:=by
  intro n
  induction n with
  |zero=>exact(λc=>⟨λ_ h=>c?⟩)
  |succ n a=>exact xd n a
instance(c):CT (QX c) 293 [AQ c] (rT eI eI):=⟨λr h=>by
  obtain ⟨N,a⟩:=DX h;exact((xc N) c).snd r (a N (R0 _))⟩
instance(a):CT (M4 a) 219 [AQ a] rI:=Fe f219 0x819d0597618189c6e4c601bc [] (M4.eq_1 ..)
instance(a b):CT (Oh a b) 338 [B4 a,eI b] rB:=CA f338 0xa805ac037dc101740241d3b40092b45bac03ebdf [] (Oh.eq_1 ..) (BA 0 5 2 2)
instance(a b c):CT (M6 a b c) 294 [AN a,eI b,B4 c] rI:=CA f294 0xa87e05037dfbc45b44006a9f807e0503ebb2b355c1019f806930 [] (M6.eq_1 ..) (BA 0 8 5 3)
instance(a b c):CT (I9 a b c) 295 [Au a,Au b,A2 c] rB:=Fe f295 0xe30ec50a0e5d5b0e558d01f8 [] (I9.eq_1 ..)
abbrev Q_220(n:Nat):Prop:=∀(t:AC)(p:cE)(c:bq),CT (Fr n t p c) 220 [AN t,B4 p,AQ c] rI
theorem xS(n:Nat)(_ih_220:Q_220 n)(t:AC)(p:cE)(c:bq):CT (Fr (n+1) t p c) 220 [AN t,B4 p,AQ c] rI:=Fj f220 0xa80a0705c87db2c609e0b3550092c50a0705c88107059f07059f3cd7b30442e45502ba5c04ba32b25502ba5c04ba32b2b304429fba855dd709c9b301f8 [] λh=>by
  unfold Fr at h;have:=BA 0 10 5 1;exact nz
theorem xR:∀n:Nat,Q_220 n:=by
  intro n
  induction n with
  |zero=>exact(λt p c=>⟨λ_ h=>c?⟩)
  |succ n a=>exact xS n a
instance(t p c):CT (YJ t p c) 220 [AN t,B4 p,AQ c] rI:=⟨λr h=>by
  obtain ⟨N,a⟩:=DX h;exact((xR N) t p c).snd r (a N (R0 _))⟩
instance(a b c):CT (M5 a b c) 147 [AN a,B4 b,AQ c] rI:=Fe f147 0x810ec6b355b2c6b2b3dbf8 [] (M5.eq_1 ..)
instance(a b):CT (K3 a b) 84 [AN a,Bm b] rI:=Fe f84 0x810ec61042b301bae430555c06ba82f5de9daa900d80aa740d42b2deb2de55b2b301bae45d587f0189dbb1 [] (K3.eq_1 ..)
instance(a):CT (J4 a) 85 [Bm a] rB:=Fe f85 0xe37690320b900b800a76cd0b740b80a57410800a030f80a5d85b76c842765e41ec0bb4d709c9b30180bc [] (J4.eq_1 ..)
instance(a b):CT (J5 a b) 86 [AN a,Au b] rB:=H9 f86 0xa805e77d05e79e5e047dc1f090d35d05e792a69e5e04a8925d5be7ebb1 [] (J5.eq_1 ..) (BA 0 5 3 0) (BA 2 6 2 0)
instance(a b):CT (Ok a b) 87 [AN a,Au b] rB:=CA f87 0xa805e77de460b45d605f5d5d55a7fde000925f5be7ebb1 [] (Ok.eq_1 ..) (BA 0 5 3 1)
instance(a b c):CT (NA a b c) 46 [AN a,F5 b,Bm c] rI:=Fe f46 0x819daa555c01ba010aaa555c06ba01aa555c01bae4deb2de55b28d01f8 [] (NA.eq_1 ..)
instance(a b c):CT (HO a b c) 21 [AN a,F5 b,(eL 25 Bm) c] rI:=H9 f21 0xa809f6047db2de1943308d00ea09f6048104e708f6047dc10b9f41d35d04e792a608f60481b28dc10b3069ac [] (HO.eq_1 ..) (BA 0 8 3 0) (BA 2 9 2 0)
instance(a):CT (QE a) 97 [AN a] rB:=Fj f97 0xa808cc7dc10c7407e00092c508cc81300431037d0431036d31047d6d310407b631067dc10c91d86d3104929f8007b63106819d76d85b0c5df703c9e9d39f41d35d043103929f41d35d5b043104819d050c74d35d5b30769f41d3a63092a6043103a29de55b0ba6bc [] λh=>by
  unfold QE at h;have:=BI 0 4 1 0 (hT 3 eI);have:HW 2 λ(b:Int)=>[(5,.tv (eI b))]:=⟨⟩;have:HW 4 λ(c:Int)=>[(7,.tv (eI c))]:=⟨⟩;have:=BA 6 8 1 1;exact nz
instance(a):CT (R4 a) 98 [F5 a] rB:=Fe f98 0xbee50ba6bc [] (R4.eq_1 ..)
instance(a):CT (QF a) 51 [Au a] rB:=Fe f51 0xe3e55b0ba6bc [] (QF.eq_1 ..)
instance(a):CT (Nz a) 161 [B4 a] rB:=Fe f161 0xe376c8800a76b475e201bc [] (Nz.eq_1 ..)
instance(a b):CT (R2 a b) 162 [IY a,eI b] rB:=Fe f162 0xbe5bef0ba6df [] (R2.eq_1 ..)
instance(a b):CT (QG a b) 163 [A2 a,eI b] rB:=Fe f163 0xbe5bef0ba6df [] (QG.eq_1 ..)
abbrev Q_234(n:Nat):Prop:=∀(c:bq)(a:Int),CT (FB n c a) 234 [AQ c,eI a] rI
theorem xW(n:Nat)(_ih_234:Q_234 n)(c:bq)(a:Int):CT (FB (n+1) c a) 234 [AQ c,eI a] rI:=Fj f234 0xeb97ac037d7501c609e030ff8a0530e55bac03819daa550280aab304425b30df [] λh=>by
  unfold FB at h;have:HW 0 λ(b:Int×Int)=>[(1,.tv (eI b.1)),(5,.tv (eI b.2))]:=⟨⟩;exact nz
theorem xV:∀n:Nat,Q_234 n:=by
  intro n
  induction n with
  |zero=>exact(λc mo=>⟨λ_ h=>c?⟩)
  |succ n a=>exact xW n a
instance(c mo):CT (Te c mo) 234 [AQ c,eI mo] rI:=⟨λr h=>by
  obtain ⟨N,a⟩:=DX h;exact((xV N) c mo).snd r (a N (R0 _))⟩
instance(a):CT (QK a) 164 [AQ a] rB:=Fe f164 0xbe0ec601bc [] (QK.eq_1 ..)
instance(a):CT (QL a) 99 [Bm a] rB:=Fe f99 0xe30ec610800a0e550d800a0e550b800a0eb306800a0eb3d05b0ca6bc [] (QL.eq_1 ..)
instance(a b c):CT (Lx a b c) 50 [AN a,F5 b,Bm c] rB:=Fe f50 0xe30ede010a0e5575dbf8 [] (Lx.eq_1 ..)
instance(a b c):CT (QM a b c) 25 [AN a,F5 b,(eL 25 Bm) c] rB:=CA f25 0x810e28468df607f6047de4de1943308df6ea07f60481c10b3069ac [] (QM.eq_1 ..) (BA 0 7 2 0)
instance(a):CT (QI a) 26 [CF a] rB:=CA f26 0xa831027dc10b91b40092f93102819d76f9aae201bc [] (QI.eq_1 ..) (BA 0 3 1 2)
end Go.Sf.Sc
