/- Contracts of the functions. -/
import Derived.Test.YtiaddfklojalbaaGreatCon1
set_option linter.all false
set_option maxRecDepth 100000
set_option maxHeartbeats 4000000
open Option renaming some->Y,none->W
open Bool renaming true->X,false->T
open Option renaming bind_some->w?
namespace Go.Sf.Sc
open Go Go.Sf Go.Proofs.Tryz
theorem w!{p:Prop}(h:p:=by repeat(first|exact Ij|(apply Ku;exact rfl)|(apply Kr;exact rfl)|(apply Ks;exact rfl)|(apply Kv;exact rfl)|(apply Kt;exact rfl))):p:=h
instance(a b c):CT (EC a b c) 337 [.pt (SJ a).cells,eI b,eI c] rB:=Fe f337 0x813f074660a70309c801605f0309c8015def8002c801578a9aab610e018005c801fcef805b5b3202d1 [.bin (.a [0,0,0]) .eql (.s 38) (.s 57)] (EC.eq_1 ..)
instance(a):CT (CX a) 336 [.pt (SJ a).cells] rB:=Jl f336 0x9e141312c10565141312c105141312c10581880114131206c10626251413120604c109ccff14131206c106018e0132de14131206c1066926251413120604c109978002c861ff141312c10585012ca75fad81e47603436b69141312c105d701c85b61750309c89001 [] (CX.eq_1 ..) (BJ 0 20 19 0) (Bu 2 38 37 0 (hT 6 eB))
noncomputable def ai:PC:=PC.of MU f310.body (xq bT 0xff00013cdc0bc8024802470246201d0aac201d09ac040bac310001a4a306000465a4a3060004a4a30600043c1f0ac80151011e0aac310052311f0ac8014fa6011e0aac31ffa4a30600048a0a20011d0aac010307ac0108203231816b0169a4a3060004978002ac81151d0aac8175805b6d151d0aac00013f3e3d020005653f3e3d0200053f3e3d0200053c1f09c80151011e09ac313f3e3d0200053f3e3d0200053c005231a0311f09c8014fa6011e09ac31ff3f3e3d0200058a0a20011d09ac010307ac010a088c608c925b6dbaac010a9aab610e019205aca1606b01693f3e3d020005d75b02ac81151d09ac8175925b6d151d09ac0061050308ac0b030bac0001) []
theorem xa:CK f310 ai []:=b!
theorem yB:PC.t5 ai=X/\PC.tg 0 ai=X:=b!
abbrev Q_310(n:Nat):Prop:=∀(f:AL),CT (A8 n f) 310 [.undef] (λr=>.bo (DH f) (DH r) 0 [])
theorem xO(n:Nat)(_ih_310:Q_310 n)(f:AL):CT (A8 (n+1) f) 310 [.undef] (λr=>.bo (DH f) (DH r) 0 []):=ZD xa yB λr h c b d=>by
  unfold ai;unfold f310;unfold A8 at h;have:=Bu 1 63 62 0 λs1:AL=>[(0,.bx (DH s1))];have:=Bu 3 164 163 0 λs3:AL=>[(0,.bx (DH s3))];have:HJ 28 λ(a:AL)=>[(0,.bx (DH a))]:=⟨⟩;exact nz
theorem xN:∀n:Nat,Q_310 n:=by
  intro n
  induction n with
  |zero=>exact(λf=>⟨λ_ h=>e_⟩)
  |succ n a=>exact xO n a
instance(f):CT (G7 f) 310 [.undef] (λr=>.bo (DH f) (DH r) 0 []):=⟨λr h=>by
  obtain ⟨N,a⟩:=Dc h;exact((xN N) f).snd r (a N (a5 _))⟩
theorem xY:CK f268 (Rq [Ac 6 0,Ac 7 1,Ac 8 2,Ac 9 3,⟨Y 12,.Abp 2,W⟩] [4,5,6,7,8,9]<|Sq (Dr [13,14,15,16,17,18,19,20,21] [Ad 14 7 2,Ad 15 8 2,Ad 16 6 2,⟨Y 17,.call 275 [.s 16],W⟩,Ad 18 9 2,Aa 19 4,Aa 20 5,⟨Y 21,.bld [.list 1 [],.list 3 [],.list 1 [],.list 3 [],.list 1 [],.nil,.nil,.bool T,.int .i64 0,.nil,.nil,.nil] [(0,2,.s 14),(2,2,.s 15),(4,1,.s 17),(5,2,.s 18),(7,1,.s 19),(8,1,.s 20)],W⟩,⟨Y 22,.Aa6 [W,W,W,W,W,W,W,W,W,Y ⟨X,.xl 1 []⟩,Y ⟨X,.xl 1 []⟩,Y ⟨X,.list 2 []⟩] (.s 21),W⟩,⟨Y 13,.bad 22 0,W⟩] [13,22])<|Rq [Ae 23 13 0,⟨Y 24,.Aac 310 [.s 23] 0,W⟩] [13,22]<|Rq [Ae 25 13 0,Ae 26 25 0,Ae 27 26 11,⟨Y 28,.ld (.s 27),W⟩,Ab 12 28] [12]<|.ret) [.tmp 12]:=b!
instance(a b c d e f):CT (GF a b c d e f) 268 [AS a,BD b,BD c,qM d,eB e,eI f] (rS (eL 2 BR)):=Fi xY λr h g i=>by
  unfold GF at h;exact au
instance(a b c d e):CT (It a b c d e) 208 [AS a,BD b,BD c,qM d,eB e] (rT (eL 2 BR) eI):=Fe f208 0x8182015702c0e701820e019696d3406a6a0401 [] (It.eq_1 ..)
instance(a b):CT (Mm a b) 357 [eI a,.pt [eI b]] rB:=Fe f357 0x81a8305c01bc [] (Mm.eq_1 ..)
instance(a b):CT (Hj a b) 356 [lI a,eI b] rI:=Fe f356 0xaa8e1032b601 [] (Hj.eq_1 ..)
instance(a b c d e):CT (HM a b c d e) 353 [AS a,BD b,BD c,BR d,eB e] (rT (eL 2 BR) eI):=Fe f353 0x81827c0e0196965702c09b0b5f5f5702c09bdb5d5702c0cd5f0bf6dbdb5702c09b5596d3406a6a0401 [] (HM.eq_1 ..)
instance(a b):CT (FP a b) 281 [Qu a,lI b] (rT eI eI):=Fe f281 0xa10e01f181be75015d32e0 [] (FP.eq_1 ..)
instance(a b c d):CT (EH a b c d) 354 [Cs a,CG b,BR c,lI d] (rT lI eB):=tD f354 0x8182180a016867660a04d501c0882014bbf904c9bb05430a01696867660a04d70442a8022c2b2a0b0a067308d501c08a9aab61817c01201455ee2c2b2a0f0e0b0a06730a2c2b2a0f0e0b0a06730a3c01f401f40580ee321401148a0817d801145c6192ee81605f60605d5d5e41eeed05c9e50443a802692c2b2a0b0a067308d7ee0b0a06730522210b0a067307cc01f40114de0b0a0673056922210b0a0673079701993fc5993f7501c51a013240936a30 [.Abj 1 22 (.int .i64 0) (.s 27),.mkx 1 [.bool T] (.s 30)] (EH.eq_1 ..) (Bu 0 34 33 0 (hX 11 1 eB)) (Bu 2 44 43 0 λs2:Fp×QQ=>[(10,.xo 1 (List.map eI s2.1)),(11,.xo 1 (List.map eB s2.2))]) (BJ 4 104 103 0)
instance(a b c):CT (Cb a b c) 345 [Cs a,AR b,Dv c] (rT (eL 3 Dv) eI):=CW f345 0x8182020c013b3a390c730307cc3b3a390c7303073b3a390c7303073c02034803470946015502a182915ea5bb04420644b302c95502430c01693b3a390c730307978103c05703c0016c8291030542965bee9631b302c902460ef780ee0b5f0ec692eedbb3fdfa04740340fe [] (Cb.eq_1 ..) (Bu 0 59 58 0 (hO 12 (eL 3 Dv)))
abbrev AbQ(n:Nat):Prop:=∀(a:Be)(c:c8)(m:Ar),CT (A1 n a c m) 279 [Cs a,AR c,Dv m] (rT Gv eI)
abbrev AbO(n:Nat):Prop:=∀(a:Be)(c:c8)(m:Ar),CT (Bc n a c m) 316 [Cs a,AR c,Dv m] (rT Gv eI)
theorem xJ(n:Nat)(_ih_279:AbQ n)(_ih_316:AbO n)(a:Be)(c:c8)(m:Ar):CT (A1 (n+1) a c m) 279 [Cs a,AR c,Dv m] (rT Gv eI):=Fk f279 0xd04b0a4677f97c0e76cf0644d0d04b0a4606014b4a49e90306d5f9010a46850157f90b460547bb016cf90ec99176cf0644094bcbc9cf097f0601694b4a49e90306d7c3d0d04bbb0a06022f2e2d0ae90307ccdc044205480547bb04044257f9010a466cf90ec99176cf0644094b0ac9cf09430a0602692f2e2d0ae90307d7c30ec9d0d04b010a4677f90a46d0d04b0a46d0a1f90e499176cf09435f0644d083317dc9fe [] [.cell 6 (Y 5),.tmp 7] λr h b d=>by
  unfold A1 at h;have:=Bu 2 47 46 0 λs2:CL×CL=>[(6,.bx [⟨T,eI s2.1.AaL⟩,⟨X,lI s2.1.ns.cE.bq⟩,⟨X,lI s2.1.ns.cE.ca⟩,⟨X,lI s2.1.ns.eT⟩,⟨X,M1 s2.1.ff⟩]),(10,.bx [⟨T,eI s2.2.AaL⟩,⟨X,lI s2.2.ns.cE.bq⟩,⟨X,lI s2.2.ns.cE.ca⟩,⟨X,lI s2.2.ns.eT⟩,⟨X,M1 s2.2.ff⟩])];have:=Bu 4 75 74 0 λs4:CL=>[(6,.bx [⟨T,eI s4.AaL⟩,⟨X,lI s4.ns.cE.bq⟩,⟨X,lI s4.ns.cE.ca⟩,⟨X,lI s4.ns.eT⟩,⟨X,M1 s4.ff⟩])];exact nz
theorem xP(n:Nat)(_ih_279:AbQ n)(_ih_316:AbO n)(a:Be)(c:c8)(m:Ar):CT (Bc (n+1) a c m) 316 [Cs a,AR c,Dv m] (rT Gv eI):=Fk f316 0xd04b0a4606011b1a1906040306d5f9010a46850157f90c460547bb766cf90ec99176cf09435f0644ad0fc97603430601691b1a190604030697aaf9010a466c829176cf06447dc9fe [] [.cell 6 (Y 5),.tmp 7] λr h b d=>by
  unfold Bc at h;have:=Bu 0 27 26 0 λs0:CL=>[(6,.bx [⟨T,eI s0.AaL⟩,⟨X,lI s0.ns.cE.bq⟩,⟨X,lI s0.ns.cE.ca⟩,⟨X,lI s0.ns.eT⟩,⟨X,M1 s0.ff⟩])];exact nz
theorem qG:∀n:Nat,AbQ n/\AbO n:=by
  intro n
  induction n with
  |zero=>exact⟨(λb c m=>⟨λ_ h=>e_⟩),(λb c m=>⟨λ_ h=>e_⟩)⟩
  |succ n a=>exact⟨xJ n a.1 a.2,xP n a.1 a.2⟩
instance(s_0 c m):CT (Fg s_0 c m) 279 [Cs s_0,AR c,Dv m] (rT Gv eI):=⟨λr h=>by
  obtain ⟨N,a⟩:=Dc h;exact((qG N).1 s_0 c m).snd r (a N (a5 _))⟩
instance(s_0 c m):CT (PT s_0 c m) 316 [Cs s_0,AR c,Dv m] (rT Gv eI):=⟨λr h=>by
  obtain ⟨N,a⟩:=Dc h;exact((qG N).2 s_0 c m).snd r (a N (a5 _))⟩
instance(a b c d e f):CT (Em a b c d e f) 221 [AS a,CG b,AR c,CM d,Dv e,eB f] (rT Gv eI):=Fk f221 0xd04b7c0e76cf0d460176f1f9010a467e017676cfbb557dc9936a6a9a [] [.cell 12 (Y 5),.tmp 13] λr h g i=>by
  unfold Em at h;exact nz
instance(a b c d e f):CT (D3 a b c d e f) 156 [AS a,CG b,AR c,CM d,Dv e,eB f] (rT eB eI):=Fe f156 0xa15c0157816cf90e4991017676cfbb5532936a6a9a [] (D3.eq_1 ..)
instance(a):CT (Jj a) 157 [Dv a] (rS Dv):=Fk f157 0xb23bad09460ea702460ef70ec60fc9b6 [] [.cell 2 (Y 3)] λr h b c=>by
  unfold Jj at h;exact nz
instance(a):CT (KV a) 158 [CM a] (rS CM):=Fk f158 0xad765e021312115e05ccdcead40148324704ee82605e02691312115e05d7ee035010c93f3f0ef70ec610c9b6 [.zt [.w 9,.w 13],.zt [.g 14 0 2,.g 14 1 2,.z ⟨X,.list 1 []⟩]] [.cell 2 (Y 3)] λr h b c=>by
  unfold KV at h;have:=Bu 0 19 18 0 λs0:AJ=>[(3,.bx [⟨X,lI s0.ci.bq⟩,⟨X,lE s0.ci.ca⟩,⟨X,(eL 1 lI) s0.eo⟩])];exact nz
instance(a b):CT (Lw a b) 159 [eI a,lI b] (rO lI):=CW f159 0x82189a0d0c9a04cc01f432140d0cb19a060d0cb19a063c018861819132815c01690d0c9a04819514993f32406b02 [.mkx 1 [.int .i64 0] (.s 9)] (Lw.eq_1 ..) (Bu 0 13 12 0 (hX 5 1 eI))
instance(a b c d e f):CT (G4 a b c d e f) 160 [eI a,lI b,lI c,lI d,lI e,eI f] (rO lI):=Jl f160 0x82180d012b2a0d73cc2b2a0d732b2a0d736532f432148517d80114de0d01692b2a0d738195140d05021615140d733008cc01f460608c323214a18c0d0502691615140d7330089781991a32470140f56b06 [] (G4.eq_1 ..) (Bu 0 22 21 0 (hX 13 1 eI)) (Bu 2 43 42 0 λs2:Int×Fp=>[(5,.tv (eI s2.1)),(13,.xo 1 (List.map eI s2.2))])
instance(a b):CT (KC a b) 223 [AS a,eI b] (rO lI):=CW f223 0x820207011312110704ccb2d45f02ed03c9e504430701691312110704978182a601829101e140e0 [] (KC.eq_1 ..) (Bu 0 19 18 0 (hO 7 lI))
noncomputable def aa:PC:=PC.of MU f161.body (xq bT 0x32b0afaeecccb0afaeecb0afaeec3cdc01c81fc803480347074660a79224ac605f9224ac5d0401c81fac31e7805b1fac8c8024acad81e4ef3269b0afaeecd7c307d37b7a79073006cc7b7a790730067b7a790730063c1f02411fc821221a01552302411fac31dc5b5b1fc801d4ec5b5b1fac31e7925b1fac8c9224aca18c07d3697b7a79073006d7310730ad4a49b13007ccdc01c81fc803480347074660a79222ac605f9222ac5d0401c81fac31fceff78160073003694b4a49b13007d7c3b10530051e1d1cb1053008cc1f02411fc82122014f8cf8562302411fac31dc5b5b1fc801d48cc6045b5b1fac318160b1053005691e1d1cb1053008d731b3adfd10c9fa06c86d761cac6a32) []
theorem xU:CK f161 aa []:=b!
theorem xx:PC.t5 aa=X/\PC.tg 1 aa=X:=b!
instance(a b c):CT (Iv a b c) 161 [AS a,.undef,If c] (λr=>.bo (Du b) (Du r) 1 []):=ZD xU xx λr h e d f=>by
  unfold aa;unfold f161;unfold Iv at h;have:=Bu 0 30 29 0 λs0:Bn=>[(1,.bx (Du s0))];have:=Bu 2 75 74 0 λs2:Bn=>[(1,.bx (Du s2))];have:=Bu 4 123 122 0 λs4:Bn=>[(1,.bx (Du s4))];have:=Bu 6 176 175 0 λs6:Bn=>[(1,.bx (Du s6))];exact nz
theorem xX:CK f224 (.seq (.region [⟨Y 1,.Abn (.s 0),W⟩,
    ⟨Y 2,.mv (.c .undef),W⟩,
    ⟨Y 3,.mv (.c (.int .i64 0)),W⟩] [1])
 (.seq (.region [⟨Y 12,.mkm,W⟩,
    ⟨Y 4,.mvm 12,W⟩] [1,4,12])
 (.seq (.seq (.region [⟨Y 13,.bad 1 0,W⟩,
    ⟨Y 14,.fad (.s 13) 6,W⟩,
    ⟨Y 15,.fad (.s 14) 2,W⟩,
    ⟨Y 16,.ld (.s 15),W⟩,
    ⟨Y 17,.len (.s 16),W⟩,
    ⟨Y 18,.mv (.c (.int .i64 0)),W⟩] [1,4,12,16,17,18])
 (.block 0 (.loop [1,4,12,16,17,18] (.seq (.region [⟨Y 19,.bin (.i) .lss (.s 18) (.s 17),W⟩] [1,4,12,16,17,18,19])
 (.seq (.cond (.s 19) (.skip [1,4,12,16,17,18])
 (.exit 0 [4,12]))
 (.seq (.block 1 (.seq (.region [⟨Y 20,.iad (.s 16) (.s 18) 4,W⟩,
    ⟨Y 21,.lda (.s 20) 4,W⟩,
    ⟨Y 6,.alc [⟨T,.int .i64 0⟩,⟨T,.int .i64 0⟩,⟨T,.int .i64 0⟩,⟨T,.int .i64 0⟩],W⟩,
    ⟨W,.stb 4 6 (.s 21),W⟩] [1,4,6,12,16,17,18])
 (.seq (.region [⟨Y 23,.bad 6 2,W⟩,
    ⟨Y 24,.lda (.s 23) 2,W⟩,
    ⟨Y 25,.bad 1 25,W⟩,
    ⟨Y 26,.fad (.s 25) 2,W⟩,
    ⟨Y 27,.ld (.s 26),W⟩,
    ⟨Y 28,.call 281 [.s 24,.s 27],W⟩,
    ⟨Y 22,.mv (.s 28),W⟩,
    ⟨Y 29,.ext (.s 22) 0,W⟩,
    ⟨Y 30,.ext (.s 22) 1,W⟩,
    ⟨Y 7,.mv (.s 29),W⟩,
    ⟨Y 8,.mv (.s 30),W⟩] [1,4,6,7,8,12,16,17,18])
 (.seq (.seq (.region [⟨Y 31,.mv (.s 8),W⟩,
    ⟨Y 32,.bin (.i) .neq (.s 31) (.c (.int .i64 0)),W⟩] [1,4,6,7,8,12,16,17,18,32])
 (.cond (.s 32) (.seq (.region [⟨Y 33,.mv (.s 8),W⟩,
    ⟨Y 2,.mv (.c .undef),W⟩,
    ⟨Y 3,.mv (.s 33),W⟩] [2,3,12])
 .ret)
 (.skip [1,4,6,7,12,16,17,18])))
 (.seq (.draw [9,34,35,36,37,38,39,40,41,42,43] [⟨Y 34,.bad 1 36,W⟩,
    ⟨Y 35,.fad (.s 34) 0,W⟩,
    ⟨Y 36,.ld (.s 35),W⟩,
    ⟨Y 37,.bad 6 0,W⟩,
    ⟨Y 38,.ld (.s 37),W⟩,
    ⟨Y 39,.iad (.s 36) (.s 38) 1,W⟩,
    ⟨Y 40,.ld (.s 39),W⟩,
    ⟨Y 41,.bad 6 1,W⟩,
    ⟨Y 42,.ld (.s 41),W⟩,
    ⟨Y 43,.bld [.int .i64 0,.int .i64 0] [(0,1,.s 40),(1,1,.s 42)],W⟩,
    ⟨Y 9,.alc [⟨T,.int .i64 0⟩,⟨T,.int .i64 0⟩],W⟩,
    ⟨W,.stb 2 9 (.s 43),W⟩] [1,4,7,9,12,16,17,18])
 (.seq (.seq (.region [⟨Y 45,.mv (.s 4),W⟩,
    ⟨Y 46,.lda (.s 9) 2,W⟩,
    ⟨Y 47,.mlk 12 (.s 45) (.s 46),W⟩,
    ⟨Y 44,.mv (.s 47),W⟩,
    ⟨Y 48,.ext (.s 44) 0,W⟩,
    ⟨Y 49,.ext (.s 44) 1,W⟩,
    ⟨Y 10,.mv (.s 48),W⟩,
    ⟨Y 11,.mv (.s 49),W⟩] [1,4,7,9,10,11,12,16,17,18])
 (.seq (.region [⟨Y 50,.mv (.s 11),W⟩,
    ⟨Y 51,.mv (.s 50),W⟩,
    ⟨Y 52,.mv (.s 10),Y (51,X)⟩,
    ⟨Y 53,.mv (.s 7),Y (51,X)⟩,
    ⟨Y 54,.bin (.i) .neq (.s 52) (.s 53),Y (51,X)⟩,
    ⟨Y 55,.pick (.s 51) (.s 54) (.c (.bool T)),W⟩] [1,4,7,9,12,16,17,18,55])
 (.cond (.s 55) (.seq (.region [⟨Y 2,.mv (.c .undef),W⟩,
    ⟨Y 3,.mv (.c (.int .i64 11)),W⟩] [2,3,12])
 .ret)
 (.skip [1,4,7,9,12,16,17,18]))))
 (.region [⟨Y 56,.mv (.s 4),W⟩,
    ⟨Y 57,.lda (.s 9) 2,W⟩,
    ⟨Y 58,.mv (.s 7),W⟩,
    ⟨W,.mup 12 (.s 56) (.s 57) (.s 58),W⟩] [1,4,12,16,17,18])))))))
 (.region [⟨Y 59,.bin (.i) .add (.s 18) (.c (.int .i64 1)),W⟩,
    ⟨Y 18,.mv (.s 59),W⟩] [1,4,12,16,17,18])))))))
 (.seq (.region [⟨Y 60,.mv (.s 4),W⟩,
    ⟨Y 2,.mv (.s 60),W⟩,
    ⟨Y 3,.mv (.c (.int .i64 0)),W⟩] [2,3,12])
 .ret)))) [.tmp 2,.tmp 3]:=b!
instance AAj(s:Bn):Ct Go.Proofs.Tryz.prog (IU s) 224 [fg s] Nb:=FiM xX λr h d e=>by
  unfold IU at h;have K:∀b:Nat,HA 0 18 17 0 λ(a:Int)(c:Bh)=>[(12,.mx (.mp b c)),(18,.tv (eI a))]:=λ_=>⟨⟩;have:zC 12:=⟨⟩;exact au
theorem ZV(t:AC)(s:Bn)(κ:List Fp)(p:(Int×Int)×Int)(a:Bh)(r:CF (List Fp) Unit)(h:Og t s κ p=Y r):WP (AW Go.Proofs.Tryz.prog) (.block 1 (.seq (.region [⟨Y 25,.men 22,W⟩,
    ⟨Y 26,.ext (.s 25) 0,W⟩,
    ⟨Y 27,.ext (.s 25) 1,W⟩,
    ⟨Y 7,.alc [⟨T,.int .i64 0⟩,⟨T,.int .i64 0⟩],W⟩,
    ⟨W,.stb 2 7 (.s 26),W⟩,
    ⟨Y 8,.mv (.s 27),W⟩] [1,2,7,8,22])
 (.seq (.draw [9,10,28,29,30,31,32,33,34,35,36,37,38,39,40,41,42] [⟨Y 29,.lda (.s 2) 2,W⟩,
    ⟨Y 30,.bad 1 0,W⟩,
    ⟨Y 31,.fad (.s 30) 0,W⟩,
    ⟨Y 32,.fad (.s 31) 31,W⟩,
    ⟨Y 33,.fad (.s 32) 0,W⟩,
    ⟨Y 34,.fad (.s 33) 0,W⟩,
    ⟨Y 35,.ld (.s 34),W⟩,
    ⟨Y 36,.bad 7 0,W⟩,
    ⟨Y 37,.ld (.s 36),W⟩,
    ⟨Y 38,.iad (.s 35) (.s 37) 1,W⟩,
    ⟨Y 39,.ld (.s 38),W⟩,
    ⟨Y 40,.call 110 [.s 29,.s 39],W⟩,
    ⟨Y 28,.mv (.s 40),W⟩,
    ⟨Y 41,.ext (.s 28) 0,W⟩,
    ⟨Y 42,.ext (.s 28) 1,W⟩,
    ⟨Y 9,.mv (.s 41),W⟩,
    ⟨Y 10,.mv (.s 42),W⟩] [1,2,7,8,9,22])
 (.seq (.seq (.region [⟨Y 43,.mv (.s 8),W⟩,
    ⟨Y 44,.mv (.s 9),W⟩,
    ⟨Y 45,.bad 7 1,W⟩,
    ⟨Y 46,.ld (.s 45),W⟩,
    ⟨Y 47,.iad (.s 44) (.s 46) 4,W⟩,
    ⟨Y 48,.fad (.s 47) 1,W⟩,
    ⟨Y 49,.ld (.s 48),W⟩,
    ⟨Y 50,.bin (.i) .lss (.s 43) (.s 49),W⟩,
    ⟨Y 51,.mv (.s 50),W⟩,
    ⟨Y 52,.mv (.s 8),Y (51,T)⟩,
    ⟨Y 53,.mv (.s 9),Y (51,T)⟩,
    ⟨Y 54,.bad 7 1,Y (51,T)⟩,
    ⟨Y 55,.ld (.s 54),Y (51,T)⟩,
    ⟨Y 56,.iad (.s 53) (.s 55) 4,Y (51,T)⟩,
    ⟨Y 57,.fad (.s 56) 2,Y (51,T)⟩,
    ⟨Y 58,.ld (.s 57),Y (51,T)⟩,
    ⟨Y 59,.bin (.i) .gtr (.s 52) (.s 58),Y (51,T)⟩,
    ⟨Y 60,.pick (.s 51) (.c (.bool X)) (.s 59),W⟩] [1,2,7,8,22,60])
 (.cond (.s 60) (.seq (.region [⟨Y 4,.mv (.c (.int .i64 6)),W⟩] [1,4])
 .ret)
 (.skip [1,2,7,8,22])))
 (.draw [61,62,63,64,65,66,67,68,69,70,71,72,73] [⟨Y 61,.bad 1 0,W⟩,
    ⟨Y 62,.fad (.s 61) 0,W⟩,
    ⟨Y 63,.fad (.s 62) 31,W⟩,
    ⟨Y 64,.fad (.s 63) 2,W⟩,
    ⟨Y 65,.lan (.s 64),W⟩,
    ⟨Y 66,.bad 7 0,W⟩,
    ⟨Y 67,.ld (.s 66),W⟩,
    ⟨Y 68,.nia (.s 65) (.s 67),W⟩,
    ⟨Y 69,.nld (.s 68),W⟩,
    ⟨Y 70,.bad 7 1,W⟩,
    ⟨Y 71,.ld (.s 70),W⟩,
    ⟨Y 72,.mv (.s 8),W⟩,
    ⟨Y 73,.nia (.s 69) (.s 71),W⟩,
    ⟨W,.nst (.s 73) (.s 72),W⟩] [1,2,22]))))) ⟨λe=>∃b,r=.next b/\Rn (e.eE [1,2,22]) [(1,.bx (Du (N2 s b))),(2,.tv (.pt (AS t).cells)),(22,.mx (.mi (Y p) a))],λ_ _=>False,λe=>∃v,r=.ret v/\Rn e [(1,.bx (Du (N2 s κ))),(4,.tv (eI 6))]⟩ [(1,.bx (Du (N2 s κ))),(2,.tv (.pt (AS t).cells)),(22,.mx (.mi (Y p) a))]:=by
  unfold Og at h;exact au
noncomputable def ac:PC:=(.seq (.region [⟨Y 2,.Abn (.s 0),W⟩,
    ⟨Y 4,.mv (.c (.int .i64 0)),W⟩] [1,2])
 (.seq (.region [⟨Y 12,.bad 1 0,W⟩,
    ⟨Y 13,.fad (.s 12) 0,W⟩,
    ⟨Y 14,.lda (.s 13) 38,W⟩,
    ⟨Y 15,.AaD 224 [.s 14],W⟩,
    ⟨Y 11,.mvm 15,W⟩,
    ⟨Y 16,.ext (.s 11) 0,W⟩,
    ⟨Y 17,.ext (.s 11) 1,W⟩,
    ⟨Y 5,.mv (.s 16),W⟩,
    ⟨Y 6,.mv (.s 17),W⟩] [1,2,5,6,15])
 (.seq (.seq (.region [⟨Y 18,.mv (.s 6),W⟩,
    ⟨Y 19,.bin (.i) .neq (.s 18) (.c (.int .i64 0)),W⟩] [1,2,5,6,15,19])
 (.cond (.s 19) (.seq (.region [⟨Y 20,.mv (.s 6),W⟩,
    ⟨Y 4,.mv (.s 20),W⟩] [1,4])
 .ret)
 (.skip [1,2,5,15])))
 (.seq (.seq (.region [⟨Y 21,.mv (.s 5),W⟩,
    ⟨Y 22,.sr 15 (.s 21),W⟩] [1,2,22])
 (.block 0 (.loop [1,2,22] (.seq (.region [⟨Y 23,.mnx 22,W⟩,
    ⟨Y 24,.ext (.s 23) 0,W⟩] [1,2,22,24])
 (.seq (.cond (.s 24) (.skip [1,2,22])
 (.exit 0 [1]))
 (.block 1 (.seq (.region [⟨Y 25,.men 22,W⟩,
    ⟨Y 26,.ext (.s 25) 0,W⟩,
    ⟨Y 27,.ext (.s 25) 1,W⟩,
    ⟨Y 7,.alc [⟨T,.int .i64 0⟩,⟨T,.int .i64 0⟩],W⟩,
    ⟨W,.stb 2 7 (.s 26),W⟩,
    ⟨Y 8,.mv (.s 27),W⟩] [1,2,7,8,22])
 (.seq (.draw [9,10,28,29,30,31,32,33,34,35,36,37,38,39,40,41,42] [⟨Y 29,.lda (.s 2) 2,W⟩,
    ⟨Y 30,.bad 1 0,W⟩,
    ⟨Y 31,.fad (.s 30) 0,W⟩,
    ⟨Y 32,.fad (.s 31) 31,W⟩,
    ⟨Y 33,.fad (.s 32) 0,W⟩,
    ⟨Y 34,.fad (.s 33) 0,W⟩,
    ⟨Y 35,.ld (.s 34),W⟩,
    ⟨Y 36,.bad 7 0,W⟩,
    ⟨Y 37,.ld (.s 36),W⟩,
    ⟨Y 38,.iad (.s 35) (.s 37) 1,W⟩,
    ⟨Y 39,.ld (.s 38),W⟩,
    ⟨Y 40,.call 110 [.s 29,.s 39],W⟩,
    ⟨Y 28,.mv (.s 40),W⟩,
    ⟨Y 41,.ext (.s 28) 0,W⟩,
    ⟨Y 42,.ext (.s 28) 1,W⟩,
    ⟨Y 9,.mv (.s 41),W⟩,
    ⟨Y 10,.mv (.s 42),W⟩] [1,2,7,8,9,22])
 (.seq (.seq (.region [⟨Y 43,.mv (.s 8),W⟩,
    ⟨Y 44,.mv (.s 9),W⟩,
    ⟨Y 45,.bad 7 1,W⟩,
    ⟨Y 46,.ld (.s 45),W⟩,
    ⟨Y 47,.iad (.s 44) (.s 46) 4,W⟩,
    ⟨Y 48,.fad (.s 47) 1,W⟩,
    ⟨Y 49,.ld (.s 48),W⟩,
    ⟨Y 50,.bin (.i) .lss (.s 43) (.s 49),W⟩,
    ⟨Y 51,.mv (.s 50),W⟩,
    ⟨Y 52,.mv (.s 8),Y (51,T)⟩,
    ⟨Y 53,.mv (.s 9),Y (51,T)⟩,
    ⟨Y 54,.bad 7 1,Y (51,T)⟩,
    ⟨Y 55,.ld (.s 54),Y (51,T)⟩,
    ⟨Y 56,.iad (.s 53) (.s 55) 4,Y (51,T)⟩,
    ⟨Y 57,.fad (.s 56) 2,Y (51,T)⟩,
    ⟨Y 58,.ld (.s 57),Y (51,T)⟩,
    ⟨Y 59,.bin (.i) .gtr (.s 52) (.s 58),Y (51,T)⟩,
    ⟨Y 60,.pick (.s 51) (.c (.bool X)) (.s 59),W⟩] [1,2,7,8,22,60])
 (.cond (.s 60) (.seq (.region [⟨Y 4,.mv (.c (.int .i64 6)),W⟩] [1,4])
 .ret)
 (.skip [1,2,7,8,22])))
 (.draw [61,62,63,64,65,66,67,68,69,70,71,72,73] [⟨Y 61,.bad 1 0,W⟩,
    ⟨Y 62,.fad (.s 61) 0,W⟩,
    ⟨Y 63,.fad (.s 62) 31,W⟩,
    ⟨Y 64,.fad (.s 63) 2,W⟩,
    ⟨Y 65,.lan (.s 64),W⟩,
    ⟨Y 66,.bad 7 0,W⟩,
    ⟨Y 67,.ld (.s 66),W⟩,
    ⟨Y 68,.nia (.s 65) (.s 67),W⟩,
    ⟨Y 69,.nld (.s 68),W⟩,
    ⟨Y 70,.bad 7 1,W⟩,
    ⟨Y 71,.ld (.s 70),W⟩,
    ⟨Y 72,.mv (.s 8),W⟩,
    ⟨Y 73,.nia (.s 69) (.s 71),W⟩,
    ⟨W,.nst (.s 73) (.s 72),W⟩] [1,2,22]))))))))))
 (.seq (.region [⟨Y 4,.mv (.c (.int .i64 0)),W⟩] [1,4])
 .ret)))))
theorem xV:CK f162 ac [.tmp 4]:=b!
theorem xy:PC.t5 ac=X/\PC.tg 1 ac=X:=b!
variable{t:AC}{s:Bn}
theorem ic{p:(Int×Int)×Int}{b:Bool}(h:Oh t s p=Y b){κ:List Fp}(a:OF κ s.og.eo):
    (b=X->Og t s κ p=Y (.next (C8 κ p)))/\(b=T->Og t s κ p=Y (.ret ())):=by
  unfold Oh Og at h;unfold Og;obtain⟨c,d,h⟩:=bind_some h;obtain⟨q,f,d⟩:=bind_some d;obtain⟨r,g,d⟩:=bind_some d;obtain⟨u,i,d⟩:=bind_some d;obtain⟨j,k,d⟩:=bind_some d;simp only[f,g,i,w?]at *;rw[k,w?];cases j with
  |true=>
    simp only[if_true,o4]at d|-;subst d;simp only[o4]at h;subst h;exact⟨λe=>l',λ_=>trivial⟩
  |false=>
    simp only[Bool.false_eq_true,if_false]at d|-;obtain⟨v,l,d⟩:=bind_some d;obtain⟨w,m,d⟩:=bind_some d;cases d;simp only[o4]at h;subst h;obtain⟨x,x',n,o⟩:=a.idx l m;refine⟨λ_=>?_,λe=>l'⟩;rw[n,w?,o,w?,na n o]
theorem ki{a:Bh}{c:Bool}(f:a.Dis)(g:AaA (Oh t s) a=Y c){M z:AB->Prop}{x:Nat->AB->Prop}{d:AB->Prop}
    (m:c=X->z [(1,.bx (Du (N2 s (a.foldl C8 s.og.eo))))])(n:c=T->∀κ,d [(1,.bx (Du (N2 s κ))),(4,.tv (eI 6))]):
    WP (AW Go.Proofs.Tryz.prog) (.loop [1,2,22] (.seq (.region [⟨Y 23,.mnx 22,W⟩,
    ⟨Y 24,.ext (.s 23) 0,W⟩] [1,2,22,24])
 (.seq (.cond (.s 24) (.skip [1,2,22])
 (.exit 0 [1]))
 (.block 1 (.seq (.region [⟨Y 25,.men 22,W⟩,
    ⟨Y 26,.ext (.s 25) 0,W⟩,
    ⟨Y 27,.ext (.s 25) 1,W⟩,
    ⟨Y 7,.alc [⟨T,.int .i64 0⟩,⟨T,.int .i64 0⟩],W⟩,
    ⟨W,.stb 2 7 (.s 26),W⟩,
    ⟨Y 8,.mv (.s 27),W⟩] [1,2,7,8,22])
 (.seq (.draw [9,10,28,29,30,31,32,33,34,35,36,37,38,39,40,41,42] [⟨Y 29,.lda (.s 2) 2,W⟩,
    ⟨Y 30,.bad 1 0,W⟩,
    ⟨Y 31,.fad (.s 30) 0,W⟩,
    ⟨Y 32,.fad (.s 31) 31,W⟩,
    ⟨Y 33,.fad (.s 32) 0,W⟩,
    ⟨Y 34,.fad (.s 33) 0,W⟩,
    ⟨Y 35,.ld (.s 34),W⟩,
    ⟨Y 36,.bad 7 0,W⟩,
    ⟨Y 37,.ld (.s 36),W⟩,
    ⟨Y 38,.iad (.s 35) (.s 37) 1,W⟩,
    ⟨Y 39,.ld (.s 38),W⟩,
    ⟨Y 40,.call 110 [.s 29,.s 39],W⟩,
    ⟨Y 28,.mv (.s 40),W⟩,
    ⟨Y 41,.ext (.s 28) 0,W⟩,
    ⟨Y 42,.ext (.s 28) 1,W⟩,
    ⟨Y 9,.mv (.s 41),W⟩,
    ⟨Y 10,.mv (.s 42),W⟩] [1,2,7,8,9,22])
 (.seq (.seq (.region [⟨Y 43,.mv (.s 8),W⟩,
    ⟨Y 44,.mv (.s 9),W⟩,
    ⟨Y 45,.bad 7 1,W⟩,
    ⟨Y 46,.ld (.s 45),W⟩,
    ⟨Y 47,.iad (.s 44) (.s 46) 4,W⟩,
    ⟨Y 48,.fad (.s 47) 1,W⟩,
    ⟨Y 49,.ld (.s 48),W⟩,
    ⟨Y 50,.bin (.i) .lss (.s 43) (.s 49),W⟩,
    ⟨Y 51,.mv (.s 50),W⟩,
    ⟨Y 52,.mv (.s 8),Y (51,T)⟩,
    ⟨Y 53,.mv (.s 9),Y (51,T)⟩,
    ⟨Y 54,.bad 7 1,Y (51,T)⟩,
    ⟨Y 55,.ld (.s 54),Y (51,T)⟩,
    ⟨Y 56,.iad (.s 53) (.s 55) 4,Y (51,T)⟩,
    ⟨Y 57,.fad (.s 56) 2,Y (51,T)⟩,
    ⟨Y 58,.ld (.s 57),Y (51,T)⟩,
    ⟨Y 59,.bin (.i) .gtr (.s 52) (.s 58),Y (51,T)⟩,
    ⟨Y 60,.pick (.s 51) (.c (.bool X)) (.s 59),W⟩] [1,2,7,8,22,60])
 (.cond (.s 60) (.seq (.region [⟨Y 4,.mv (.c (.int .i64 6)),W⟩] [1,4])
 .ret)
 (.skip [1,2,7,8,22])))
 (.draw [61,62,63,64,65,66,67,68,69,70,71,72,73] [⟨Y 61,.bad 1 0,W⟩,
    ⟨Y 62,.fad (.s 61) 0,W⟩,
    ⟨Y 63,.fad (.s 62) 31,W⟩,
    ⟨Y 64,.fad (.s 63) 2,W⟩,
    ⟨Y 65,.lan (.s 64),W⟩,
    ⟨Y 66,.bad 7 0,W⟩,
    ⟨Y 67,.ld (.s 66),W⟩,
    ⟨Y 68,.nia (.s 65) (.s 67),W⟩,
    ⟨Y 69,.nld (.s 68),W⟩,
    ⟨Y 70,.bad 7 1,W⟩,
    ⟨Y 71,.ld (.s 70),W⟩,
    ⟨Y 72,.mv (.s 8),W⟩,
    ⟨Y 73,.nia (.s 69) (.s 71),W⟩,
    ⟨W,.nst (.s 73) (.s 72),W⟩] [1,2,22])))))))) ⟨M,λj e=>if j=0 then z e else x j e,d⟩ [(1,.bx (Du s)),(2,.tv (.pt (AS t).cells)),(22,.mx (.mi W a))]:=by
  obtain ⟨m1,R⟩:=X5 g;refine⟨s8 _ (σ:=List Fp×Option ((Int×Int)×Int)×Bh) (λσ=>[(1,.bx (Du (N2 s σ.1))),(2,.tv (.pt (AS t).cells)),(22,.mx (.mi σ.2.1 σ.2.2))])
    (λσ=>OF σ.1 s.og.eo/\(∀l,σ.2.2.Perm l->l.foldl C8 σ.1=a.foldl C8 s.og.eo)/\(∀p∈σ.2.2,p∈a)/\(c=T->∃p∈σ.2.2,Oh t s p=Y T))
    (λσ=>σ.2.2.length) (s.og.eo,W,a) rfl ⟨rfl,λl A=>Xf f A _,λp r=>r,R⟩ ?_⟩
  rintro ⟨κ,last,u⟩ ⟨I,J,K,L⟩ η;refine WP.out (?_:WP _ _ _ _);apply Kn;apply Pc;refine yt rfl a_ (λe=>?_) (λp o r=>?_)
  · simp only at e
    subst e;have P:c=X:=by
      cases c with
      |true=>rfl|false=>obtain⟨p,r,_⟩:=L rfl;cases r
    have Q:κ=a.foldl C8 s.og.eo:=J [] (List.Perm.refl _);apply st 1;exact rfl;exact λ_ k=>k;apply NJ;exact w!;intro C;apply Kn;apply SF;exact rfl;exact rfl;apply kL;exact w!;show(if(0:Nat)=0 then z [(1,.bx (Du (N2 s κ)))]else x 0 [(1,.bx (Du (N2 s κ)))]);rw[aE rfl,Q];exact m P
  · apply st 1;exact rfl;exact λ_ k=>k
    apply NJ;exact w!;intro C;apply Kn;apply SG;exact rfl;exact rfl;apply a8;exact w!;intro O;have D:p∈u:=r.mem_iff.2 V;obtain⟨b,H,E⟩:=m1 p (K p D);obtain⟨S,θ⟩:=ic H I;cases b with
    |true=>
      refine ⟨PC.gE _ _ _ _ (ZV t s κ p o _ (S rfl)).out _ (λe he=>?_) (λ_ _ h=>h.elim) (λe he=>?_)⟩
      · obtain⟨ε,y,F⟩:=he
        cases y;refine⟨(C8 κ p,Y p,o),F.out,⟨(kh κ p).trans I,λl A=>?_,λq B=>K q (r.mem_iff.2 (by simp[B])),λN=>?_⟩,?_⟩
        .exact J (p::l) (r.trans (A.cons p))
        · obtain⟨q,B,w⟩:=L N
          rcases List.mem_cons.1 (r.mem_iff.1 B)with rfl|G
          .rw[H]at w;cases w
          .exact⟨q,G,w⟩
        · have:=r.length_eq
          simp only[az]at this;show o.length<u.length;omega
      · obtain⟨v,y,_⟩:=he
        cases y
    |false=>
      refine ⟨PC.gE _ _ _ _ (ZV t s κ p o _ (θ rfl)).out _ (λe he=>?_) (λ_ _ h=>h.elim) (λe he=>?_)⟩
      · obtain⟨ε,y,_⟩:=he
        cases y
      · obtain⟨v,_,F⟩:=he
        rw [F.out];exact n (by cases c with|false=>rfl|true=>exact absurd (E rfl) V) κ
instance AAg(t:AC)(s:Bn):Ct Go.Proofs.Tryz.prog (LU t s) 162 [AS t,.undef] (λr=>.bo (Du s) (if(!decide (r.1=0))=X then(Du r.2).set 33 ⟨T,.undef⟩else Du r.2) 1 [eI r.1]):=zX xV xy λr h v l=>by
  unfold ac;unfold LU at h;obtain⟨a,q,h⟩:=bind_some h;have d:=(inferInstance:Ct Go.Proofs.Tryz.prog (IU s) 224 [fg s] Nb).snd a q;apply Kn;apply Pc;apply st 1;exact rfl;exact λ_ k=>k;apply st 1;exact rfl;exact λ_ k=>k;apply NJ;exact w!;intro m;apply Kn;apply Pc;apply st 1;exact rfl;exact λ_ k=>k;apply st 1;exact rfl;exact λ_ k=>k;apply st 2;exact rfl;exact λ_ k=>⟨Nat.le_of_ble_eq_true rfl,k⟩;by_cases he:a.2=0
  · have e:Nb a=.mpr a.1 [.int .i64 a.2]:=aE he
    rw [e]at d;rw[aN (by simp[he])]at h;split at h
    · rename_i hd
      have hd:Bh.Dis a.1:=(show List.Pairwise (λx y:(Int×Int)×Int=>x.1≠y.1) a.1 from of_decide_eq_true hd);obtain⟨c,u,h⟩:=bind_some h;refine oj rfl d (λb=>?_);apply st 1;exact rfl;exact λ_ k=>k;apply st 1;exact rfl;exact λ_ k=>k;apply st 1;exact rfl;exact λ_ k=>k;apply st 1;exact rfl;exact λ_ k=>k;apply st 1;exact rfl;exact λ_ k=>k;apply NJ;exact w!;intro g;apply Kn;apply Kn;apply Pc;apply st 1;exact rfl;exact λ_ k=>k;apply st 1;exact rfl;exact λ_ k=>k;apply NJ;exact w!;intro i;apply SF;exact rfl;simp[he];apply a8;exact w!;intro j;apply Kn;apply Kn;apply Pc;apply st 1;exact rfl;exact λ_ k=>k;apply st 2;exact rfl;exact λ_ k=>⟨⟨a_,rfl⟩,k⟩;apply NJ;exact w!;intro n;apply fR;refine ki hd u (λf=>?_) (λf κ=>?_)
      · intro o
        apply Kn;apply Pc;apply st 1;exact rfl;exact λ_ k=>k;apply NJ;exact w!;intro p;apply iM;rw[aE f]at h;cases h;exact⟨_,Wk.refl _,rfl,rfl⟩
      · rw[aN (by simp[f])]at h
        cases h;refine⟨_,?_,rfl,rfl⟩;exact Wk.set (Du (N2 s κ)) 33
    .cases h
  · have e:Nb a=.tp [.undef,.int .i64 a.2]:=aN he
    rw [e]at d;rw[aE (by simp[he])]at h;refine oi rfl d ?_;apply st 1;exact rfl;exact λ_ k=>k;apply st 1;exact rfl;exact λ_ k=>k;apply st 1;exact rfl;exact λ_ k=>k;apply st 1;exact rfl;exact λ_ k=>k;apply st 1;exact rfl;exact λ_ k=>k;apply NJ;exact w!;intro g;apply Kn;apply Kn;apply Pc;apply st 1;exact rfl;exact λ_ k=>k;apply st 1;exact rfl;exact λ_ k=>k;apply NJ;exact w!;intro i;apply SG;exact rfl;simp[he];apply Kn;apply Pc;apply st 1;exact rfl;exact λ_ k=>k;apply st 1;exact rfl;exact λ_ k=>k;apply NJ;exact w!;intro j;apply iM;cases h;simp only[he,decide_false,Bool.not_false,if_true];exact⟨_,Wk.set (Du s) 33,rfl,rfl⟩
end Go.Sf.Sc
