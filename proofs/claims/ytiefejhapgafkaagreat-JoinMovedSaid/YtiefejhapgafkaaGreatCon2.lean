/- Contracts of the functions. -/
import Derived.Test.YtiefejhapgafkaaGreatCon1
set_option linter.all false
set_option maxRecDepth 100000
set_option maxHeartbeats 4000000
open Option renaming some->Y,none->W
open Bool renaming true->X,false->T
open Option renaming bind_some->x!
namespace Go.Sf.Sc
open Go Go.Sf Go.Proofs.Tryz
theorem x_{p:Prop}(h:p:=by repeat(first|exact Js|(apply MU;exact rfl)|(apply MR;exact rfl)|(apply MS;exact rfl)|(apply MV;exact rfl)|(apply MT;exact rfl))):p:=h
theorem AA0:CK f313 (Rq [An 6 0,An 7 1,An 8 2,An 9 3,Ap 12 2] [4,5,6,7,8,9]<|Sq (Dr [13,14,15,16,17,18,19,20,21] [Ab 14 7 2,Ab 15 8 2,Ab 16 6 2,⟨Y 17,.call 320 [.s 16],W⟩,Ab 18 9 2,Aa 19 4,Aa 20 5,⟨Y 21,.bld [.list 1 [],.list 3 [],.list 1 [],.list 3 [],.list 1 [],.nil,.nil,.bool T,.int .i64 0,.nil,.nil,.nil] [(0,2,.s 14),(2,2,.s 15),(4,1,.s 17),(5,2,.s 18),(7,1,.s 19),(8,1,.s 20)],W⟩,⟨Y 22,.Abi [W,W,W,W,W,W,W,W,W,Y ⟨X,.xl 1 []⟩,Y ⟨X,.xl 1 []⟩,Y ⟨X,.list 2 []⟩] (.s 21),W⟩,Ak 13 22 0] [13,22])<|Rq [Ar 23 13 0,⟨Y 24,.Aas 351 [.s 23] 0,W⟩] [13,22]<|Rq [Ar 25 13 0,Ar 26 25 0,Ar 27 26 11,Aj 28 27,Ad 12 28] [12]<|.ret) [.tmp 12]:=c_
instance(a b c d e f):CT (GV a b c d e f) 313 [AL a,A5 b,A5 c,th d,eB e,eI f] (rS (eL 2 A9)):=Fi AA0 λr h g i=>by
  unfold GV at h;exact au
instance(a b c d e):CT (J1 a b c d e) 253 [AL a,A5 b,A5 c,th d,eB e] (rT (eL 2 A9) eI):=Fe f253 0x8182015902c0d101820eed5555a2024062620401 [] (J1.eq_1 ..)
instance(a b):CT (Oc a b) 413 [eI a,.pt [eI b]] rB:=Fe f413 0x81a6033684ba [] (Oc.eq_1 ..)
instance(a b):CT (Il a b) 407 [lI a,eI b] rI:=Fe f407 0xdf8e1036b801 [] (Il.eq_1 ..)
instance(a b c d e):CT (H8 a b c d e) 394 [AL a,A5 b,A5 c,A9 d,eB e] (rT (eL 2 A9) eI):=Fe f394 0x8182730eed55559f02c0bdf95d5902c0bde05c5902c08aebf95ae0e05902c0f655a2024062620401 [] (H8.eq_1 ..)
instance(a b):CT (Fv a b) 328 [Sv a,lI b] (rT eI eI):=Fe f328 0x9d0e019f81d570015c36dc [] (Fv.eq_1 ..)
instance(a b c d):CT (EZ a b c d) 395 [C0 a,BS b,A9 c,lI d] (rT lI eB):=iq f395 0x8182180a016867660a04ec01c08820149bb907c99b05430afc6867660a04e3f2a6022c2b2ae1a708ec01c08a84a560817301201455be2c2b2a0f0ee1a70a2c2b2a0f0ee1a70a3cf5f50580be361401148a0817cd01145a6074be81615d61615c5c5e41be044b0bc9d90443a602652c2b2ae1a708e3bee1a7052221e1a70792f50114c4e1a705652221e1a7079701993fcc993f7001cc1a013640936237 [.Abd 1 22 (.int .i64 0) (.s 27),.mkx 1 [.bool T] (.s 30)] (EZ.eq_1 ..) (BH 0 34 33 0 (hX 11 1 eB)) (BH 2 44 43 0 λs2:Fp×a6=>[(10,.xo 1 (List.map eI s2.1)),(11,.xo 1 (List.map eB s2.2))]) (BN 4 104 103 0)
instance(a b c):CT (Ci a b c) 385 [C0 a,AI b,By c] (rT (eL 3 By) eI):=B3 f385 0x81f00c013b3a390cea07923b3a390cea073b3a390cea073c02034803471846ed029de4b4559bf2064489d85502430cfc3b3a390cea07978103c05903c07fe403054255555bbe55c689d80e460ef380bef90ec374bee089fd555b047d0340fa [] (Ci.eq_1 ..) (BH 0 59 58 0 (hO 12 (eL 3 By)))
abbrev AbP(n:Nat):Prop:=∀(a:Bk)(c:d5)(m:AQ),CT (BB n a c m) 325 [C0 a,AI c,By m] (rT FI eI)
abbrev AbT(n:Nat):Prop:=∀(a:Bk)(c:d5)(m:AQ),CT (Bg n a c m) 360 [C0 a,AI c,By m] (rT FI eI)
theorem AAj(n:Nat)(_ih_325:AbP n)(_ih_360:AbT n)(a:Bk)(c:d5)(m:AQ):CT (BB (n+1) a c m) 325 [C0 a,AI c,By m] (rT FI eI):=Fk f325 0x81b91946ff59b9730e6ca80644d781b9194606014b4a499e0306ecb9011946850159b91a4605479b7fb912c9786ca80644094b810fc9a8097e06fc4b4a499e0306e3c1d781b99b0a06022f2e2d0a9e030792e8f2054805479b04f259b90119f8b912c9786ca80644094b0fc9a809430a0602652f2e2d0a9e0307e3c112c9d781b9011946ff59b91946d781b91946d79db91249786ca809435d0644d783380112c9fa [] [.cell 6 (Y 5),.tmp 7] λr h b d=>by
  unfold BB at h;have:=BH 2 47 46 0 λs2:BO×BO=>[(6,.bx [⟨T,eI s2.1.Aaq⟩,⟨X,lI s2.1.ll.d4.dl⟩,⟨X,lI s2.1.ll.d4.dr⟩,⟨X,lI s2.1.ll.em⟩,⟨X,JM s2.1.fl⟩]),(10,.bx [⟨T,eI s2.2.Aaq⟩,⟨X,lI s2.2.ll.d4.dl⟩,⟨X,lI s2.2.ll.d4.dr⟩,⟨X,lI s2.2.ll.em⟩,⟨X,JM s2.2.fl⟩])];have:=BH 4 75 74 0 λs4:BO=>[(6,.bx [⟨T,eI s4.Aaq⟩,⟨X,lI s4.ll.d4.dl⟩,⟨X,lI s4.ll.d4.dr⟩,⟨X,lI s4.ll.em⟩,⟨X,JM s4.fl⟩])];exact nz
theorem AAp(n:Nat)(_ih_325:AbP n)(_ih_360:AbT n)(a:Bk)(c:d5)(m:AQ):CT (Bg (n+1) a c m) 360 [C0 a,AI c,By m] (rT FI eI):=Fk f360 0x81b9194606011b1a1906040306ecb9011946850159b91b4605479b6c71b912c9786ca809435d0644ad18c9d64306fc1b1a190604030697dfb90119f8e46ca806440112c9fa [] [.cell 6 (Y 5),.tmp 7] λr h b d=>by
  unfold Bg at h;have:=BH 0 27 26 0 λs0:BO=>[(6,.bx [⟨T,eI s0.Aaq⟩,⟨X,lI s0.ll.d4.dl⟩,⟨X,lI s0.ll.d4.dr⟩,⟨X,lI s0.ll.em⟩,⟨X,JM s0.fl⟩])];exact nz
theorem tX:∀n:Nat,AbP n/\AbT n:=by
  intro n
  induction n with
  |zero=>exact⟨(λb c m=>⟨λ_ h=>c!⟩),(λb c m=>⟨λ_ h=>c!⟩)⟩
  |succ n a=>exact⟨AAj n a.1 a.2,AAp n a.1 a.2⟩
instance(s_0 c m):CT (F8 s_0 c m) 325 [C0 s_0,AI c,By m] (rT FI eI):=⟨λr h=>by
  obtain ⟨N,a⟩:=C3 h;exact((tX N).1 s_0 c m).snd r (a N (az _))⟩
instance(s_0 c m):CT (RF s_0 c m) 360 [C0 s_0,AI c,By m] (rT FI eI):=⟨λr h=>by
  obtain ⟨N,a⟩:=C3 h;exact((tX N).2 s_0 c m).snd r (a N (az _))⟩
instance(a b c d e f):CT (E3 a b c d e f) 263 [AL a,BS b,AI c,Bn d,By e,eB f] (rT FI eI):=Fk f263 0x81b9730e6ca82146016c9fb90119f80e016c6ca89ba212c993626284 [] [.cell 12 (Y 5),.tmp 13] λr h g i=>by
  unfold E3 at h;exact nz
instance(a b c d e f):CT (EH a b c d e f) 209 [AL a,BS b,AI c,Bn d,By e,eB f] (rT eB eI):=Fe f209 0x9d5a01fb71b9124978016c6ca89b553693626284 [] (EH.eq_1 ..)
instance(a):CT (K3 a) 210 [By a] (rS By):=Fk f210 0xa93bad18460eb40e460ef30ec318c9b8 [] [.cell 2 (Y 3)] λr h b c=>by
  unfold K3 at h;exact nz
instance(a):CT (L6 a) 211 [Bn a] (rS Bn):=Fk f211 0xad6c5e02e6115e0592e8027dcf0148364704be82615e0265e6115e05e3be035011c93f3f0ef30ec311c9b8 [.Aaj [.w 9,.w 13],.Aaj [.g 14 0 2,.g 14 1 2,.z ⟨X,.list 1 []⟩]] [.cell 2 (Y 3)] λr h b c=>by
  unfold L6 at h;have:=BH 0 19 18 0 λs0:AE=>[(3,.bx [⟨X,lI s0.d3.dl⟩,⟨X,lE s0.d3.dr⟩,⟨X,(eL 1 lI) s0.ec⟩])];exact nz
instance(a b):CT (Nq a b) 212 [eI a,lI b] (rO lI):=B3 f212 0x821884c8840492f53614c807068406c8070684063c018860817836815afcc88404819514993f36406b02 [.mkx 1 [.int .i64 0] (.s 9)] (Nq.eq_1 ..) (BH 0 13 12 0 (hX 5 1 eI))
instance(a b c d e f):CT (Hm a b c d e f) 213 [eI a,lI b,lI c,lI d,lI e,eI f] (rO lI):=KV f213 0x82180d012b2a0d6a922b2a0d6a2b2a0d6a5f36ef36148517cd0114c40dfc2b2a0d6a8195140d05021615140d6a370892f561618c3636149d8c0d0502651615140d6a37089781991a36470140e76b06 [] (Hm.eq_1 ..) (BH 0 22 21 0 (hX 13 1 eI)) (BH 2 43 42 0 λs2:Int×Fp=>[(5,.tv (eI s2.1)),(13,.xo 1 (List.map eI s2.2))])
instance(a b):CT (Lp a b) 265 [AL a,eI b] (rO lI):=B3 f265 0xf00701e611070492a9cf5d02044b05c9d9044307fce6110704978182b201e401a240dc [] (Lp.eq_1 ..) (BH 0 19 18 0 (hO 7 lI))
noncomputable def dG:PC:=PC.of OP f214.body (xq bT 0x36b0afae010492b0afae0104b0afae01043ce801771f7703480347074661b47424b1615d7424b15c0401771fb138d137771fb18c8024b1ad81f1d67e3665b0afae0104e3c107da7b7a79073706927b7a790737067b7a790737063c1f02411f7721221aed2302411fb138e85b5b1f7701cf01045b5b1fb138d1745b1fb18c7424b19d8c07da657b7a79073706e3380737ad4a490706370792e801771f7703480347074661b47422b1615d7422b15c0401771fb138adf1d67ef38161073703654b4a4907063707e3c1fe37051e1d1cfe3708921f02411f772122014f8c5e7d562302411fb138e85b5b1f7701cf8cc3045b5b1fb1388161fe3705651e1d1cfe3708e33889adfd11c9555b06775b386c1cb16236) []
theorem AAw:CK f214 dG []:=c_
theorem ABP:PC.t1 dG=X/\PC.t2 1 dG=X:=c_
instance(a b c):CT (J5 a b c) 214 [AL a,.undef,Ht c] (λr=>.bo (EA b) (EA r) 1 []):=ir AAw ABP λr h e d f=>by
  unfold dG;unfold f214;unfold J5 at h;have:=BH 0 30 29 0 λs0:AT=>[(1,.bx (EA s0))];have:=BH 2 75 74 0 λs2:AT=>[(1,.bx (EA s2))];have:=BH 4 123 122 0 λs4:AT=>[(1,.bx (EA s4))];have:=BH 6 176 175 0 λs6:AT=>[(1,.bx (EA s6))];exact nz
theorem AAz:CK f266 (.seq (.region [⟨Y 1,.Abn (.s 0),W⟩,
    ⟨Y 2,.mv (.c .undef),W⟩,
    ⟨Y 3,.mv (.c (.int .i64 0)),W⟩] [1])
 (.seq (.region [⟨Y 12,.mkm,W⟩,
    ⟨Y 4,.mvm 12,W⟩] [1,4,12])
 (.seq (.seq (.region [⟨Y 13,.bad 1 0,W⟩,
    ⟨Y 14,.fad (.s 13) 6,W⟩,
    ⟨Y 15,.fad (.s 14) 2,W⟩,
    ⟨Y 16,.ld (.s 15),W⟩,
    ⟨Y 17,.len (.s 16),W⟩,
    ⟨Y 18,.mv (.c (.int .i64 0)),W⟩] [1,4,12,16,17,18])
 (.block 0 (.loop [1,4,12,16,17,18] (.seq (.region [⟨Y 19,.bin (.i) .lss (.s 18) (.s 17),W⟩] [1,4,12,16,17,18,19])
 (.seq (.cond (.s 19) (.skip [1,4,12,16,17,18])
 (.exit 0 [4,12]))
 (.seq (.block 1 (.seq (.region [⟨Y 20,.iad (.s 16) (.s 18) 4,W⟩,
    ⟨Y 21,.lda (.s 20) 4,W⟩,
    ⟨Y 6,.alc [⟨T,.int .i64 0⟩,⟨T,.int .i64 0⟩,⟨T,.int .i64 0⟩,⟨T,.int .i64 0⟩],W⟩,
    ⟨W,.stb 4 6 (.s 21),W⟩] [1,4,6,12,16,17,18])
 (.seq (.region [⟨Y 23,.bad 6 2,W⟩,
    ⟨Y 24,.lda (.s 23) 2,W⟩,
    ⟨Y 25,.bad 1 25,W⟩,
    ⟨Y 26,.fad (.s 25) 2,W⟩,
    ⟨Y 27,.ld (.s 26),W⟩,
    ⟨Y 28,.call 328 [.s 24,.s 27],W⟩,
    ⟨Y 22,.mv (.s 28),W⟩,
    ⟨Y 29,.ext (.s 22) 0,W⟩,
    ⟨Y 30,.ext (.s 22) 1,W⟩,
    ⟨Y 7,.mv (.s 29),W⟩,
    ⟨Y 8,.mv (.s 30),W⟩] [1,4,6,7,8,12,16,17,18])
 (.seq (.seq (.region [⟨Y 31,.mv (.s 8),W⟩,
    ⟨Y 32,.bin (.i) .neq (.s 31) (.c (.int .i64 0)),W⟩] [1,4,6,7,8,12,16,17,18,32])
 (.cond (.s 32) (.seq (.region [⟨Y 33,.mv (.s 8),W⟩,
    ⟨Y 2,.mv (.c .undef),W⟩,
    ⟨Y 3,.mv (.s 33),W⟩] [2,3,12])
 .ret)
 (.skip [1,4,6,7,12,16,17,18])))
 (.seq (.draw [9,34,35,36,37,38,39,40,41,42,43] [⟨Y 34,.bad 1 36,W⟩,
    ⟨Y 35,.fad (.s 34) 0,W⟩,
    ⟨Y 36,.ld (.s 35),W⟩,
    ⟨Y 37,.bad 6 0,W⟩,
    ⟨Y 38,.ld (.s 37),W⟩,
    ⟨Y 39,.iad (.s 36) (.s 38) 1,W⟩,
    ⟨Y 40,.ld (.s 39),W⟩,
    ⟨Y 41,.bad 6 1,W⟩,
    ⟨Y 42,.ld (.s 41),W⟩,
    ⟨Y 43,.bld [.int .i64 0,.int .i64 0] [(0,1,.s 40),(1,1,.s 42)],W⟩,
    ⟨Y 9,.alc [⟨T,.int .i64 0⟩,⟨T,.int .i64 0⟩],W⟩,
    ⟨W,.stb 2 9 (.s 43),W⟩] [1,4,7,9,12,16,17,18])
 (.seq (.seq (.region [⟨Y 45,.mv (.s 4),W⟩,
    ⟨Y 46,.lda (.s 9) 2,W⟩,
    ⟨Y 47,.mlk 12 (.s 45) (.s 46),W⟩,
    ⟨Y 44,.mv (.s 47),W⟩,
    ⟨Y 48,.ext (.s 44) 0,W⟩,
    ⟨Y 49,.ext (.s 44) 1,W⟩,
    ⟨Y 10,.mv (.s 48),W⟩,
    ⟨Y 11,.mv (.s 49),W⟩] [1,4,7,9,10,11,12,16,17,18])
 (.seq (.region [⟨Y 50,.mv (.s 11),W⟩,
    ⟨Y 51,.mv (.s 50),W⟩,
    ⟨Y 52,.mv (.s 10),Y (51,X)⟩,
    ⟨Y 53,.mv (.s 7),Y (51,X)⟩,
    ⟨Y 54,.bin (.i) .neq (.s 52) (.s 53),Y (51,X)⟩,
    ⟨Y 55,.pick (.s 51) (.s 54) (.c (.bool T)),W⟩] [1,4,7,9,12,16,17,18,55])
 (.cond (.s 55) (.seq (.region [⟨Y 2,.mv (.c .undef),W⟩,
    ⟨Y 3,.mv (.c (.int .i64 11)),W⟩] [2,3,12])
 .ret)
 (.skip [1,4,7,9,12,16,17,18]))))
 (.region [⟨Y 56,.mv (.s 4),W⟩,
    ⟨Y 57,.lda (.s 9) 2,W⟩,
    ⟨Y 58,.mv (.s 7),W⟩,
    ⟨W,.mup 12 (.s 56) (.s 57) (.s 58),W⟩] [1,4,12,16,17,18])))))))
 (.region [⟨Y 59,.bin (.i) .add (.s 18) (.c (.int .i64 1)),W⟩,
    ⟨Y 18,.mv (.s 59),W⟩] [1,4,12,16,17,18])))))))
 (.seq (.region [⟨Y 60,.mv (.s 4),W⟩,
    ⟨Y 2,.mv (.s 60),W⟩,
    ⟨Y 3,.mv (.c (.int .i64 0)),W⟩] [2,3,12])
 .ret)))) [.tmp 2,.tmp 3]:=c_
instance ADQ(s:AT):Ct Go.Proofs.Tryz.prog (JT s) 266 [jI s] PY:=FiM AAz λr h d e=>by
  unfold JT at h;have K:∀b:Nat,HA 0 18 17 0 λ(c:Int)(a:Bj)=>[(12,.mx (.mp b a)),(18,.tv (eI c))]:=λ_=>⟨⟩;have:HMO 12:=⟨⟩;exact au
theorem aL(t:AC)(s:AT)(κ:List Fp)(p:(Int×Int)×Int)(a:Bj)(r:B2 (List Fp) Unit)(h:QY t s κ p=Y r):WP (AV Go.Proofs.Tryz.prog) (.block 1 (.seq (.region [⟨Y 25,.men 22,W⟩,
    ⟨Y 26,.ext (.s 25) 0,W⟩,
    ⟨Y 27,.ext (.s 25) 1,W⟩,
    ⟨Y 7,.alc [⟨T,.int .i64 0⟩,⟨T,.int .i64 0⟩],W⟩,
    ⟨W,.stb 2 7 (.s 26),W⟩,
    ⟨Y 8,.mv (.s 27),W⟩] [1,2,7,8,22])
 (.seq (.draw [9,10,28,29,30,31,32,33,34,35,36,37,38,39,40,41,42] [⟨Y 29,.lda (.s 2) 2,W⟩,
    ⟨Y 30,.bad 1 0,W⟩,
    ⟨Y 31,.fad (.s 30) 0,W⟩,
    ⟨Y 32,.fad (.s 31) 31,W⟩,
    ⟨Y 33,.fad (.s 32) 0,W⟩,
    ⟨Y 34,.fad (.s 33) 0,W⟩,
    ⟨Y 35,.ld (.s 34),W⟩,
    ⟨Y 36,.bad 7 0,W⟩,
    ⟨Y 37,.ld (.s 36),W⟩,
    ⟨Y 38,.iad (.s 35) (.s 37) 1,W⟩,
    ⟨Y 39,.ld (.s 38),W⟩,
    ⟨Y 40,.call 267 [.s 29,.s 39],W⟩,
    ⟨Y 28,.mv (.s 40),W⟩,
    ⟨Y 41,.ext (.s 28) 0,W⟩,
    ⟨Y 42,.ext (.s 28) 1,W⟩,
    ⟨Y 9,.mv (.s 41),W⟩,
    ⟨Y 10,.mv (.s 42),W⟩] [1,2,7,8,9,22])
 (.seq (.seq (.region [⟨Y 43,.mv (.s 8),W⟩,
    ⟨Y 44,.mv (.s 9),W⟩,
    ⟨Y 45,.bad 7 1,W⟩,
    ⟨Y 46,.ld (.s 45),W⟩,
    ⟨Y 47,.iad (.s 44) (.s 46) 4,W⟩,
    ⟨Y 48,.fad (.s 47) 1,W⟩,
    ⟨Y 49,.ld (.s 48),W⟩,
    ⟨Y 50,.bin (.i) .lss (.s 43) (.s 49),W⟩,
    ⟨Y 51,.mv (.s 50),W⟩,
    ⟨Y 52,.mv (.s 8),Y (51,T)⟩,
    ⟨Y 53,.mv (.s 9),Y (51,T)⟩,
    ⟨Y 54,.bad 7 1,Y (51,T)⟩,
    ⟨Y 55,.ld (.s 54),Y (51,T)⟩,
    ⟨Y 56,.iad (.s 53) (.s 55) 4,Y (51,T)⟩,
    ⟨Y 57,.fad (.s 56) 2,Y (51,T)⟩,
    ⟨Y 58,.ld (.s 57),Y (51,T)⟩,
    ⟨Y 59,.bin (.i) .gtr (.s 52) (.s 58),Y (51,T)⟩,
    ⟨Y 60,.pick (.s 51) (.c (.bool X)) (.s 59),W⟩] [1,2,7,8,22,60])
 (.cond (.s 60) (.seq (.region [⟨Y 4,.mv (.c (.int .i64 6)),W⟩] [1,4])
 .ret)
 (.skip [1,2,7,8,22])))
 (.draw [61,62,63,64,65,66,67,68,69,70,71,72,73] [⟨Y 61,.bad 1 0,W⟩,
    ⟨Y 62,.fad (.s 61) 0,W⟩,
    ⟨Y 63,.fad (.s 62) 31,W⟩,
    ⟨Y 64,.fad (.s 63) 2,W⟩,
    ⟨Y 65,.lan (.s 64),W⟩,
    ⟨Y 66,.bad 7 0,W⟩,
    ⟨Y 67,.ld (.s 66),W⟩,
    ⟨Y 68,.nia (.s 65) (.s 67),W⟩,
    ⟨Y 69,.nld (.s 68),W⟩,
    ⟨Y 70,.bad 7 1,W⟩,
    ⟨Y 71,.ld (.s 70),W⟩,
    ⟨Y 72,.mv (.s 8),W⟩,
    ⟨Y 73,.nia (.s 69) (.s 71),W⟩,
    ⟨W,.nst (.s 73) (.s 72),W⟩] [1,2,22]))))) ⟨λe=>∃b,r=.next b/\Rn (e.fd [1,2,22]) [(1,.bx (EA (Pt s b))),(2,.tv (.pt (AL t).cells)),(22,.mx (.mi (Y p) a))],λ_ _=>False,λe=>∃v,r=.ret v/\Rn e [(1,.bx (EA (Pt s κ))),(4,.tv (eI 6))]⟩ [(1,.bx (EA (Pt s κ))),(2,.tv (.pt (AL t).cells)),(22,.mx (.mi (Y p) a))]:=by
  unfold QY at h;exact au
noncomputable def dH:PC:=(.seq (.region [⟨Y 2,.Abn (.s 0),W⟩,
    ⟨Y 4,.mv (.c (.int .i64 0)),W⟩] [1,2])
 (.seq (.region [⟨Y 12,.bad 1 0,W⟩,
    ⟨Y 13,.fad (.s 12) 0,W⟩,
    ⟨Y 14,.lda (.s 13) 38,W⟩,
    ⟨Y 15,.AaF 266 [.s 14],W⟩,
    ⟨Y 11,.mvm 15,W⟩,
    ⟨Y 16,.ext (.s 11) 0,W⟩,
    ⟨Y 17,.ext (.s 11) 1,W⟩,
    ⟨Y 5,.mv (.s 16),W⟩,
    ⟨Y 6,.mv (.s 17),W⟩] [1,2,5,6,15])
 (.seq (.seq (.region [⟨Y 18,.mv (.s 6),W⟩,
    ⟨Y 19,.bin (.i) .neq (.s 18) (.c (.int .i64 0)),W⟩] [1,2,5,6,15,19])
 (.cond (.s 19) (.seq (.region [⟨Y 20,.mv (.s 6),W⟩,
    ⟨Y 4,.mv (.s 20),W⟩] [1,4])
 .ret)
 (.skip [1,2,5,15])))
 (.seq (.seq (.region [⟨Y 21,.mv (.s 5),W⟩,
    ⟨Y 22,.tg 15 (.s 21),W⟩] [1,2,22])
 (.block 0 (.loop [1,2,22] (.seq (.region [⟨Y 23,.mnx 22,W⟩,
    ⟨Y 24,.ext (.s 23) 0,W⟩] [1,2,22,24])
 (.seq (.cond (.s 24) (.skip [1,2,22])
 (.exit 0 [1]))
 (.block 1 (.seq (.region [⟨Y 25,.men 22,W⟩,
    ⟨Y 26,.ext (.s 25) 0,W⟩,
    ⟨Y 27,.ext (.s 25) 1,W⟩,
    ⟨Y 7,.alc [⟨T,.int .i64 0⟩,⟨T,.int .i64 0⟩],W⟩,
    ⟨W,.stb 2 7 (.s 26),W⟩,
    ⟨Y 8,.mv (.s 27),W⟩] [1,2,7,8,22])
 (.seq (.draw [9,10,28,29,30,31,32,33,34,35,36,37,38,39,40,41,42] [⟨Y 29,.lda (.s 2) 2,W⟩,
    ⟨Y 30,.bad 1 0,W⟩,
    ⟨Y 31,.fad (.s 30) 0,W⟩,
    ⟨Y 32,.fad (.s 31) 31,W⟩,
    ⟨Y 33,.fad (.s 32) 0,W⟩,
    ⟨Y 34,.fad (.s 33) 0,W⟩,
    ⟨Y 35,.ld (.s 34),W⟩,
    ⟨Y 36,.bad 7 0,W⟩,
    ⟨Y 37,.ld (.s 36),W⟩,
    ⟨Y 38,.iad (.s 35) (.s 37) 1,W⟩,
    ⟨Y 39,.ld (.s 38),W⟩,
    ⟨Y 40,.call 267 [.s 29,.s 39],W⟩,
    ⟨Y 28,.mv (.s 40),W⟩,
    ⟨Y 41,.ext (.s 28) 0,W⟩,
    ⟨Y 42,.ext (.s 28) 1,W⟩,
    ⟨Y 9,.mv (.s 41),W⟩,
    ⟨Y 10,.mv (.s 42),W⟩] [1,2,7,8,9,22])
 (.seq (.seq (.region [⟨Y 43,.mv (.s 8),W⟩,
    ⟨Y 44,.mv (.s 9),W⟩,
    ⟨Y 45,.bad 7 1,W⟩,
    ⟨Y 46,.ld (.s 45),W⟩,
    ⟨Y 47,.iad (.s 44) (.s 46) 4,W⟩,
    ⟨Y 48,.fad (.s 47) 1,W⟩,
    ⟨Y 49,.ld (.s 48),W⟩,
    ⟨Y 50,.bin (.i) .lss (.s 43) (.s 49),W⟩,
    ⟨Y 51,.mv (.s 50),W⟩,
    ⟨Y 52,.mv (.s 8),Y (51,T)⟩,
    ⟨Y 53,.mv (.s 9),Y (51,T)⟩,
    ⟨Y 54,.bad 7 1,Y (51,T)⟩,
    ⟨Y 55,.ld (.s 54),Y (51,T)⟩,
    ⟨Y 56,.iad (.s 53) (.s 55) 4,Y (51,T)⟩,
    ⟨Y 57,.fad (.s 56) 2,Y (51,T)⟩,
    ⟨Y 58,.ld (.s 57),Y (51,T)⟩,
    ⟨Y 59,.bin (.i) .gtr (.s 52) (.s 58),Y (51,T)⟩,
    ⟨Y 60,.pick (.s 51) (.c (.bool X)) (.s 59),W⟩] [1,2,7,8,22,60])
 (.cond (.s 60) (.seq (.region [⟨Y 4,.mv (.c (.int .i64 6)),W⟩] [1,4])
 .ret)
 (.skip [1,2,7,8,22])))
 (.draw [61,62,63,64,65,66,67,68,69,70,71,72,73] [⟨Y 61,.bad 1 0,W⟩,
    ⟨Y 62,.fad (.s 61) 0,W⟩,
    ⟨Y 63,.fad (.s 62) 31,W⟩,
    ⟨Y 64,.fad (.s 63) 2,W⟩,
    ⟨Y 65,.lan (.s 64),W⟩,
    ⟨Y 66,.bad 7 0,W⟩,
    ⟨Y 67,.ld (.s 66),W⟩,
    ⟨Y 68,.nia (.s 65) (.s 67),W⟩,
    ⟨Y 69,.nld (.s 68),W⟩,
    ⟨Y 70,.bad 7 1,W⟩,
    ⟨Y 71,.ld (.s 70),W⟩,
    ⟨Y 72,.mv (.s 8),W⟩,
    ⟨Y 73,.nia (.s 69) (.s 71),W⟩,
    ⟨W,.nst (.s 73) (.s 72),W⟩] [1,2,22]))))))))))
 (.seq (.region [⟨Y 4,.mv (.c (.int .i64 0)),W⟩] [1,4])
 .ret)))))
theorem AAx:CK f215 dH [.tmp 4]:=c_
theorem ABQ:PC.t1 dH=X/\PC.t2 1 dH=X:=c_
variable{t:AC}{s:AT}
theorem lD{p:(Int×Int)×Int}{b:Bool}(h:QZ t s p=Y b){κ:List Fp}(a:NI κ s.gp.ec):
    (b=X->QY t s κ p=Y (.next (Ch κ p)))/\(b=T->QY t s κ p=Y (.ret ())):=by
  unfold QZ QY at h;unfold QY;obtain⟨c,d,h⟩:=bind_some h;obtain⟨q,f,d⟩:=bind_some d;obtain⟨r,g,d⟩:=bind_some d;obtain⟨u,i,d⟩:=bind_some d;obtain⟨j,k,d⟩:=bind_some d;simp only[f,g,i,x!]at *;rw[k,x!];cases j with
  |true=>
    simp only[if_true,p0]at d|-;subst d;simp only[p0]at h;subst h;exact⟨λe=>p?,λ_=>trivial⟩
  |false=>
    simp only[Bool.false_eq_true,if_false]at d|-;obtain⟨v,l,d⟩:=bind_some d;obtain⟨w,m,d⟩:=bind_some d;cases d;simp only[p0]at h;subst h;obtain⟨x,x',n,o⟩:=a.idx l m;refine⟨λ_=>?_,λe=>p?⟩;rw[n,x!,o,x!,eH n o]
theorem nS{a:Bj}{c:Bool}(f:a.Dis)(m:AaC (QZ t s) a=Y c){L z:AB->Prop}{x:Nat->AB->Prop}{d:AB->Prop}
    (g:c=X->z [(1,.bx (EA (Pt s (a.foldl Ch s.gp.ec))))])(n:c=T->∀κ,d [(1,.bx (EA (Pt s κ))),(4,.tv (eI 6))]):
    WP (AV Go.Proofs.Tryz.prog) (.loop [1,2,22] (.seq (.region [⟨Y 23,.mnx 22,W⟩,
    ⟨Y 24,.ext (.s 23) 0,W⟩] [1,2,22,24])
 (.seq (.cond (.s 24) (.skip [1,2,22])
 (.exit 0 [1]))
 (.block 1 (.seq (.region [⟨Y 25,.men 22,W⟩,
    ⟨Y 26,.ext (.s 25) 0,W⟩,
    ⟨Y 27,.ext (.s 25) 1,W⟩,
    ⟨Y 7,.alc [⟨T,.int .i64 0⟩,⟨T,.int .i64 0⟩],W⟩,
    ⟨W,.stb 2 7 (.s 26),W⟩,
    ⟨Y 8,.mv (.s 27),W⟩] [1,2,7,8,22])
 (.seq (.draw [9,10,28,29,30,31,32,33,34,35,36,37,38,39,40,41,42] [⟨Y 29,.lda (.s 2) 2,W⟩,
    ⟨Y 30,.bad 1 0,W⟩,
    ⟨Y 31,.fad (.s 30) 0,W⟩,
    ⟨Y 32,.fad (.s 31) 31,W⟩,
    ⟨Y 33,.fad (.s 32) 0,W⟩,
    ⟨Y 34,.fad (.s 33) 0,W⟩,
    ⟨Y 35,.ld (.s 34),W⟩,
    ⟨Y 36,.bad 7 0,W⟩,
    ⟨Y 37,.ld (.s 36),W⟩,
    ⟨Y 38,.iad (.s 35) (.s 37) 1,W⟩,
    ⟨Y 39,.ld (.s 38),W⟩,
    ⟨Y 40,.call 267 [.s 29,.s 39],W⟩,
    ⟨Y 28,.mv (.s 40),W⟩,
    ⟨Y 41,.ext (.s 28) 0,W⟩,
    ⟨Y 42,.ext (.s 28) 1,W⟩,
    ⟨Y 9,.mv (.s 41),W⟩,
    ⟨Y 10,.mv (.s 42),W⟩] [1,2,7,8,9,22])
 (.seq (.seq (.region [⟨Y 43,.mv (.s 8),W⟩,
    ⟨Y 44,.mv (.s 9),W⟩,
    ⟨Y 45,.bad 7 1,W⟩,
    ⟨Y 46,.ld (.s 45),W⟩,
    ⟨Y 47,.iad (.s 44) (.s 46) 4,W⟩,
    ⟨Y 48,.fad (.s 47) 1,W⟩,
    ⟨Y 49,.ld (.s 48),W⟩,
    ⟨Y 50,.bin (.i) .lss (.s 43) (.s 49),W⟩,
    ⟨Y 51,.mv (.s 50),W⟩,
    ⟨Y 52,.mv (.s 8),Y (51,T)⟩,
    ⟨Y 53,.mv (.s 9),Y (51,T)⟩,
    ⟨Y 54,.bad 7 1,Y (51,T)⟩,
    ⟨Y 55,.ld (.s 54),Y (51,T)⟩,
    ⟨Y 56,.iad (.s 53) (.s 55) 4,Y (51,T)⟩,
    ⟨Y 57,.fad (.s 56) 2,Y (51,T)⟩,
    ⟨Y 58,.ld (.s 57),Y (51,T)⟩,
    ⟨Y 59,.bin (.i) .gtr (.s 52) (.s 58),Y (51,T)⟩,
    ⟨Y 60,.pick (.s 51) (.c (.bool X)) (.s 59),W⟩] [1,2,7,8,22,60])
 (.cond (.s 60) (.seq (.region [⟨Y 4,.mv (.c (.int .i64 6)),W⟩] [1,4])
 .ret)
 (.skip [1,2,7,8,22])))
 (.draw [61,62,63,64,65,66,67,68,69,70,71,72,73] [⟨Y 61,.bad 1 0,W⟩,
    ⟨Y 62,.fad (.s 61) 0,W⟩,
    ⟨Y 63,.fad (.s 62) 31,W⟩,
    ⟨Y 64,.fad (.s 63) 2,W⟩,
    ⟨Y 65,.lan (.s 64),W⟩,
    ⟨Y 66,.bad 7 0,W⟩,
    ⟨Y 67,.ld (.s 66),W⟩,
    ⟨Y 68,.nia (.s 65) (.s 67),W⟩,
    ⟨Y 69,.nld (.s 68),W⟩,
    ⟨Y 70,.bad 7 1,W⟩,
    ⟨Y 71,.ld (.s 70),W⟩,
    ⟨Y 72,.mv (.s 8),W⟩,
    ⟨Y 73,.nia (.s 69) (.s 71),W⟩,
    ⟨W,.nst (.s 73) (.s 72),W⟩] [1,2,22])))))))) ⟨L,λj e=>if j=0 then z e else x j e,d⟩ [(1,.bx (EA s)),(2,.tv (.pt (AL t).cells)),(22,.mx (.mi W a))]:=by
  obtain ⟨m1,Q⟩:=Yu m;refine⟨wW _ (σ:=List Fp×Option ((Int×Int)×Int)×Bj) (λσ=>[(1,.bx (EA (Pt s σ.1))),(2,.tv (.pt (AL t).cells)),(22,.mx (.mi σ.2.1 σ.2.2))])
    (λσ=>NI σ.1 s.gp.ec/\(∀l,σ.2.2.Perm l->l.foldl Ch σ.1=a.foldl Ch s.gp.ec)/\(∀p∈σ.2.2,p∈a)/\(c=T->∃p∈σ.2.2,QZ t s p=Y T))
    (λσ=>σ.2.2.length) (s.gp.ec,W,a) rfl ⟨rfl,λl A=>YO f A _,λp r=>r,Q⟩ ?_⟩
  rintro ⟨κ,last,u⟩ ⟨H,I,J,K⟩ ε;refine WP.out (?_:WP _ _ _ _);apply MO;apply RX;refine AB1 rfl a! (λe=>?_) (λp o r=>?_)
  · simp only at e
    subst e;have O:c=X:=by
      cases c with
      |true=>rfl|false=>obtain⟨p,r,_⟩:=K rfl;cases r
    have P:κ=a.foldl Ch s.gp.ec:=I [] (List.Perm.refl _);apply st 1;exact rfl;exact λ_ k=>k;apply PG;exact x_;intro C;apply MO;apply Td;exact rfl;exact rfl;apply my;exact x_;show(if(0:Nat)=0 then z [(1,.bx (EA (Pt s κ)))]else x 0 [(1,.bx (EA (Pt s κ)))]);rw[ac rfl,P];exact g O
  · apply st 1;exact rfl;exact λ_ k=>k
    apply PG;exact x_;intro C;apply MO;apply Te;exact rfl;exact rfl;apply dW;exact x_;intro N;have D:p∈u:=r.mem_iff.2 V;obtain⟨b,hb,E⟩:=m1 p (J p D);obtain⟨R,S⟩:=lD hb H;cases b with
    |true=>
      refine ⟨PC.ls _ _ _ _ (aL t s κ p o _ (R rfl)).out _ (λe he=>?_) (λ_ _ h=>h.elim) (λe he=>?_)⟩
      · obtain⟨θ,y,F⟩:=he
        cases y;refine⟨(Ch κ p,Y p,o),F.out,⟨(aK κ p).trans H,λl A=>?_,λq B=>J q (r.mem_iff.2 (by simp[B])),λM=>?_⟩,?_⟩
        .exact I (p::l) (r.trans (A.cons p))
        · obtain⟨q,B,w⟩:=K M
          rcases List.mem_cons.1 (r.mem_iff.1 B)with rfl|G
          .rw[hb]at w;cases w
          .exact⟨q,G,w⟩
        · have:=r.length_eq
          simp only[cE]at this;show o.length<u.length;omega
      · obtain⟨v,y,_⟩:=he
        cases y
    |false=>
      refine ⟨PC.ls _ _ _ _ (aL t s κ p o _ (S rfl)).out _ (λe he=>?_) (λ_ _ h=>h.elim) (λe he=>?_)⟩
      · obtain⟨θ,y,_⟩:=he
        cases y
      · obtain⟨v,_,F⟩:=he
        rw [F.out];exact n (by cases c with|false=>rfl|true=>exact absurd (E rfl) V) κ
instance ADO(t:AC)(s:AT):Ct Go.Proofs.Tryz.prog (ND t s) 215 [AL t,.undef] (λr=>.bo (EA s) (if(!decide (r.1=0))=X then(EA r.2).set 33 ⟨T,.undef⟩else EA r.2) 1 [eI r.1]):=ACG AAx ABQ λr h u l=>by
  unfold dH;unfold ND at h;obtain⟨a,ha,h⟩:=bind_some h;have d:=(inferInstance:Ct Go.Proofs.Tryz.prog (JT s) 266 [jI s] PY).snd a ha;apply MO;apply RX;apply st 1;exact rfl;exact λ_ k=>k;apply st 1;exact rfl;exact λ_ k=>k;apply PG;exact x_;intro m;apply MO;apply RX;apply st 1;exact rfl;exact λ_ k=>k;apply st 1;exact rfl;exact λ_ k=>k;apply st 2;exact rfl;exact λ_ k=>⟨Nat.le_of_ble_eq_true rfl,k⟩;by_cases he:a.2=0
  · have e:PY a=.mpr a.1 [.int .i64 a.2]:=ac he
    rw [e]at d;rw[ae (by simp[he])]at h;split at h
    · rename_i hd
      have hd:Bj.Dis a.1:=(show List.Pairwise (λx y:(Int×Int)×Int=>x.1≠y.1) a.1 from of_decide_eq_true hd);obtain⟨c,q,h⟩:=bind_some h;refine sF rfl d (λb=>?_);apply st 1;exact rfl;exact λ_ k=>k;apply st 1;exact rfl;exact λ_ k=>k;apply st 1;exact rfl;exact λ_ k=>k;apply st 1;exact rfl;exact λ_ k=>k;apply st 1;exact rfl;exact λ_ k=>k;apply PG;exact x_;intro g;apply MO;apply MO;apply RX;apply st 1;exact rfl;exact λ_ k=>k;apply st 1;exact rfl;exact λ_ k=>k;apply PG;exact x_;intro i;apply Td;exact rfl;simp[he];apply dW;exact x_;intro j;apply MO;apply MO;apply RX;apply st 1;exact rfl;exact λ_ k=>k;apply st 2;exact rfl;exact λ_ k=>⟨⟨a!,rfl⟩,k⟩;apply PG;exact x_;intro n;apply iy;refine nS hd q (λf=>?_) (λf κ=>?_)
      · intro o
        apply MO;apply RX;apply st 1;exact rfl;exact λ_ k=>k;apply PG;exact x_;intro p;apply kj;rw[ac f]at h;cases h;exact⟨_,Wk.refl _,rfl,rfl⟩
      · rw[ae w!]at h
        cases h;refine⟨_,?_,rfl,rfl⟩;exact Wk.set (EA (Pt s κ)) 33
    .cases h
  · have e:PY a=.tp [.undef,.int .i64 a.2]:=ae he
    rw [e]at d;rw[ac (by simp[he])]at h;refine sE rfl d ?_;apply st 1;exact rfl;exact λ_ k=>k;apply st 1;exact rfl;exact λ_ k=>k;apply st 1;exact rfl;exact λ_ k=>k;apply st 1;exact rfl;exact λ_ k=>k;apply st 1;exact rfl;exact λ_ k=>k;apply PG;exact x_;intro g;apply MO;apply MO;apply RX;apply st 1;exact rfl;exact λ_ k=>k;apply st 1;exact rfl;exact λ_ k=>k;apply PG;exact x_;intro i;apply Te;exact rfl;simp[he];apply MO;apply RX;apply st 1;exact rfl;exact λ_ k=>k;apply st 1;exact rfl;exact λ_ k=>k;apply PG;exact x_;intro j;apply kj;cases h;simp only[he,decide_false,Bool.not_false,if_true];exact⟨_,Wk.set (EA s) 33,rfl,rfl⟩
end Go.Sf.Sc
