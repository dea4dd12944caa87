/- Contracts of the functions. -/
import Derived.Test.YthcncnllajfkfaaGreatCon1
set_option linter.all false
set_option maxRecDepth 100000
set_option maxHeartbeats 4000000
open Option renaming some->Y,none->W
open Bool renaming true->X,false->T
open Option renaming bind_some->v?
namespace Go.Sf.Sc
open Go Go.Sf Go.Proofs.Tryz
theorem v!{p:Prop}(h:p:=by repeat(first|exact Jd|(apply MH;exact rfl)|(apply MD;exact rfl)|(apply ME;exact rfl)|(apply MI;exact rfl)|(apply MG;exact rfl))):p:=h
theorem AAV:CK f341 (Rq [An 6 0,An 7 1,An 8 2,An 9 3,Ap 12 2] [4,5,6,7,8,9]<|Sq (Dr [13,14,15,16,17,18,19,20,21] [Ab 14 7 2,Ab 15 8 2,Ab 16 6 2,⟨Y 17,.call 348 [.s 16],W⟩,Ab 18 9 2,Aa 19 4,Aa 20 5,⟨Y 21,.bld [.list 1 [],.list 3 [],.list 1 [],.list 3 [],.list 1 [],.nil,.nil,.bool T,.int .i64 0,.nil,.nil,.nil] [(0,2,.s 14),(2,2,.s 15),(4,1,.s 17),(5,2,.s 18),(7,1,.s 19),(8,1,.s 20)],W⟩,⟨Y 22,.Abk [W,W,W,W,W,W,W,W,W,Y ⟨X,.xl 1 []⟩,Y ⟨X,.xl 1 []⟩,Y ⟨X,.list 2 []⟩] (.s 21),W⟩,Ak 13 22 0] [13,22])<|Rq [Aq 23 13 0,⟨Y 24,.Aay 386 [.s 23] 0,W⟩] [13,22]<|Rq [Aq 25 13 0,Aq 26 25 0,Aq 27 26 11,Aj 28 27,Ad 12 28] [12]<|.ret) [.tmp 12]:=c!
instance(a b c d e f):CT (GN a b c d e f) 341 [AL a,A5 b,A5 c,sv d,eB e,eI f] (rS (eL 2 A8)):=Fi AAV λr h g i=>by
  unfold GN at h;exact au
instance(a b c d e):CT (Jm a b c d e) 275 [AL a,A5 b,A5 c,sv d,eB e] (rT (eL 2 A8) eI):=Fe f275 0x8182f802c0da01820ebb55dfc54062620401 [] (Jm.eq_1 ..)
instance(a b):CT (OQ a b) 448 [eI a,.pt [eI b]] rB:=Fe f448 0xa60503367fba [] (OQ.eq_1 ..)
instance(a b):CT (IX a b) 442 [lI a,eI b] rI:=Fe f442 0xe28e1036930001 [] (IX.eq_1 ..)
instance(a b c d e):CT (Ht a b c d e) 429 [AL a,A5 b,A5 c,A8 d,eB e] (rT (eL 2 A8) eI):=Fe f429 0x8182730ebbdf9f02c0bef25d5902c0bec15c5902c08addf25ac1c15902c0f4dfc54062620401 [] (Ht.eq_1 ..)
instance(a b):CT (Ff a b) 356 [Sj a,lI b] (rT eI eI):=Fe f356 0x9d0e019f81d771015c369336 [] (Ff.eq_1 ..)
instance(a b c d):CT (EU a b c d) 430 [Cv a,BQ b,A8 c,lI d] (rT lI eB):=iO f430 0x8182180a016867660a04eb01c08820149bb904c99b05430afa6867660a04e7b50a05022c2b2ac4066b08eb01c08a7fa560817301201455a82c2b2a0f0ec4066b0a2c2b2a0f0ec4066b0a3cf6f60584a8361401148a0817cf01145a6074a881615d6161ec5e41a8044b05c9e304430a0502652c2b2ac4066b08e7a8c4066b052221c4066b0797f60114d5c4066b05652221c4066b079a01993fb7993f7101b71a013640936237 [.Abh 1 22 (.int .i64 0) (.s 27),.mkx 1 [.bool T] (.s 30)] (EU.eq_1 ..) (BH 0 34 33 0 (hX 11 1 eB)) (BH 2 44 43 0 λs2:Fp×a6=>[(10,.xo 1 (List.map eI s2.1)),(11,.xo 1 (List.map eB s2.2))]) (BM 4 104 103 0)
instance(a b c):CT (Cd a b c) 420 [Cv a,AI b,Bv c] (rT (eL 3 Bv) eI):=B1 f420 0x81ee0c013b3a390cc307973b3a390cc3073b3a390cc3073c02034803470946bb029de891559bb5064489f15502430cfa3b3a390cc3079a8103c05903c080e8030542df5ba855d089f104460ef384a8f20ec674a8c189fd555bb5fc4093a1 [] (Cd.eq_1 ..) (BH 0 59 58 0 (hO 12 (eL 3 Bv)))
abbrev AbT(n:Nat):Prop:=∀(a:Bj)(c:d5)(m:AQ),CT (BA n a c m) 353 [Cv a,AI c,Bv m] (rT FB eI)
abbrev AbW(n:Nat):Prop:=∀(a:Bj)(c:d5)(m:AQ),CT (Bf n a c m) 395 [Cv a,AI c,Bv m] (rT FB eI)
theorem AAE(n:Nat)(_ih_353:AbT n)(_ih_395:AbW n)(a:Bj)(c:d5)(m:AQ):CT (BA (n+1) a c m) 353 [Cv a,AI c,Bv m] (rT FB eI):=Fk f353 0x81b90a46ff59b9730e6ca70644dc81b90a4606014b4a49d40306ebb9774685f8b90b4605479b80b90ec97d6ca70644094ba6c9a7097e06fa4b4a49d40306e7b6dc81b99b0a06022f2e2d0ad4030797d9b5054805479b04b559b977f7b90ec97d6ca70644094b0ac9a709430a0602652f2e2d0ad40307e7b60ec9dc81b97746ff59b90a46dc81b90a46dc9db90e497d6ca709435d0644dc833870c993a1 [] [.cell 6 (Y 5),.tmp 7] λr h b d=>by
  unfold BA at h;have:=BH 2 47 46 0 λs2:BN×BN=>[(6,.bx [⟨T,eI s2.1.Aaw⟩,⟨X,lI s2.1.l4.d4.ci⟩,⟨X,lI s2.1.l4.d4.c9⟩,⟨X,lI s2.1.l4.em⟩,⟨X,I8 s2.1.fl⟩]),(10,.bx [⟨T,eI s2.2.Aaw⟩,⟨X,lI s2.2.l4.d4.ci⟩,⟨X,lI s2.2.l4.d4.c9⟩,⟨X,lI s2.2.l4.em⟩,⟨X,I8 s2.2.fl⟩])];have:=BH 4 75 74 0 λs4:BN=>[(6,.bx [⟨T,eI s4.Aaw⟩,⟨X,lI s4.l4.d4.ci⟩,⟨X,lI s4.l4.d4.c9⟩,⟨X,lI s4.l4.em⟩,⟨X,I8 s4.fl⟩])];exact nz
theorem AAK(n:Nat)(_ih_353:AbT n)(_ih_395:AbW n)(a:Bj)(c:d5)(m:AQ):CT (Bf (n+1) a c m) 395 [Cv a,AI c,Bv m] (rT FB eI):=Fk f395 0x81b90a4606011b1a1906040306ebb9774685f8b90c4605479b6c72b90ec97d6ca709435d0644ac0fc9d84306fa1b1a19060403069ae2b977f7e86ca7064470c993a1 [] [.cell 6 (Y 5),.tmp 7] λr h b d=>by
  unfold Bf at h;have:=BH 0 27 26 0 λs0:BN=>[(6,.bx [⟨T,eI s0.Aaw⟩,⟨X,lI s0.l4.d4.ci⟩,⟨X,lI s0.l4.d4.c9⟩,⟨X,lI s0.l4.em⟩,⟨X,I8 s0.fl⟩])];exact nz
theorem sf:∀n:Nat,AbT n/\AbW n:=by
  intro n
  induction n with
  |zero=>exact⟨(λb c m=>⟨λ_ h=>d_⟩),(λb c m=>⟨λ_ h=>d_⟩)⟩
  |succ n a=>exact⟨AAE n a.1 a.2,AAK n a.1 a.2⟩
instance(s_0 c m):CT (Fy s_0 c m) 353 [Cv s_0,AI c,Bv m] (rT FB eI):=⟨λr h=>by
  obtain ⟨N,a⟩:=Cy h;exact((sf N).1 s_0 c m).snd r (a N (az _))⟩
instance(s_0 c m):CT (RA s_0 c m) 395 [Cv s_0,AI c,Bv m] (rT FB eI):=⟨λr h=>by
  obtain ⟨N,a⟩:=Cy h;exact((sf N).2 s_0 c m).snd r (a N (az _))⟩
instance(a b c d e f):CT (Ey a b c d e f) 285 [AL a,BQ b,AI c,Bm d,Bv e,eB f] (rT FB eI):=Fk f285 0x81b9730e6ca70d46016c9fb977f70e016c6ca79b5570c99362627f [] [.cell 12 (Y 5),.tmp 13] λr h g i=>by
  unfold Ey at h;exact nz
instance(a b c d e f):CT (EC a b c d e f) 223 [AL a,BQ b,AI c,Bm d,Bv e,eB f] (rT eB eI):=Fe f223 0x9d5af88172b90e497d016c6ca79b55369362627f [] (EC.eq_1 ..)
instance(a):CT (Kh a) 224 [Bv a] (rS Bv):=Fk f224 0xa93bac09460e9104460ef30ec60fc99300 [] [.cell 2 (Y 3)] λr h b c=>by
  unfold Kh at h;exact nz
instance(a):CT (Lq a) 225 [Bm a] (rS Bm):=Fk f225 0xac6c5e02e9115e0597d9a801d10148364704a882615e0265e9115e05e7a8035010c93f3f0ef30ec610c99300 [.Aap [.w 9,.w 13],.Aap [.g 14 0 2,.g 14 1 2,.z ⟨X,.list 1 []⟩]] [.cell 2 (Y 3)] λr h b c=>by
  unfold Lq at h;have:=BH 0 19 18 0 λs0:AG=>[(3,.bx [⟨X,lI s0.d3.ci⟩,⟨X,lE s0.d3.c9⟩,⟨X,(eL 1 lI) s0.eh⟩])];exact nz
instance(a b):CT (Nb a b) 226 [eI a,lI b] (rO lI):=B1 f226 0x82187fc87f0497f63614c8787f06c8787f063c018860817d36815afac87f04819514993f36406a02 [.mkx 1 [.int .i64 0] (.s 9)] (Nb.eq_1 ..) (BH 0 13 12 0 (hX 5 1 eI))
instance(a b c d e f):CT (HZ a b c d e f) 227 [eI a,lI b,lI c,lI d,lI e,eI f] (rO lI):=KD f227 0x82180d012b2a0d6b972b2a0d6b2b2a0d6b5f36ef36148517cf0114d50dfa2b2a0d6b8195140d05021615140d6b370897f661618d3636149d8d0d0502651615140d6b37089a81991a3647feca6a06 [] (HZ.eq_1 ..) (BH 0 22 21 0 (hX 13 1 eI)) (BH 2 43 42 0 λs2:Int×Fp=>[(5,.tv (eI s2.1)),(13,.xo 1 (List.map eI s2.2))])
instance(a b):CT (LX a b) 287 [AL a,eI b] (rO lI):=B1 f287 0xee0701e911070497a9d15d02044b03c9e3044307fae91107049a8182a201e8bbfe9336 [] (LX.eq_1 ..) (BH 0 19 18 0 (hO 7 lI))
noncomputable def cj:PC:=PC.of OD f228.body (xq bT 0x36b0afaef597b0afaef5b0afaef53cd9017c1f7c03480347074661917424b1615d7424b15c04017c1fb138da377c1fb18d8424b1ac81f0d87e3665b0afaef5e7b607c57b7a79073706977b7a790737067b7a790737063c1f02411f7c21221abb2302411fb138d95b5b1f7c01d1f55b5b1fb138da745b1fb18d7424b19d8d07c5657b7a79073706e7380737ac4a4978370797d9017c1f7c03480347074661917422b1615d7422b15c04017c1fb138acf0d87ef38161073703654b4a49783707e7b6780537051e1d1c78053708971f02411f7c2122014f8d9101562302411fb138d95b5b1f7c01d18dc6045b5b1fb138816178053705651e1d1c78053708e73889acfd10c9555b067c5b386c1cb16236) []
theorem AAQ:CK f228 cj []:=c!
theorem AAt:PC.x7 cj=X/\PC.x9 1 cj=X:=c!
instance(a b c):CT (Jq a b c) 228 [AL a,.undef,Hg c] (λr=>.bo (D5 b) (D5 r) 1 []):=iP AAQ AAt λr h e d f=>by
  unfold cj;unfold f228;unfold Jq at h;have:=BH 0 30 29 0 λs0:AU=>[(1,.bx (D5 s0))];have:=BH 2 75 74 0 λs2:AU=>[(1,.bx (D5 s2))];have:=BH 4 123 122 0 λs4:AU=>[(1,.bx (D5 s4))];have:=BH 6 176 175 0 λs6:AU=>[(1,.bx (D5 s6))];exact nz
theorem AAT:CK f288 (.seq (.region [⟨Y 1,.Abt (.s 0),W⟩,
    ⟨Y 2,.mv (.c .undef),W⟩,
    ⟨Y 3,.mv (.c (.int .i64 0)),W⟩] [1])
 (.seq (.region [⟨Y 12,.mkm,W⟩,
    ⟨Y 4,.mvm 12,W⟩] [1,4,12])
 (.seq (.seq (.region [⟨Y 13,.bad 1 0,W⟩,
    ⟨Y 14,.fad (.s 13) 6,W⟩,
    ⟨Y 15,.fad (.s 14) 2,W⟩,
    ⟨Y 16,.ld (.s 15),W⟩,
    ⟨Y 17,.len (.s 16),W⟩,
    ⟨Y 18,.mv (.c (.int .i64 0)),W⟩] [1,4,12,16,17,18])
 (.block 0 (.loop [1,4,12,16,17,18] (.seq (.region [⟨Y 19,.bin (.i) .lss (.s 18) (.s 17),W⟩] [1,4,12,16,17,18,19])
 (.seq (.cond (.s 19) (.skip [1,4,12,16,17,18])
 (.exit 0 [4,12]))
 (.seq (.block 1 (.seq (.region [⟨Y 20,.iad (.s 16) (.s 18) 4,W⟩,
    ⟨Y 21,.lda (.s 20) 4,W⟩,
    ⟨Y 6,.alc [⟨T,.int .i64 0⟩,⟨T,.int .i64 0⟩,⟨T,.int .i64 0⟩,⟨T,.int .i64 0⟩],W⟩,
    ⟨W,.stb 4 6 (.s 21),W⟩] [1,4,6,12,16,17,18])
 (.seq (.region [⟨Y 23,.bad 6 2,W⟩,
    ⟨Y 24,.lda (.s 23) 2,W⟩,
    ⟨Y 25,.bad 1 25,W⟩,
    ⟨Y 26,.fad (.s 25) 2,W⟩,
    ⟨Y 27,.ld (.s 26),W⟩,
    ⟨Y 28,.call 356 [.s 24,.s 27],W⟩,
    ⟨Y 22,.mv (.s 28),W⟩,
    ⟨Y 29,.ext (.s 22) 0,W⟩,
    ⟨Y 30,.ext (.s 22) 1,W⟩,
    ⟨Y 7,.mv (.s 29),W⟩,
    ⟨Y 8,.mv (.s 30),W⟩] [1,4,6,7,8,12,16,17,18])
 (.seq (.seq (.region [⟨Y 31,.mv (.s 8),W⟩,
    ⟨Y 32,.bin (.i) .neq (.s 31) (.c (.int .i64 0)),W⟩] [1,4,6,7,8,12,16,17,18,32])
 (.cond (.s 32) (.seq (.region [⟨Y 33,.mv (.s 8),W⟩,
    ⟨Y 2,.mv (.c .undef),W⟩,
    ⟨Y 3,.mv (.s 33),W⟩] [2,3,12])
 .ret)
 (.skip [1,4,6,7,12,16,17,18])))
 (.seq (.draw [9,34,35,36,37,38,39,40,41,42,43] [⟨Y 34,.bad 1 36,W⟩,
    ⟨Y 35,.fad (.s 34) 0,W⟩,
    ⟨Y 36,.ld (.s 35),W⟩,
    ⟨Y 37,.bad 6 0,W⟩,
    ⟨Y 38,.ld (.s 37),W⟩,
    ⟨Y 39,.iad (.s 36) (.s 38) 1,W⟩,
    ⟨Y 40,.ld (.s 39),W⟩,
    ⟨Y 41,.bad 6 1,W⟩,
    ⟨Y 42,.ld (.s 41),W⟩,
    ⟨Y 43,.bld [.int .i64 0,.int .i64 0] [(0,1,.s 40),(1,1,.s 42)],W⟩,
    ⟨Y 9,.alc [⟨T,.int .i64 0⟩,⟨T,.int .i64 0⟩],W⟩,
    ⟨W,.stb 2 9 (.s 43),W⟩] [1,4,7,9,12,16,17,18])
 (.seq (.seq (.region [⟨Y 45,.mv (.s 4),W⟩,
    ⟨Y 46,.lda (.s 9) 2,W⟩,
    ⟨Y 47,.mlk 12 (.s 45) (.s 46),W⟩,
    ⟨Y 44,.mv (.s 47),W⟩,
    ⟨Y 48,.ext (.s 44) 0,W⟩,
    ⟨Y 49,.ext (.s 44) 1,W⟩,
    ⟨Y 10,.mv (.s 48),W⟩,
    ⟨Y 11,.mv (.s 49),W⟩] [1,4,7,9,10,11,12,16,17,18])
 (.seq (.region [⟨Y 50,.mv (.s 11),W⟩,
    ⟨Y 51,.mv (.s 50),W⟩,
    ⟨Y 52,.mv (.s 10),Y (51,X)⟩,
    ⟨Y 53,.mv (.s 7),Y (51,X)⟩,
    ⟨Y 54,.bin (.i) .neq (.s 52) (.s 53),Y (51,X)⟩,
    ⟨Y 55,.pick (.s 51) (.s 54) (.c (.bool T)),W⟩] [1,4,7,9,12,16,17,18,55])
 (.cond (.s 55) (.seq (.region [⟨Y 2,.mv (.c .undef),W⟩,
    ⟨Y 3,.mv (.c (.int .i64 11)),W⟩] [2,3,12])
 .ret)
 (.skip [1,4,7,9,12,16,17,18]))))
 (.region [⟨Y 56,.mv (.s 4),W⟩,
    ⟨Y 57,.lda (.s 9) 2,W⟩,
    ⟨Y 58,.mv (.s 7),W⟩,
    ⟨W,.mup 12 (.s 56) (.s 57) (.s 58),W⟩] [1,4,12,16,17,18])))))))
 (.region [⟨Y 59,.bin (.i) .add (.s 18) (.c (.int .i64 1)),W⟩,
    ⟨Y 18,.mv (.s 59),W⟩] [1,4,12,16,17,18])))))))
 (.seq (.region [⟨Y 60,.mv (.s 4),W⟩,
    ⟨Y 2,.mv (.s 60),W⟩,
    ⟨Y 3,.mv (.c (.int .i64 0)),W⟩] [2,3,12])
 .ret)))) [.tmp 2,.tmp 3]:=c!
instance ACu(s:AU):Ct Go.Proofs.Tryz.prog (JG s) 288 [ic s] PO:=FiM AAT λr h d e=>by
  unfold JG at h;have K:∀b:Nat,HA 0 18 17 0 λ(a:Int)(c:Bi)=>[(12,.mx (.mp b c)),(18,.tv (eI a))]:=λ_=>⟨⟩;have:HMO 12:=⟨⟩;exact au
theorem Z9(t:AC)(s:AU)(κ:List Fp)(p:(Int×Int)×Int)(a:Bi)(r:Bz (List Fp) Unit)(h:QV t s κ p=Y r):WP (AV Go.Proofs.Tryz.prog) (.block 1 (.seq (.region [⟨Y 25,.men 22,W⟩,
    ⟨Y 26,.ext (.s 25) 0,W⟩,
    ⟨Y 27,.ext (.s 25) 1,W⟩,
    ⟨Y 7,.alc [⟨T,.int .i64 0⟩,⟨T,.int .i64 0⟩],W⟩,
    ⟨W,.stb 2 7 (.s 26),W⟩,
    ⟨Y 8,.mv (.s 27),W⟩] [1,2,7,8,22])
 (.seq (.draw [9,10,28,29,30,31,32,33,34,35,36,37,38,39,40,41,42] [⟨Y 29,.lda (.s 2) 2,W⟩,
    ⟨Y 30,.bad 1 0,W⟩,
    ⟨Y 31,.fad (.s 30) 0,W⟩,
    ⟨Y 32,.fad (.s 31) 31,W⟩,
    ⟨Y 33,.fad (.s 32) 0,W⟩,
    ⟨Y 34,.fad (.s 33) 0,W⟩,
    ⟨Y 35,.ld (.s 34),W⟩,
    ⟨Y 36,.bad 7 0,W⟩,
    ⟨Y 37,.ld (.s 36),W⟩,
    ⟨Y 38,.iad (.s 35) (.s 37) 1,W⟩,
    ⟨Y 39,.ld (.s 38),W⟩,
    ⟨Y 40,.call 289 [.s 29,.s 39],W⟩,
    ⟨Y 28,.mv (.s 40),W⟩,
    ⟨Y 41,.ext (.s 28) 0,W⟩,
    ⟨Y 42,.ext (.s 28) 1,W⟩,
    ⟨Y 9,.mv (.s 41),W⟩,
    ⟨Y 10,.mv (.s 42),W⟩] [1,2,7,8,9,22])
 (.seq (.seq (.region [⟨Y 43,.mv (.s 8),W⟩,
    ⟨Y 44,.mv (.s 9),W⟩,
    ⟨Y 45,.bad 7 1,W⟩,
    ⟨Y 46,.ld (.s 45),W⟩,
    ⟨Y 47,.iad (.s 44) (.s 46) 4,W⟩,
    ⟨Y 48,.fad (.s 47) 1,W⟩,
    ⟨Y 49,.ld (.s 48),W⟩,
    ⟨Y 50,.bin (.i) .lss (.s 43) (.s 49),W⟩,
    ⟨Y 51,.mv (.s 50),W⟩,
    ⟨Y 52,.mv (.s 8),Y (51,T)⟩,
    ⟨Y 53,.mv (.s 9),Y (51,T)⟩,
    ⟨Y 54,.bad 7 1,Y (51,T)⟩,
    ⟨Y 55,.ld (.s 54),Y (51,T)⟩,
    ⟨Y 56,.iad (.s 53) (.s 55) 4,Y (51,T)⟩,
    ⟨Y 57,.fad (.s 56) 2,Y (51,T)⟩,
    ⟨Y 58,.ld (.s 57),Y (51,T)⟩,
    ⟨Y 59,.bin (.i) .gtr (.s 52) (.s 58),Y (51,T)⟩,
    ⟨Y 60,.pick (.s 51) (.c (.bool X)) (.s 59),W⟩] [1,2,7,8,22,60])
 (.cond (.s 60) (.seq (.region [⟨Y 4,.mv (.c (.int .i64 6)),W⟩] [1,4])
 .ret)
 (.skip [1,2,7,8,22])))
 (.draw [61,62,63,64,65,66,67,68,69,70,71,72,73] [⟨Y 61,.bad 1 0,W⟩,
    ⟨Y 62,.fad (.s 61) 0,W⟩,
    ⟨Y 63,.fad (.s 62) 31,W⟩,
    ⟨Y 64,.fad (.s 63) 2,W⟩,
    ⟨Y 65,.lan (.s 64),W⟩,
    ⟨Y 66,.bad 7 0,W⟩,
    ⟨Y 67,.ld (.s 66),W⟩,
    ⟨Y 68,.nia (.s 65) (.s 67),W⟩,
    ⟨Y 69,.nld (.s 68),W⟩,
    ⟨Y 70,.bad 7 1,W⟩,
    ⟨Y 71,.ld (.s 70),W⟩,
    ⟨Y 72,.mv (.s 8),W⟩,
    ⟨Y 73,.nia (.s 69) (.s 71),W⟩,
    ⟨W,.nst (.s 73) (.s 72),W⟩] [1,2,22]))))) ⟨λe=>∃b,r=.next b/\Rn (e.ey [1,2,22]) [(1,.bx (D5 (Po s b))),(2,.tv (.pt (AL t).cells)),(22,.mx (.mi (Y p) a))],λ_ _=>False,λe=>∃v,r=.ret v/\Rn e [(1,.bx (D5 (Po s κ))),(4,.tv (eI 6))]⟩ [(1,.bx (D5 (Po s κ))),(2,.tv (.pt (AL t).cells)),(22,.mx (.mi (Y p) a))]:=by
  unfold QV at h;exact au
noncomputable def cl:PC:=(.seq (.region [⟨Y 2,.Abt (.s 0),W⟩,
    ⟨Y 4,.mv (.c (.int .i64 0)),W⟩] [1,2])
 (.seq (.region [⟨Y 12,.bad 1 0,W⟩,
    ⟨Y 13,.fad (.s 12) 0,W⟩,
    ⟨Y 14,.lda (.s 13) 38,W⟩,
    ⟨Y 15,.AaI 288 [.s 14],W⟩,
    ⟨Y 11,.mvm 15,W⟩,
    ⟨Y 16,.ext (.s 11) 0,W⟩,
    ⟨Y 17,.ext (.s 11) 1,W⟩,
    ⟨Y 5,.mv (.s 16),W⟩,
    ⟨Y 6,.mv (.s 17),W⟩] [1,2,5,6,15])
 (.seq (.seq (.region [⟨Y 18,.mv (.s 6),W⟩,
    ⟨Y 19,.bin (.i) .neq (.s 18) (.c (.int .i64 0)),W⟩] [1,2,5,6,15,19])
 (.cond (.s 19) (.seq (.region [⟨Y 20,.mv (.s 6),W⟩,
    ⟨Y 4,.mv (.s 20),W⟩] [1,4])
 .ret)
 (.skip [1,2,5,15])))
 (.seq (.seq (.region [⟨Y 21,.mv (.s 5),W⟩,
    ⟨Y 22,.x5 15 (.s 21),W⟩] [1,2,22])
 (.block 0 (.loop [1,2,22] (.seq (.region [⟨Y 23,.mnx 22,W⟩,
    ⟨Y 24,.ext (.s 23) 0,W⟩] [1,2,22,24])
 (.seq (.cond (.s 24) (.skip [1,2,22])
 (.exit 0 [1]))
 (.block 1 (.seq (.region [⟨Y 25,.men 22,W⟩,
    ⟨Y 26,.ext (.s 25) 0,W⟩,
    ⟨Y 27,.ext (.s 25) 1,W⟩,
    ⟨Y 7,.alc [⟨T,.int .i64 0⟩,⟨T,.int .i64 0⟩],W⟩,
    ⟨W,.stb 2 7 (.s 26),W⟩,
    ⟨Y 8,.mv (.s 27),W⟩] [1,2,7,8,22])
 (.seq (.draw [9,10,28,29,30,31,32,33,34,35,36,37,38,39,40,41,42] [⟨Y 29,.lda (.s 2) 2,W⟩,
    ⟨Y 30,.bad 1 0,W⟩,
    ⟨Y 31,.fad (.s 30) 0,W⟩,
    ⟨Y 32,.fad (.s 31) 31,W⟩,
    ⟨Y 33,.fad (.s 32) 0,W⟩,
    ⟨Y 34,.fad (.s 33) 0,W⟩,
    ⟨Y 35,.ld (.s 34),W⟩,
    ⟨Y 36,.bad 7 0,W⟩,
    ⟨Y 37,.ld (.s 36),W⟩,
    ⟨Y 38,.iad (.s 35) (.s 37) 1,W⟩,
    ⟨Y 39,.ld (.s 38),W⟩,
    ⟨Y 40,.call 289 [.s 29,.s 39],W⟩,
    ⟨Y 28,.mv (.s 40),W⟩,
    ⟨Y 41,.ext (.s 28) 0,W⟩,
    ⟨Y 42,.ext (.s 28) 1,W⟩,
    ⟨Y 9,.mv (.s 41),W⟩,
    ⟨Y 10,.mv (.s 42),W⟩] [1,2,7,8,9,22])
 (.seq (.seq (.region [⟨Y 43,.mv (.s 8),W⟩,
    ⟨Y 44,.mv (.s 9),W⟩,
    ⟨Y 45,.bad 7 1,W⟩,
    ⟨Y 46,.ld (.s 45),W⟩,
    ⟨Y 47,.iad (.s 44) (.s 46) 4,W⟩,
    ⟨Y 48,.fad (.s 47) 1,W⟩,
    ⟨Y 49,.ld (.s 48),W⟩,
    ⟨Y 50,.bin (.i) .lss (.s 43) (.s 49),W⟩,
    ⟨Y 51,.mv (.s 50),W⟩,
    ⟨Y 52,.mv (.s 8),Y (51,T)⟩,
    ⟨Y 53,.mv (.s 9),Y (51,T)⟩,
    ⟨Y 54,.bad 7 1,Y (51,T)⟩,
    ⟨Y 55,.ld (.s 54),Y (51,T)⟩,
    ⟨Y 56,.iad (.s 53) (.s 55) 4,Y (51,T)⟩,
    ⟨Y 57,.fad (.s 56) 2,Y (51,T)⟩,
    ⟨Y 58,.ld (.s 57),Y (51,T)⟩,
    ⟨Y 59,.bin (.i) .gtr (.s 52) (.s 58),Y (51,T)⟩,
    ⟨Y 60,.pick (.s 51) (.c (.bool X)) (.s 59),W⟩] [1,2,7,8,22,60])
 (.cond (.s 60) (.seq (.region [⟨Y 4,.mv (.c (.int .i64 6)),W⟩] [1,4])
 .ret)
 (.skip [1,2,7,8,22])))
 (.draw [61,62,63,64,65,66,67,68,69,70,71,72,73] [⟨Y 61,.bad 1 0,W⟩,
    ⟨Y 62,.fad (.s 61) 0,W⟩,
    ⟨Y 63,.fad (.s 62) 31,W⟩,
    ⟨Y 64,.fad (.s 63) 2,W⟩,
    ⟨Y 65,.lan (.s 64),W⟩,
    ⟨Y 66,.bad 7 0,W⟩,
    ⟨Y 67,.ld (.s 66),W⟩,
    ⟨Y 68,.nia (.s 65) (.s 67),W⟩,
    ⟨Y 69,.nld (.s 68),W⟩,
    ⟨Y 70,.bad 7 1,W⟩,
    ⟨Y 71,.ld (.s 70),W⟩,
    ⟨Y 72,.mv (.s 8),W⟩,
    ⟨Y 73,.nia (.s 69) (.s 71),W⟩,
    ⟨W,.nst (.s 73) (.s 72),W⟩] [1,2,22]))))))))))
 (.seq (.region [⟨Y 4,.mv (.c (.int .i64 0)),W⟩] [1,4])
 .ret)))))
theorem AAR:CK f229 cl [.tmp 4]:=c!
theorem AAu:PC.x7 cl=X/\PC.x9 1 cl=X:=c!
variable{t:AC}{s:AU}
theorem kQ{p:(Int×Int)×Int}{b:Bool}(h:QW t s p=Y b){κ:List Fp}(a:M5 κ s.f0.eh):
    (b=X->QV t s κ p=Y (.next (Cc κ p)))/\(b=T->QV t s κ p=Y (.ret ())):=by
  unfold QW QV at h;unfold QV;obtain⟨c,d,h⟩:=bind_some h;obtain⟨q,f,d⟩:=bind_some d;obtain⟨r,g,d⟩:=bind_some d;obtain⟨u,i,d⟩:=bind_some d;obtain⟨j,k,d⟩:=bind_some d;simp only[f,g,i,v?]at *;rw[k,v?];cases j with
  |true=>
    simp only[if_true,tc]at d|-;subst d;simp only[tc]at h;subst h;exact⟨λe=>q_,λ_=>trivial⟩
  |false=>
    simp only[Bool.false_eq_true,if_false]at d|-;obtain⟨v,l,d⟩:=bind_some d;obtain⟨w,m,d⟩:=bind_some d;cases d;simp only[tc]at h;subst h;obtain⟨x,x',n,o⟩:=a.idx l m;refine⟨λ_=>?_,λe=>q_⟩;rw[n,v?,o,v?,dm n o]
theorem mh{a:Bi}{c:Bool}(g:a.Dis)(n:AaH (QW t s) a=Y c){L z:AB->Prop}{x:Nat->AB->Prop}{d:AB->Prop}
    (f:c=X->z [(1,.bx (D5 (Po s (a.foldl Cc s.f0.eh))))])(m:c=T->∀κ,d [(1,.bx (D5 (Po s κ))),(4,.tv (eI 6))]):
    WP (AV Go.Proofs.Tryz.prog) (.loop [1,2,22] (.seq (.region [⟨Y 23,.mnx 22,W⟩,
    ⟨Y 24,.ext (.s 23) 0,W⟩] [1,2,22,24])
 (.seq (.cond (.s 24) (.skip [1,2,22])
 (.exit 0 [1]))
 (.block 1 (.seq (.region [⟨Y 25,.men 22,W⟩,
    ⟨Y 26,.ext (.s 25) 0,W⟩,
    ⟨Y 27,.ext (.s 25) 1,W⟩,
    ⟨Y 7,.alc [⟨T,.int .i64 0⟩,⟨T,.int .i64 0⟩],W⟩,
    ⟨W,.stb 2 7 (.s 26),W⟩,
    ⟨Y 8,.mv (.s 27),W⟩] [1,2,7,8,22])
 (.seq (.draw [9,10,28,29,30,31,32,33,34,35,36,37,38,39,40,41,42] [⟨Y 29,.lda (.s 2) 2,W⟩,
    ⟨Y 30,.bad 1 0,W⟩,
    ⟨Y 31,.fad (.s 30) 0,W⟩,
    ⟨Y 32,.fad (.s 31) 31,W⟩,
    ⟨Y 33,.fad (.s 32) 0,W⟩,
    ⟨Y 34,.fad (.s 33) 0,W⟩,
    ⟨Y 35,.ld (.s 34),W⟩,
    ⟨Y 36,.bad 7 0,W⟩,
    ⟨Y 37,.ld (.s 36),W⟩,
    ⟨Y 38,.iad (.s 35) (.s 37) 1,W⟩,
    ⟨Y 39,.ld (.s 38),W⟩,
    ⟨Y 40,.call 289 [.s 29,.s 39],W⟩,
    ⟨Y 28,.mv (.s 40),W⟩,
    ⟨Y 41,.ext (.s 28) 0,W⟩,
    ⟨Y 42,.ext (.s 28) 1,W⟩,
    ⟨Y 9,.mv (.s 41),W⟩,
    ⟨Y 10,.mv (.s 42),W⟩] [1,2,7,8,9,22])
 (.seq (.seq (.region [⟨Y 43,.mv (.s 8),W⟩,
    ⟨Y 44,.mv (.s 9),W⟩,
    ⟨Y 45,.bad 7 1,W⟩,
    ⟨Y 46,.ld (.s 45),W⟩,
    ⟨Y 47,.iad (.s 44) (.s 46) 4,W⟩,
    ⟨Y 48,.fad (.s 47) 1,W⟩,
    ⟨Y 49,.ld (.s 48),W⟩,
    ⟨Y 50,.bin (.i) .lss (.s 43) (.s 49),W⟩,
    ⟨Y 51,.mv (.s 50),W⟩,
    ⟨Y 52,.mv (.s 8),Y (51,T)⟩,
    ⟨Y 53,.mv (.s 9),Y (51,T)⟩,
    ⟨Y 54,.bad 7 1,Y (51,T)⟩,
    ⟨Y 55,.ld (.s 54),Y (51,T)⟩,
    ⟨Y 56,.iad (.s 53) (.s 55) 4,Y (51,T)⟩,
    ⟨Y 57,.fad (.s 56) 2,Y (51,T)⟩,
    ⟨Y 58,.ld (.s 57),Y (51,T)⟩,
    ⟨Y 59,.bin (.i) .gtr (.s 52) (.s 58),Y (51,T)⟩,
    ⟨Y 60,.pick (.s 51) (.c (.bool X)) (.s 59),W⟩] [1,2,7,8,22,60])
 (.cond (.s 60) (.seq (.region [⟨Y 4,.mv (.c (.int .i64 6)),W⟩] [1,4])
 .ret)
 (.skip [1,2,7,8,22])))
 (.draw [61,62,63,64,65,66,67,68,69,70,71,72,73] [⟨Y 61,.bad 1 0,W⟩,
    ⟨Y 62,.fad (.s 61) 0,W⟩,
    ⟨Y 63,.fad (.s 62) 31,W⟩,
    ⟨Y 64,.fad (.s 63) 2,W⟩,
    ⟨Y 65,.lan (.s 64),W⟩,
    ⟨Y 66,.bad 7 0,W⟩,
    ⟨Y 67,.ld (.s 66),W⟩,
    ⟨Y 68,.nia (.s 65) (.s 67),W⟩,
    ⟨Y 69,.nld (.s 68),W⟩,
    ⟨Y 70,.bad 7 1,W⟩,
    ⟨Y 71,.ld (.s 70),W⟩,
    ⟨Y 72,.mv (.s 8),W⟩,
    ⟨Y 73,.nia (.s 69) (.s 71),W⟩,
    ⟨W,.nst (.s 73) (.s 72),W⟩] [1,2,22])))))))) ⟨L,λj e=>if j=0 then z e else x j e,d⟩ [(1,.bx (D5 s)),(2,.tv (.pt (AL t).cells)),(22,.mx (.mi W a))]:=by
  obtain ⟨m1,Q⟩:=Yi n;refine⟨vf _ (σ:=List Fp×Option ((Int×Int)×Int)×Bi) (λσ=>[(1,.bx (D5 (Po s σ.1))),(2,.tv (.pt (AL t).cells)),(22,.mx (.mi σ.2.1 σ.2.2))])
    (λσ=>M5 σ.1 s.f0.eh/\(∀l,σ.2.2.Perm l->l.foldl Cc σ.1=a.foldl Cc s.f0.eh)/\(∀p∈σ.2.2,p∈a)/\(c=T->∃p∈σ.2.2,QW t s p=Y T))
    (λσ=>σ.2.2.length) (s.f0.eh,W,a) rfl ⟨rfl,λl A=>YD g A _,λp r=>r,Q⟩ ?_⟩
  rintro ⟨κ,last,u⟩ ⟨H,I,J,K⟩ ε;refine WP.out (?_:WP _ _ _ _);apply MA;apply RQ;refine ABW rfl a! (λe=>?_) (λp o r=>?_)
  · simp only at e
    subst e;have O:c=X:=by
      cases c with
      |true=>rfl|false=>obtain⟨p,r,_⟩:=K rfl;cases r
    have P:κ=a.foldl Cc s.f0.eh:=I [] (List.Perm.refl _);apply st 1;exact rfl;exact λ_ k=>k;apply O2;exact v!;intro C;apply MA;apply TT;exact rfl;exact rfl;apply mH;exact v!;show(if(0:Nat)=0 then z [(1,.bx (D5 (Po s κ)))]else x 0 [(1,.bx (D5 (Po s κ)))]);rw[ac rfl,P];exact f O
  · apply st 1;exact rfl;exact λ_ k=>k
    apply O2;exact v!;intro C;apply MA;apply TU;exact rfl;exact rfl;apply dG;exact v!;intro N;have D:p∈u:=r.mem_iff.2 V;obtain⟨b,hb,E⟩:=m1 p (J p D);obtain⟨R,S⟩:=kQ hb H;cases b with
    |true=>
      refine ⟨PC.n8 _ _ _ _ (Z9 t s κ p o _ (R rfl)).out _ (λe he=>?_) (λ_ _ h=>h.elim) (λe he=>?_)⟩
      · obtain⟨θ,y,F⟩:=he
        cases y;refine⟨(Cc κ p,Y p,o),F.out,⟨(Z8 κ p).trans H,λl A=>?_,λq B=>J q (r.mem_iff.2 (by simp[B])),λM=>?_⟩,?_⟩
        .exact I (p::l) (r.trans (A.cons p))
        · obtain⟨q,B,w⟩:=K M
          rcases List.mem_cons.1 (r.mem_iff.1 B)with rfl|G
          .rw[hb]at w;cases w
          .exact⟨q,G,w⟩
        · have:=r.length_eq
          simp only[cE]at this;show o.length<u.length;omega
      · obtain⟨v,y,_⟩:=he
        cases y
    |false=>
      refine ⟨PC.n8 _ _ _ _ (Z9 t s κ p o _ (S rfl)).out _ (λe he=>?_) (λ_ _ h=>h.elim) (λe he=>?_)⟩
      · obtain⟨θ,y,_⟩:=he
        cases y
      · obtain⟨v,_,F⟩:=he
        rw [F.out];exact m (by cases c with|false=>rfl|true=>exact absurd (E rfl) V) κ
instance ACs(t:AC)(s:AU):Ct Go.Proofs.Tryz.prog (M0 t s) 229 [AL t,.undef] (λr=>.bo (D5 s) (if(!decide (r.1=0))=X then(D5 r.2).set 33 ⟨T,.undef⟩else D5 r.2) 1 [eI r.1]):=ABl AAR AAu λr h u l=>by
  unfold cl;unfold M0 at h;obtain⟨a,ha,h⟩:=bind_some h;have d:=(inferInstance:Ct Go.Proofs.Tryz.prog (JG s) 288 [ic s] PO).snd a ha;apply MA;apply RQ;apply st 1;exact rfl;exact λ_ k=>k;apply st 1;exact rfl;exact λ_ k=>k;apply O2;exact v!;intro m;apply MA;apply RQ;apply st 1;exact rfl;exact λ_ k=>k;apply st 1;exact rfl;exact λ_ k=>k;apply st 2;exact rfl;exact λ_ k=>⟨Nat.le_of_ble_eq_true rfl,k⟩;by_cases he:a.2=0
  · have e:PO a=.mpr a.1 [.int .i64 a.2]:=ac he
    rw [e]at d;rw[ae (by simp[he])]at h;split at h
    · rename_i hd
      have hd:Bi.Dis a.1:=(show List.Pairwise (λx y:(Int×Int)×Int=>x.1≠y.1) a.1 from of_decide_eq_true hd);obtain⟨c,q,h⟩:=bind_some h;refine rU rfl d (λb=>?_);apply st 1;exact rfl;exact λ_ k=>k;apply st 1;exact rfl;exact λ_ k=>k;apply st 1;exact rfl;exact λ_ k=>k;apply st 1;exact rfl;exact λ_ k=>k;apply st 1;exact rfl;exact λ_ k=>k;apply O2;exact v!;intro g;apply MA;apply MA;apply RQ;apply st 1;exact rfl;exact λ_ k=>k;apply st 1;exact rfl;exact λ_ k=>k;apply O2;exact v!;intro i;apply TT;exact rfl;simp[he];apply dG;exact v!;intro j;apply MA;apply MA;apply RQ;apply st 1;exact rfl;exact λ_ k=>k;apply st 2;exact rfl;exact λ_ k=>⟨⟨a!,rfl⟩,k⟩;apply O2;exact v!;intro n;apply iT;refine mh hd q (λf=>?_) (λf κ=>?_)
      · intro o
        apply MA;apply RQ;apply st 1;exact rfl;exact λ_ k=>k;apply O2;exact v!;intro p;apply kD;rw[ac f]at h;cases h;exact⟨_,Wk.refl _,rfl,rfl⟩
      · rw[ae s_]at h
        cases h;refine⟨_,?_,rfl,rfl⟩;exact Wk.set (D5 (Po s κ)) 33
    .cases h
  · have e:PO a=.tp [.undef,.int .i64 a.2]:=ae he
    rw [e]at d;rw[ac (by simp[he])]at h;refine rR rfl d ?_;apply st 1;exact rfl;exact λ_ k=>k;apply st 1;exact rfl;exact λ_ k=>k;apply st 1;exact rfl;exact λ_ k=>k;apply st 1;exact rfl;exact λ_ k=>k;apply st 1;exact rfl;exact λ_ k=>k;apply O2;exact v!;intro g;apply MA;apply MA;apply RQ;apply st 1;exact rfl;exact λ_ k=>k;apply st 1;exact rfl;exact λ_ k=>k;apply O2;exact v!;intro i;apply TU;exact rfl;simp[he];apply MA;apply RQ;apply st 1;exact rfl;exact λ_ k=>k;apply st 1;exact rfl;exact λ_ k=>k;apply O2;exact v!;intro j;apply kD;cases h;simp only[he,decide_false,Bool.not_false,if_true];exact⟨_,Wk.set (D5 s) 33,rfl,rfl⟩
end Go.Sf.Sc
