/- Contracts of the functions. -/
import Derived.Test.YthcncnllajfkfaaGreatCon1
set_option linter.all false
set_option maxRecDepth 100000
set_option maxHeartbeats 4000000
open Option renaming some->Y,none->W
open Bool renaming true->X,false->T
open Option renaming bind_some->v1
namespace Go.Sf.Sc
open Go Go.Sf Go.Proofs.Tryz
theorem AA9:CK f341 (Rq [Am 6 0,Am 7 1,Am 8 2,Am 9 3,⟨Y 12,.Abe 2,W⟩] [4,5,6,7,8,9]<|Sq (Dr [13,14,15,16,17,18,19,20,21] [An 14 7 2,An 15 8 2,An 16 6 2,⟨Y 17,.call 348 [.s 16],W⟩,An 18 9 2,Aa 19 4,Aa 20 5,⟨Y 21,.bld [.list 1 [],.list 3 [],.list 1 [],.list 3 [],.list 1 [],.nil,.nil,.bool T,.int .i64 0,.nil,.nil,.nil] [(0,2,.s 14),(2,2,.s 15),(4,1,.s 17),(5,2,.s 18),(7,1,.s 19),(8,1,.s 20)],W⟩,⟨Y 22,.AaW [W,W,W,W,W,W,W,W,W,Y ⟨X,.xl 1 []⟩,Y ⟨X,.xl 1 []⟩,Y ⟨X,.list 2 []⟩] (.s 21),W⟩,Aj 13 22 0] [13,22])<|Rq [Ac 23 13 0,⟨Y 24,.zt 386 [.s 23] 0,W⟩] [13,22]<|Rq [Ac 25 13 0,Ac 26 25 0,Ac 27 26 11,Ag 28 27,Ae 12 28] [12]<|.ret) [.tmp 12]:=b!
instance(a b c d e f):CT (Gf a b c d e f) 341 [AK a,A8 b,A8 c,tq d,eB e,eI f] (rS (eL 2 Az)):=Fi AA9 λr h g i=>by
  unfold Gf at h;exact au
instance(a b c d e):CT (Jz a b c d e) 275 [AK a,A8 b,A8 c,tq d,eB e] (rT (eL 2 Az) eI):=Fe f275 0xe8013702c085f7820eb136c5c3405c5c0401 [] (Jz.eq_1 ..)
instance(a b):CT (OW a b) 448 [eI a,.pt [eI b]] rB:=Fe f448 0x800503aae6 [] (OW.eq_1 ..)
instance(a b):CT (Im a b) 442 [lI a,eI b] rI:=Fe f442 0x81378e103093d7 [] (Im.eq_1 ..)
instance(a b c d e):CT (H8 a b c d e) 429 [AK a,A8 b,A8 c,Az d,eB e] (rT (eL 2 Az) eI):=Fe f429 0xe86b0eb136c53702c07c0eed5a3702c07c0e0bc43702c08aebed55d9d93702c07c8cc5c3405c5c0401 [] (H8.eq_1 ..)
instance(a b):CT (F7 a b) 356 [QT a,lI b] (rT eI eI):=Fe f356 0x9b0eb1cbcc730159309330 [] (F7.eq_1 ..)
instance(a b c d):CT (Ed a b c d) 430 [C2 a,BP b,Az c,lI d] (rT lI eB):=nL f430 0xe8180a016867660a049237e588201489d404c98905430aea6867660a04dcac0a05022c2b2ab80670089237e58a0577055d816b01201436a92c2b2a0f0eb806700a2c2b2a0f0eb806700a3c01f801f8057da9301401148a0817d30114555d6aa9815e5a5e5ec45b41a9044b05c9d504430a0502612c2b2ab8067008dca9b80670052221b80670079201f801148101b8067005612221b80670079701993fb7993f7301b71a7740935c31 [.Aa9 1 22 (.int .i64 0) (.s 27),.mkx 1 [.bool T] (.s 30)] (Ed.eq_1 ..) (BI 0 34 33 0 (hX 11 1 eB)) (BI 2 44 43 0 λs2:Fp×a5=>[(10,.xo 1 (List.map eI s2.1)),(11,.xo 1 (List.map eB s2.2))]) (BM 4 104 103 0)
instance(a b c):CT (Cm a b c) 420 [C2 a,AJ b,Bn c] (rT (eL 3 Bn) eI):=B8 f420 0xe8020c013b3a390cd007923b3a390cd0073b3a390cd0073c02034803470946b1029bd17e3689ac0644dfc93602430cea3b3a390cd007978103c03703c07cd1030542c538a9c532dfc904460edd7da9ed0ebd6aa9d98407c93638ac0103409391 [] (Cm.eq_1 ..) (BI 0 59 58 0 (hO 12 (eL 3 Bn)))
abbrev AbD(n:Nat):Prop:=∀(a:Bs)(c:d5)(m:AP),CT (BA n a c m) 353 [C2 a,AJ c,Bn m] (rT FV eI)
abbrev AbH(n:Nat):Prop:=∀(a:Bs)(c:d5)(m:AP),CT (Bo n a c m) 395 [C2 a,AJ c,Bn m] (rT FV eI)
theorem AAq(n:Nat)(_ih_353:AbD n)(_ih_395:AbH n)(a:Bs)(c:d5)(m:AP):CT (BA (n+1) a c m) 353 [C2 a,AJ c,Bn m] (rT FV eI):=Fk f353 0xba4b0a46ff37d46bec9f0644baba4b0a4606014b4a49a103069237d47246850137d40b460547897cd40ee9629f0644094b80c9fb9006ea4b4a49a10306dcadbaba4b890a06022f2e2d0aa1030792014aac054805478904ac37d472f4d40ee9629f0644094b0ac9fb430a0602612f2e2d0aa10307dcad0ec9baba4b7246ff37d40a46baba4b0a46ba9bd40e497562fb435a0644ba833265c99391 [] [.cell 6 (Y 5),.tmp 7] λr h b d=>by
  unfold BA at h;have:=BI 2 47 46 0 λs2:BQ×BQ=>[(6,.bx [⟨T,eI s2.1.Aag⟩,⟨X,lI s2.1.j0.d4.dl⟩,⟨X,lI s2.1.j0.d4.d3⟩,⟨X,lI s2.1.j0.ey⟩,⟨X,JQ s2.1.em⟩]),(10,.bx [⟨T,eI s2.2.Aag⟩,⟨X,lI s2.2.j0.d4.dl⟩,⟨X,lI s2.2.j0.d4.d3⟩,⟨X,lI s2.2.j0.ey⟩,⟨X,JQ s2.2.em⟩])];have:=BI 4 75 74 0 λs4:BQ=>[(6,.bx [⟨T,eI s4.Aag⟩,⟨X,lI s4.j0.d4.dl⟩,⟨X,lI s4.j0.d4.d3⟩,⟨X,lI s4.j0.ey⟩,⟨X,JQ s4.em⟩])];exact nz
theorem AAw(n:Nat)(_ih_353:AbD n)(_ih_395:AbH n)(a:Bs)(c:d5)(m:AP):CT (Bo (n+1) a c m) 395 [C2 a,AJ c,Bn m] (rT FV eI):=Fk f395 0xba4b0a4606011b1a19060403069237d47246850137d40c46054789626cd40ee962fb435a0644b20fc9c84306ea1b1a1906040306978137d472f4d1629f064465c99391 [] [.cell 6 (Y 5),.tmp 7] λr h b d=>by
  unfold Bo at h;have:=BI 0 27 26 0 λs0:BQ=>[(6,.bx [⟨T,eI s0.Aag⟩,⟨X,lI s0.j0.d4.dl⟩,⟨X,lI s0.j0.d4.d3⟩,⟨X,lI s0.j0.ey⟩,⟨X,JQ s0.em⟩])];exact nz
theorem td:∀n:Nat,AbD n/\AbH n:=by
  intro n
  induction n with
  |zero=>exact⟨(λb c m=>⟨λ_ h=>c_⟩),(λb c m=>⟨λ_ h=>c_⟩)⟩
  |succ n a=>exact⟨AAq n a.1 a.2,AAw n a.1 a.2⟩
instance(s_0 c m):CT (GJ s_0 c m) 353 [C2 s_0,AJ c,Bn m] (rT FV eI):=⟨λr h=>by
  obtain ⟨N,a⟩:=Cn h;exact((td N).1 s_0 c m).snd r (a N (ae _))⟩
instance(s_0 c m):CT (RA s_0 c m) 395 [C2 s_0,AJ c,Bn m] (rT FV eI):=⟨λr h=>by
  obtain ⟨N,a⟩:=Cn h;exact((td N).2 s_0 c m).snd r (a N (ae _))⟩
instance(a b c d e f):CT (FC a b c d e f) 285 [AK a,BP b,AJ c,Bj d,Bn e,eB f] (rT FV eI):=Fk f285 0xba4b6bec9f0d4601623637d472f40e0162629f893665c9935c5cbc [] [.cell 12 (Y 5),.tmp 13] λr h g i=>by
  unfold FC at h;exact nz
instance(a b c d e f):CT (EK a b c d e f) 223 [AK a,BP b,AJ c,Bj d,Bn e,eB f] (rT eB eI):=Fe f223 0x9b5501cb6cd40e49750162629f893630935c5cbc [] (EK.eq_1 ..)
instance(a):CT (Kw a) 224 [Bn a] (rS Bn):=Fk f224 0xb53bb209460e7e04460edd0ebd0fc99300 [] [.cell 2 (Y 3)] λr h b c=>by
  unfold Kw at h;exact nz
instance(a):CT (Ly a) 225 [Bj a] (rS Bj):=Fk f225 0xb2625b02de115b0592014aa901e00148304704a9825e5b0261de115b05dca9035010c93f3f0edd0ebd10c99300 [.Aah [.w 9,.w 13],.Aah [.g 14 0 2,.g 14 1 2,.z ⟨X,.list 1 []⟩]] [.cell 2 (Y 3)] λr h b c=>by
  unfold Ly at h;have:=BI 0 19 18 0 λs0:AF=>[(3,.bx [⟨X,lI s0.dr.dl⟩,⟨X,lE s0.dr.d3⟩,⟨X,(eL 1 lI) s0.eb⟩])];exact nz
instance(a b):CT (Nj a b) 226 [eI a,lI b] (rO lI):=B8 f226 0x8218bcc1bc049201f83014c107a10106c107a101063c01885d8175308155eac1bc04819514993f30406002 [.mkx 1 [.int .i64 0] (.s 9)] (Nj.eq_1 ..) (BI 0 13 12 0 (hX 5 1 eI))
instance(a b c d e f):CT (Hp a b c d e f) 227 [eI a,lI b,lI c,lI d,lI e,eI f] (rO lI):=JK f227 0x82180d012b2a0d70922b2a0d702b2a0d705f30f830148517d3011481010dea2b2a0d708195140d05021615140d7031089201f85e5e5e7730149b9d0d0502611615140d7031089781991a30470140705b6006 [] (Hp.eq_1 ..) (BI 0 22 21 0 (hX 13 1 eI)) (BI 2 43 42 0 λs2:Int×Fp=>[(5,.tv (eI s2.1)),(13,.xo 1 (List.map eI s2.2))])
instance(a b):CT (Li a b) 287 [AK a,eI b] (rO lI):=B8 f287 0x82020701de11070492b5e05a02044b03c9d5044307eade11070497e8b301d1b101409330 [] (Li.eq_1 ..) (BI 0 19 18 0 (hO 7 lI))
noncomputable def cx:PC:=PC.of Nr f228.body (xq bT 0x30b0afaef192b0afaef1b0afaef13c014a01711f710348034707465e7e6a24a25e5a6a24a2590401711fa232850b31711fa29d7d24a2b281efc8437761b0afaef1dcad07c37b7a79073106927b7a790731067b7a790731063c1f02411f7121221ab12302411fa232014a38381f7101e0f138381fa232850b6a381fa29d6a24a29b9d07c3617b7a79073106dc320731b24a490706310792014a01711f710348034707465e7e6a22a25e5a6a22a2590401711fa232b2efc890dd815e073103614b4a4907063107dcad07a131051e1d1c07a13108921f02411f712122014f9d7e01562302411fa232014a38381f7101e09dbd0438381fa232815e07a13105611e1d1c07a13108dc3284b207c910c9363806713832621ca25c30) []
theorem AA3:CK f228 cx []:=b!
theorem ABT:PC.sB cx=X/\PC.tn 1 cx=X:=b!
instance(a b c):CT (J2 a b c) 228 [AK a,.undef,FN c] (λr=>.bo (ED b) (ED r) 1 []):=aA AA3 ABT λr h e d f=>by
  unfold cx;unfold f228;unfold J2 at h;have:=BI 0 30 29 0 λs0:AR=>[(1,.bx (ED s0))];have:=BI 2 75 74 0 λs2:AR=>[(1,.bx (ED s2))];have:=BI 4 123 122 0 λs4:AR=>[(1,.bx (ED s4))];have:=BI 6 176 175 0 λs6:AR=>[(1,.bx (ED s6))];exact nz
theorem AA7:CK f288 (.seq (.region [⟨Y 1,.Abd (.s 0),W⟩,
    ⟨Y 2,.mv (.c .undef),W⟩,
    ⟨Y 3,.mv (.c (.int .i64 0)),W⟩] [1])
 (.seq (.region [⟨Y 12,.mkm,W⟩,
    ⟨Y 4,.mvm 12,W⟩] [1,4,12])
 (.seq (.seq (.region [⟨Y 13,.bad 1 0,W⟩,
    ⟨Y 14,.fad (.s 13) 6,W⟩,
    ⟨Y 15,.fad (.s 14) 2,W⟩,
    ⟨Y 16,.ld (.s 15),W⟩,
    ⟨Y 17,.len (.s 16),W⟩,
    ⟨Y 18,.mv (.c (.int .i64 0)),W⟩] [1,4,12,16,17,18])
 (.block 0 (.loop [1,4,12,16,17,18] (.seq (.region [⟨Y 19,.bin (.i) .lss (.s 18) (.s 17),W⟩] [1,4,12,16,17,18,19])
 (.seq (.cond (.s 19) (.skip [1,4,12,16,17,18])
 (.exit 0 [4,12]))
 (.seq (.block 1 (.seq (.region [⟨Y 20,.iad (.s 16) (.s 18) 4,W⟩,
    ⟨Y 21,.lda (.s 20) 4,W⟩,
    ⟨Y 6,.alc [⟨T,.int .i64 0⟩,⟨T,.int .i64 0⟩,⟨T,.int .i64 0⟩,⟨T,.int .i64 0⟩],W⟩,
    ⟨W,.stb 4 6 (.s 21),W⟩] [1,4,6,12,16,17,18])
 (.seq (.region [⟨Y 23,.bad 6 2,W⟩,
    ⟨Y 24,.lda (.s 23) 2,W⟩,
    ⟨Y 25,.bad 1 25,W⟩,
    ⟨Y 26,.fad (.s 25) 2,W⟩,
    ⟨Y 27,.ld (.s 26),W⟩,
    ⟨Y 28,.call 356 [.s 24,.s 27],W⟩,
    ⟨Y 22,.mv (.s 28),W⟩,
    ⟨Y 29,.ext (.s 22) 0,W⟩,
    ⟨Y 30,.ext (.s 22) 1,W⟩,
    ⟨Y 7,.mv (.s 29),W⟩,
    ⟨Y 8,.mv (.s 30),W⟩] [1,4,6,7,8,12,16,17,18])
 (.seq (.seq (.region [⟨Y 31,.mv (.s 8),W⟩,
    ⟨Y 32,.bin (.i) .neq (.s 31) (.c (.int .i64 0)),W⟩] [1,4,6,7,8,12,16,17,18,32])
 (.cond (.s 32) (.seq (.region [⟨Y 33,.mv (.s 8),W⟩,
    ⟨Y 2,.mv (.c .undef),W⟩,
    ⟨Y 3,.mv (.s 33),W⟩] [2,3,12])
 .ret)
 (.skip [1,4,6,7,12,16,17,18])))
 (.seq (.draw [9,34,35,36,37,38,39,40,41,42,43] [⟨Y 34,.bad 1 36,W⟩,
    ⟨Y 35,.fad (.s 34) 0,W⟩,
    ⟨Y 36,.ld (.s 35),W⟩,
    ⟨Y 37,.bad 6 0,W⟩,
    ⟨Y 38,.ld (.s 37),W⟩,
    ⟨Y 39,.iad (.s 36) (.s 38) 1,W⟩,
    ⟨Y 40,.ld (.s 39),W⟩,
    ⟨Y 41,.bad 6 1,W⟩,
    ⟨Y 42,.ld (.s 41),W⟩,
    ⟨Y 43,.bld [.int .i64 0,.int .i64 0] [(0,1,.s 40),(1,1,.s 42)],W⟩,
    ⟨Y 9,.alc [⟨T,.int .i64 0⟩,⟨T,.int .i64 0⟩],W⟩,
    ⟨W,.stb 2 9 (.s 43),W⟩] [1,4,7,9,12,16,17,18])
 (.seq (.seq (.region [⟨Y 45,.mv (.s 4),W⟩,
    ⟨Y 46,.lda (.s 9) 2,W⟩,
    ⟨Y 47,.mlk 12 (.s 45) (.s 46),W⟩,
    ⟨Y 44,.mv (.s 47),W⟩,
    ⟨Y 48,.ext (.s 44) 0,W⟩,
    ⟨Y 49,.ext (.s 44) 1,W⟩,
    ⟨Y 10,.mv (.s 48),W⟩,
    ⟨Y 11,.mv (.s 49),W⟩] [1,4,7,9,10,11,12,16,17,18])
 (.seq (.region [⟨Y 50,.mv (.s 11),W⟩,
    ⟨Y 51,.mv (.s 50),W⟩,
    ⟨Y 52,.mv (.s 10),Y (51,X)⟩,
    ⟨Y 53,.mv (.s 7),Y (51,X)⟩,
    ⟨Y 54,.bin (.i) .neq (.s 52) (.s 53),Y (51,X)⟩,
    ⟨Y 55,.pick (.s 51) (.s 54) (.c (.bool T)),W⟩] [1,4,7,9,12,16,17,18,55])
 (.cond (.s 55) (.seq (.region [⟨Y 2,.mv (.c .undef),W⟩,
    ⟨Y 3,.mv (.c (.int .i64 11)),W⟩] [2,3,12])
 .ret)
 (.skip [1,4,7,9,12,16,17,18]))))
 (.region [⟨Y 56,.mv (.s 4),W⟩,
    ⟨Y 57,.lda (.s 9) 2,W⟩,
    ⟨Y 58,.mv (.s 7),W⟩,
    ⟨W,.mup 12 (.s 56) (.s 57) (.s 58),W⟩] [1,4,12,16,17,18])))))))
 (.region [⟨Y 59,.bin (.i) .add (.s 18) (.c (.int .i64 1)),W⟩,
    ⟨Y 18,.mv (.s 59),W⟩] [1,4,12,16,17,18])))))))
 (.seq (.region [⟨Y 60,.mv (.s 4),W⟩,
    ⟨Y 2,.mv (.s 60),W⟩,
    ⟨Y 3,.mv (.c (.int .i64 0)),W⟩] [2,3,12])
 .ret)))) [.tmp 2,.tmp 3]:=b!
instance ADF(s:AR):Ct Go.Proofs.Tryz.prog (JX s) 288 [jg s] Pa:=FiM AA7 λr h d e=>by
  unfold JX at h;have K:∀b:Nat,HA 0 18 17 0 λ(c:Int)(a:Bq)=>[(12,.mx (.mp b a)),(18,.tv (eI c))]:=λ_=>⟨⟩;have:HMO 12:=⟨⟩;exact au
theorem aV(t:AC)(s:AR)(κ:List Fp)(p:(Int×Int)×Int)(a:Bq)(r:CF (List Fp) Unit)(h:QU t s κ p=Y r):WP (AT Go.Proofs.Tryz.prog) (.block 1 (.seq (.region [⟨Y 25,.men 22,W⟩,
    ⟨Y 26,.ext (.s 25) 0,W⟩,
    ⟨Y 27,.ext (.s 25) 1,W⟩,
    ⟨Y 7,.alc [⟨T,.int .i64 0⟩,⟨T,.int .i64 0⟩],W⟩,
    ⟨W,.stb 2 7 (.s 26),W⟩,
    ⟨Y 8,.mv (.s 27),W⟩] [1,2,7,8,22])
 (.seq (.draw [9,10,28,29,30,31,32,33,34,35,36,37,38,39,40,41,42] [⟨Y 29,.lda (.s 2) 2,W⟩,
    ⟨Y 30,.bad 1 0,W⟩,
    ⟨Y 31,.fad (.s 30) 0,W⟩,
    ⟨Y 32,.fad (.s 31) 31,W⟩,
    ⟨Y 33,.fad (.s 32) 0,W⟩,
    ⟨Y 34,.fad (.s 33) 0,W⟩,
    ⟨Y 35,.ld (.s 34),W⟩,
    ⟨Y 36,.bad 7 0,W⟩,
    ⟨Y 37,.ld (.s 36),W⟩,
    ⟨Y 38,.iad (.s 35) (.s 37) 1,W⟩,
    ⟨Y 39,.ld (.s 38),W⟩,
    ⟨Y 40,.call 289 [.s 29,.s 39],W⟩,
    ⟨Y 28,.mv (.s 40),W⟩,
    ⟨Y 41,.ext (.s 28) 0,W⟩,
    ⟨Y 42,.ext (.s 28) 1,W⟩,
    ⟨Y 9,.mv (.s 41),W⟩,
    ⟨Y 10,.mv (.s 42),W⟩] [1,2,7,8,9,22])
 (.seq (.seq (.region [⟨Y 43,.mv (.s 8),W⟩,
    ⟨Y 44,.mv (.s 9),W⟩,
    ⟨Y 45,.bad 7 1,W⟩,
    ⟨Y 46,.ld (.s 45),W⟩,
    ⟨Y 47,.iad (.s 44) (.s 46) 4,W⟩,
    ⟨Y 48,.fad (.s 47) 1,W⟩,
    ⟨Y 49,.ld (.s 48),W⟩,
    ⟨Y 50,.bin (.i) .lss (.s 43) (.s 49),W⟩,
    ⟨Y 51,.mv (.s 50),W⟩,
    ⟨Y 52,.mv (.s 8),Y (51,T)⟩,
    ⟨Y 53,.mv (.s 9),Y (51,T)⟩,
    ⟨Y 54,.bad 7 1,Y (51,T)⟩,
    ⟨Y 55,.ld (.s 54),Y (51,T)⟩,
    ⟨Y 56,.iad (.s 53) (.s 55) 4,Y (51,T)⟩,
    ⟨Y 57,.fad (.s 56) 2,Y (51,T)⟩,
    ⟨Y 58,.ld (.s 57),Y (51,T)⟩,
    ⟨Y 59,.bin (.i) .gtr (.s 52) (.s 58),Y (51,T)⟩,
    ⟨Y 60,.pick (.s 51) (.c (.bool X)) (.s 59),W⟩] [1,2,7,8,22,60])
 (.cond (.s 60) (.seq (.region [⟨Y 4,.mv (.c (.int .i64 6)),W⟩] [1,4])
 .ret)
 (.skip [1,2,7,8,22])))
 (.draw [61,62,63,64,65,66,67,68,69,70,71,72,73] [⟨Y 61,.bad 1 0,W⟩,
    ⟨Y 62,.fad (.s 61) 0,W⟩,
    ⟨Y 63,.fad (.s 62) 31,W⟩,
    ⟨Y 64,.fad (.s 63) 2,W⟩,
    ⟨Y 65,.lan (.s 64),W⟩,
    ⟨Y 66,.bad 7 0,W⟩,
    ⟨Y 67,.ld (.s 66),W⟩,
    ⟨Y 68,.nia (.s 65) (.s 67),W⟩,
    ⟨Y 69,.nld (.s 68),W⟩,
    ⟨Y 70,.bad 7 1,W⟩,
    ⟨Y 71,.ld (.s 70),W⟩,
    ⟨Y 72,.mv (.s 8),W⟩,
    ⟨Y 73,.nia (.s 69) (.s 71),W⟩,
    ⟨W,.nst (.s 73) (.s 72),W⟩] [1,2,22]))))) ⟨λe=>∃b,r=.next b/\Rn (e.fq [1,2,22]) [(1,.bx (ED (Pu s b))),(2,.tv (.pt (AK t).cells)),(22,.mx (.mi (Y p) a))],λ_ _=>False,λe=>∃v,r=.ret v/\Rn e [(1,.bx (ED (Pu s κ))),(4,.tv (eI 6))]⟩ [(1,.bx (ED (Pu s κ))),(2,.tv (.pt (AK t).cells)),(22,.mx (.mi (Y p) a))]:=by
  unfold QU at h;exact au
noncomputable def cy:PC:=(.seq (.region [⟨Y 2,.Abd (.s 0),W⟩,
    ⟨Y 4,.mv (.c (.int .i64 0)),W⟩] [1,2])
 (.seq (.region [⟨Y 12,.bad 1 0,W⟩,
    ⟨Y 13,.fad (.s 12) 0,W⟩,
    ⟨Y 14,.lda (.s 13) 38,W⟩,
    ⟨Y 15,.Aaw 288 [.s 14],W⟩,
    ⟨Y 11,.mvm 15,W⟩,
    ⟨Y 16,.ext (.s 11) 0,W⟩,
    ⟨Y 17,.ext (.s 11) 1,W⟩,
    ⟨Y 5,.mv (.s 16),W⟩,
    ⟨Y 6,.mv (.s 17),W⟩] [1,2,5,6,15])
 (.seq (.seq (.region [⟨Y 18,.mv (.s 6),W⟩,
    ⟨Y 19,.bin (.i) .neq (.s 18) (.c (.int .i64 0)),W⟩] [1,2,5,6,15,19])
 (.cond (.s 19) (.seq (.region [⟨Y 20,.mv (.s 6),W⟩,
    ⟨Y 4,.mv (.s 20),W⟩] [1,4])
 .ret)
 (.skip [1,2,5,15])))
 (.seq (.seq (.region [⟨Y 21,.mv (.s 5),W⟩,
    ⟨Y 22,.sR 15 (.s 21),W⟩] [1,2,22])
 (.block 0 (.loop [1,2,22] (.seq (.region [⟨Y 23,.mnx 22,W⟩,
    ⟨Y 24,.ext (.s 23) 0,W⟩] [1,2,22,24])
 (.seq (.cond (.s 24) (.skip [1,2,22])
 (.exit 0 [1]))
 (.block 1 (.seq (.region [⟨Y 25,.men 22,W⟩,
    ⟨Y 26,.ext (.s 25) 0,W⟩,
    ⟨Y 27,.ext (.s 25) 1,W⟩,
    ⟨Y 7,.alc [⟨T,.int .i64 0⟩,⟨T,.int .i64 0⟩],W⟩,
    ⟨W,.stb 2 7 (.s 26),W⟩,
    ⟨Y 8,.mv (.s 27),W⟩] [1,2,7,8,22])
 (.seq (.draw [9,10,28,29,30,31,32,33,34,35,36,37,38,39,40,41,42] [⟨Y 29,.lda (.s 2) 2,W⟩,
    ⟨Y 30,.bad 1 0,W⟩,
    ⟨Y 31,.fad (.s 30) 0,W⟩,
    ⟨Y 32,.fad (.s 31) 31,W⟩,
    ⟨Y 33,.fad (.s 32) 0,W⟩,
    ⟨Y 34,.fad (.s 33) 0,W⟩,
    ⟨Y 35,.ld (.s 34),W⟩,
    ⟨Y 36,.bad 7 0,W⟩,
    ⟨Y 37,.ld (.s 36),W⟩,
    ⟨Y 38,.iad (.s 35) (.s 37) 1,W⟩,
    ⟨Y 39,.ld (.s 38),W⟩,
    ⟨Y 40,.call 289 [.s 29,.s 39],W⟩,
    ⟨Y 28,.mv (.s 40),W⟩,
    ⟨Y 41,.ext (.s 28) 0,W⟩,
    ⟨Y 42,.ext (.s 28) 1,W⟩,
    ⟨Y 9,.mv (.s 41),W⟩,
    ⟨Y 10,.mv (.s 42),W⟩] [1,2,7,8,9,22])
 (.seq (.seq (.region [⟨Y 43,.mv (.s 8),W⟩,
    ⟨Y 44,.mv (.s 9),W⟩,
    ⟨Y 45,.bad 7 1,W⟩,
    ⟨Y 46,.ld (.s 45),W⟩,
    ⟨Y 47,.iad (.s 44) (.s 46) 4,W⟩,
    ⟨Y 48,.fad (.s 47) 1,W⟩,
    ⟨Y 49,.ld (.s 48),W⟩,
    ⟨Y 50,.bin (.i) .lss (.s 43) (.s 49),W⟩,
    ⟨Y 51,.mv (.s 50),W⟩,
    ⟨Y 52,.mv (.s 8),Y (51,T)⟩,
    ⟨Y 53,.mv (.s 9),Y (51,T)⟩,
    ⟨Y 54,.bad 7 1,Y (51,T)⟩,
    ⟨Y 55,.ld (.s 54),Y (51,T)⟩,
    ⟨Y 56,.iad (.s 53) (.s 55) 4,Y (51,T)⟩,
    ⟨Y 57,.fad (.s 56) 2,Y (51,T)⟩,
    ⟨Y 58,.ld (.s 57),Y (51,T)⟩,
    ⟨Y 59,.bin (.i) .gtr (.s 52) (.s 58),Y (51,T)⟩,
    ⟨Y 60,.pick (.s 51) (.c (.bool X)) (.s 59),W⟩] [1,2,7,8,22,60])
 (.cond (.s 60) (.seq (.region [⟨Y 4,.mv (.c (.int .i64 6)),W⟩] [1,4])
 .ret)
 (.skip [1,2,7,8,22])))
 (.draw [61,62,63,64,65,66,67,68,69,70,71,72,73] [⟨Y 61,.bad 1 0,W⟩,
    ⟨Y 62,.fad (.s 61) 0,W⟩,
    ⟨Y 63,.fad (.s 62) 31,W⟩,
    ⟨Y 64,.fad (.s 63) 2,W⟩,
    ⟨Y 65,.lan (.s 64),W⟩,
    ⟨Y 66,.bad 7 0,W⟩,
    ⟨Y 67,.ld (.s 66),W⟩,
    ⟨Y 68,.nia (.s 65) (.s 67),W⟩,
    ⟨Y 69,.nld (.s 68),W⟩,
    ⟨Y 70,.bad 7 1,W⟩,
    ⟨Y 71,.ld (.s 70),W⟩,
    ⟨Y 72,.mv (.s 8),W⟩,
    ⟨Y 73,.nia (.s 69) (.s 71),W⟩,
    ⟨W,.nst (.s 73) (.s 72),W⟩] [1,2,22]))))))))))
 (.seq (.region [⟨Y 4,.mv (.c (.int .i64 0)),W⟩] [1,4])
 .ret)))))
theorem AA4:CK f229 cy [.tmp 4]:=b!
theorem ABU:PC.sB cy=X/\PC.tn 1 cy=X:=b!
variable{t:AC}{s:AR}
theorem lj{p:(Int×Int)×Int}{b:Bool}(h:QV t s p=Y b){κ:List Fp}(a:NE κ s.ex.eb):
    (b=X->QU t s κ p=Y (.next (Cl κ p)))/\(b=T->QU t s κ p=Y (.ret ())):=by
  unfold QV QU at h;unfold QU;obtain⟨c,d,h⟩:=bind_some h;obtain⟨q,f,d⟩:=bind_some d;obtain⟨r,g,d⟩:=bind_some d;obtain⟨u,i,d⟩:=bind_some d;obtain⟨j,k,d⟩:=bind_some d;simp only[f,g,i,v1]at *;rw[k,v1];cases j with
  |true=>
    simp only[if_true,q0]at d|-;subst d;simp only[q0]at h;subst h;exact⟨λe=>r?,λ_=>trivial⟩
  |false=>
    simp only[Bool.false_eq_true,if_false]at d|-;obtain⟨v,l,d⟩:=bind_some d;obtain⟨w,m,d⟩:=bind_some d;cases d;simp only[q0]at h;subst h;obtain⟨x,x',n,o⟩:=a.idx l m;refine⟨λ_=>?_,λe=>r?⟩;rw[n,v1,o,v1,eC n o]
theorem nq{a:Bq}{c:Bool}(m:a.Dis)(n:Aat (QV t s) a=Y c){L z:AB->Prop}{x:Nat->AB->Prop}{d:AB->Prop}
    (g:c=X->z [(1,.bx (ED (Pu s (a.foldl Cl s.ex.eb))))])(f:c=T->∀κ,d [(1,.bx (ED (Pu s κ))),(4,.tv (eI 6))]):
    WP (AT Go.Proofs.Tryz.prog) (.loop [1,2,22] (.seq (.region [⟨Y 23,.mnx 22,W⟩,
    ⟨Y 24,.ext (.s 23) 0,W⟩] [1,2,22,24])
 (.seq (.cond (.s 24) (.skip [1,2,22])
 (.exit 0 [1]))
 (.block 1 (.seq (.region [⟨Y 25,.men 22,W⟩,
    ⟨Y 26,.ext (.s 25) 0,W⟩,
    ⟨Y 27,.ext (.s 25) 1,W⟩,
    ⟨Y 7,.alc [⟨T,.int .i64 0⟩,⟨T,.int .i64 0⟩],W⟩,
    ⟨W,.stb 2 7 (.s 26),W⟩,
    ⟨Y 8,.mv (.s 27),W⟩] [1,2,7,8,22])
 (.seq (.draw [9,10,28,29,30,31,32,33,34,35,36,37,38,39,40,41,42] [⟨Y 29,.lda (.s 2) 2,W⟩,
    ⟨Y 30,.bad 1 0,W⟩,
    ⟨Y 31,.fad (.s 30) 0,W⟩,
    ⟨Y 32,.fad (.s 31) 31,W⟩,
    ⟨Y 33,.fad (.s 32) 0,W⟩,
    ⟨Y 34,.fad (.s 33) 0,W⟩,
    ⟨Y 35,.ld (.s 34),W⟩,
    ⟨Y 36,.bad 7 0,W⟩,
    ⟨Y 37,.ld (.s 36),W⟩,
    ⟨Y 38,.iad (.s 35) (.s 37) 1,W⟩,
    ⟨Y 39,.ld (.s 38),W⟩,
    ⟨Y 40,.call 289 [.s 29,.s 39],W⟩,
    ⟨Y 28,.mv (.s 40),W⟩,
    ⟨Y 41,.ext (.s 28) 0,W⟩,
    ⟨Y 42,.ext (.s 28) 1,W⟩,
    ⟨Y 9,.mv (.s 41),W⟩,
    ⟨Y 10,.mv (.s 42),W⟩] [1,2,7,8,9,22])
 (.seq (.seq (.region [⟨Y 43,.mv (.s 8),W⟩,
    ⟨Y 44,.mv (.s 9),W⟩,
    ⟨Y 45,.bad 7 1,W⟩,
    ⟨Y 46,.ld (.s 45),W⟩,
    ⟨Y 47,.iad (.s 44) (.s 46) 4,W⟩,
    ⟨Y 48,.fad (.s 47) 1,W⟩,
    ⟨Y 49,.ld (.s 48),W⟩,
    ⟨Y 50,.bin (.i) .lss (.s 43) (.s 49),W⟩,
    ⟨Y 51,.mv (.s 50),W⟩,
    ⟨Y 52,.mv (.s 8),Y (51,T)⟩,
    ⟨Y 53,.mv (.s 9),Y (51,T)⟩,
    ⟨Y 54,.bad 7 1,Y (51,T)⟩,
    ⟨Y 55,.ld (.s 54),Y (51,T)⟩,
    ⟨Y 56,.iad (.s 53) (.s 55) 4,Y (51,T)⟩,
    ⟨Y 57,.fad (.s 56) 2,Y (51,T)⟩,
    ⟨Y 58,.ld (.s 57),Y (51,T)⟩,
    ⟨Y 59,.bin (.i) .gtr (.s 52) (.s 58),Y (51,T)⟩,
    ⟨Y 60,.pick (.s 51) (.c (.bool X)) (.s 59),W⟩] [1,2,7,8,22,60])
 (.cond (.s 60) (.seq (.region [⟨Y 4,.mv (.c (.int .i64 6)),W⟩] [1,4])
 .ret)
 (.skip [1,2,7,8,22])))
 (.draw [61,62,63,64,65,66,67,68,69,70,71,72,73] [⟨Y 61,.bad 1 0,W⟩,
    ⟨Y 62,.fad (.s 61) 0,W⟩,
    ⟨Y 63,.fad (.s 62) 31,W⟩,
    ⟨Y 64,.fad (.s 63) 2,W⟩,
    ⟨Y 65,.lan (.s 64),W⟩,
    ⟨Y 66,.bad 7 0,W⟩,
    ⟨Y 67,.ld (.s 66),W⟩,
    ⟨Y 68,.nia (.s 65) (.s 67),W⟩,
    ⟨Y 69,.nld (.s 68),W⟩,
    ⟨Y 70,.bad 7 1,W⟩,
    ⟨Y 71,.ld (.s 70),W⟩,
    ⟨Y 72,.mv (.s 8),W⟩,
    ⟨Y 73,.nia (.s 69) (.s 71),W⟩,
    ⟨W,.nst (.s 73) (.s 72),W⟩] [1,2,22])))))))) ⟨L,λj e=>if j=0 then z e else x j e,d⟩ [(1,.bx (ED s)),(2,.tv (.pt (AK t).cells)),(22,.mx (.mi W a))]:=by
  obtain ⟨m1,Q⟩:=Yh n;refine⟨wc _ (σ:=List Fp×Option ((Int×Int)×Int)×Bq) (λσ=>[(1,.bx (ED (Pu s σ.1))),(2,.tv (.pt (AK t).cells)),(22,.mx (.mi σ.2.1 σ.2.2))])
    (λσ=>NE σ.1 s.ex.eb/\(∀l,σ.2.2.Perm l->l.foldl Cl σ.1=a.foldl Cl s.ex.eb)/\(∀p∈σ.2.2,p∈a)/\(c=T->∃p∈σ.2.2,QV t s p=Y T))
    (λσ=>σ.2.2.length) (s.ex.eb,W,a) rfl ⟨rfl,λl A=>X7 m A _,λp r=>r,Q⟩ ?_⟩
  rintro ⟨κ,last,u⟩ ⟨H,I,J,K⟩ ε;refine WP.out (?_:WP _ _ _ _);apply MQ;apply RO;refine AB2 rfl a! (λe=>?_) (λp o r=>?_)
  · simp only at e
    subst e;have O:c=X:=by
      cases c with
      |true=>rfl|false=>obtain⟨p,r,_⟩:=K rfl;cases r
    have P:κ=a.foldl Cl s.ex.eb:=I [] (List.Perm.refl _);apply st 1;exact rfl;exact λ_ k=>k;apply PA;(focus (repeat(first|exact Jq|(apply MY;exact rfl)|(apply MU;exact rfl)|(apply MV;exact rfl)|(apply MZ;exact rfl)|(apply MW;exact rfl))));intro C;apply MQ;apply TJ;exact rfl;exact rfl;apply nR;(focus (repeat(first|exact Jq|(apply MY;exact rfl)|(apply MU;exact rfl)|(apply MV;exact rfl)|(apply MZ;exact rfl)|(apply MW;exact rfl))));show(if(0:Nat)=0 then z [(1,.bx (ED (Pu s κ)))]else x 0 [(1,.bx (ED (Pu s κ)))]);rw[a6 rfl,P];exact g O
  · apply st 1;exact rfl;exact λ_ k=>k
    apply PA;(focus (repeat(first|exact Jq|(apply MY;exact rfl)|(apply MU;exact rfl)|(apply MV;exact rfl)|(apply MZ;exact rfl)|(apply MW;exact rfl))));intro C;apply MQ;apply TK;exact rfl;exact rfl;apply dR;(focus (repeat(first|exact Jq|(apply MY;exact rfl)|(apply MU;exact rfl)|(apply MV;exact rfl)|(apply MZ;exact rfl)|(apply MW;exact rfl))));intro N;have D:p∈u:=r.mem_iff.2 V;obtain⟨b,hb,E⟩:=m1 p (J p D);obtain⟨R,S⟩:=lj hb H;cases b with
    |true=>
      refine ⟨PC.l3 _ _ _ _ (aV t s κ p o _ (R rfl)).out _ (λe he=>?_) (λ_ _ h=>h.elim) (λe he=>?_)⟩
      · obtain⟨θ,y,F⟩:=he
        cases y;refine⟨(Cl κ p,Y p,o),F.out,⟨(aU κ p).trans H,λl A=>?_,λq B=>J q (r.mem_iff.2 (by simp[B])),λM=>?_⟩,?_⟩
        .exact I (p::l) (r.trans (A.cons p))
        · obtain⟨q,B,w⟩:=K M
          rcases List.mem_cons.1 (r.mem_iff.1 B)with rfl|G
          .rw[hb]at w;cases w
          .exact⟨q,G,w⟩
        · have:=r.length_eq
          simp only[cE]at this;show o.length<u.length;omega
      · obtain⟨v,y,_⟩:=he
        cases y
    |false=>
      refine ⟨PC.l3 _ _ _ _ (aV t s κ p o _ (S rfl)).out _ (λe he=>?_) (λ_ _ h=>h.elim) (λe he=>?_)⟩
      · obtain⟨θ,y,_⟩:=he
        cases y
      · obtain⟨v,_,F⟩:=he
        rw [F.out];exact f (by cases c with|false=>rfl|true=>exact absurd (E rfl) V) κ
instance ADD(t:AC)(s:AR):Ct Go.Proofs.Tryz.prog (M9 t s) 229 [AK t,.undef] (λr=>.bo (ED s) (if(!decide (r.1=0))=X then(ED r.2).set 33 ⟨T,.undef⟩else ED r.2) 1 [eI r.1]):=ACH AA4 ABU λr h u l=>by
  unfold cy;unfold M9 at h;obtain⟨a,ha,h⟩:=bind_some h;have d:=(inferInstance:Ct Go.Proofs.Tryz.prog (JX s) 288 [jg s] Pa).snd a ha;apply MQ;apply RO;apply st 1;exact rfl;exact λ_ k=>k;apply st 1;exact rfl;exact λ_ k=>k;apply PA;(focus (repeat(first|exact Jq|(apply MY;exact rfl)|(apply MU;exact rfl)|(apply MV;exact rfl)|(apply MZ;exact rfl)|(apply MW;exact rfl))));intro m;apply MQ;apply RO;apply st 1;exact rfl;exact λ_ k=>k;apply st 1;exact rfl;exact λ_ k=>k;apply st 2;exact rfl;exact λ_ k=>⟨Nat.le_of_ble_eq_true rfl,k⟩;by_cases he:a.2=0
  · have e:Pa a=.mpr a.1 [.int .i64 a.2]:=a6 he
    rw [e]at d;rw[ac u']at h;split at h
    · rename_i hd
      have hd:Bq.Dis a.1:=(show List.Pairwise (λx y:(Int×Int)×Int=>x.1≠y.1) a.1 from of_decide_eq_true hd);obtain⟨c,q,h⟩:=bind_some h;refine sI rfl d (λb=>?_);apply st 1;exact rfl;exact λ_ k=>k;apply st 1;exact rfl;exact λ_ k=>k;apply st 1;exact rfl;exact λ_ k=>k;apply st 1;exact rfl;exact λ_ k=>k;apply st 1;exact rfl;exact λ_ k=>k;apply PA;(focus (repeat(first|exact Jq|(apply MY;exact rfl)|(apply MU;exact rfl)|(apply MV;exact rfl)|(apply MZ;exact rfl)|(apply MW;exact rfl))));intro g;apply MQ;apply MQ;apply RO;apply st 1;exact rfl;exact λ_ k=>k;apply st 1;exact rfl;exact λ_ k=>k;apply PA;(focus (repeat(first|exact Jq|(apply MY;exact rfl)|(apply MU;exact rfl)|(apply MV;exact rfl)|(apply MZ;exact rfl)|(apply MW;exact rfl))));intro i;apply TJ;exact rfl;simp[he];apply dR;(focus (repeat(first|exact Jq|(apply MY;exact rfl)|(apply MU;exact rfl)|(apply MV;exact rfl)|(apply MZ;exact rfl)|(apply MW;exact rfl))));intro j;apply MQ;apply MQ;apply RO;apply st 1;exact rfl;exact λ_ k=>k;apply st 2;exact rfl;exact λ_ k=>⟨⟨a!,rfl⟩,k⟩;apply PA;(focus (repeat(first|exact Jq|(apply MY;exact rfl)|(apply MU;exact rfl)|(apply MV;exact rfl)|(apply MZ;exact rfl)|(apply MW;exact rfl))));intro n;apply jT;refine nq hd q (λf=>?_) (λf κ=>?_)
      · intro o
        apply MQ;apply RO;apply st 1;exact rfl;exact λ_ k=>k;apply PA;(focus (repeat(first|exact Jq|(apply MY;exact rfl)|(apply MU;exact rfl)|(apply MV;exact rfl)|(apply MZ;exact rfl)|(apply MW;exact rfl))));intro p;apply lR;rw[a6 f]at h;cases h;exact⟨_,Wk.refl _,rfl,rfl⟩
      · rw[ac (by simp[f])]at h
        cases h;refine⟨_,?_,rfl,rfl⟩;exact Wk.set (ED (Pu s κ)) 33
    .cases h
  · have e:Pa a=.tp [.undef,.int .i64 a.2]:=ac he
    rw [e]at d;rw[a6 u']at h;refine sH rfl d ?_;apply st 1;exact rfl;exact λ_ k=>k;apply st 1;exact rfl;exact λ_ k=>k;apply st 1;exact rfl;exact λ_ k=>k;apply st 1;exact rfl;exact λ_ k=>k;apply st 1;exact rfl;exact λ_ k=>k;apply PA;(focus (repeat(first|exact Jq|(apply MY;exact rfl)|(apply MU;exact rfl)|(apply MV;exact rfl)|(apply MZ;exact rfl)|(apply MW;exact rfl))));intro g;apply MQ;apply MQ;apply RO;apply st 1;exact rfl;exact λ_ k=>k;apply st 1;exact rfl;exact λ_ k=>k;apply PA;(focus (repeat(first|exact Jq|(apply MY;exact rfl)|(apply MU;exact rfl)|(apply MV;exact rfl)|(apply MZ;exact rfl)|(apply MW;exact rfl))));intro i;apply TK;exact rfl;simp[he];apply MQ;apply RO;apply st 1;exact rfl;exact λ_ k=>k;apply st 1;exact rfl;exact λ_ k=>k;apply PA;(focus (repeat(first|exact Jq|(apply MY;exact rfl)|(apply MU;exact rfl)|(apply MV;exact rfl)|(apply MZ;exact rfl)|(apply MW;exact rfl))));intro j;apply lR;cases h;simp only[he,decide_false,Bool.not_false,if_true];exact⟨_,Wk.set (ED s) 33,rfl,rfl⟩
end Go.Sf.Sc
