/- Contracts of the functions. -/
import Derived.Test.YthcncnllajfkfaaGreatCon1
set_option linter.all false
set_option maxRecDepth 100000
set_option maxHeartbeats 4000000
open Option renaming some->Y,none->W
open Bool renaming true->X,false->T
open Option renaming bind_some->w_
namespace Go.Sf.Sc
open Go Go.Sf Go.Proofs.Tryz
theorem v?{p:Prop}(h:p:=by repeat(first|exact Jd|(apply MM;exact rfl)|(apply MJ;exact rfl)|(apply MK;exact rfl)|(apply MN;exact rfl)|(apply ML;exact rfl))):p:=h
theorem AAf:CK f341 (Rq [An 6 0,An 7 1,An 8 2,An 9 3,Ap 12 2] [4,5,6,7,8,9]<|Sq (Dr [13,14,15,16,17,18,19,20,21] [Ab 14 7 2,Ab 15 8 2,Ab 16 6 2,⟨Y 17,.call 348 [.s 16],W⟩,Ab 18 9 2,Aa 19 4,Aa 20 5,⟨Y 21,.bld [.list 1 [],.list 3 [],.list 1 [],.list 3 [],.list 1 [],.nil,.nil,.bool T,.int .i64 0,.nil,.nil,.nil] [(0,2,.s 14),(2,2,.s 15),(4,1,.s 17),(5,2,.s 18),(7,1,.s 19),(8,1,.s 20)],W⟩,⟨Y 22,.Abh [W,W,W,W,W,W,W,W,W,Y ⟨X,.xl 1 []⟩,Y ⟨X,.xl 1 []⟩,Y ⟨X,.list 2 []⟩] (.s 21),W⟩,Ak 13 22 0] [13,22])<|Rq [Aq 23 13 0,⟨Y 24,.AaA 386 [.s 23] 0,W⟩] [13,22]<|Rq [Aq 25 13 0,Aq 26 25 0,Aq 27 26 11,Aj 28 27,Ad 12 28] [12]<|.ret) [.tmp 12]:=c!
instance(a b c d e f):CT (GL a b c d e f) 341 [AL a,A2 b,A2 c,tB d,eB e,eI f] (rS (eL 2 A6)):=Fi AAf λr h g i=>by
  unfold GL at h;exact au
instance(a b c d e):CT (Jn a b c d e) 275 [AL a,A2 b,A2 c,tB d,eB e] (rT (eL 2 A6) eI):=Fe f275 0x8182015502c085e5820eb538c1c44061610401 [] (Jn.eq_1 ..)
instance(a b):CT (OY a b) 448 [eI a,.pt [eI b]] rB:=Fe f448 0xa205038c01b9 [] (OY.eq_1 ..)
instance(a b):CT (IV a b) 442 [lI a,eI b] rI:=Fe f442 0x81558e1032fc01 [] (IV.eq_1 ..)
instance(a b c d e):CT (Hp a b c d e) 429 [AL a,A2 b,A2 c,A6 d,eB e] (rT (eL 2 A6) eI):=Fe f429 0x8182720eb538c15502c07e0ee95c5502c07e0ebd5b5502c08ad8e959bdbd5502c07e92c1c44061610401 [] (Hp.eq_1 ..)
instance(a b):CT (Fd a b) 356 [Su a,lI b] (rT eI eI):=Fe f356 0x9a0eb5ccd670015b329332 [] (Fd.eq_1 ..)
instance(a b c d):CT (EU a b c d) 430 [Cv a,BQ b,A6 c,lI d] (rT lI eB):=iR f430 0x8182180a016867660a049655e08820149eba04c99e05430af86867660a04e2b70a05022c2b2ac3a8089655e08aa58c60817201201438ac2c2b2a0f0ec3a80a2c2b2a0f0ec3a80a3cf4f4057fac321401148a0817cd0114596073ac815f5c5f5fdc5d41ac044b05c9d504430a0502622c2b2ac3a808e2acc3a8052221c3a80796f401148101c3a805622221c3a8079701993fb6993f7001b61a013240936136 [.Abo 1 22 (.int .i64 0) (.s 27),.mkx 1 [.bool T] (.s 30)] (EU.eq_1 ..) (BG 0 34 33 0 (hX 11 1 eB)) (BG 2 44 43 0 λs2:Fp×a6=>[(10,.xo 1 (List.map eI s2.1)),(11,.xo 1 (List.map eB s2.2))]) (BM 4 104 103 0)
instance(a b c):CT (Ce a b c) 420 [Cv a,AI b,Bo c] (rT (eL 3 Bo) eI):=Bv f420 0x81ec0c013b3a390ccb07963b3a390ccb073b3a390ccb073c02034803470946b5029ae390389eb7064484ef3802430cf83b3a390ccb07978103c05503c07ee3030542c15aacc13784ef04460eea7face90ebe73acbd84fa385ab7f740939d [] (Ce.eq_1 ..) (BG 0 59 58 0 (hO 12 (eL 3 Bo)))
abbrev AbV(n:Nat):Prop:=∀(a:Bm)(c:d7)(m:AP),CT (BA n a c m) 353 [Cv a,AI c,Bo m] (rT FB eI)
abbrev AbT(n:Nat):Prop:=∀(a:Bm)(c:d7)(m:AP),CT (Bh n a c m) 395 [Cv a,AI c,Bo m] (rT FB eI)
theorem AAO(n:Nat)(_ih_353:AbV n)(_ih_395:AbT n)(a:Bm)(c:d7)(m:AP):CT (BA (n+1) a c m) 353 [Cv a,AI c,Bo m] (rT FB eI):=Fk f353 0x81ba0a46ff55ba720e6ba90644db81ba0a4606014b4a499b03069655ba7646850155ba0b4605479e7eba0ec9786ba90644094ba2c9a9097d06f84b4a499b0306e2b8db81ba9e0a06022f2e2d0a9b030796d9b7054805479e04b755ba76f6ba0ec9786ba90644094b0ac9a909430a0602622f2e2d0a9b0307e2b80ec9db81ba7646ff55ba0a46db81ba0a46db9aba0e49786ba909435c0644db83376cc9939d [] [.cell 6 (Y 5),.tmp 7] λr h b d=>by
  unfold BA at h;have:=BG 2 47 46 0 λs2:BN×BN=>[(6,.bx [⟨T,eI s2.1.Aaw⟩,⟨X,lI s2.1.og.d6.d3⟩,⟨X,lI s2.1.og.d6.d4⟩,⟨X,lI s2.1.og.fd⟩,⟨X,I8 s2.1.fu⟩]),(10,.bx [⟨T,eI s2.2.Aaw⟩,⟨X,lI s2.2.og.d6.d3⟩,⟨X,lI s2.2.og.d6.d4⟩,⟨X,lI s2.2.og.fd⟩,⟨X,I8 s2.2.fu⟩])];have:=BG 4 75 74 0 λs4:BN=>[(6,.bx [⟨T,eI s4.Aaw⟩,⟨X,lI s4.og.d6.d3⟩,⟨X,lI s4.og.d6.d4⟩,⟨X,lI s4.og.fd⟩,⟨X,I8 s4.fu⟩])];exact nz
theorem AAU(n:Nat)(_ih_353:AbV n)(_ih_395:AbT n)(a:Bm)(c:d7)(m:AP):CT (Bh (n+1) a c m) 395 [Cv a,AI c,Bo m] (rT FB eI):=Fk f395 0x81ba0a4606011b1a19060403069655ba7646850155ba0c4605479e6b71ba0ec9786ba909435c0644b10fc9cf4306f81b1a1906040306978155ba76f6e36ba906446cc9939d [] [.cell 6 (Y 5),.tmp 7] λr h b d=>by
  unfold Bh at h;have:=BG 0 27 26 0 λs0:BN=>[(6,.bx [⟨T,eI s0.Aaw⟩,⟨X,lI s0.og.d6.d3⟩,⟨X,lI s0.og.d6.d4⟩,⟨X,lI s0.og.fd⟩,⟨X,I8 s0.fu⟩])];exact nz
theorem sw:∀n:Nat,AbV n/\AbT n:=by
  intro n
  induction n with
  |zero=>exact⟨(λb c m=>⟨λ_ h=>d_⟩),(λb c m=>⟨λ_ h=>d_⟩)⟩
  |succ n a=>exact⟨AAO n a.1 a.2,AAU n a.1 a.2⟩
instance(s_0 c m):CT (Fy s_0 c m) 353 [Cv s_0,AI c,Bo m] (rT FB eI):=⟨λr h=>by
  obtain ⟨N,a⟩:=Cy h;exact((sw N).1 s_0 c m).snd r (a N (az _))⟩
instance(s_0 c m):CT (RI s_0 c m) 395 [Cv s_0,AI c,Bo m] (rT FB eI):=⟨λr h=>by
  obtain ⟨N,a⟩:=Cy h;exact((sw N).2 s_0 c m).snd r (a N (az _))⟩
instance(a b c d e f):CT (Ey a b c d e f) 285 [AL a,BQ b,AI c,Bg d,Bo e,eB f] (rT FB eI):=Fk f285 0x81ba720e6ba90d46016b3855ba76f60e016b6ba99e386cc9936161a5 [] [.cell 12 (Y 5),.tmp 13] λr h g i=>by
  unfold Ey at h;exact nz
instance(a b c d e f):CT (EC a b c d e f) 223 [AL a,BQ b,AI c,Bg d,Bo e,eB f] (rT eB eI):=Fe f223 0x9a5901cc71ba0e4978016b6ba99e3832936161a5 [] (EC.eq_1 ..)
instance(a):CT (Kh a) 224 [Bo a] (rS Bo):=Fk f224 0xad3bb109460e9004460eea0ebe0fc9fc [] [.cell 2 (Y 3)] λr h b c=>by
  unfold Kh at h;exact nz
instance(a):CT (Lt a) 225 [Bg a] (rS Bg):=Fk f225 0xb16b5d02e4115d0596d9ac01d00148324704ac825f5d0262e4115d05e2ac035010c93f3f0eea0ebe10c9fc [.Aao [.w 9,.w 13],.Aao [.g 14 0 2,.g 14 1 2,.z ⟨X,.list 1 []⟩]] [.cell 2 (Y 3)] λr h b c=>by
  unfold Lt at h;have:=BG 0 19 18 0 λs0:AG=>[(3,.bx [⟨X,lI s0.d5.d3⟩,⟨X,lE s0.d5.d4⟩,⟨X,(eL 1 lI) s0.ej⟩])];exact nz
instance(a b):CT (Ni a b) 226 [eI a,lI b] (rO lI):=Bv f226 0x8218a5c6a50496f43214c6f50106c6f501063c0188608178328159f8c6a504819514993f32406502 [.mkx 1 [.int .i64 0] (.s 9)] (Ni.eq_1 ..) (BG 0 13 12 0 (hX 5 1 eI))
instance(a b c d e f):CT (HT a b c d e f) 227 [eI a,lI b,lI c,lI d,lI e,eI f] (rO lI):=KE f227 0x82180d012b2a0d6a962b2a0d6a2b2a0d6a5e32ed32148517cd011481010df82b2a0d6a8195140d05021615140d6a360896f45f5f8d3232149a8d0d0502621615140d6a36089781991a3247fbe66506 [] (HT.eq_1 ..) (BG 0 22 21 0 (hX 13 1 eI)) (BG 2 43 42 0 λs2:Int×Fp=>[(5,.tv (eI s2.1)),(13,.xo 1 (List.map eI s2.2))])
instance(a b):CT (LZ a b) 287 [AL a,eI b] (rO lI):=Bv f287 0xec0701e411070496add05c02044b03c9d5044307f8e4110704978182a701e3b5fb9332 [] (LZ.eq_1 ..) (BG 0 19 18 0 (hO 7 lI))
noncomputable def cq:PC:=PC.of OL f228.body (xq bT 0x32b0afaee896b0afaee8b0afaee83cd901771f770348034707465f907324b25f5c7324b25b0401771fb237850b36771fb28d7f24b2b181eecf7d3262b0afaee8e2b807c47b7a79073606967b7a790736067b7a790736063c1f02411f7721221ab52302411fb237d95a5a1f7701d0e85a5a1fb237850b735a1fb28d7324b29a8d07c4627b7a79073606e2370736b14a490706360796d901771f770348034707465f907322b25f5c7322b25b0401771fb237b1eecf7dea815f073603624b4a4907063607e2b8f536051e1d1cf53608961f02411f772122014f8d9001562302411fb237d95a5a1f7701d08dbe045a5a1fb237815ff53605621e1d1cf53608e23784b1fa10c9385a06775a376b1cb26132) []
theorem AAa:CK f228 cq []:=c!
theorem AA3:PC.x9 cq=X/\PC.zt 1 cq=X:=c!
instance(a b c):CT (Jr a b c) 228 [AL a,.undef,Hc c] (λr=>.bo (D5 b) (D5 r) 1 []):=iS AAa AA3 λr h e d f=>by
  unfold cq;unfold f228;unfold Jr at h;have:=BG 0 30 29 0 λs0:AU=>[(1,.bx (D5 s0))];have:=BG 2 75 74 0 λs2:AU=>[(1,.bx (D5 s2))];have:=BG 4 123 122 0 λs4:AU=>[(1,.bx (D5 s4))];have:=BG 6 176 175 0 λs6:AU=>[(1,.bx (D5 s6))];exact nz
theorem AAd:CK f288 (.seq (.region [⟨Y 1,.Abr (.s 0),W⟩,
    ⟨Y 2,.mv (.c .undef),W⟩,
    ⟨Y 3,.mv (.c (.int .i64 0)),W⟩] [1])
 (.seq (.region [⟨Y 12,.mkm,W⟩,
    ⟨Y 4,.mvm 12,W⟩] [1,4,12])
 (.seq (.seq (.region [⟨Y 13,.bad 1 0,W⟩,
    ⟨Y 14,.fad (.s 13) 6,W⟩,
    ⟨Y 15,.fad (.s 14) 2,W⟩,
    ⟨Y 16,.ld (.s 15),W⟩,
    ⟨Y 17,.len (.s 16),W⟩,
    ⟨Y 18,.mv (.c (.int .i64 0)),W⟩] [1,4,12,16,17,18])
 (.block 0 (.loop [1,4,12,16,17,18] (.seq (.region [⟨Y 19,.bin (.i) .lss (.s 18) (.s 17),W⟩] [1,4,12,16,17,18,19])
 (.seq (.cond (.s 19) (.skip [1,4,12,16,17,18])
 (.exit 0 [4,12]))
 (.seq (.block 1 (.seq (.region [⟨Y 20,.iad (.s 16) (.s 18) 4,W⟩,
    ⟨Y 21,.lda (.s 20) 4,W⟩,
    ⟨Y 6,.alc [⟨T,.int .i64 0⟩,⟨T,.int .i64 0⟩,⟨T,.int .i64 0⟩,⟨T,.int .i64 0⟩],W⟩,
    ⟨W,.stb 4 6 (.s 21),W⟩] [1,4,6,12,16,17,18])
 (.seq (.region [⟨Y 23,.bad 6 2,W⟩,
    ⟨Y 24,.lda (.s 23) 2,W⟩,
    ⟨Y 25,.bad 1 25,W⟩,
    ⟨Y 26,.fad (.s 25) 2,W⟩,
    ⟨Y 27,.ld (.s 26),W⟩,
    ⟨Y 28,.call 356 [.s 24,.s 27],W⟩,
    ⟨Y 22,.mv (.s 28),W⟩,
    ⟨Y 29,.ext (.s 22) 0,W⟩,
    ⟨Y 30,.ext (.s 22) 1,W⟩,
    ⟨Y 7,.mv (.s 29),W⟩,
    ⟨Y 8,.mv (.s 30),W⟩] [1,4,6,7,8,12,16,17,18])
 (.seq (.seq (.region [⟨Y 31,.mv (.s 8),W⟩,
    ⟨Y 32,.bin (.i) .neq (.s 31) (.c (.int .i64 0)),W⟩] [1,4,6,7,8,12,16,17,18,32])
 (.cond (.s 32) (.seq (.region [⟨Y 33,.mv (.s 8),W⟩,
    ⟨Y 2,.mv (.c .undef),W⟩,
    ⟨Y 3,.mv (.s 33),W⟩] [2,3,12])
 .ret)
 (.skip [1,4,6,7,12,16,17,18])))
 (.seq (.draw [9,34,35,36,37,38,39,40,41,42,43] [⟨Y 34,.bad 1 36,W⟩,
    ⟨Y 35,.fad (.s 34) 0,W⟩,
    ⟨Y 36,.ld (.s 35),W⟩,
    ⟨Y 37,.bad 6 0,W⟩,
    ⟨Y 38,.ld (.s 37),W⟩,
    ⟨Y 39,.iad (.s 36) (.s 38) 1,W⟩,
    ⟨Y 40,.ld (.s 39),W⟩,
    ⟨Y 41,.bad 6 1,W⟩,
    ⟨Y 42,.ld (.s 41),W⟩,
    ⟨Y 43,.bld [.int .i64 0,.int .i64 0] [(0,1,.s 40),(1,1,.s 42)],W⟩,
    ⟨Y 9,.alc [⟨T,.int .i64 0⟩,⟨T,.int .i64 0⟩],W⟩,
    ⟨W,.stb 2 9 (.s 43),W⟩] [1,4,7,9,12,16,17,18])
 (.seq (.seq (.region [⟨Y 45,.mv (.s 4),W⟩,
    ⟨Y 46,.lda (.s 9) 2,W⟩,
    ⟨Y 47,.mlk 12 (.s 45) (.s 46),W⟩,
    ⟨Y 44,.mv (.s 47),W⟩,
    ⟨Y 48,.ext (.s 44) 0,W⟩,
    ⟨Y 49,.ext (.s 44) 1,W⟩,
    ⟨Y 10,.mv (.s 48),W⟩,
    ⟨Y 11,.mv (.s 49),W⟩] [1,4,7,9,10,11,12,16,17,18])
 (.seq (.region [⟨Y 50,.mv (.s 11),W⟩,
    ⟨Y 51,.mv (.s 50),W⟩,
    ⟨Y 52,.mv (.s 10),Y (51,X)⟩,
    ⟨Y 53,.mv (.s 7),Y (51,X)⟩,
    ⟨Y 54,.bin (.i) .neq (.s 52) (.s 53),Y (51,X)⟩,
    ⟨Y 55,.pick (.s 51) (.s 54) (.c (.bool T)),W⟩] [1,4,7,9,12,16,17,18,55])
 (.cond (.s 55) (.seq (.region [⟨Y 2,.mv (.c .undef),W⟩,
    ⟨Y 3,.mv (.c (.int .i64 11)),W⟩] [2,3,12])
 .ret)
 (.skip [1,4,7,9,12,16,17,18]))))
 (.region [⟨Y 56,.mv (.s 4),W⟩,
    ⟨Y 57,.lda (.s 9) 2,W⟩,
    ⟨Y 58,.mv (.s 7),W⟩,
    ⟨W,.mup 12 (.s 56) (.s 57) (.s 58),W⟩] [1,4,12,16,17,18])))))))
 (.region [⟨Y 59,.bin (.i) .add (.s 18) (.c (.int .i64 1)),W⟩,
    ⟨Y 18,.mv (.s 59),W⟩] [1,4,12,16,17,18])))))))
 (.seq (.region [⟨Y 60,.mv (.s 4),W⟩,
    ⟨Y 2,.mv (.s 60),W⟩,
    ⟨Y 3,.mv (.c (.int .i64 0)),W⟩] [2,3,12])
 .ret)))) [.tmp 2,.tmp 3]:=c!
instance AC4(s:AU):Ct Go.Proofs.Tryz.prog (JG s) 288 [il s] PV:=FiM AAd λr h d e=>by
  unfold JG at h;have K:∀b:Nat,HA 0 18 17 0 λ(a:Int)(c:Bk)=>[(12,.mx (.mp b c)),(18,.tv (eI a))]:=λ_=>⟨⟩;have:HMO 12:=⟨⟩;exact au
theorem aE(t:AC)(s:AU)(κ:List Fp)(p:(Int×Int)×Int)(a:Bk)(r:B0 (List Fp) Unit)(h:Qc t s κ p=Y r):WP (AV Go.Proofs.Tryz.prog) (.block 1 (.seq (.region [⟨Y 25,.men 22,W⟩,
    ⟨Y 26,.ext (.s 25) 0,W⟩,
    ⟨Y 27,.ext (.s 25) 1,W⟩,
    ⟨Y 7,.alc [⟨T,.int .i64 0⟩,⟨T,.int .i64 0⟩],W⟩,
    ⟨W,.stb 2 7 (.s 26),W⟩,
    ⟨Y 8,.mv (.s 27),W⟩] [1,2,7,8,22])
 (.seq (.draw [9,10,28,29,30,31,32,33,34,35,36,37,38,39,40,41,42] [⟨Y 29,.lda (.s 2) 2,W⟩,
    ⟨Y 30,.bad 1 0,W⟩,
    ⟨Y 31,.fad (.s 30) 0,W⟩,
    ⟨Y 32,.fad (.s 31) 31,W⟩,
    ⟨Y 33,.fad (.s 32) 0,W⟩,
    ⟨Y 34,.fad (.s 33) 0,W⟩,
    ⟨Y 35,.ld (.s 34),W⟩,
    ⟨Y 36,.bad 7 0,W⟩,
    ⟨Y 37,.ld (.s 36),W⟩,
    ⟨Y 38,.iad (.s 35) (.s 37) 1,W⟩,
    ⟨Y 39,.ld (.s 38),W⟩,
    ⟨Y 40,.call 289 [.s 29,.s 39],W⟩,
    ⟨Y 28,.mv (.s 40),W⟩,
    ⟨Y 41,.ext (.s 28) 0,W⟩,
    ⟨Y 42,.ext (.s 28) 1,W⟩,
    ⟨Y 9,.mv (.s 41),W⟩,
    ⟨Y 10,.mv (.s 42),W⟩] [1,2,7,8,9,22])
 (.seq (.seq (.region [⟨Y 43,.mv (.s 8),W⟩,
    ⟨Y 44,.mv (.s 9),W⟩,
    ⟨Y 45,.bad 7 1,W⟩,
    ⟨Y 46,.ld (.s 45),W⟩,
    ⟨Y 47,.iad (.s 44) (.s 46) 4,W⟩,
    ⟨Y 48,.fad (.s 47) 1,W⟩,
    ⟨Y 49,.ld (.s 48),W⟩,
    ⟨Y 50,.bin (.i) .lss (.s 43) (.s 49),W⟩,
    ⟨Y 51,.mv (.s 50),W⟩,
    ⟨Y 52,.mv (.s 8),Y (51,T)⟩,
    ⟨Y 53,.mv (.s 9),Y (51,T)⟩,
    ⟨Y 54,.bad 7 1,Y (51,T)⟩,
    ⟨Y 55,.ld (.s 54),Y (51,T)⟩,
    ⟨Y 56,.iad (.s 53) (.s 55) 4,Y (51,T)⟩,
    ⟨Y 57,.fad (.s 56) 2,Y (51,T)⟩,
    ⟨Y 58,.ld (.s 57),Y (51,T)⟩,
    ⟨Y 59,.bin (.i) .gtr (.s 52) (.s 58),Y (51,T)⟩,
    ⟨Y 60,.pick (.s 51) (.c (.bool X)) (.s 59),W⟩] [1,2,7,8,22,60])
 (.cond (.s 60) (.seq (.region [⟨Y 4,.mv (.c (.int .i64 6)),W⟩] [1,4])
 .ret)
 (.skip [1,2,7,8,22])))
 (.draw [61,62,63,64,65,66,67,68,69,70,71,72,73] [⟨Y 61,.bad 1 0,W⟩,
    ⟨Y 62,.fad (.s 61) 0,W⟩,
    ⟨Y 63,.fad (.s 62) 31,W⟩,
    ⟨Y 64,.fad (.s 63) 2,W⟩,
    ⟨Y 65,.lan (.s 64),W⟩,
    ⟨Y 66,.bad 7 0,W⟩,
    ⟨Y 67,.ld (.s 66),W⟩,
    ⟨Y 68,.nia (.s 65) (.s 67),W⟩,
    ⟨Y 69,.nld (.s 68),W⟩,
    ⟨Y 70,.bad 7 1,W⟩,
    ⟨Y 71,.ld (.s 70),W⟩,
    ⟨Y 72,.mv (.s 8),W⟩,
    ⟨Y 73,.nia (.s 69) (.s 71),W⟩,
    ⟨W,.nst (.s 73) (.s 72),W⟩] [1,2,22]))))) ⟨λe=>∃b,r=.next b/\Rn (e.fl [1,2,22]) [(1,.bx (D5 (Pu s b))),(2,.tv (.pt (AL t).cells)),(22,.mx (.mi (Y p) a))],λ_ _=>False,λe=>∃v,r=.ret v/\Rn e [(1,.bx (D5 (Pu s κ))),(4,.tv (eI 6))]⟩ [(1,.bx (D5 (Pu s κ))),(2,.tv (.pt (AL t).cells)),(22,.mx (.mi (Y p) a))]:=by
  unfold Qc at h;exact au
noncomputable def cr:PC:=(.seq (.region [⟨Y 2,.Abr (.s 0),W⟩,
    ⟨Y 4,.mv (.c (.int .i64 0)),W⟩] [1,2])
 (.seq (.region [⟨Y 12,.bad 1 0,W⟩,
    ⟨Y 13,.fad (.s 12) 0,W⟩,
    ⟨Y 14,.lda (.s 13) 38,W⟩,
    ⟨Y 15,.AaI 288 [.s 14],W⟩,
    ⟨Y 11,.mvm 15,W⟩,
    ⟨Y 16,.ext (.s 11) 0,W⟩,
    ⟨Y 17,.ext (.s 11) 1,W⟩,
    ⟨Y 5,.mv (.s 16),W⟩,
    ⟨Y 6,.mv (.s 17),W⟩] [1,2,5,6,15])
 (.seq (.seq (.region [⟨Y 18,.mv (.s 6),W⟩,
    ⟨Y 19,.bin (.i) .neq (.s 18) (.c (.int .i64 0)),W⟩] [1,2,5,6,15,19])
 (.cond (.s 19) (.seq (.region [⟨Y 20,.mv (.s 6),W⟩,
    ⟨Y 4,.mv (.s 20),W⟩] [1,4])
 .ret)
 (.skip [1,2,5,15])))
 (.seq (.seq (.region [⟨Y 21,.mv (.s 5),W⟩,
    ⟨Y 22,.x6 15 (.s 21),W⟩] [1,2,22])
 (.block 0 (.loop [1,2,22] (.seq (.region [⟨Y 23,.mnx 22,W⟩,
    ⟨Y 24,.ext (.s 23) 0,W⟩] [1,2,22,24])
 (.seq (.cond (.s 24) (.skip [1,2,22])
 (.exit 0 [1]))
 (.block 1 (.seq (.region [⟨Y 25,.men 22,W⟩,
    ⟨Y 26,.ext (.s 25) 0,W⟩,
    ⟨Y 27,.ext (.s 25) 1,W⟩,
    ⟨Y 7,.alc [⟨T,.int .i64 0⟩,⟨T,.int .i64 0⟩],W⟩,
    ⟨W,.stb 2 7 (.s 26),W⟩,
    ⟨Y 8,.mv (.s 27),W⟩] [1,2,7,8,22])
 (.seq (.draw [9,10,28,29,30,31,32,33,34,35,36,37,38,39,40,41,42] [⟨Y 29,.lda (.s 2) 2,W⟩,
    ⟨Y 30,.bad 1 0,W⟩,
    ⟨Y 31,.fad (.s 30) 0,W⟩,
    ⟨Y 32,.fad (.s 31) 31,W⟩,
    ⟨Y 33,.fad (.s 32) 0,W⟩,
    ⟨Y 34,.fad (.s 33) 0,W⟩,
    ⟨Y 35,.ld (.s 34),W⟩,
    ⟨Y 36,.bad 7 0,W⟩,
    ⟨Y 37,.ld (.s 36),W⟩,
    ⟨Y 38,.iad (.s 35) (.s 37) 1,W⟩,
    ⟨Y 39,.ld (.s 38),W⟩,
    ⟨Y 40,.call 289 [.s 29,.s 39],W⟩,
    ⟨Y 28,.mv (.s 40),W⟩,
    ⟨Y 41,.ext (.s 28) 0,W⟩,
    ⟨Y 42,.ext (.s 28) 1,W⟩,
    ⟨Y 9,.mv (.s 41),W⟩,
    ⟨Y 10,.mv (.s 42),W⟩] [1,2,7,8,9,22])
 (.seq (.seq (.region [⟨Y 43,.mv (.s 8),W⟩,
    ⟨Y 44,.mv (.s 9),W⟩,
    ⟨Y 45,.bad 7 1,W⟩,
    ⟨Y 46,.ld (.s 45),W⟩,
    ⟨Y 47,.iad (.s 44) (.s 46) 4,W⟩,
    ⟨Y 48,.fad (.s 47) 1,W⟩,
    ⟨Y 49,.ld (.s 48),W⟩,
    ⟨Y 50,.bin (.i) .lss (.s 43) (.s 49),W⟩,
    ⟨Y 51,.mv (.s 50),W⟩,
    ⟨Y 52,.mv (.s 8),Y (51,T)⟩,
    ⟨Y 53,.mv (.s 9),Y (51,T)⟩,
    ⟨Y 54,.bad 7 1,Y (51,T)⟩,
    ⟨Y 55,.ld (.s 54),Y (51,T)⟩,
    ⟨Y 56,.iad (.s 53) (.s 55) 4,Y (51,T)⟩,
    ⟨Y 57,.fad (.s 56) 2,Y (51,T)⟩,
    ⟨Y 58,.ld (.s 57),Y (51,T)⟩,
    ⟨Y 59,.bin (.i) .gtr (.s 52) (.s 58),Y (51,T)⟩,
    ⟨Y 60,.pick (.s 51) (.c (.bool X)) (.s 59),W⟩] [1,2,7,8,22,60])
 (.cond (.s 60) (.seq (.region [⟨Y 4,.mv (.c (.int .i64 6)),W⟩] [1,4])
 .ret)
 (.skip [1,2,7,8,22])))
 (.draw [61,62,63,64,65,66,67,68,69,70,71,72,73] [⟨Y 61,.bad 1 0,W⟩,
    ⟨Y 62,.fad (.s 61) 0,W⟩,
    ⟨Y 63,.fad (.s 62) 31,W⟩,
    ⟨Y 64,.fad (.s 63) 2,W⟩,
    ⟨Y 65,.lan (.s 64),W⟩,
    ⟨Y 66,.bad 7 0,W⟩,
    ⟨Y 67,.ld (.s 66),W⟩,
    ⟨Y 68,.nia (.s 65) (.s 67),W⟩,
    ⟨Y 69,.nld (.s 68),W⟩,
    ⟨Y 70,.bad 7 1,W⟩,
    ⟨Y 71,.ld (.s 70),W⟩,
    ⟨Y 72,.mv (.s 8),W⟩,
    ⟨Y 73,.nia (.s 69) (.s 71),W⟩,
    ⟨W,.nst (.s 73) (.s 72),W⟩] [1,2,22]))))))))))
 (.seq (.region [⟨Y 4,.mv (.c (.int .i64 0)),W⟩] [1,4])
 .ret)))))
theorem AAb:CK f229 cr [.tmp 4]:=c!
theorem AA4:PC.x9 cr=X/\PC.zt 1 cr=X:=c!
variable{t:AC}{s:AU}
theorem kW{p:(Int×Int)×Int}{b:Bool}(h:Qd t s p=Y b){κ:List Fp}(a:NB κ s.hV.ej):
    (b=X->Qc t s κ p=Y (.next (Cd κ p)))/\(b=T->Qc t s κ p=Y (.ret ())):=by
  unfold Qd Qc at h;unfold Qc;obtain⟨c,d,h⟩:=bind_some h;obtain⟨q,f,d⟩:=bind_some d;obtain⟨r,g,d⟩:=bind_some d;obtain⟨u,i,d⟩:=bind_some d;obtain⟨j,k,d⟩:=bind_some d;simp only[f,g,i,w_]at *;rw[k,w_];cases j with
  |true=>
    simp only[if_true,tl]at d|-;subst d;simp only[tl]at h;subst h;exact⟨λe=>q!,λ_=>trivial⟩
  |false=>
    simp only[Bool.false_eq_true,if_false]at d|-;obtain⟨v,l,d⟩:=bind_some d;obtain⟨w,m,d⟩:=bind_some d;cases d;simp only[tl]at h;subst h;obtain⟨x,x',n,o⟩:=a.idx l m;refine⟨λ_=>?_,λe=>q!⟩;rw[n,w_,o,w_,dw n o]
theorem my{a:Bk}{c:Bool}(g:a.Dis)(m:AaH (Qd t s) a=Y c){L z:AB->Prop}{x:Nat->AB->Prop}{d:AB->Prop}
    (n:c=X->z [(1,.bx (D5 (Pu s (a.foldl Cd s.hV.ej))))])(f:c=T->∀κ,d [(1,.bx (D5 (Pu s κ))),(4,.tv (eI 6))]):
    WP (AV Go.Proofs.Tryz.prog) (.loop [1,2,22] (.seq (.region [⟨Y 23,.mnx 22,W⟩,
    ⟨Y 24,.ext (.s 23) 0,W⟩] [1,2,22,24])
 (.seq (.cond (.s 24) (.skip [1,2,22])
 (.exit 0 [1]))
 (.block 1 (.seq (.region [⟨Y 25,.men 22,W⟩,
    ⟨Y 26,.ext (.s 25) 0,W⟩,
    ⟨Y 27,.ext (.s 25) 1,W⟩,
    ⟨Y 7,.alc [⟨T,.int .i64 0⟩,⟨T,.int .i64 0⟩],W⟩,
    ⟨W,.stb 2 7 (.s 26),W⟩,
    ⟨Y 8,.mv (.s 27),W⟩] [1,2,7,8,22])
 (.seq (.draw [9,10,28,29,30,31,32,33,34,35,36,37,38,39,40,41,42] [⟨Y 29,.lda (.s 2) 2,W⟩,
    ⟨Y 30,.bad 1 0,W⟩,
    ⟨Y 31,.fad (.s 30) 0,W⟩,
    ⟨Y 32,.fad (.s 31) 31,W⟩,
    ⟨Y 33,.fad (.s 32) 0,W⟩,
    ⟨Y 34,.fad (.s 33) 0,W⟩,
    ⟨Y 35,.ld (.s 34),W⟩,
    ⟨Y 36,.bad 7 0,W⟩,
    ⟨Y 37,.ld (.s 36),W⟩,
    ⟨Y 38,.iad (.s 35) (.s 37) 1,W⟩,
    ⟨Y 39,.ld (.s 38),W⟩,
    ⟨Y 40,.call 289 [.s 29,.s 39],W⟩,
    ⟨Y 28,.mv (.s 40),W⟩,
    ⟨Y 41,.ext (.s 28) 0,W⟩,
    ⟨Y 42,.ext (.s 28) 1,W⟩,
    ⟨Y 9,.mv (.s 41),W⟩,
    ⟨Y 10,.mv (.s 42),W⟩] [1,2,7,8,9,22])
 (.seq (.seq (.region [⟨Y 43,.mv (.s 8),W⟩,
    ⟨Y 44,.mv (.s 9),W⟩,
    ⟨Y 45,.bad 7 1,W⟩,
    ⟨Y 46,.ld (.s 45),W⟩,
    ⟨Y 47,.iad (.s 44) (.s 46) 4,W⟩,
    ⟨Y 48,.fad (.s 47) 1,W⟩,
    ⟨Y 49,.ld (.s 48),W⟩,
    ⟨Y 50,.bin (.i) .lss (.s 43) (.s 49),W⟩,
    ⟨Y 51,.mv (.s 50),W⟩,
    ⟨Y 52,.mv (.s 8),Y (51,T)⟩,
    ⟨Y 53,.mv (.s 9),Y (51,T)⟩,
    ⟨Y 54,.bad 7 1,Y (51,T)⟩,
    ⟨Y 55,.ld (.s 54),Y (51,T)⟩,
    ⟨Y 56,.iad (.s 53) (.s 55) 4,Y (51,T)⟩,
    ⟨Y 57,.fad (.s 56) 2,Y (51,T)⟩,
    ⟨Y 58,.ld (.s 57),Y (51,T)⟩,
    ⟨Y 59,.bin (.i) .gtr (.s 52) (.s 58),Y (51,T)⟩,
    ⟨Y 60,.pick (.s 51) (.c (.bool X)) (.s 59),W⟩] [1,2,7,8,22,60])
 (.cond (.s 60) (.seq (.region [⟨Y 4,.mv (.c (.int .i64 6)),W⟩] [1,4])
 .ret)
 (.skip [1,2,7,8,22])))
 (.draw [61,62,63,64,65,66,67,68,69,70,71,72,73] [⟨Y 61,.bad 1 0,W⟩,
    ⟨Y 62,.fad (.s 61) 0,W⟩,
    ⟨Y 63,.fad (.s 62) 31,W⟩,
    ⟨Y 64,.fad (.s 63) 2,W⟩,
    ⟨Y 65,.lan (.s 64),W⟩,
    ⟨Y 66,.bad 7 0,W⟩,
    ⟨Y 67,.ld (.s 66),W⟩,
    ⟨Y 68,.nia (.s 65) (.s 67),W⟩,
    ⟨Y 69,.nld (.s 68),W⟩,
    ⟨Y 70,.bad 7 1,W⟩,
    ⟨Y 71,.ld (.s 70),W⟩,
    ⟨Y 72,.mv (.s 8),W⟩,
    ⟨Y 73,.nia (.s 69) (.s 71),W⟩,
    ⟨W,.nst (.s 73) (.s 72),W⟩] [1,2,22])))))))) ⟨L,λj e=>if j=0 then z e else x j e,d⟩ [(1,.bx (D5 s)),(2,.tv (.pt (AL t).cells)),(22,.mx (.mi W a))]:=by
  obtain ⟨m1,Q⟩:=Yj m;refine⟨vq _ (σ:=List Fp×Option ((Int×Int)×Int)×Bk) (λσ=>[(1,.bx (D5 (Pu s σ.1))),(2,.tv (.pt (AL t).cells)),(22,.mx (.mi σ.2.1 σ.2.2))])
    (λσ=>NB σ.1 s.hV.ej/\(∀l,σ.2.2.Perm l->l.foldl Cd σ.1=a.foldl Cd s.hV.ej)/\(∀p∈σ.2.2,p∈a)/\(c=T->∃p∈σ.2.2,Qd t s p=Y T))
    (λσ=>σ.2.2.length) (s.hV.ej,W,a) rfl ⟨rfl,λl A=>YG g A _,λp r=>r,Q⟩ ?_⟩
  rintro ⟨κ,last,u⟩ ⟨H,I,J,K⟩ ε;refine WP.out (?_:WP _ _ _ _);apply MG;apply RZ;refine ABg rfl a! (λe=>?_) (λp o r=>?_)
  · simp only at e
    subst e;have O:c=X:=by
      cases c with
      |true=>rfl|false=>obtain⟨p,r,_⟩:=K rfl;cases r
    have P:κ=a.foldl Cd s.hV.ej:=I [] (List.Perm.refl _);apply st 1;exact rfl;exact λ_ k=>k;apply O9;exact v?;intro C;apply MG;apply Te;exact rfl;exact rfl;apply mQ;exact v?;show(if(0:Nat)=0 then z [(1,.bx (D5 (Pu s κ)))]else x 0 [(1,.bx (D5 (Pu s κ)))]);rw[ac rfl,P];exact n O
  · apply st 1;exact rfl;exact λ_ k=>k
    apply O9;exact v?;intro C;apply MG;apply Tf;exact rfl;exact rfl;apply dK;exact v?;intro N;have D:p∈u:=r.mem_iff.2 V;obtain⟨b,hb,E⟩:=m1 p (J p D);obtain⟨R,S⟩:=kW hb H;cases b with
    |true=>
      refine ⟨PC.o4 _ _ _ _ (aE t s κ p o _ (R rfl)).out _ (λe he=>?_) (λ_ _ h=>h.elim) (λe he=>?_)⟩
      · obtain⟨θ,y,F⟩:=he
        cases y;refine⟨(Cd κ p,Y p,o),F.out,⟨(aD κ p).trans H,λl A=>?_,λq B=>J q (r.mem_iff.2 (by simp[B])),λM=>?_⟩,?_⟩
        .exact I (p::l) (r.trans (A.cons p))
        · obtain⟨q,B,w⟩:=K M
          rcases List.mem_cons.1 (r.mem_iff.1 B)with rfl|G
          .rw[hb]at w;cases w
          .exact⟨q,G,w⟩
        · have:=r.length_eq
          simp only[cE]at this;show o.length<u.length;omega
      · obtain⟨v,y,_⟩:=he
        cases y
    |false=>
      refine ⟨PC.o4 _ _ _ _ (aE t s κ p o _ (S rfl)).out _ (λe he=>?_) (λ_ _ h=>h.elim) (λe he=>?_)⟩
      · obtain⟨θ,y,_⟩:=he
        cases y
      · obtain⟨v,_,F⟩:=he
        rw [F.out];exact f (by cases c with|false=>rfl|true=>exact absurd (E rfl) V) κ
instance AC2(t:AC)(s:AU):Ct Go.Proofs.Tryz.prog (M5 t s) 229 [AL t,.undef] (λr=>.bo (D5 s) (if(!decide (r.1=0))=X then(D5 r.2).set 33 ⟨T,.undef⟩else D5 r.2) 1 [eI r.1]):=ABv AAb AA4 λr h u l=>by
  unfold cr;unfold M5 at h;obtain⟨a,ha,h⟩:=bind_some h;have d:=(inferInstance:Ct Go.Proofs.Tryz.prog (JG s) 288 [il s] PV).snd a ha;apply MG;apply RZ;apply st 1;exact rfl;exact λ_ k=>k;apply st 1;exact rfl;exact λ_ k=>k;apply O9;exact v?;intro m;apply MG;apply RZ;apply st 1;exact rfl;exact λ_ k=>k;apply st 1;exact rfl;exact λ_ k=>k;apply st 2;exact rfl;exact λ_ k=>⟨Nat.le_of_ble_eq_true rfl,k⟩;by_cases he:a.2=0
  · have e:PV a=.mpr a.1 [.int .i64 a.2]:=ac he
    rw [e]at d;rw[ae (by simp[he])]at h;split at h
    · rename_i hd
      have hd:Bk.Dis a.1:=(show List.Pairwise (λx y:(Int×Int)×Int=>x.1≠y.1) a.1 from of_decide_eq_true hd);obtain⟨c,q,h⟩:=bind_some h;refine ra rfl d (λb=>?_);apply st 1;exact rfl;exact λ_ k=>k;apply st 1;exact rfl;exact λ_ k=>k;apply st 1;exact rfl;exact λ_ k=>k;apply st 1;exact rfl;exact λ_ k=>k;apply st 1;exact rfl;exact λ_ k=>k;apply O9;exact v?;intro g;apply MG;apply MG;apply RZ;apply st 1;exact rfl;exact λ_ k=>k;apply st 1;exact rfl;exact λ_ k=>k;apply O9;exact v?;intro i;apply Te;exact rfl;simp[he];apply dK;exact v?;intro j;apply MG;apply MG;apply RZ;apply st 1;exact rfl;exact λ_ k=>k;apply st 2;exact rfl;exact λ_ k=>⟨⟨a!,rfl⟩,k⟩;apply O9;exact v?;intro n;apply iW;refine my hd q (λf=>?_) (λf κ=>?_)
      · intro o
        apply MG;apply RZ;apply st 1;exact rfl;exact λ_ k=>k;apply O9;exact v?;intro p;apply kI;rw[ac f]at h;cases h;exact⟨_,Wk.refl _,rfl,rfl⟩
      · rw[ae u?]at h
        cases h;refine⟨_,?_,rfl,rfl⟩;exact Wk.set (D5 (Pu s κ)) 33
    .cases h
  · have e:PV a=.tp [.undef,.int .i64 a.2]:=ae he
    rw [e]at d;rw[ac (by simp[he])]at h;refine rZ rfl d ?_;apply st 1;exact rfl;exact λ_ k=>k;apply st 1;exact rfl;exact λ_ k=>k;apply st 1;exact rfl;exact λ_ k=>k;apply st 1;exact rfl;exact λ_ k=>k;apply st 1;exact rfl;exact λ_ k=>k;apply O9;exact v?;intro g;apply MG;apply MG;apply RZ;apply st 1;exact rfl;exact λ_ k=>k;apply st 1;exact rfl;exact λ_ k=>k;apply O9;exact v?;intro i;apply Tf;exact rfl;simp[he];apply MG;apply RZ;apply st 1;exact rfl;exact λ_ k=>k;apply st 1;exact rfl;exact λ_ k=>k;apply O9;exact v?;intro j;apply kI;cases h;simp only[he,decide_false,Bool.not_false,if_true];exact⟨_,Wk.set (D5 s) 33,rfl,rfl⟩
end Go.Sf.Sc
