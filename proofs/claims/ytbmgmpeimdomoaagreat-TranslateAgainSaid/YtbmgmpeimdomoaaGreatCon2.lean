/- Contracts of the functions. -/
import Derived.Test.YtbmgmpeimdomoaaGreatCon1
set_option linter.all false
set_option maxRecDepth 100000
set_option maxHeartbeats 4000000
open Option renaming some->Y,none->W
open Bool renaming true->X,false->T
open Option renaming bind_some->w_
namespace Go.Sf.Sc
open Go Go.Sf Go.Proofs.Tryz
theorem v?{p:Prop}(h:p:=by repeat(first|exact JR|(apply Lg;exact rfl)|(apply Lc;exact rfl)|(apply Ld;exact rfl)|(apply Lh;exact rfl)|(apply Lf;exact rfl))):p:=h
instance(a b c):CT (EI a b c) 384 [.pt (S3 a).cells,eI b,eI c] rB:=Fe f384 0x813f074661ba03098c01615f03098c015ddc9091028c01a696b2600e0191058c0197f890318c5c3002dd [.bin (.a [0,0,0]) .eql (.s 38) (.s 57)] (EI.eq_1 ..)
instance(a):CT (CX a) 383 [.pt (S3 a).cells] rB:=IU f383 0xaa141312d30565141312d305141312d30581880114131206d30626251413120604d3099bff14131206d306018e0130cb14131206d3066a26251413120604d3099e91028c60ff141312d30585012cba5f9781f8436b6a141312d305d5018c5c607703098c9d01 [] (CX.eq_1 ..) (BC 0 20 19 0) (BG 2 38 37 0 (hT 6 eB))
noncomputable def cP:PC:=PC.of M9 f365.body (xq bT 0xff00013cea0b8c024802470246201d0abe201d09be040bbe320001a4a306000465a4a3060004a4a30600043c1f0a8c0151011e0abe320052321f0a8c014fb5011e0abe32ffa4a30600048a0a20011d0abe010307be0108203032816b016aa4a30600049e9102be81151d0abe8177318c5c32151d0abe00013f3e3d020005653f3e3d0200053f3e3d0200053c1f098c0151011e09be323f3e3d0200053f3e3d0200053c005232a0321f098c014fb5011e09be32ff3f3e3d0200058a0a20011d09be010307bef408926192765c5c32c1bef496b2600e017605bea1616b016a3f3e3d020005d55c02be81151d09be8177765c5c32151d09be0060050308be0b030bbe0001) []
theorem za:CK f365 cP []:=b!
theorem z8:PC.p0 cP=X/\PC.r0 0 cP=X:=b!
abbrev Q_365(n:Nat):Prop:=∀(f:AL),CT (A6 n f) 365 [.undef] (λr=>.bo (DK f) (DK r) 0 [])
theorem zL(n:Nat)(_ih_365:Q_365 n)(f:AL):CT (A6 (n+1) f) 365 [.undef] (λr=>.bo (DK f) (DK r) 0 []):=cb za z8 λr h c b d=>by
  unfold cP;unfold f365;unfold A6 at h;have:=BG 1 63 62 0 λs1:AL=>[(0,.bx (DK s1))];have:=BG 3 164 163 0 λs3:AL=>[(0,.bx (DK s3))];have:HJ 28 λ(a:AL)=>[(0,.bx (DK a))]:=⟨⟩;exact nz
theorem zK:∀n:Nat,Q_365 n:=by
  intro n
  induction n with
  |zero=>exact(λf=>⟨λ_ h=>d_⟩)
  |succ n a=>exact zL n a
instance(f):CT (He f) 365 [.undef] (λr=>.bo (DK f) (DK r) 0 []):=⟨λr h=>by
  obtain ⟨N,a⟩:=De h;exact((zK N) f).snd r (a N (R0 _))⟩
theorem zY:CK f321 (Rq [Ac 6 0,Ac 7 1,Ac 8 2,Ac 9 3,⟨Y 12,.Abn 2,W⟩] [4,5,6,7,8,9]<|Sq (Dr [13,14,15,16,17,18,19,20,21] [Ad 14 7 2,Ad 15 8 2,Ad 16 6 2,⟨Y 17,.call 252 [.s 16],W⟩,Ad 18 9 2,Aa 19 4,Aa 20 5,⟨Y 21,.bld [.list 1 [],.list 3 [],.list 1 [],.list 3 [],.list 1 [],.nil,.nil,.bool T,.int .i64 0,.nil,.nil,.nil] [(0,2,.s 14),(2,2,.s 15),(4,1,.s 17),(5,2,.s 18),(7,1,.s 19),(8,1,.s 20)],W⟩,⟨Y 22,.Abl [W,W,W,W,W,W,W,W,W,Y ⟨X,.xl 1 []⟩,Y ⟨X,.xl 1 []⟩,Y ⟨X,.list 2 []⟩] (.s 21),W⟩,⟨Y 13,.bad 22 0,W⟩] [13,22])<|Rq [Ae 23 13 0,⟨Y 24,.Aad 365 [.s 23] 0,W⟩] [13,22]<|Rq [Ae 25 13 0,Ae 26 25 0,Ae 27 26 11,⟨Y 28,.ld (.s 27),W⟩,Ab 12 28] [12]<|.ret) [.tmp 12]:=b!
instance(a b c d e f):CT (GU a b c d e f) 321 [AN a,Au b,Au c,sJ d,eB e,eI f] (rS (eL 2 A4)):=Fi zY λr h g i=>by
  unfold GU at h;exact au
instance(a b c d e):CT (Ja a b c d e) 261 [AN a,Au b,Au c,sJ d,eB e] (rT (eL 2 A4) eI):=Fe f261 0x8182015802c0850b01820e018d8dd04069690401 [] (Ja.eq_1 ..)
instance(a b):CT (Nr a b) 387 [eI a,.pt [eI b]] rB:=Fe f387 0x81b6033096ca [] (Nr.eq_1 ..)
instance(a b):CT (IM a b) 386 [lI a,eI b] rI:=Fe f386 0x81588e1030bc01 [] (IM.eq_1 ..)
instance(a b c d e):CT (Ho a b c d e) 380 [AN a,Au b,Au c,A4 d,eB e] (rT (eL 2 A4) eI):=Fe f380 0x8182740e018d8d5802e47fef5f5802e47fd65d5802c08ae9ef5bd6d65802e47f558dd04069690401 [] (Ho.eq_1 ..)
instance(a b):CT (Ff a b) 258 [Ry a,lI b] (rT eI eI):=Fe f258 0xa10e0155fbc477015d30e1 [] (Ff.eq_1 ..)
instance(a b c d):CT (EO a b c d) 381 [Cv a,B9 b,A4 c,lI d] (rT lI eB):=gj f381 0x8182180a016867660a049b84c0882014b1c304c9b105430a016a6867660a04d50442b6022c2b2a0b0abb089b84c08a96b260817401201455d92c2b2a0f0e0b0abb0a2c2b2a0f0e0b0abb0a3c01f101f10591d9301401148a0817df01145b6076d981615f61615d5d5e41d9f705c9ebe2b6026a2c2b2a0b0abb08d5d90b0abb0522210b0abb079b01f10114cb0b0abb056a22210b0abb079e01993fd7993f7701d71a013040936931 [.Abf 1 22 (.int .i64 0) (.s 27),.mkx 1 [.bool T] (.s 30)] (EO.eq_1 ..) (BG 0 34 33 0 (hX 11 1 eB)) (BG 2 44 43 0 λs2:Fp×MV=>[(10,.xo 1 (List.map eI s2.1)),(11,.xo 1 (List.map eB s2.2))]) (BC 4 104 103 0)
instance(a b c):CT (Ca a b c) 364 [Cv a,AQ b,CH c] (rT (eL 3 CH) eI):=CJ f364 0x81fd0c013b3a390cf5079b3b3a390cf5073b3a390cf5073c02034803470946015502a1f65ea8b104420644a202c95502430c016a3b3a390cf5079e8103c05803e46cf60305428d5cd98d32a202c902460e913291d9ef0ecf76d9d6a208c9555c04890340f2 [] (Ca.eq_1 ..) (BG 0 59 58 0 (hO 12 (eL 3 CH)))
abbrev AbU(n:Nat):Prop:=∀(a:Bf)(c:ca)(m:AU),CT (Av n a c m) 256 [Cv a,AQ c,CH m] (rT FJ eI)
abbrev AbT(n:Nat):Prop:=∀(a:Bf)(c:ca)(m:AU),CT (BZ n a c m) 318 [Cv a,AQ c,CH m] (rT FJ eI)
theorem y6(n:Nat)(_ih_256:AbU n)(_ih_318:AbT n)(a:Bf)(c:ca)(m:AU):CT (Av (n+1) a c m) 256 [Cv a,AQ c,CH m] (rT FJ eI):=Fk f256 0x81c30a46ff58c3740e73c80644db81c30a4606014b4a49a503069b58c3f446850158c30b460547b1016cc30ec97d73c80644094bdac9c8099006016a4b4a49a50306d5cddb81c3b10a06022f2e2d0aa503079bea044205480547b104044258c3f4466cc30ec97d73c80644094b0ac9c809430a06026a2f2e2d0aa50307d5cd0ec9db81c3f446ff58c30a46db81c30a46dba1c30e497d73c809435f0644db833275c9f2 [] [.cell 6 (Y 5),.tmp 7] λr h b d=>by
  unfold Av at h;have:=BG 2 47 46 0 λs2:BD×BD=>[(6,.bx [⟨T,eI s2.1.Aal⟩,⟨X,lI s2.1.gN.bn.az⟩,⟨X,lI s2.1.gN.bn.bi⟩,⟨X,lI s2.1.gN.ei⟩,⟨X,Iy s2.1.ew⟩]),(10,.bx [⟨T,eI s2.2.Aal⟩,⟨X,lI s2.2.gN.bn.az⟩,⟨X,lI s2.2.gN.bn.bi⟩,⟨X,lI s2.2.gN.ei⟩,⟨X,Iy s2.2.ew⟩])];have:=BG 4 75 74 0 λs4:BD=>[(6,.bx [⟨T,eI s4.Aal⟩,⟨X,lI s4.gN.bn.az⟩,⟨X,lI s4.gN.bn.bi⟩,⟨X,lI s4.gN.ei⟩,⟨X,Iy s4.ew⟩])];exact nz
theorem zE(n:Nat)(_ih_256:AbU n)(_ih_318:AbT n)(a:Bf)(c:ca)(m:AU):CT (BZ (n+1) a c m) 318 [Cv a,AQ c,CH m] (rT FJ eI):=Fk f318 0x81c30a4606011b1a19060403069b58c3f446850158c30c460547b1736cc30ec97d73c809435f0644970fc9dc4306016a1b1a19060403069e8158c3f4466cf673c8064475c9f2 [] [.cell 6 (Y 5),.tmp 7] λr h b d=>by
  unfold BZ at h;have:=BG 0 27 26 0 λs0:BD=>[(6,.bx [⟨T,eI s0.Aal⟩,⟨X,lI s0.gN.bn.az⟩,⟨X,lI s0.gN.bn.bi⟩,⟨X,lI s0.gN.ei⟩,⟨X,Iy s0.ew⟩])];exact nz
theorem sB:∀n:Nat,AbU n/\AbT n:=by
  intro n
  induction n with
  |zero=>exact⟨(λb c m=>⟨λ_ h=>d_⟩),(λb c m=>⟨λ_ h=>d_⟩)⟩
  |succ n a=>exact⟨y6 n a.1 a.2,zE n a.1 a.2⟩
instance(s_0 c m):CT (F1 s_0 c m) 256 [Cv s_0,AQ c,CH m] (rT FJ eI):=⟨λr h=>by
  obtain ⟨N,a⟩:=De h;exact((sB N).1 s_0 c m).snd r (a N (R0 _))⟩
instance(s_0 c m):CT (Qi s_0 c m) 318 [Cv s_0,AQ c,CH m] (rT FJ eI):=⟨λr h=>by
  obtain ⟨N,a⟩:=De h;exact((sB N).2 s_0 c m).snd r (a N (R0 _))⟩
instance(a b c d e f):CT (E0 a b c d e f) 181 [AN a,B9 b,AQ c,B4 d,CH e,eB f] (rT FJ eI):=Fk f181 0x81c3740e73c80d4601735558c3f4467f017373c8b15575c993696996 [] [.cell 12 (Y 5),.tmp 13] λr h g i=>by
  unfold E0 at h;exact nz
instance(a b c d e f):CT (EC a b c d e f) 109 [AN a,B9 b,AQ c,B4 d,CH e,eB f] (rT eB eI):=Fe f109 0xa15b01fb6cc30e497d017373c8b1553093696996 [] (EC.eq_1 ..)
instance(a):CT (KU a) 110 [CH a] (rS CH):=Fk f110 0xad3b9709460eba02460e91320ecf0fc9bc [] [.cell 2 (Y 3)] λr h b c=>by
  unfold KU at h;exact nz
instance(a):CT (LA a) 111 [B4 a] (rS B4):=Fk f111 0x97735e021312115e059beafad10148304704d982615e026a1312115e05d5d90350f93f3f0e91320ecff9bc [.x8 [.w 9,.w 13],.x8 [.g 14 0 2,.g 14 1 2,.z ⟨X,.list 1 []⟩]] [.cell 2 (Y 3)] λr h b c=>by
  unfold LA at h;have:=BG 0 19 18 0 λs0:AH=>[(3,.bx [⟨X,lI s0.bk.az⟩,⟨X,lE s0.bk.bi⟩,⟨X,(eL 1 lI) s0.d6⟩])];exact nz
instance(a b):CT (M2 a b) 112 [eI a,lI b] (rO lI):=CJ f112 0x8218960d0c96049b01f130140d0c070696060d0c070696063c018860817d30815b016a0d0c9604819514993f30406b02 [.mkx 1 [.int .i64 0] (.s 9)] (M2.eq_1 ..) (BG 0 13 12 0 (hX 5 1 eI))
instance(a b c d e f):CT (HZ a b c d e f) 113 [eI a,lI b,lI c,lI d,lI e,eI f] (rO lI):=IU f113 0x82180d012b2a0d6d9b2b2a0d6d2b2a0d6d6530f130148517df0114cb0d016a2b2a0d6d8195140d05021615140d6d31089b01f1616192303014a1920d05026a1615140d6d31089e81991a304701406d5e6b06 [] (HZ.eq_1 ..) (BG 0 22 21 0 (hX 13 1 eI)) (BG 2 43 42 0 λs2:Int×Fp=>[(5,.tv (eI s2.1)),(13,.xo 1 (List.map eI s2.2))])
instance(a b):CT (Ku a b) 183 [AN a,eI b] (rO lI):=CJ f183 0xfd070113121107049badd15f02f703c9ebe207016a13121107049e8182b501f601d840e1 [] (Ku.eq_1 ..) (BG 0 19 18 0 (hO 7 lI))
noncomputable def cK:PC:=PC.of M9 f114.body (xq bT 0x30b0afaef09bb0afaef0b0afaef03cea018c1f8c03480347074661ba7624be615f7624be5d04018c1fbe32850b318c1fbe929124be9781f890306ab0afaef0d5cd07d07b7a790731069b7b7a790731067b7a790731063c1f02411f8c21221a01552302411fbe32ea5c5c1f8c01d1f05c5c1fbe32850b765c1fbe927624bea19207d06a7b7a79073106d5320731974a49070631079bea018c1f8c03480347074661ba7622be615f7622be5d04018c1fbe3297f890913281610731036a4b4a4907063107d5cd07a531051e1d1c07a531089b1f02411f8c2122014f92fe562302411fbe32ea5c5c1f8c01d192cf045c5c1fbe32816107a531056a1e1d1c07a53108d532a29708c9f9555c068c5c32731cbe6930) []
theorem zT:CK f114 cK []:=b!
theorem zw:PC.p0 cK=X/\PC.r0 1 cK=X:=b!
instance(a b c):CT (Jd a b c) 114 [AN a,.undef,G7 c] (λr=>.bo (D6 b) (D6 r) 1 []):=cb zT zw λr h e d f=>by
  unfold cK;unfold f114;unfold Jd at h;have:=BG 0 30 29 0 λs0:BH=>[(1,.bx (D6 s0))];have:=BG 2 75 74 0 λs2:BH=>[(1,.bx (D6 s2))];have:=BG 4 123 122 0 λs4:BH=>[(1,.bx (D6 s4))];have:=BG 6 176 175 0 λs6:BH=>[(1,.bx (D6 s6))];exact nz
theorem zX:CK f184 (.seq (.region [⟨Y 1,.Abp (.s 0),W⟩,
    ⟨Y 2,.mv (.c .undef),W⟩,
    ⟨Y 3,.mv (.c (.int .i64 0)),W⟩] [1])
 (.seq (.region [⟨Y 12,.mkm,W⟩,
    ⟨Y 4,.mvm 12,W⟩] [1,4,12])
 (.seq (.seq (.region [⟨Y 13,.bad 1 0,W⟩,
    ⟨Y 14,.fad (.s 13) 6,W⟩,
    ⟨Y 15,.fad (.s 14) 2,W⟩,
    ⟨Y 16,.ld (.s 15),W⟩,
    ⟨Y 17,.len (.s 16),W⟩,
    ⟨Y 18,.mv (.c (.int .i64 0)),W⟩] [1,4,12,16,17,18])
 (.block 0 (.loop [1,4,12,16,17,18] (.seq (.region [⟨Y 19,.bin (.i) .lss (.s 18) (.s 17),W⟩] [1,4,12,16,17,18,19])
 (.seq (.cond (.s 19) (.skip [1,4,12,16,17,18])
 (.exit 0 [4,12]))
 (.seq (.block 1 (.seq (.region [⟨Y 20,.iad (.s 16) (.s 18) 4,W⟩,
    ⟨Y 21,.lda (.s 20) 4,W⟩,
    ⟨Y 6,.alc [⟨T,.int .i64 0⟩,⟨T,.int .i64 0⟩,⟨T,.int .i64 0⟩,⟨T,.int .i64 0⟩],W⟩,
    ⟨W,.stb 4 6 (.s 21),W⟩] [1,4,6,12,16,17,18])
 (.seq (.region [⟨Y 23,.bad 6 2,W⟩,
    ⟨Y 24,.lda (.s 23) 2,W⟩,
    ⟨Y 25,.bad 1 25,W⟩,
    ⟨Y 26,.fad (.s 25) 2,W⟩,
    ⟨Y 27,.ld (.s 26),W⟩,
    ⟨Y 28,.call 258 [.s 24,.s 27],W⟩,
    ⟨Y 22,.mv (.s 28),W⟩,
    ⟨Y 29,.ext (.s 22) 0,W⟩,
    ⟨Y 30,.ext (.s 22) 1,W⟩,
    ⟨Y 7,.mv (.s 29),W⟩,
    ⟨Y 8,.mv (.s 30),W⟩] [1,4,6,7,8,12,16,17,18])
 (.seq (.seq (.region [⟨Y 31,.mv (.s 8),W⟩,
    ⟨Y 32,.bin (.i) .neq (.s 31) (.c (.int .i64 0)),W⟩] [1,4,6,7,8,12,16,17,18,32])
 (.cond (.s 32) (.seq (.region [⟨Y 33,.mv (.s 8),W⟩,
    ⟨Y 2,.mv (.c .undef),W⟩,
    ⟨Y 3,.mv (.s 33),W⟩] [2,3,12])
 .ret)
 (.skip [1,4,6,7,12,16,17,18])))
 (.seq (.draw [9,34,35,36,37,38,39,40,41,42,43] [⟨Y 34,.bad 1 36,W⟩,
    ⟨Y 35,.fad (.s 34) 0,W⟩,
    ⟨Y 36,.ld (.s 35),W⟩,
    ⟨Y 37,.bad 6 0,W⟩,
    ⟨Y 38,.ld (.s 37),W⟩,
    ⟨Y 39,.iad (.s 36) (.s 38) 1,W⟩,
    ⟨Y 40,.ld (.s 39),W⟩,
    ⟨Y 41,.bad 6 1,W⟩,
    ⟨Y 42,.ld (.s 41),W⟩,
    ⟨Y 43,.bld [.int .i64 0,.int .i64 0] [(0,1,.s 40),(1,1,.s 42)],W⟩,
    ⟨Y 9,.alc [⟨T,.int .i64 0⟩,⟨T,.int .i64 0⟩],W⟩,
    ⟨W,.stb 2 9 (.s 43),W⟩] [1,4,7,9,12,16,17,18])
 (.seq (.seq (.region [⟨Y 45,.mv (.s 4),W⟩,
    ⟨Y 46,.lda (.s 9) 2,W⟩,
    ⟨Y 47,.mlk 12 (.s 45) (.s 46),W⟩,
    ⟨Y 44,.mv (.s 47),W⟩,
    ⟨Y 48,.ext (.s 44) 0,W⟩,
    ⟨Y 49,.ext (.s 44) 1,W⟩,
    ⟨Y 10,.mv (.s 48),W⟩,
    ⟨Y 11,.mv (.s 49),W⟩] [1,4,7,9,10,11,12,16,17,18])
 (.seq (.region [⟨Y 50,.mv (.s 11),W⟩,
    ⟨Y 51,.mv (.s 50),W⟩,
    ⟨Y 52,.mv (.s 10),Y (51,X)⟩,
    ⟨Y 53,.mv (.s 7),Y (51,X)⟩,
    ⟨Y 54,.bin (.i) .neq (.s 52) (.s 53),Y (51,X)⟩,
    ⟨Y 55,.pick (.s 51) (.s 54) (.c (.bool T)),W⟩] [1,4,7,9,12,16,17,18,55])
 (.cond (.s 55) (.seq (.region [⟨Y 2,.mv (.c .undef),W⟩,
    ⟨Y 3,.mv (.c (.int .i64 11)),W⟩] [2,3,12])
 .ret)
 (.skip [1,4,7,9,12,16,17,18]))))
 (.region [⟨Y 56,.mv (.s 4),W⟩,
    ⟨Y 57,.lda (.s 9) 2,W⟩,
    ⟨Y 58,.mv (.s 7),W⟩,
    ⟨W,.mup 12 (.s 56) (.s 57) (.s 58),W⟩] [1,4,12,16,17,18])))))))
 (.region [⟨Y 59,.bin (.i) .add (.s 18) (.c (.int .i64 1)),W⟩,
    ⟨Y 18,.mv (.s 59),W⟩] [1,4,12,16,17,18])))))))
 (.seq (.region [⟨Y 60,.mv (.s 4),W⟩,
    ⟨Y 2,.mv (.s 60),W⟩,
    ⟨Y 3,.mv (.c (.int .i64 0)),W⟩] [2,3,12])
 .ret)))) [.tmp 2,.tmp 3]:=b!
instance AB0(s:BH):Ct Go.Proofs.Tryz.prog (I9 s) 184 [iD s] Oi:=FiM zX λr h d e=>by
  unfold I9 at h;have K:∀b:Nat,HA 0 18 17 0 λ(c:Int)(a:Be)=>[(12,.mx (.mp b a)),(18,.tv (eI c))]:=λ_=>⟨⟩;have:HMO 12:=⟨⟩;exact au
theorem aR(t:AC)(s:BH)(κ:List Fp)(p:(Int×Int)×Int)(a:Be)(r:B3 (List Fp) Unit)(h:Pr t s κ p=Y r):WP (AT Go.Proofs.Tryz.prog) (.block 1 (.seq (.region [⟨Y 25,.men 22,W⟩,
    ⟨Y 26,.ext (.s 25) 0,W⟩,
    ⟨Y 27,.ext (.s 25) 1,W⟩,
    ⟨Y 7,.alc [⟨T,.int .i64 0⟩,⟨T,.int .i64 0⟩],W⟩,
    ⟨W,.stb 2 7 (.s 26),W⟩,
    ⟨Y 8,.mv (.s 27),W⟩] [1,2,7,8,22])
 (.seq (.draw [9,10,28,29,30,31,32,33,34,35,36,37,38,39,40,41,42] [⟨Y 29,.lda (.s 2) 2,W⟩,
    ⟨Y 30,.bad 1 0,W⟩,
    ⟨Y 31,.fad (.s 30) 0,W⟩,
    ⟨Y 32,.fad (.s 31) 31,W⟩,
    ⟨Y 33,.fad (.s 32) 0,W⟩,
    ⟨Y 34,.fad (.s 33) 0,W⟩,
    ⟨Y 35,.ld (.s 34),W⟩,
    ⟨Y 36,.bad 7 0,W⟩,
    ⟨Y 37,.ld (.s 36),W⟩,
    ⟨Y 38,.iad (.s 35) (.s 37) 1,W⟩,
    ⟨Y 39,.ld (.s 38),W⟩,
    ⟨Y 40,.call 127 [.s 29,.s 39],W⟩,
    ⟨Y 28,.mv (.s 40),W⟩,
    ⟨Y 41,.ext (.s 28) 0,W⟩,
    ⟨Y 42,.ext (.s 28) 1,W⟩,
    ⟨Y 9,.mv (.s 41),W⟩,
    ⟨Y 10,.mv (.s 42),W⟩] [1,2,7,8,9,22])
 (.seq (.seq (.region [⟨Y 43,.mv (.s 8),W⟩,
    ⟨Y 44,.mv (.s 9),W⟩,
    ⟨Y 45,.bad 7 1,W⟩,
    ⟨Y 46,.ld (.s 45),W⟩,
    ⟨Y 47,.iad (.s 44) (.s 46) 4,W⟩,
    ⟨Y 48,.fad (.s 47) 1,W⟩,
    ⟨Y 49,.ld (.s 48),W⟩,
    ⟨Y 50,.bin (.i) .lss (.s 43) (.s 49),W⟩,
    ⟨Y 51,.mv (.s 50),W⟩,
    ⟨Y 52,.mv (.s 8),Y (51,T)⟩,
    ⟨Y 53,.mv (.s 9),Y (51,T)⟩,
    ⟨Y 54,.bad 7 1,Y (51,T)⟩,
    ⟨Y 55,.ld (.s 54),Y (51,T)⟩,
    ⟨Y 56,.iad (.s 53) (.s 55) 4,Y (51,T)⟩,
    ⟨Y 57,.fad (.s 56) 2,Y (51,T)⟩,
    ⟨Y 58,.ld (.s 57),Y (51,T)⟩,
    ⟨Y 59,.bin (.i) .gtr (.s 52) (.s 58),Y (51,T)⟩,
    ⟨Y 60,.pick (.s 51) (.c (.bool X)) (.s 59),W⟩] [1,2,7,8,22,60])
 (.cond (.s 60) (.seq (.region [⟨Y 4,.mv (.c (.int .i64 6)),W⟩] [1,4])
 .ret)
 (.skip [1,2,7,8,22])))
 (.draw [61,62,63,64,65,66,67,68,69,70,71,72,73] [⟨Y 61,.bad 1 0,W⟩,
    ⟨Y 62,.fad (.s 61) 0,W⟩,
    ⟨Y 63,.fad (.s 62) 31,W⟩,
    ⟨Y 64,.fad (.s 63) 2,W⟩,
    ⟨Y 65,.lan (.s 64),W⟩,
    ⟨Y 66,.bad 7 0,W⟩,
    ⟨Y 67,.ld (.s 66),W⟩,
    ⟨Y 68,.nia (.s 65) (.s 67),W⟩,
    ⟨Y 69,.nld (.s 68),W⟩,
    ⟨Y 70,.bad 7 1,W⟩,
    ⟨Y 71,.ld (.s 70),W⟩,
    ⟨Y 72,.mv (.s 8),W⟩,
    ⟨Y 73,.nia (.s 69) (.s 71),W⟩,
    ⟨W,.nst (.s 73) (.s 72),W⟩] [1,2,22]))))) ⟨λe=>∃b,r=.next b/\Rn (e.ek [1,2,22]) [(1,.bx (D6 (O5 s b))),(2,.tv (.pt (AN t).cells)),(22,.mx (.mi (Y p) a))],λ_ _=>False,λe=>∃v,r=.ret v/\Rn e [(1,.bx (D6 (O5 s κ))),(4,.tv (eI 6))]⟩ [(1,.bx (D6 (O5 s κ))),(2,.tv (.pt (AN t).cells)),(22,.mx (.mi (Y p) a))]:=by
  unfold Pr at h;exact au
noncomputable def cL:PC:=(.seq (.region [⟨Y 2,.Abp (.s 0),W⟩,
    ⟨Y 4,.mv (.c (.int .i64 0)),W⟩] [1,2])
 (.seq (.region [⟨Y 12,.bad 1 0,W⟩,
    ⟨Y 13,.fad (.s 12) 0,W⟩,
    ⟨Y 14,.lda (.s 13) 38,W⟩,
    ⟨Y 15,.AaC 184 [.s 14],W⟩,
    ⟨Y 11,.mvm 15,W⟩,
    ⟨Y 16,.ext (.s 11) 0,W⟩,
    ⟨Y 17,.ext (.s 11) 1,W⟩,
    ⟨Y 5,.mv (.s 16),W⟩,
    ⟨Y 6,.mv (.s 17),W⟩] [1,2,5,6,15])
 (.seq (.seq (.region [⟨Y 18,.mv (.s 6),W⟩,
    ⟨Y 19,.bin (.i) .neq (.s 18) (.c (.int .i64 0)),W⟩] [1,2,5,6,15,19])
 (.cond (.s 19) (.seq (.region [⟨Y 20,.mv (.s 6),W⟩,
    ⟨Y 4,.mv (.s 20),W⟩] [1,4])
 .ret)
 (.skip [1,2,5,15])))
 (.seq (.seq (.region [⟨Y 21,.mv (.s 5),W⟩,
    ⟨Y 22,.pr 15 (.s 21),W⟩] [1,2,22])
 (.block 0 (.loop [1,2,22] (.seq (.region [⟨Y 23,.mnx 22,W⟩,
    ⟨Y 24,.ext (.s 23) 0,W⟩] [1,2,22,24])
 (.seq (.cond (.s 24) (.skip [1,2,22])
 (.exit 0 [1]))
 (.block 1 (.seq (.region [⟨Y 25,.men 22,W⟩,
    ⟨Y 26,.ext (.s 25) 0,W⟩,
    ⟨Y 27,.ext (.s 25) 1,W⟩,
    ⟨Y 7,.alc [⟨T,.int .i64 0⟩,⟨T,.int .i64 0⟩],W⟩,
    ⟨W,.stb 2 7 (.s 26),W⟩,
    ⟨Y 8,.mv (.s 27),W⟩] [1,2,7,8,22])
 (.seq (.draw [9,10,28,29,30,31,32,33,34,35,36,37,38,39,40,41,42] [⟨Y 29,.lda (.s 2) 2,W⟩,
    ⟨Y 30,.bad 1 0,W⟩,
    ⟨Y 31,.fad (.s 30) 0,W⟩,
    ⟨Y 32,.fad (.s 31) 31,W⟩,
    ⟨Y 33,.fad (.s 32) 0,W⟩,
    ⟨Y 34,.fad (.s 33) 0,W⟩,
    ⟨Y 35,.ld (.s 34),W⟩,
    ⟨Y 36,.bad 7 0,W⟩,
    ⟨Y 37,.ld (.s 36),W⟩,
    ⟨Y 38,.iad (.s 35) (.s 37) 1,W⟩,
    ⟨Y 39,.ld (.s 38),W⟩,
    ⟨Y 40,.call 127 [.s 29,.s 39],W⟩,
    ⟨Y 28,.mv (.s 40),W⟩,
    ⟨Y 41,.ext (.s 28) 0,W⟩,
    ⟨Y 42,.ext (.s 28) 1,W⟩,
    ⟨Y 9,.mv (.s 41),W⟩,
    ⟨Y 10,.mv (.s 42),W⟩] [1,2,7,8,9,22])
 (.seq (.seq (.region [⟨Y 43,.mv (.s 8),W⟩,
    ⟨Y 44,.mv (.s 9),W⟩,
    ⟨Y 45,.bad 7 1,W⟩,
    ⟨Y 46,.ld (.s 45),W⟩,
    ⟨Y 47,.iad (.s 44) (.s 46) 4,W⟩,
    ⟨Y 48,.fad (.s 47) 1,W⟩,
    ⟨Y 49,.ld (.s 48),W⟩,
    ⟨Y 50,.bin (.i) .lss (.s 43) (.s 49),W⟩,
    ⟨Y 51,.mv (.s 50),W⟩,
    ⟨Y 52,.mv (.s 8),Y (51,T)⟩,
    ⟨Y 53,.mv (.s 9),Y (51,T)⟩,
    ⟨Y 54,.bad 7 1,Y (51,T)⟩,
    ⟨Y 55,.ld (.s 54),Y (51,T)⟩,
    ⟨Y 56,.iad (.s 53) (.s 55) 4,Y (51,T)⟩,
    ⟨Y 57,.fad (.s 56) 2,Y (51,T)⟩,
    ⟨Y 58,.ld (.s 57),Y (51,T)⟩,
    ⟨Y 59,.bin (.i) .gtr (.s 52) (.s 58),Y (51,T)⟩,
    ⟨Y 60,.pick (.s 51) (.c (.bool X)) (.s 59),W⟩] [1,2,7,8,22,60])
 (.cond (.s 60) (.seq (.region [⟨Y 4,.mv (.c (.int .i64 6)),W⟩] [1,4])
 .ret)
 (.skip [1,2,7,8,22])))
 (.draw [61,62,63,64,65,66,67,68,69,70,71,72,73] [⟨Y 61,.bad 1 0,W⟩,
    ⟨Y 62,.fad (.s 61) 0,W⟩,
    ⟨Y 63,.fad (.s 62) 31,W⟩,
    ⟨Y 64,.fad (.s 63) 2,W⟩,
    ⟨Y 65,.lan (.s 64),W⟩,
    ⟨Y 66,.bad 7 0,W⟩,
    ⟨Y 67,.ld (.s 66),W⟩,
    ⟨Y 68,.nia (.s 65) (.s 67),W⟩,
    ⟨Y 69,.nld (.s 68),W⟩,
    ⟨Y 70,.bad 7 1,W⟩,
    ⟨Y 71,.ld (.s 70),W⟩,
    ⟨Y 72,.mv (.s 8),W⟩,
    ⟨Y 73,.nia (.s 69) (.s 71),W⟩,
    ⟨W,.nst (.s 73) (.s 72),W⟩] [1,2,22]))))))))))
 (.seq (.region [⟨Y 4,.mv (.c (.int .i64 0)),W⟩] [1,4])
 .ret)))))
theorem zU:CK f115 cL [.tmp 4]:=b!
theorem zx:PC.p0 cL=X/\PC.r0 1 cL=X:=b!
variable{t:AC}{s:BH}
theorem j8{p:(Int×Int)×Int}{b:Bool}(h:Ps t s p=Y b){κ:List Fp}(a:N6 κ s.l4.d6):
    (b=X->Pr t s κ p=Y (.next (Cq κ p)))/\(b=T->Pr t s κ p=Y (.ret ())):=by
  unfold Ps Pr at h;unfold Pr;obtain⟨c,d,h⟩:=bind_some h;obtain⟨q,f,d⟩:=bind_some d;obtain⟨r,g,d⟩:=bind_some d;obtain⟨u,i,d⟩:=bind_some d;obtain⟨j,k,d⟩:=bind_some d;simp only[f,g,i,w_]at *;rw[k,w_];cases j with
  |true=>
    simp only[if_true,mE]at d|-;subst d;simp only[mE]at h;subst h;exact⟨λe=>n_,λ_=>trivial⟩
  |false=>
    simp only[Bool.false_eq_true,if_false]at d|-;obtain⟨v,l,d⟩:=bind_some d;obtain⟨w,m,d⟩:=bind_some d;cases d;simp only[mE]at h;subst h;obtain⟨x,x',n,o⟩:=a.idx l m;refine⟨λ_=>?_,λe=>n_⟩;rw[n,w_,o,w_,dW n o]
theorem mI{a:Be}{c:Bool}(g:a.Dis)(f:AaA (Ps t s) a=Y c){M z:AB->Prop}{x:Nat->AB->Prop}{d:AB->Prop}
    (n:c=X->z [(1,.bx (D6 (O5 s (a.foldl Cq s.l4.d6))))])(m:c=T->∀κ,d [(1,.bx (D6 (O5 s κ))),(4,.tv (eI 6))]):
    WP (AT Go.Proofs.Tryz.prog) (.loop [1,2,22] (.seq (.region [⟨Y 23,.mnx 22,W⟩,
    ⟨Y 24,.ext (.s 23) 0,W⟩] [1,2,22,24])
 (.seq (.cond (.s 24) (.skip [1,2,22])
 (.exit 0 [1]))
 (.block 1 (.seq (.region [⟨Y 25,.men 22,W⟩,
    ⟨Y 26,.ext (.s 25) 0,W⟩,
    ⟨Y 27,.ext (.s 25) 1,W⟩,
    ⟨Y 7,.alc [⟨T,.int .i64 0⟩,⟨T,.int .i64 0⟩],W⟩,
    ⟨W,.stb 2 7 (.s 26),W⟩,
    ⟨Y 8,.mv (.s 27),W⟩] [1,2,7,8,22])
 (.seq (.draw [9,10,28,29,30,31,32,33,34,35,36,37,38,39,40,41,42] [⟨Y 29,.lda (.s 2) 2,W⟩,
    ⟨Y 30,.bad 1 0,W⟩,
    ⟨Y 31,.fad (.s 30) 0,W⟩,
    ⟨Y 32,.fad (.s 31) 31,W⟩,
    ⟨Y 33,.fad (.s 32) 0,W⟩,
    ⟨Y 34,.fad (.s 33) 0,W⟩,
    ⟨Y 35,.ld (.s 34),W⟩,
    ⟨Y 36,.bad 7 0,W⟩,
    ⟨Y 37,.ld (.s 36),W⟩,
    ⟨Y 38,.iad (.s 35) (.s 37) 1,W⟩,
    ⟨Y 39,.ld (.s 38),W⟩,
    ⟨Y 40,.call 127 [.s 29,.s 39],W⟩,
    ⟨Y 28,.mv (.s 40),W⟩,
    ⟨Y 41,.ext (.s 28) 0,W⟩,
    ⟨Y 42,.ext (.s 28) 1,W⟩,
    ⟨Y 9,.mv (.s 41),W⟩,
    ⟨Y 10,.mv (.s 42),W⟩] [1,2,7,8,9,22])
 (.seq (.seq (.region [⟨Y 43,.mv (.s 8),W⟩,
    ⟨Y 44,.mv (.s 9),W⟩,
    ⟨Y 45,.bad 7 1,W⟩,
    ⟨Y 46,.ld (.s 45),W⟩,
    ⟨Y 47,.iad (.s 44) (.s 46) 4,W⟩,
    ⟨Y 48,.fad (.s 47) 1,W⟩,
    ⟨Y 49,.ld (.s 48),W⟩,
    ⟨Y 50,.bin (.i) .lss (.s 43) (.s 49),W⟩,
    ⟨Y 51,.mv (.s 50),W⟩,
    ⟨Y 52,.mv (.s 8),Y (51,T)⟩,
    ⟨Y 53,.mv (.s 9),Y (51,T)⟩,
    ⟨Y 54,.bad 7 1,Y (51,T)⟩,
    ⟨Y 55,.ld (.s 54),Y (51,T)⟩,
    ⟨Y 56,.iad (.s 53) (.s 55) 4,Y (51,T)⟩,
    ⟨Y 57,.fad (.s 56) 2,Y (51,T)⟩,
    ⟨Y 58,.ld (.s 57),Y (51,T)⟩,
    ⟨Y 59,.bin (.i) .gtr (.s 52) (.s 58),Y (51,T)⟩,
    ⟨Y 60,.pick (.s 51) (.c (.bool X)) (.s 59),W⟩] [1,2,7,8,22,60])
 (.cond (.s 60) (.seq (.region [⟨Y 4,.mv (.c (.int .i64 6)),W⟩] [1,4])
 .ret)
 (.skip [1,2,7,8,22])))
 (.draw [61,62,63,64,65,66,67,68,69,70,71,72,73] [⟨Y 61,.bad 1 0,W⟩,
    ⟨Y 62,.fad (.s 61) 0,W⟩,
    ⟨Y 63,.fad (.s 62) 31,W⟩,
    ⟨Y 64,.fad (.s 63) 2,W⟩,
    ⟨Y 65,.lan (.s 64),W⟩,
    ⟨Y 66,.bad 7 0,W⟩,
    ⟨Y 67,.ld (.s 66),W⟩,
    ⟨Y 68,.nia (.s 65) (.s 67),W⟩,
    ⟨Y 69,.nld (.s 68),W⟩,
    ⟨Y 70,.bad 7 1,W⟩,
    ⟨Y 71,.ld (.s 70),W⟩,
    ⟨Y 72,.mv (.s 8),W⟩,
    ⟨Y 73,.nia (.s 69) (.s 71),W⟩,
    ⟨W,.nst (.s 73) (.s 72),W⟩] [1,2,22])))))))) ⟨M,λj e=>if j=0 then z e else x j e,d⟩ [(1,.bx (D6 s)),(2,.tv (.pt (AN t).cells)),(22,.mx (.mi W a))]:=by
  obtain ⟨m1,R⟩:=Y6 f;refine⟨u9 _ (σ:=List Fp×Option ((Int×Int)×Int)×Be) (λσ=>[(1,.bx (D6 (O5 s σ.1))),(2,.tv (.pt (AN t).cells)),(22,.mx (.mi σ.2.1 σ.2.2))])
    (λσ=>N6 σ.1 s.l4.d6/\(∀l,σ.2.2.Perm l->l.foldl Cq σ.1=a.foldl Cq s.l4.d6)/\(∀p∈σ.2.2,p∈a)/\(c=T->∃p∈σ.2.2,Ps t s p=Y T))
    (λσ=>σ.2.2.length) (s.l4.d6,W,a) rfl ⟨rfl,λl A=>Ye g A _,λp r=>r,R⟩ ?_⟩
  rintro ⟨κ,last,u⟩ ⟨I,J,K,L⟩ η;refine WP.out (?_:WP _ _ _ _);apply LY;apply Qp;refine AAj rfl a_ (λe=>?_) (λp o r=>?_)
  · simp only at e
    subst e;have P:c=X:=by
      cases c with
      |true=>rfl|false=>obtain⟨p,r,_⟩:=L rfl;cases r
    have Q:κ=a.foldl Cq s.l4.d6:=J [] (List.Perm.refl _);apply st 1;exact rfl;exact λ_ k=>k;apply OT;exact v?;intro C;apply LY;apply St;exact rfl;exact rfl;apply lm;exact v?;show(if(0:Nat)=0 then z [(1,.bx (D6 (O5 s κ)))]else x 0 [(1,.bx (D6 (O5 s κ)))]);rw[Ne rfl,Q];exact n P
  · apply st 1;exact rfl;exact λ_ k=>k
    apply OT;exact v?;intro C;apply LY;apply Su;exact rfl;exact rfl;apply cf;exact v?;intro O;have D:p∈u:=r.mem_iff.2 V;obtain⟨b,H,E⟩:=m1 p (K p D);obtain⟨S,θ⟩:=j8 H I;cases b with
    |true=>
      refine ⟨PC.gE _ _ _ _ (aR t s κ p o _ (S rfl)).out _ (λe he=>?_) (λ_ _ h=>h.elim) (λe he=>?_)⟩
      · obtain⟨ε,y,F⟩:=he
        cases y;refine⟨(Cq κ p,Y p,o),F.out,⟨(aQ κ p).trans I,λl A=>?_,λq B=>K q (r.mem_iff.2 (by simp[B])),λN=>?_⟩,?_⟩
        .exact J (p::l) (r.trans (A.cons p))
        · obtain⟨q,B,w⟩:=L N
          rcases List.mem_cons.1 (r.mem_iff.1 B)with rfl|G
          .rw[H]at w;cases w
          .exact⟨q,G,w⟩
        · have:=r.length_eq
          simp only[a5]at this;show o.length<u.length;omega
      · obtain⟨v,y,_⟩:=he
        cases y
    |false=>
      refine ⟨PC.gE _ _ _ _ (aR t s κ p o _ (θ rfl)).out _ (λe he=>?_) (λ_ _ h=>h.elim) (λe he=>?_)⟩
      · obtain⟨ε,y,_⟩:=he
        cases y
      · obtain⟨v,_,F⟩:=he
        rw [F.out];exact m (by cases c with|false=>rfl|true=>exact absurd (E rfl) V) κ
instance ABu(t:AC)(s:BH):Ct Go.Proofs.Tryz.prog (MT t s) 115 [AN t,.undef] (λr=>.bo (D6 s) (if(!decide (r.1=0))=X then(D6 r.2).set 33 ⟨T,.undef⟩else D6 r.2) 1 [eI r.1]):=AA0 zU zx λr h v l=>by
  unfold cL;unfold MT at h;obtain⟨a,q,h⟩:=bind_some h;have d:=(inferInstance:Ct Go.Proofs.Tryz.prog (I9 s) 184 [iD s] Oi).snd a q;apply LY;apply Qp;apply st 1;exact rfl;exact λ_ k=>k;apply st 1;exact rfl;exact λ_ k=>k;apply OT;exact v?;intro m;apply LY;apply Qp;apply st 1;exact rfl;exact λ_ k=>k;apply st 1;exact rfl;exact λ_ k=>k;apply st 2;exact rfl;exact λ_ k=>⟨Nat.le_of_ble_eq_true rfl,k⟩;by_cases he:a.2=0
  · have e:Oi a=.mpr a.1 [.int .i64 a.2]:=Ne he
    rw [e]at d;rw[QQ (by simp[he])]at h;split at h
    · rename_i hd
      have hd:Be.Dis a.1:=(show List.Pairwise (λx y:(Int×Int)×Int=>x.1≠y.1) a.1 from of_decide_eq_true hd);obtain⟨c,u,h⟩:=bind_some h;refine qh rfl d (λb=>?_);apply st 1;exact rfl;exact λ_ k=>k;apply st 1;exact rfl;exact λ_ k=>k;apply st 1;exact rfl;exact λ_ k=>k;apply st 1;exact rfl;exact λ_ k=>k;apply st 1;exact rfl;exact λ_ k=>k;apply OT;exact v?;intro g;apply LY;apply LY;apply Qp;apply st 1;exact rfl;exact λ_ k=>k;apply st 1;exact rfl;exact λ_ k=>k;apply OT;exact v?;intro i;apply St;exact rfl;simp[he];apply cf;exact v?;intro j;apply LY;apply LY;apply Qp;apply st 1;exact rfl;exact λ_ k=>k;apply st 2;exact rfl;exact λ_ k=>⟨⟨a_,rfl⟩,k⟩;apply OT;exact v?;intro n;apply gm;refine mI hd u (λf=>?_) (λf κ=>?_)
      · intro o
        apply LY;apply Qp;apply st 1;exact rfl;exact λ_ k=>k;apply OT;exact v?;intro p;apply jm;rw[Ne f]at h;cases h;exact⟨_,Wk.refl _,rfl,rfl⟩
      · rw[QQ (by simp[f])]at h
        cases h;refine⟨_,?_,rfl,rfl⟩;exact Wk.set (D6 (O5 s κ)) 33
    .cases h
  · have e:Oi a=.tp [.undef,.int .i64 a.2]:=QQ he
    rw [e]at d;rw[Ne (by simp[he])]at h;refine qf rfl d ?_;apply st 1;exact rfl;exact λ_ k=>k;apply st 1;exact rfl;exact λ_ k=>k;apply st 1;exact rfl;exact λ_ k=>k;apply st 1;exact rfl;exact λ_ k=>k;apply st 1;exact rfl;exact λ_ k=>k;apply OT;exact v?;intro g;apply LY;apply LY;apply Qp;apply st 1;exact rfl;exact λ_ k=>k;apply st 1;exact rfl;exact λ_ k=>k;apply OT;exact v?;intro i;apply Su;exact rfl;simp[he];apply LY;apply Qp;apply st 1;exact rfl;exact λ_ k=>k;apply st 1;exact rfl;exact λ_ k=>k;apply OT;exact v?;intro j;apply jm;cases h;simp only[he,decide_false,Bool.not_false,if_true];exact⟨_,Wk.set (D6 s) 33,rfl,rfl⟩
end Go.Sf.Sc
