/- Contracts of the functions. -/
import Derived.Test.YthcncnllajfkfaaGreatCon1
set_option linter.all false
set_option maxRecDepth 100000
set_option maxHeartbeats 4000000
open Option renaming some->Y,none->W
open Bool renaming true->X,false->T
open Option renaming bind_some->v5
namespace Go.Sf.Sc
open Go Go.Sf Go.Proofs.Tryz
theorem AA0:CK f341 (Rq [Af 6 0,Af 7 1,Af 8 2,Af 9 3,⟨Y 12,.Abe 2,W⟩] [4,5,6,7,8,9]<|Sq (Dr [13,14,15,16,17,18,19,20,21] [Ag 14 7 2,Ag 15 8 2,Ag 16 6 2,⟨Y 17,.call 348 [.s 16],W⟩,Ag 18 9 2,Aa 19 4,Aa 20 5,⟨Y 21,.bld [.list 1 [],.list 3 [],.list 1 [],.list 3 [],.list 1 [],.nil,.nil,.bool T,.int .i64 0,.nil,.nil,.nil] [(0,2,.s 14),(2,2,.s 15),(4,1,.s 17),(5,2,.s 18),(7,1,.s 19),(8,1,.s 20)],W⟩,⟨Y 22,.AaY [W,W,W,W,W,W,W,W,W,Y ⟨X,.xl 1 []⟩,Y ⟨X,.xl 1 []⟩,Y ⟨X,.list 2 []⟩] (.s 21),W⟩,⟨Y 13,.bad 22 0,W⟩] [13,22])<|Rq [Ah 23 13 0,⟨Y 24,.Aaf 386 [.s 23] 0,W⟩] [13,22]<|Rq [Ah 25 13 0,Ah 26 25 0,Ah 27 26 11,Ac 28 27,Ab 12 28] [12]<|.ret) [.tmp 12]:=b!
instance(a b c d e f):CT (GW a b c d e f) 341 [AK a,Ay b,Ay c,tW d,eB e,eI f] (rS (eL 2 Ap)):=Fi AA0 λr h g i=>by
  unfold GW at h;exact au
instance(a b c d e):CT (Jp a b c d e) 275 [AK a,Ay b,Ay c,tW d,eB e] (rT (eL 2 Ap) eI):=Fe f275 0xe8013702c085f8820eb136c5c3405c5c0401 [] (Jp.eq_1 ..)
instance(a b):CT (OM a b) 448 [eI a,.pt [eI b]] rB:=Fe f448 0x800503aae6 [] (OM.eq_1 ..)
instance(a b):CT (Ib a b) 442 [lI a,eI b] rI:=Fe f442 0x81378e103093d7 [] (Ib.eq_1 ..)
instance(a b c d e):CT (Hv a b c d e) 429 [AK a,Ay b,Ay c,Ap d,eB e] (rT (eL 2 Ap) eI):=Fe f429 0xe86b0eb136c53702c07c0eee5a3702c07c0e0bc43702c08aebee55d9d93702c07c8cc5c3405c5c0401 [] (Hv.eq_1 ..)
instance(a b):CT (Fw a b) 356 [QI a,lI b] (rT eI eI):=Fe f356 0x9e0eb1cbcc740159309330 [] (Fw.eq_1 ..)
instance(a b c d):CT (ET a b c d) 430 [Cr a,BE b,Ap c,lI d] (rT lI eB):=nC f430 0xe8180a016867660a049237e588201489d404c98905430aea6867660a04ddac0a05022c2b2ab80670089237e58a0577055e816b01201436a92c2b2a0f0eb806700a2c2b2a0f0eb806700a3c01f901f9057da9301401148a0817d30114555e6aa9815d5a5d5dc45b41a9044b05c9d504430a0502612c2b2ab8067008dda9b80670052221b80670079201f901148101b8067005612221b80670079a01993fb7993f7401b71a7740935c31 [.Aa7 1 22 (.int .i64 0) (.s 27),.mkx 1 [.bool T] (.s 30)] (ET.eq_1 ..) (A8 0 34 33 0 (hX 11 1 eB)) (A8 2 44 43 0 λs2:Fp×a5=>[(10,.xo 1 (List.map eI s2.1)),(11,.xo 1 (List.map eB s2.2))]) (BB 4 104 103 0)
instance(a b c):CT (Cc a b c) 420 [Cr a,AJ b,Bb c] (rT (eL 3 Bb) eI):=By f420 0xe8020c013b3a390cd007923b3a390cd0073b3a390cd0073c02034803470946b1029ed17e3689ac0644e0c93602430cea3b3a390cd0079a8103c03703c07cd1030542c538a9c532e0c904460ede7da9ee0ebd6aa9d98407c93638ac0103409391 [] (Cc.eq_1 ..) (A8 0 59 58 0 (hO 12 (eL 3 Bb)))
abbrev AbC(n:Nat):Prop:=∀(a:Bh)(c:d5)(m:AP),CT (A0 n a c m) 353 [Cr a,AJ c,Bb m] (rT FK eI)
abbrev AbG(n:Nat):Prop:=∀(a:Bh)(c:d5)(m:AP),CT (Bc n a c m) 395 [Cr a,AJ c,Bb m] (rT FK eI)
theorem AAh(n:Nat)(_ih_353:AbC n)(_ih_395:AbG n)(a:Bh)(c:d5)(m:AP):CT (A0 (n+1) a c m) 353 [Cr a,AJ c,Bb m] (rT FK eI):=Fk f353 0xba4b0a46ff37d46beda10644baba4b0a4606014b4a49a203069237d47246850137d40b460547897cd40ee962a10644094b80c9fd9006ea4b4a49a20306ddadbaba4b890a06022f2e2d0aa2030792014aac054805478904ac37d472f4d40ee962a10644094b0ac9fd430a0602612f2e2d0aa20307ddad0ec9baba4b7246ff37d40a46baba4b0a46ba9ed40e497562fd435a0644ba833265c99391 [] [.cell 6 (Y 5),.tmp 7] λr h b d=>by
  unfold A0 at h;have:=A8 2 47 46 0 λs2:BF×BF=>[(6,.bx [⟨T,eI s2.1.Aah⟩,⟨X,lI s2.1.j0.d4.dl⟩,⟨X,lI s2.1.j0.d4.d3⟩,⟨X,lI s2.1.j0.ey⟩,⟨X,JG s2.1.em⟩]),(10,.bx [⟨T,eI s2.2.Aah⟩,⟨X,lI s2.2.j0.d4.dl⟩,⟨X,lI s2.2.j0.d4.d3⟩,⟨X,lI s2.2.j0.ey⟩,⟨X,JG s2.2.em⟩])];have:=A8 4 75 74 0 λs4:BF=>[(6,.bx [⟨T,eI s4.Aah⟩,⟨X,lI s4.j0.d4.dl⟩,⟨X,lI s4.j0.d4.d3⟩,⟨X,lI s4.j0.ey⟩,⟨X,JG s4.em⟩])];exact nz
theorem AAn(n:Nat)(_ih_353:AbC n)(_ih_395:AbG n)(a:Bh)(c:d5)(m:AP):CT (Bc (n+1) a c m) 395 [Cr a,AJ c,Bb m] (rT FK eI):=Fk f395 0xba4b0a4606011b1a19060403069237d47246850137d40c46054789626cd40ee962fd435a0644b20fc9c84306ea1b1a19060403069a8137d472f4d162a1064465c99391 [] [.cell 6 (Y 5),.tmp 7] λr h b d=>by
  unfold Bc at h;have:=A8 0 27 26 0 λs0:BF=>[(6,.bx [⟨T,eI s0.Aah⟩,⟨X,lI s0.j0.d4.dl⟩,⟨X,lI s0.j0.d4.d3⟩,⟨X,lI s0.j0.ey⟩,⟨X,JG s0.em⟩])];exact nz
theorem tQ:∀n:Nat,AbC n/\AbG n:=by
  intro n
  induction n with
  |zero=>exact⟨(λb c m=>⟨λ_ h=>c_⟩),(λb c m=>⟨λ_ h=>c_⟩)⟩
  |succ n a=>exact⟨AAh n a.1 a.2,AAn n a.1 a.2⟩
instance(s_0 c m):CT (F9 s_0 c m) 353 [Cr s_0,AJ c,Bb m] (rT FK eI):=⟨λr h=>by
  obtain ⟨N,a⟩:=Cd h;exact((tQ N).1 s_0 c m).snd r (a N (ae _))⟩
instance(s_0 c m):CT (Q0 s_0 c m) 395 [Cr s_0,AJ c,Bb m] (rT FK eI):=⟨λr h=>by
  obtain ⟨N,a⟩:=Cd h;exact((tQ N).2 s_0 c m).snd r (a N (ae _))⟩
instance(a b c d e f):CT (E2 a b c d e f) 285 [AK a,BE b,AJ c,BY d,Bb e,eB f] (rT FK eI):=Fk f285 0xba4b6beda10d4601623637d472f40e016262a1893665c9935c5cbc [] [.cell 12 (Y 5),.tmp 13] λr h g i=>by
  unfold E2 at h;exact nz
instance(a b c d e f):CT (EA a b c d e f) 223 [AK a,BE b,AJ c,BY d,Bb e,eB f] (rT eB eI):=Fe f223 0x9e5501cb6cd40e4975016262a1893630935c5cbc [] (EA.eq_1 ..)
instance(a):CT (Kl a) 224 [Bb a] (rS Bb):=Fk f224 0xb53bb209460e7e04460ede0ebd0fc99300 [] [.cell 2 (Y 3)] λr h b c=>by
  unfold Kl at h;exact nz
instance(a):CT (Ln a) 225 [BY a] (rS BY):=Fk f225 0xb2625b02df115b0592014aa901db0148304704a9825d5b0261df115b05dda9035010c93f3f0ede0ebd10c99300 [.Aag [.w 9,.w 13],.Aag [.g 14 0 2,.g 14 1 2,.z ⟨X,.list 1 []⟩]] [.cell 2 (Y 3)] λr h b c=>by
  unfold Ln at h;have:=A8 0 19 18 0 λs0:AF=>[(3,.bx [⟨X,lI s0.dr.dl⟩,⟨X,lE s0.dr.d3⟩,⟨X,(eL 1 lI) s0.eb⟩])];exact nz
instance(a b):CT (NZ a b) 226 [eI a,lI b] (rO lI):=By f226 0x8218bcc1bc049201f93014c107a20106c107a201063c01885e8175308155eac1bc04819514993f30405f02 [.mkx 1 [.int .i64 0] (.s 9)] (NZ.eq_1 ..) (A8 0 13 12 0 (hX 5 1 eI))
instance(a b c d e f):CT (Hf a b c d e f) 227 [eI a,lI b,lI c,lI d,lI e,eI f] (rO lI):=I9 f227 0x82180d012b2a0d70922b2a0d702b2a0d706030f930148517d3011481010dea2b2a0d708195140d05021615140d7031089201f95d5d5d7730149e970d0502611615140d7031089a81991a30470140705b5f06 [] (Hf.eq_1 ..) (A8 0 22 21 0 (hX 13 1 eI)) (A8 2 43 42 0 λs2:Int×Fp=>[(5,.tv (eI s2.1)),(13,.xo 1 (List.map eI s2.2))])
instance(a b):CT (LX a b) 287 [AK a,eI b] (rO lI):=By f287 0x82020701df11070492b5db5a02044b03c9d5044307eadf1107049ae8b301d1b101409330 [] (LX.eq_1 ..) (A8 0 19 18 0 (hO 7 lI))
noncomputable def cq:PC:=PC.of My f228.body (xq bT 0x30b0afaef192b0afaef1b0afaef13c014a01711f710348034707465d7e6a249d5d5a6a249d590401711f9d32850b31711f9d977d249db281efc8437761b0afaef1ddad07c37b7a79073106927b7a790731067b7a790731063c1f02411f7121221ab12302411f9d32014a38381f7101dbf138381f9d32850bf51f9d976a249d9e9707c3617b7a79073106dd320731b24a490706310792014a01711f710348034707465d7e6a229d5d5a6a229d590401711f9d32b2efc890de815d073103614b4a4907063107ddad07a231051e1d1c07a23108921f02411f712122014f977e01562302411f9d32014a38381f7101db97bd0438381f9d32815d07a23105611e1d1c07a23108dd3284b207c910c9363806713832621c9d5c30) []
theorem AAu:CK f228 cq []:=b!
theorem ABK:PC.sR cq=X/\PC.tl 1 cq=X:=b!
instance(a b c):CT (Js a b c) 228 [AK a,.undef,FC c] (λr=>.bo (D3 b) (D3 r) 1 []):=Z5 AAu ABK λr h e d f=>by
  unfold cq;unfold f228;unfold Js at h;have:=A8 0 30 29 0 λs0:AR=>[(1,.bx (D3 s0))];have:=A8 2 75 74 0 λs2:AR=>[(1,.bx (D3 s2))];have:=A8 4 123 122 0 λs4:AR=>[(1,.bx (D3 s4))];have:=A8 6 176 175 0 λs6:AR=>[(1,.bx (D3 s6))];exact nz
theorem AAy:CK f288 (.seq (.region [⟨Y 1,.Abc (.s 0),W⟩,
    ⟨Y 2,.mv (.c .undef),W⟩,
    ⟨Y 3,.mv (.c (.int .i64 0)),W⟩] [1])
 (.seq (.region [⟨Y 12,.mkm,W⟩,
    ⟨Y 4,.mvm 12,W⟩] [1,4,12])
 (.seq (.seq (.region [⟨Y 13,.bad 1 0,W⟩,
    ⟨Y 14,.fad (.s 13) 6,W⟩,
    ⟨Y 15,.fad (.s 14) 2,W⟩,
    ⟨Y 16,.ld (.s 15),W⟩,
    ⟨Y 17,.len (.s 16),W⟩,
    ⟨Y 18,.mv (.c (.int .i64 0)),W⟩] [1,4,12,16,17,18])
 (.block 0 (.loop [1,4,12,16,17,18] (.seq (.region [⟨Y 19,.bin (.i) .lss (.s 18) (.s 17),W⟩] [1,4,12,16,17,18,19])
 (.seq (.cond (.s 19) (.skip [1,4,12,16,17,18])
 (.exit 0 [4,12]))
 (.seq (.block 1 (.seq (.region [⟨Y 20,.iad (.s 16) (.s 18) 4,W⟩,
    ⟨Y 21,.lda (.s 20) 4,W⟩,
    ⟨Y 6,.alc [⟨T,.int .i64 0⟩,⟨T,.int .i64 0⟩,⟨T,.int .i64 0⟩,⟨T,.int .i64 0⟩],W⟩,
    ⟨W,.stb 4 6 (.s 21),W⟩] [1,4,6,12,16,17,18])
 (.seq (.region [⟨Y 23,.bad 6 2,W⟩,
    ⟨Y 24,.lda (.s 23) 2,W⟩,
    ⟨Y 25,.bad 1 25,W⟩,
    ⟨Y 26,.fad (.s 25) 2,W⟩,
    ⟨Y 27,.ld (.s 26),W⟩,
    ⟨Y 28,.call 356 [.s 24,.s 27],W⟩,
    ⟨Y 22,.mv (.s 28),W⟩,
    ⟨Y 29,.ext (.s 22) 0,W⟩,
    ⟨Y 30,.ext (.s 22) 1,W⟩,
    ⟨Y 7,.mv (.s 29),W⟩,
    ⟨Y 8,.mv (.s 30),W⟩] [1,4,6,7,8,12,16,17,18])
 (.seq (.seq (.region [⟨Y 31,.mv (.s 8),W⟩,
    ⟨Y 32,.bin (.i) .neq (.s 31) (.c (.int .i64 0)),W⟩] [1,4,6,7,8,12,16,17,18,32])
 (.cond (.s 32) (.seq (.region [⟨Y 33,.mv (.s 8),W⟩,
    ⟨Y 2,.mv (.c .undef),W⟩,
    ⟨Y 3,.mv (.s 33),W⟩] [2,3,12])
 .ret)
 (.skip [1,4,6,7,12,16,17,18])))
 (.seq (.draw [9,34,35,36,37,38,39,40,41,42,43] [⟨Y 34,.bad 1 36,W⟩,
    ⟨Y 35,.fad (.s 34) 0,W⟩,
    ⟨Y 36,.ld (.s 35),W⟩,
    ⟨Y 37,.bad 6 0,W⟩,
    ⟨Y 38,.ld (.s 37),W⟩,
    ⟨Y 39,.iad (.s 36) (.s 38) 1,W⟩,
    ⟨Y 40,.ld (.s 39),W⟩,
    ⟨Y 41,.bad 6 1,W⟩,
    ⟨Y 42,.ld (.s 41),W⟩,
    ⟨Y 43,.bld [.int .i64 0,.int .i64 0] [(0,1,.s 40),(1,1,.s 42)],W⟩,
    ⟨Y 9,.alc [⟨T,.int .i64 0⟩,⟨T,.int .i64 0⟩],W⟩,
    ⟨W,.stb 2 9 (.s 43),W⟩] [1,4,7,9,12,16,17,18])
 (.seq (.seq (.region [⟨Y 45,.mv (.s 4),W⟩,
    ⟨Y 46,.lda (.s 9) 2,W⟩,
    ⟨Y 47,.mlk 12 (.s 45) (.s 46),W⟩,
    ⟨Y 44,.mv (.s 47),W⟩,
    ⟨Y 48,.ext (.s 44) 0,W⟩,
    ⟨Y 49,.ext (.s 44) 1,W⟩,
    ⟨Y 10,.mv (.s 48),W⟩,
    ⟨Y 11,.mv (.s 49),W⟩] [1,4,7,9,10,11,12,16,17,18])
 (.seq (.region [⟨Y 50,.mv (.s 11),W⟩,
    ⟨Y 51,.mv (.s 50),W⟩,
    ⟨Y 52,.mv (.s 10),Y (51,X)⟩,
    ⟨Y 53,.mv (.s 7),Y (51,X)⟩,
    ⟨Y 54,.bin (.i) .neq (.s 52) (.s 53),Y (51,X)⟩,
    ⟨Y 55,.pick (.s 51) (.s 54) (.c (.bool T)),W⟩] [1,4,7,9,12,16,17,18,55])
 (.cond (.s 55) (.seq (.region [⟨Y 2,.mv (.c .undef),W⟩,
    ⟨Y 3,.mv (.c (.int .i64 11)),W⟩] [2,3,12])
 .ret)
 (.skip [1,4,7,9,12,16,17,18]))))
 (.region [⟨Y 56,.mv (.s 4),W⟩,
    ⟨Y 57,.lda (.s 9) 2,W⟩,
    ⟨Y 58,.mv (.s 7),W⟩,
    ⟨W,.mup 12 (.s 56) (.s 57) (.s 58),W⟩] [1,4,12,16,17,18])))))))
 (.region [⟨Y 59,.bin (.i) .add (.s 18) (.c (.int .i64 1)),W⟩,
    ⟨Y 18,.mv (.s 59),W⟩] [1,4,12,16,17,18])))))))
 (.seq (.region [⟨Y 60,.mv (.s 4),W⟩,
    ⟨Y 2,.mv (.s 60),W⟩,
    ⟨Y 3,.mv (.c (.int .i64 0)),W⟩] [2,3,12])
 .ret)))) [.tmp 2,.tmp 3]:=b!
instance AC6(s:AR):Ct Go.Proofs.Tryz.prog (JN s) 288 [jV s] PP:=FiM AAy λr h d e=>by
  unfold JN at h;have K:∀b:Nat,HA 0 18 17 0 λ(a:Int)(c:Bf)=>[(12,.mx (.mp b c)),(18,.tv (eI a))]:=λ_=>⟨⟩;have:HMO 12:=⟨⟩;exact au
theorem aP(t:AC)(s:AR)(κ:List Fp)(p:(Int×Int)×Int)(a:Bf)(r:B5 (List Fp) Unit)(h:QJ t s κ p=Y r):WP (AT Go.Proofs.Tryz.prog) (.block 1 (.seq (.region [⟨Y 25,.men 22,W⟩,
    ⟨Y 26,.ext (.s 25) 0,W⟩,
    ⟨Y 27,.ext (.s 25) 1,W⟩,
    ⟨Y 7,.alc [⟨T,.int .i64 0⟩,⟨T,.int .i64 0⟩],W⟩,
    ⟨W,.stb 2 7 (.s 26),W⟩,
    ⟨Y 8,.mv (.s 27),W⟩] [1,2,7,8,22])
 (.seq (.draw [9,10,28,29,30,31,32,33,34,35,36,37,38,39,40,41,42] [⟨Y 29,.lda (.s 2) 2,W⟩,
    ⟨Y 30,.bad 1 0,W⟩,
    ⟨Y 31,.fad (.s 30) 0,W⟩,
    ⟨Y 32,.fad (.s 31) 31,W⟩,
    ⟨Y 33,.fad (.s 32) 0,W⟩,
    ⟨Y 34,.fad (.s 33) 0,W⟩,
    ⟨Y 35,.ld (.s 34),W⟩,
    ⟨Y 36,.bad 7 0,W⟩,
    ⟨Y 37,.ld (.s 36),W⟩,
    ⟨Y 38,.iad (.s 35) (.s 37) 1,W⟩,
    ⟨Y 39,.ld (.s 38),W⟩,
    ⟨Y 40,.call 289 [.s 29,.s 39],W⟩,
    ⟨Y 28,.mv (.s 40),W⟩,
    ⟨Y 41,.ext (.s 28) 0,W⟩,
    ⟨Y 42,.ext (.s 28) 1,W⟩,
    ⟨Y 9,.mv (.s 41),W⟩,
    ⟨Y 10,.mv (.s 42),W⟩] [1,2,7,8,9,22])
 (.seq (.seq (.region [⟨Y 43,.mv (.s 8),W⟩,
    ⟨Y 44,.mv (.s 9),W⟩,
    ⟨Y 45,.bad 7 1,W⟩,
    ⟨Y 46,.ld (.s 45),W⟩,
    ⟨Y 47,.iad (.s 44) (.s 46) 4,W⟩,
    ⟨Y 48,.fad (.s 47) 1,W⟩,
    ⟨Y 49,.ld (.s 48),W⟩,
    ⟨Y 50,.bin (.i) .lss (.s 43) (.s 49),W⟩,
    ⟨Y 51,.mv (.s 50),W⟩,
    ⟨Y 52,.mv (.s 8),Y (51,T)⟩,
    ⟨Y 53,.mv (.s 9),Y (51,T)⟩,
    ⟨Y 54,.bad 7 1,Y (51,T)⟩,
    ⟨Y 55,.ld (.s 54),Y (51,T)⟩,
    ⟨Y 56,.iad (.s 53) (.s 55) 4,Y (51,T)⟩,
    ⟨Y 57,.fad (.s 56) 2,Y (51,T)⟩,
    ⟨Y 58,.ld (.s 57),Y (51,T)⟩,
    ⟨Y 59,.bin (.i) .gtr (.s 52) (.s 58),Y (51,T)⟩,
    ⟨Y 60,.pick (.s 51) (.c (.bool X)) (.s 59),W⟩] [1,2,7,8,22,60])
 (.cond (.s 60) (.seq (.region [⟨Y 4,.mv (.c (.int .i64 6)),W⟩] [1,4])
 .ret)
 (.skip [1,2,7,8,22])))
 (.draw [61,62,63,64,65,66,67,68,69,70,71,72,73] [⟨Y 61,.bad 1 0,W⟩,
    ⟨Y 62,.fad (.s 61) 0,W⟩,
    ⟨Y 63,.fad (.s 62) 31,W⟩,
    ⟨Y 64,.fad (.s 63) 2,W⟩,
    ⟨Y 65,.lan (.s 64),W⟩,
    ⟨Y 66,.bad 7 0,W⟩,
    ⟨Y 67,.ld (.s 66),W⟩,
    ⟨Y 68,.nia (.s 65) (.s 67),W⟩,
    ⟨Y 69,.nld (.s 68),W⟩,
    ⟨Y 70,.bad 7 1,W⟩,
    ⟨Y 71,.ld (.s 70),W⟩,
    ⟨Y 72,.mv (.s 8),W⟩,
    ⟨Y 73,.nia (.s 69) (.s 71),W⟩,
    ⟨W,.nst (.s 73) (.s 72),W⟩] [1,2,22]))))) ⟨λe=>∃b,r=.next b/\Rn (e.fq [1,2,22]) [(1,.bx (D3 (Pk s b))),(2,.tv (.pt (AK t).cells)),(22,.mx (.mi (Y p) a))],λ_ _=>False,λe=>∃v,r=.ret v/\Rn e [(1,.bx (D3 (Pk s κ))),(4,.tv (eI 6))]⟩ [(1,.bx (D3 (Pk s κ))),(2,.tv (.pt (AK t).cells)),(22,.mx (.mi (Y p) a))]:=by
  unfold QJ at h;exact au
noncomputable def cr:PC:=(.seq (.region [⟨Y 2,.Abc (.s 0),W⟩,
    ⟨Y 4,.mv (.c (.int .i64 0)),W⟩] [1,2])
 (.seq (.region [⟨Y 12,.bad 1 0,W⟩,
    ⟨Y 13,.fad (.s 12) 0,W⟩,
    ⟨Y 14,.lda (.s 13) 38,W⟩,
    ⟨Y 15,.Aau 288 [.s 14],W⟩,
    ⟨Y 11,.mvm 15,W⟩,
    ⟨Y 16,.ext (.s 11) 0,W⟩,
    ⟨Y 17,.ext (.s 11) 1,W⟩,
    ⟨Y 5,.mv (.s 16),W⟩,
    ⟨Y 6,.mv (.s 17),W⟩] [1,2,5,6,15])
 (.seq (.seq (.region [⟨Y 18,.mv (.s 6),W⟩,
    ⟨Y 19,.bin (.i) .neq (.s 18) (.c (.int .i64 0)),W⟩] [1,2,5,6,15,19])
 (.cond (.s 19) (.seq (.region [⟨Y 20,.mv (.s 6),W⟩,
    ⟨Y 4,.mv (.s 20),W⟩] [1,4])
 .ret)
 (.skip [1,2,5,15])))
 (.seq (.seq (.region [⟨Y 21,.mv (.s 5),W⟩,
    ⟨Y 22,.sB 15 (.s 21),W⟩] [1,2,22])
 (.block 0 (.loop [1,2,22] (.seq (.region [⟨Y 23,.mnx 22,W⟩,
    ⟨Y 24,.ext (.s 23) 0,W⟩] [1,2,22,24])
 (.seq (.cond (.s 24) (.skip [1,2,22])
 (.exit 0 [1]))
 (.block 1 (.seq (.region [⟨Y 25,.men 22,W⟩,
    ⟨Y 26,.ext (.s 25) 0,W⟩,
    ⟨Y 27,.ext (.s 25) 1,W⟩,
    ⟨Y 7,.alc [⟨T,.int .i64 0⟩,⟨T,.int .i64 0⟩],W⟩,
    ⟨W,.stb 2 7 (.s 26),W⟩,
    ⟨Y 8,.mv (.s 27),W⟩] [1,2,7,8,22])
 (.seq (.draw [9,10,28,29,30,31,32,33,34,35,36,37,38,39,40,41,42] [⟨Y 29,.lda (.s 2) 2,W⟩,
    ⟨Y 30,.bad 1 0,W⟩,
    ⟨Y 31,.fad (.s 30) 0,W⟩,
    ⟨Y 32,.fad (.s 31) 31,W⟩,
    ⟨Y 33,.fad (.s 32) 0,W⟩,
    ⟨Y 34,.fad (.s 33) 0,W⟩,
    ⟨Y 35,.ld (.s 34),W⟩,
    ⟨Y 36,.bad 7 0,W⟩,
    ⟨Y 37,.ld (.s 36),W⟩,
    ⟨Y 38,.iad (.s 35) (.s 37) 1,W⟩,
    ⟨Y 39,.ld (.s 38),W⟩,
    ⟨Y 40,.call 289 [.s 29,.s 39],W⟩,
    ⟨Y 28,.mv (.s 40),W⟩,
    ⟨Y 41,.ext (.s 28) 0,W⟩,
    ⟨Y 42,.ext (.s 28) 1,W⟩,
    ⟨Y 9,.mv (.s 41),W⟩,
    ⟨Y 10,.mv (.s 42),W⟩] [1,2,7,8,9,22])
 (.seq (.seq (.region [⟨Y 43,.mv (.s 8),W⟩,
    ⟨Y 44,.mv (.s 9),W⟩,
    ⟨Y 45,.bad 7 1,W⟩,
    ⟨Y 46,.ld (.s 45),W⟩,
    ⟨Y 47,.iad (.s 44) (.s 46) 4,W⟩,
    ⟨Y 48,.fad (.s 47) 1,W⟩,
    ⟨Y 49,.ld (.s 48),W⟩,
    ⟨Y 50,.bin (.i) .lss (.s 43) (.s 49),W⟩,
    ⟨Y 51,.mv (.s 50),W⟩,
    ⟨Y 52,.mv (.s 8),Y (51,T)⟩,
    ⟨Y 53,.mv (.s 9),Y (51,T)⟩,
    ⟨Y 54,.bad 7 1,Y (51,T)⟩,
    ⟨Y 55,.ld (.s 54),Y (51,T)⟩,
    ⟨Y 56,.iad (.s 53) (.s 55) 4,Y (51,T)⟩,
    ⟨Y 57,.fad (.s 56) 2,Y (51,T)⟩,
    ⟨Y 58,.ld (.s 57),Y (51,T)⟩,
    ⟨Y 59,.bin (.i) .gtr (.s 52) (.s 58),Y (51,T)⟩,
    ⟨Y 60,.pick (.s 51) (.c (.bool X)) (.s 59),W⟩] [1,2,7,8,22,60])
 (.cond (.s 60) (.seq (.region [⟨Y 4,.mv (.c (.int .i64 6)),W⟩] [1,4])
 .ret)
 (.skip [1,2,7,8,22])))
 (.draw [61,62,63,64,65,66,67,68,69,70,71,72,73] [⟨Y 61,.bad 1 0,W⟩,
    ⟨Y 62,.fad (.s 61) 0,W⟩,
    ⟨Y 63,.fad (.s 62) 31,W⟩,
    ⟨Y 64,.fad (.s 63) 2,W⟩,
    ⟨Y 65,.lan (.s 64),W⟩,
    ⟨Y 66,.bad 7 0,W⟩,
    ⟨Y 67,.ld (.s 66),W⟩,
    ⟨Y 68,.nia (.s 65) (.s 67),W⟩,
    ⟨Y 69,.nld (.s 68),W⟩,
    ⟨Y 70,.bad 7 1,W⟩,
    ⟨Y 71,.ld (.s 70),W⟩,
    ⟨Y 72,.mv (.s 8),W⟩,
    ⟨Y 73,.nia (.s 69) (.s 71),W⟩,
    ⟨W,.nst (.s 73) (.s 72),W⟩] [1,2,22]))))))))))
 (.seq (.region [⟨Y 4,.mv (.c (.int .i64 0)),W⟩] [1,4])
 .ret)))))
theorem AAv:CK f229 cr [.tmp 4]:=b!
theorem ABL:PC.sR cr=X/\PC.tl 1 cr=X:=b!
variable{t:AC}{s:AR}
theorem lW{p:(Int×Int)×Int}{b:Bool}(h:QK t s p=Y b){κ:List Fp}(a:M5 κ s.ex.eb):
    (b=X->QJ t s κ p=Y (.next (Cb κ p)))/\(b=T->QJ t s κ p=Y (.ret ())):=by
  unfold QK QJ at h;unfold QJ;obtain⟨c,d,h⟩:=bind_some h;obtain⟨q,f,d⟩:=bind_some d;obtain⟨r,g,d⟩:=bind_some d;obtain⟨u,i,d⟩:=bind_some d;obtain⟨j,k,d⟩:=bind_some d;simp only[f,g,i,v5]at *;rw[k,v5];cases j with
  |true=>
    simp only[if_true,q0]at d|-;subst d;simp only[q0]at h;subst h;exact⟨λe=>r?,λ_=>trivial⟩
  |false=>
    simp only[Bool.false_eq_true,if_false]at d|-;obtain⟨v,l,d⟩:=bind_some d;obtain⟨w,m,d⟩:=bind_some d;cases d;simp only[q0]at h;subst h;obtain⟨x,x',n,o⟩:=a.idx l m;refine⟨λ_=>?_,λe=>r?⟩;rw[n,v5,o,v5,dx n o]
theorem na{a:Bf}{c:Bool}(g:a.Dis)(m:Aas (QK t s) a=Y c){L z:AB->Prop}{x:Nat->AB->Prop}{d:AB->Prop}
    (f:c=X->z [(1,.bx (D3 (Pk s (a.foldl Cb s.ex.eb))))])(n:c=T->∀κ,d [(1,.bx (D3 (Pk s κ))),(4,.tv (eI 6))]):
    WP (AT Go.Proofs.Tryz.prog) (.loop [1,2,22] (.seq (.region [⟨Y 23,.mnx 22,W⟩,
    ⟨Y 24,.ext (.s 23) 0,W⟩] [1,2,22,24])
 (.seq (.cond (.s 24) (.skip [1,2,22])
 (.exit 0 [1]))
 (.block 1 (.seq (.region [⟨Y 25,.men 22,W⟩,
    ⟨Y 26,.ext (.s 25) 0,W⟩,
    ⟨Y 27,.ext (.s 25) 1,W⟩,
    ⟨Y 7,.alc [⟨T,.int .i64 0⟩,⟨T,.int .i64 0⟩],W⟩,
    ⟨W,.stb 2 7 (.s 26),W⟩,
    ⟨Y 8,.mv (.s 27),W⟩] [1,2,7,8,22])
 (.seq (.draw [9,10,28,29,30,31,32,33,34,35,36,37,38,39,40,41,42] [⟨Y 29,.lda (.s 2) 2,W⟩,
    ⟨Y 30,.bad 1 0,W⟩,
    ⟨Y 31,.fad (.s 30) 0,W⟩,
    ⟨Y 32,.fad (.s 31) 31,W⟩,
    ⟨Y 33,.fad (.s 32) 0,W⟩,
    ⟨Y 34,.fad (.s 33) 0,W⟩,
    ⟨Y 35,.ld (.s 34),W⟩,
    ⟨Y 36,.bad 7 0,W⟩,
    ⟨Y 37,.ld (.s 36),W⟩,
    ⟨Y 38,.iad (.s 35) (.s 37) 1,W⟩,
    ⟨Y 39,.ld (.s 38),W⟩,
    ⟨Y 40,.call 289 [.s 29,.s 39],W⟩,
    ⟨Y 28,.mv (.s 40),W⟩,
    ⟨Y 41,.ext (.s 28) 0,W⟩,
    ⟨Y 42,.ext (.s 28) 1,W⟩,
    ⟨Y 9,.mv (.s 41),W⟩,
    ⟨Y 10,.mv (.s 42),W⟩] [1,2,7,8,9,22])
 (.seq (.seq (.region [⟨Y 43,.mv (.s 8),W⟩,
    ⟨Y 44,.mv (.s 9),W⟩,
    ⟨Y 45,.bad 7 1,W⟩,
    ⟨Y 46,.ld (.s 45),W⟩,
    ⟨Y 47,.iad (.s 44) (.s 46) 4,W⟩,
    ⟨Y 48,.fad (.s 47) 1,W⟩,
    ⟨Y 49,.ld (.s 48),W⟩,
    ⟨Y 50,.bin (.i) .lss (.s 43) (.s 49),W⟩,
    ⟨Y 51,.mv (.s 50),W⟩,
    ⟨Y 52,.mv (.s 8),Y (51,T)⟩,
    ⟨Y 53,.mv (.s 9),Y (51,T)⟩,
    ⟨Y 54,.bad 7 1,Y (51,T)⟩,
    ⟨Y 55,.ld (.s 54),Y (51,T)⟩,
    ⟨Y 56,.iad (.s 53) (.s 55) 4,Y (51,T)⟩,
    ⟨Y 57,.fad (.s 56) 2,Y (51,T)⟩,
    ⟨Y 58,.ld (.s 57),Y (51,T)⟩,
    ⟨Y 59,.bin (.i) .gtr (.s 52) (.s 58),Y (51,T)⟩,
    ⟨Y 60,.pick (.s 51) (.c (.bool X)) (.s 59),W⟩] [1,2,7,8,22,60])
 (.cond (.s 60) (.seq (.region [⟨Y 4,.mv (.c (.int .i64 6)),W⟩] [1,4])
 .ret)
 (.skip [1,2,7,8,22])))
 (.draw [61,62,63,64,65,66,67,68,69,70,71,72,73] [⟨Y 61,.bad 1 0,W⟩,
    ⟨Y 62,.fad (.s 61) 0,W⟩,
    ⟨Y 63,.fad (.s 62) 31,W⟩,
    ⟨Y 64,.fad (.s 63) 2,W⟩,
    ⟨Y 65,.lan (.s 64),W⟩,
    ⟨Y 66,.bad 7 0,W⟩,
    ⟨Y 67,.ld (.s 66),W⟩,
    ⟨Y 68,.nia (.s 65) (.s 67),W⟩,
    ⟨Y 69,.nld (.s 68),W⟩,
    ⟨Y 70,.bad 7 1,W⟩,
    ⟨Y 71,.ld (.s 70),W⟩,
    ⟨Y 72,.mv (.s 8),W⟩,
    ⟨Y 73,.nia (.s 69) (.s 71),W⟩,
    ⟨W,.nst (.s 73) (.s 72),W⟩] [1,2,22])))))))) ⟨L,λj e=>if j=0 then z e else x j e,d⟩ [(1,.bx (D3 s)),(2,.tv (.pt (AK t).cells)),(22,.mx (.mi W a))]:=by
  obtain ⟨m1,Q⟩:=Yc m;refine⟨wP _ (σ:=List Fp×Option ((Int×Int)×Int)×Bf) (λσ=>[(1,.bx (D3 (Pk s σ.1))),(2,.tv (.pt (AK t).cells)),(22,.mx (.mi σ.2.1 σ.2.2))])
    (λσ=>M5 σ.1 s.ex.eb/\(∀l,σ.2.2.Perm l->l.foldl Cb σ.1=a.foldl Cb s.ex.eb)/\(∀p∈σ.2.2,p∈a)/\(c=T->∃p∈σ.2.2,QK t s p=Y T))
    (λσ=>σ.2.2.length) (s.ex.eb,W,a) rfl ⟨rfl,λl A=>X2 g A _,λp r=>r,Q⟩ ?_⟩
  rintro ⟨κ,last,u⟩ ⟨H,I,J,K⟩ ε;refine WP.out (?_:WP _ _ _ _);apply MG;apply RE;refine ABt rfl a! (λe=>?_) (λp o r=>?_)
  · simp only at e
    subst e;have O:c=X:=by
      cases c with
      |true=>rfl|false=>obtain⟨p,r,_⟩:=K rfl;cases r
    have P:κ=a.foldl Cb s.ex.eb:=I [] (List.Perm.refl _);apply st 1;exact rfl;exact λ_ k=>k;apply O0;(focus (repeat(first|exact Jg|(apply MN;exact rfl)|(apply MK;exact rfl)|(apply ML;exact rfl)|(apply MO;exact rfl)|(apply MM;exact rfl))));intro C;apply MG;apply S9;exact rfl;exact rfl;apply nI;(focus (repeat(first|exact Jg|(apply MN;exact rfl)|(apply MK;exact rfl)|(apply ML;exact rfl)|(apply MO;exact rfl)|(apply MM;exact rfl))));show(if(0:Nat)=0 then z [(1,.bx (D3 (Pk s κ)))]else x 0 [(1,.bx (D3 (Pk s κ)))]);rw[a6 rfl,P];exact f O
  · apply st 1;exact rfl;exact λ_ k=>k
    apply O0;(focus (repeat(first|exact Jg|(apply MN;exact rfl)|(apply MK;exact rfl)|(apply ML;exact rfl)|(apply MO;exact rfl)|(apply MM;exact rfl))));intro C;apply MG;apply TA;exact rfl;exact rfl;apply dL;(focus (repeat(first|exact Jg|(apply MN;exact rfl)|(apply MK;exact rfl)|(apply ML;exact rfl)|(apply MO;exact rfl)|(apply MM;exact rfl))));intro N;have D:p∈u:=r.mem_iff.2 V;obtain⟨b,hb,E⟩:=m1 p (J p D);obtain⟨R,S⟩:=lW hb H;cases b with
    |true=>
      refine ⟨PC.l3 _ _ _ _ (aP t s κ p o _ (R rfl)).out _ (λe he=>?_) (λ_ _ h=>h.elim) (λe he=>?_)⟩
      · obtain⟨θ,y,F⟩:=he
        cases y;refine⟨(Cb κ p,Y p,o),F.out,⟨(aO κ p).trans H,λl A=>?_,λq B=>J q (r.mem_iff.2 (by simp[B])),λM=>?_⟩,?_⟩
        .exact I (p::l) (r.trans (A.cons p))
        · obtain⟨q,B,w⟩:=K M
          rcases List.mem_cons.1 (r.mem_iff.1 B)with rfl|G
          .rw[hb]at w;cases w
          .exact⟨q,G,w⟩
        · have:=r.length_eq
          simp only[cE]at this;show o.length<u.length;omega
      · obtain⟨v,y,_⟩:=he
        cases y
    |false=>
      refine ⟨PC.l3 _ _ _ _ (aP t s κ p o _ (S rfl)).out _ (λe he=>?_) (λ_ _ h=>h.elim) (λe he=>?_)⟩
      · obtain⟨θ,y,_⟩:=he
        cases y
      · obtain⟨v,_,F⟩:=he
        rw [F.out];exact n (by cases c with|false=>rfl|true=>exact absurd (E rfl) V) κ
instance AC4(t:AC)(s:AR):Ct Go.Proofs.Tryz.prog (M0 t s) 229 [AK t,.undef] (λr=>.bo (D3 s) (if(!decide (r.1=0))=X then(D3 r.2).set 33 ⟨T,.undef⟩else D3 r.2) 1 [eI r.1]):=AB8 AAv ABL λr h u l=>by
  unfold cr;unfold M0 at h;obtain⟨a,ha,h⟩:=bind_some h;have d:=(inferInstance:Ct Go.Proofs.Tryz.prog (JN s) 288 [jV s] PP).snd a ha;apply MG;apply RE;apply st 1;exact rfl;exact λ_ k=>k;apply st 1;exact rfl;exact λ_ k=>k;apply O0;(focus (repeat(first|exact Jg|(apply MN;exact rfl)|(apply MK;exact rfl)|(apply ML;exact rfl)|(apply MO;exact rfl)|(apply MM;exact rfl))));intro m;apply MG;apply RE;apply st 1;exact rfl;exact λ_ k=>k;apply st 1;exact rfl;exact λ_ k=>k;apply st 2;exact rfl;exact λ_ k=>⟨Nat.le_of_ble_eq_true rfl,k⟩;by_cases he:a.2=0
  · have e:PP a=.mpr a.1 [.int .i64 a.2]:=a6 he
    rw [e]at d;rw[ac u!]at h;split at h
    · rename_i hd
      have hd:Bf.Dis a.1:=(show List.Pairwise (λx y:(Int×Int)×Int=>x.1≠y.1) a.1 from of_decide_eq_true hd);obtain⟨c,q,h⟩:=bind_some h;refine r0 rfl d (λb=>?_);apply st 1;exact rfl;exact λ_ k=>k;apply st 1;exact rfl;exact λ_ k=>k;apply st 1;exact rfl;exact λ_ k=>k;apply st 1;exact rfl;exact λ_ k=>k;apply st 1;exact rfl;exact λ_ k=>k;apply O0;(focus (repeat(first|exact Jg|(apply MN;exact rfl)|(apply MK;exact rfl)|(apply ML;exact rfl)|(apply MO;exact rfl)|(apply MM;exact rfl))));intro g;apply MG;apply MG;apply RE;apply st 1;exact rfl;exact λ_ k=>k;apply st 1;exact rfl;exact λ_ k=>k;apply O0;(focus (repeat(first|exact Jg|(apply MN;exact rfl)|(apply MK;exact rfl)|(apply ML;exact rfl)|(apply MO;exact rfl)|(apply MM;exact rfl))));intro i;apply S9;exact rfl;simp[he];apply dL;(focus (repeat(first|exact Jg|(apply MN;exact rfl)|(apply MK;exact rfl)|(apply ML;exact rfl)|(apply MO;exact rfl)|(apply MM;exact rfl))));intro j;apply MG;apply MG;apply RE;apply st 1;exact rfl;exact λ_ k=>k;apply st 2;exact rfl;exact λ_ k=>⟨⟨a!,rfl⟩,k⟩;apply O0;(focus (repeat(first|exact Jg|(apply MN;exact rfl)|(apply MK;exact rfl)|(apply ML;exact rfl)|(apply MO;exact rfl)|(apply MM;exact rfl))));intro n;apply jM;refine na hd q (λf=>?_) (λf κ=>?_)
      · intro o
        apply MG;apply RE;apply st 1;exact rfl;exact λ_ k=>k;apply O0;(focus (repeat(first|exact Jg|(apply MN;exact rfl)|(apply MK;exact rfl)|(apply ML;exact rfl)|(apply MO;exact rfl)|(apply MM;exact rfl))));intro p;apply lG;rw[a6 f]at h;cases h;exact⟨_,Wk.refl _,rfl,rfl⟩
      · rw[ac (by simp[f])]at h
        cases h;refine⟨_,?_,rfl,rfl⟩;exact Wk.set (D3 (Pk s κ)) 33
    .cases h
  · have e:PP a=.tp [.undef,.int .i64 a.2]:=ac he
    rw [e]at d;rw[a6 u!]at h;refine ry rfl d ?_;apply st 1;exact rfl;exact λ_ k=>k;apply st 1;exact rfl;exact λ_ k=>k;apply st 1;exact rfl;exact λ_ k=>k;apply st 1;exact rfl;exact λ_ k=>k;apply st 1;exact rfl;exact λ_ k=>k;apply O0;(focus (repeat(first|exact Jg|(apply MN;exact rfl)|(apply MK;exact rfl)|(apply ML;exact rfl)|(apply MO;exact rfl)|(apply MM;exact rfl))));intro g;apply MG;apply MG;apply RE;apply st 1;exact rfl;exact λ_ k=>k;apply st 1;exact rfl;exact λ_ k=>k;apply O0;(focus (repeat(first|exact Jg|(apply MN;exact rfl)|(apply MK;exact rfl)|(apply ML;exact rfl)|(apply MO;exact rfl)|(apply MM;exact rfl))));intro i;apply TA;exact rfl;simp[he];apply MG;apply RE;apply st 1;exact rfl;exact λ_ k=>k;apply st 1;exact rfl;exact λ_ k=>k;apply O0;(focus (repeat(first|exact Jg|(apply MN;exact rfl)|(apply MK;exact rfl)|(apply ML;exact rfl)|(apply MO;exact rfl)|(apply MM;exact rfl))));intro j;apply lG;cases h;simp only[he,decide_false,Bool.not_false,if_true];exact⟨_,Wk.set (D3 s) 33,rfl,rfl⟩
end Go.Sf.Sc
