/- Contracts of the functions. -/
import Derived.Test.YthcncnllajfkfaaGreatCon1
set_option linter.all false
set_option maxRecDepth 100000
set_option maxHeartbeats 4000000
open Option renaming some->Y,none->W
open Bool renaming true->X,false->T
open Option renaming bind_some->w_
namespace Go.Sf.Sc
open Go Go.Sf Go.Proofs.Tryz
theorem v?{p:Prop}(h:p:=by repeat(first|exact JR|(apply L9;exact rfl)|(apply L6;exact rfl)|(apply L7;exact rfl)|(apply MA;exact rfl)|(apply L8;exact rfl))):p:=h
theorem AAT:CK f341 (Rq [Af 6 0,Af 7 1,Af 8 2,Af 9 3,⟨Y 12,.Abq 2,W⟩] [4,5,6,7,8,9]<|Sq (Dr [13,14,15,16,17,18,19,20,21] [Ag 14 7 2,Ag 15 8 2,Ag 16 6 2,⟨Y 17,.call 348 [.s 16],W⟩,Ag 18 9 2,Aa 19 4,Aa 20 5,⟨Y 21,.bld [.list 1 [],.list 3 [],.list 1 [],.list 3 [],.list 1 [],.nil,.nil,.bool T,.int .i64 0,.nil,.nil,.nil] [(0,2,.s 14),(2,2,.s 15),(4,1,.s 17),(5,2,.s 18),(7,1,.s 19),(8,1,.s 20)],W⟩,⟨Y 22,.Abl [W,W,W,W,W,W,W,W,W,Y ⟨X,.xl 1 []⟩,Y ⟨X,.xl 1 []⟩,Y ⟨X,.list 2 []⟩] (.s 21),W⟩,⟨Y 13,.bad 22 0,W⟩] [13,22])<|Rq [Ah 23 13 0,⟨Y 24,.AaA 386 [.s 23] 0,W⟩] [13,22]<|Rq [Ah 25 13 0,Ah 26 25 0,Ah 27 26 11,Ac 28 27,Ab 12 28] [12]<|.ret) [.tmp 12]:=c!
instance(a b c d e f):CT (F8 a b c d e f) 341 [AL a,Aq b,Aq c,sg d,eB e,eI f] (rS (eL 2 Au)):=Fi AAT λr h g i=>by
  unfold F8 at h;exact au
instance(a b c d e):CT (Jb a b c d e) 275 [AL a,Aq b,Aq c,sg d,eB e] (rT (eL 2 Au) eI):=Fe f275 0x8182015902c085e6820eb655c3c54062620401 [] (Jb.eq_1 ..)
instance(a b):CT (OM a b) 448 [eI a,.pt [eI b]] rB:=Fe f448 0xa505038d01ba [] (OM.eq_1 ..)
instance(a b):CT (II a b) 442 [lI a,eI b] rI:=Fe f442 0x81598e1036fb01 [] (II.eq_1 ..)
instance(a b c d e):CT (Hd a b c d e) 429 [AL a,Aq b,Aq c,Au d,eB e] (rT (eL 2 Au) eI):=Fe f429 0x8182740eb655c35902c07f0eea5d5902c07f0ebd5c5902c08ad6ea5abdbd5902c07f96c3c54062620401 [] (Hd.eq_1 ..)
instance(a b):CT (FP a b) 356 [Se a,lI b] (rT eI eI):=Fe f356 0x9b0eb6cdd870015c369336 [] (FP.eq_1 ..)
instance(a b c d):CT (EI a b c d) 430 [Ch a,BD b,Au c,lI d] (rT lI eB):=iF f430 0x8182180a016867660a049759e18820149fbb04c99f05430af96867660a04e3b80a05022c2b2ac4aa089759e18aa68d61817401201455a82c2b2a0f0ec4aa0a2c2b2a0f0ec4aa0a3cf5f50580a8361401148a0817cf01145a6173a881605d6060dd5e41a8044b05c9d704430a0502652c2b2ac4aa08e3a8c4aa052221c4aa0797f501148101c4aa05652221c4aa079a01993fb7993f7001b71a013640936237 [.Abp 1 22 (.int .i64 0) (.s 27),.mkx 1 [.bool T] (.s 30)] (EI.eq_1 ..) (A4 0 34 33 0 (hX 11 1 eB)) (A4 2 44 43 0 λs2:Fp×a6=>[(10,.xo 1 (List.map eI s2.1)),(11,.xo 1 (List.map eB s2.2))]) (A9 4 104 103 0)
instance(a b c):CT (CQ a b c) 420 [Ch a,AI b,Ba c] (rT (eL 3 Ba) eI):=Bi f420 0x81ed0c013b3a390ccc07973b3a390ccc073b3a390ccc073c02034803470946b6029be491559fb8064484f05502430cf93b3a390ccc079a8103c05903c07fe4030542c35ba8c33884f004460eeb80a8ea0ec173a8bd84fc555bb8f840939e [] (CQ.eq_1 ..) (A4 0 59 58 0 (hO 12 (eL 3 Ba)))
abbrev AbY(n:Nat):Prop:=∀(a:BY)(c:d7)(m:AP),CT (Ay n a c m) 353 [Ch a,AI c,Ba m] (rT Ez eI)
abbrev AbZ(n:Nat):Prop:=∀(a:BY)(c:d7)(m:AP),CT (BU n a c m) 395 [Ch a,AI c,Ba m] (rT Ez eI)
theorem AAC(n:Nat)(_ih_353:AbY n)(_ih_395:AbZ n)(a:BY)(c:d7)(m:AP):CT (Ay (n+1) a c m) 353 [Ch a,AI c,Ba m] (rT Ez eI):=Fk f353 0x81bb0a46ff59bb74fdac0644dc81bb0a4606014b4a499d03069759bb7646850159bb0b4605479f7fbb0ec97c6cac0644094ba5c9ac097e06f94b4a499d0306e3b9dc81bb9f0a06022f2e2d0a9d030797dab8054805479f04b859bb76f7bb0ec97c6cac0644094b0ac9ac09430a0602652f2e2d0a9d0307e3b90ec9dc81bb7646ff59bb0a46dc81bb0a46dc9bbb0e497c6cac09435d0644dc833871c9939e [] [.cell 6 (Y 5),.tmp 7] λr h b d=>by
  unfold Ay at h;have:=A4 2 47 46 0 λs2:BA×BA=>[(6,.bx [⟨T,eI s2.1.Aaw⟩,⟨X,lI s2.1.og.d6.d3⟩,⟨X,lI s2.1.og.d6.d4⟩,⟨X,lI s2.1.og.fd⟩,⟨X,Iw s2.1.fu⟩]),(10,.bx [⟨T,eI s2.2.Aaw⟩,⟨X,lI s2.2.og.d6.d3⟩,⟨X,lI s2.2.og.d6.d4⟩,⟨X,lI s2.2.og.fd⟩,⟨X,Iw s2.2.fu⟩])];have:=A4 4 75 74 0 λs4:BA=>[(6,.bx [⟨T,eI s4.Aaw⟩,⟨X,lI s4.og.d6.d3⟩,⟨X,lI s4.og.d6.d4⟩,⟨X,lI s4.og.fd⟩,⟨X,Iw s4.fu⟩])];exact nz
theorem AAI(n:Nat)(_ih_353:AbY n)(_ih_395:AbZ n)(a:BY)(c:d7)(m:AP):CT (BU (n+1) a c m) 395 [Ch a,AI c,Ba m] (rT Ez eI):=Fk f395 0x81bb0a4606011b1a19060403069759bb7646850159bb0c4605479f6c72bb0ec97c6cac09435d0644b10fc9d04306f91b1a19060403069a8159bb76f7e46cac064471c9939e [] [.cell 6 (Y 5),.tmp 7] λr h b d=>by
  unfold BU at h;have:=A4 0 27 26 0 λs0:BA=>[(6,.bx [⟨T,eI s0.Aaw⟩,⟨X,lI s0.og.d6.d3⟩,⟨X,lI s0.og.d6.d4⟩,⟨X,lI s0.og.fd⟩,⟨X,Iw s0.fu⟩])];exact nz
theorem sX:∀n:Nat,AbY n/\AbZ n:=by
  intro n
  induction n with
  |zero=>exact⟨(λb c m=>⟨λ_ h=>d_⟩),(λb c m=>⟨λ_ h=>d_⟩)⟩
  |succ n a=>exact⟨AAC n a.1 a.2,AAI n a.1 a.2⟩
instance(s_0 c m):CT (Fd s_0 c m) 353 [Ch s_0,AI c,Ba m] (rT Ez eI):=⟨λr h=>by
  obtain ⟨N,a⟩:=Ck h;exact((sX N).1 s_0 c m).snd r (a N (az _))⟩
instance(s_0 c m):CT (Q6 s_0 c m) 395 [Ch s_0,AI c,Ba m] (rT Ez eI):=⟨λr h=>by
  obtain ⟨N,a⟩:=Ck h;exact((sX N).2 s_0 c m).snd r (a N (az _))⟩
instance(a b c d e f):CT (Ei a b c d e f) 285 [AL a,BD b,AI c,BT d,Ba e,eB f] (rT Ez eI):=Fk f285 0x81bb74fdac0d46016c5559bb76f70e016c6cac9f5571c9936262a6 [] [.cell 12 (Y 5),.tmp 13] λr h g i=>by
  unfold Ei at h;exact nz
instance(a b c d e f):CT (D0 a b c d e f) 223 [AL a,BD b,AI c,BT d,Ba e,eB f] (rT eB eI):=Fe f223 0x9b5a01cd72bb0e497c016c6cac9f5536936262a6 [] (D0.eq_1 ..)
instance(a):CT (KV a) 224 [Ba a] (rS Ba):=Fk f224 0xb23bb109460e9104460eeb0ec10fc9fb [] [.cell 2 (Y 3)] λr h b c=>by
  unfold KV at h;exact nz
instance(a):CT (Lf a) 225 [BT a] (rS BT):=Fk f225 0xb16c5e02e5115e0597daa801d10148364704a882605e0265e5115e05e3a8035010c93f3f0eeb0ec110c9fb [.Aap [.w 9,.w 13],.Aap [.g 14 0 2,.g 14 1 2,.z ⟨X,.list 1 []⟩]] [.cell 2 (Y 3)] λr h b c=>by
  unfold Lf at h;have:=A4 0 19 18 0 λs0:AG=>[(3,.bx [⟨X,lI s0.d5.d3⟩,⟨X,lE s0.d5.d4⟩,⟨X,(eL 1 lI) s0.ej⟩])];exact nz
instance(a b):CT (NV a b) 226 [eI a,lI b] (rO lI):=Bi f226 0x8218a6c8a60497f53614c8f60106c8f601063c018861817c36815af9c8a604819514993f36406a02 [.mkx 1 [.int .i64 0] (.s 9)] (NV.eq_1 ..) (A4 0 13 12 0 (hX 5 1 eI))
instance(a b c d e f):CT (HD a b c d e f) 227 [eI a,lI b,lI c,lI d,lI e,eI f] (rO lI):=J2 f227 0x82180d012b2a0d6b972b2a0d6b2b2a0d6b5f36ee36148517cf011481010df92b2a0d6b8195140d05021615140d6b370897f56060903636149b900d0502651615140d6b37089a81991a3647fee76a06 [] (HD.eq_1 ..) (A4 0 22 21 0 (hX 13 1 eI)) (A4 2 43 42 0 λs2:Int×Fp=>[(5,.tv (eI s2.1)),(13,.xo 1 (List.map eI s2.2))])
instance(a b):CT (LK a b) 287 [AL a,eI b] (rO lI):=Bi f287 0xed0701e511070497b2d15d02044b03c9d7044307f9e51107049a8182a901e4b6fe9336 [] (LK.eq_1 ..) (A4 0 19 18 0 (hO 7 lI))
noncomputable def cX:PC:=PC.of N9 f228.body (xq bT 0x36b0afaee997b0afaee9b0afaee93cda01781f7803480347074660917324b3605d7324b35c0401781fb338850b37781fb3908024b3b181efd07e3665b0afaee9e3b907c57b7a79073706977b7a790737067b7a790737063c1f02411f7821221ab62302411fb338da5b5b1f7801d1e95b5b1fb338850b735b1fb3907324b39b9007c5657b7a79073706e3380737b14a490706370797da01781f7803480347074660917322b3605d7322b35c0401781fb338b1efd07eeb8160073703654b4a4907063707e3b9f637051e1d1cf63708971f02411f782122014f909101562302411fb338da5b5b1f7801d190c1045b5b1fb3388160f63705651e1d1cf63708e33884b1fc10c9555b06785b386c1cb36236) []
theorem AAO:CK f228 cX []:=c!
theorem AAr:PC.x9 cX=X/\PC.z1 1 cX=X:=c!
instance(a b c):CT (Jf a b c) 228 [AL a,.undef,HL c] (λr=>.bo (Dt b) (Dt r) 1 []):=iG AAO AAr λr h e d f=>by
  unfold cX;unfold f228;unfold Jf at h;have:=A4 0 30 29 0 λs0:AU=>[(1,.bx (Dt s0))];have:=A4 2 75 74 0 λs2:AU=>[(1,.bx (Dt s2))];have:=A4 4 123 122 0 λs4:AU=>[(1,.bx (Dt s4))];have:=A4 6 176 175 0 λs6:AU=>[(1,.bx (Dt s6))];exact nz
theorem AAR:CK f288 (.seq (.region [⟨Y 1,.Abr (.s 0),W⟩,
    ⟨Y 2,.mv (.c .undef),W⟩,
    ⟨Y 3,.mv (.c (.int .i64 0)),W⟩] [1])
 (.seq (.region [⟨Y 12,.mkm,W⟩,
    ⟨Y 4,.mvm 12,W⟩] [1,4,12])
 (.seq (.seq (.region [⟨Y 13,.bad 1 0,W⟩,
    ⟨Y 14,.fad (.s 13) 6,W⟩,
    ⟨Y 15,.fad (.s 14) 2,W⟩,
    ⟨Y 16,.ld (.s 15),W⟩,
    ⟨Y 17,.len (.s 16),W⟩,
    ⟨Y 18,.mv (.c (.int .i64 0)),W⟩] [1,4,12,16,17,18])
 (.block 0 (.loop [1,4,12,16,17,18] (.seq (.region [⟨Y 19,.bin (.i) .lss (.s 18) (.s 17),W⟩] [1,4,12,16,17,18,19])
 (.seq (.cond (.s 19) (.skip [1,4,12,16,17,18])
 (.exit 0 [4,12]))
 (.seq (.block 1 (.seq (.region [⟨Y 20,.iad (.s 16) (.s 18) 4,W⟩,
    ⟨Y 21,.lda (.s 20) 4,W⟩,
    ⟨Y 6,.alc [⟨T,.int .i64 0⟩,⟨T,.int .i64 0⟩,⟨T,.int .i64 0⟩,⟨T,.int .i64 0⟩],W⟩,
    ⟨W,.stb 4 6 (.s 21),W⟩] [1,4,6,12,16,17,18])
 (.seq (.region [⟨Y 23,.bad 6 2,W⟩,
    ⟨Y 24,.lda (.s 23) 2,W⟩,
    ⟨Y 25,.bad 1 25,W⟩,
    ⟨Y 26,.fad (.s 25) 2,W⟩,
    ⟨Y 27,.ld (.s 26),W⟩,
    ⟨Y 28,.call 356 [.s 24,.s 27],W⟩,
    ⟨Y 22,.mv (.s 28),W⟩,
    ⟨Y 29,.ext (.s 22) 0,W⟩,
    ⟨Y 30,.ext (.s 22) 1,W⟩,
    ⟨Y 7,.mv (.s 29),W⟩,
    ⟨Y 8,.mv (.s 30),W⟩] [1,4,6,7,8,12,16,17,18])
 (.seq (.seq (.region [⟨Y 31,.mv (.s 8),W⟩,
    ⟨Y 32,.bin (.i) .neq (.s 31) (.c (.int .i64 0)),W⟩] [1,4,6,7,8,12,16,17,18,32])
 (.cond (.s 32) (.seq (.region [⟨Y 33,.mv (.s 8),W⟩,
    ⟨Y 2,.mv (.c .undef),W⟩,
    ⟨Y 3,.mv (.s 33),W⟩] [2,3,12])
 .ret)
 (.skip [1,4,6,7,12,16,17,18])))
 (.seq (.draw [9,34,35,36,37,38,39,40,41,42,43] [⟨Y 34,.bad 1 36,W⟩,
    ⟨Y 35,.fad (.s 34) 0,W⟩,
    ⟨Y 36,.ld (.s 35),W⟩,
    ⟨Y 37,.bad 6 0,W⟩,
    ⟨Y 38,.ld (.s 37),W⟩,
    ⟨Y 39,.iad (.s 36) (.s 38) 1,W⟩,
    ⟨Y 40,.ld (.s 39),W⟩,
    ⟨Y 41,.bad 6 1,W⟩,
    ⟨Y 42,.ld (.s 41),W⟩,
    ⟨Y 43,.bld [.int .i64 0,.int .i64 0] [(0,1,.s 40),(1,1,.s 42)],W⟩,
    ⟨Y 9,.alc [⟨T,.int .i64 0⟩,⟨T,.int .i64 0⟩],W⟩,
    ⟨W,.stb 2 9 (.s 43),W⟩] [1,4,7,9,12,16,17,18])
 (.seq (.seq (.region [⟨Y 45,.mv (.s 4),W⟩,
    ⟨Y 46,.lda (.s 9) 2,W⟩,
    ⟨Y 47,.mlk 12 (.s 45) (.s 46),W⟩,
    ⟨Y 44,.mv (.s 47),W⟩,
    ⟨Y 48,.ext (.s 44) 0,W⟩,
    ⟨Y 49,.ext (.s 44) 1,W⟩,
    ⟨Y 10,.mv (.s 48),W⟩,
    ⟨Y 11,.mv (.s 49),W⟩] [1,4,7,9,10,11,12,16,17,18])
 (.seq (.region [⟨Y 50,.mv (.s 11),W⟩,
    ⟨Y 51,.mv (.s 50),W⟩,
    ⟨Y 52,.mv (.s 10),Y (51,X)⟩,
    ⟨Y 53,.mv (.s 7),Y (51,X)⟩,
    ⟨Y 54,.bin (.i) .neq (.s 52) (.s 53),Y (51,X)⟩,
    ⟨Y 55,.pick (.s 51) (.s 54) (.c (.bool T)),W⟩] [1,4,7,9,12,16,17,18,55])
 (.cond (.s 55) (.seq (.region [⟨Y 2,.mv (.c .undef),W⟩,
    ⟨Y 3,.mv (.c (.int .i64 11)),W⟩] [2,3,12])
 .ret)
 (.skip [1,4,7,9,12,16,17,18]))))
 (.region [⟨Y 56,.mv (.s 4),W⟩,
    ⟨Y 57,.lda (.s 9) 2,W⟩,
    ⟨Y 58,.mv (.s 7),W⟩,
    ⟨W,.mup 12 (.s 56) (.s 57) (.s 58),W⟩] [1,4,12,16,17,18])))))))
 (.region [⟨Y 59,.bin (.i) .add (.s 18) (.c (.int .i64 1)),W⟩,
    ⟨Y 18,.mv (.s 59),W⟩] [1,4,12,16,17,18])))))))
 (.seq (.region [⟨Y 60,.mv (.s 4),W⟩,
    ⟨Y 2,.mv (.s 60),W⟩,
    ⟨Y 3,.mv (.c (.int .i64 0)),W⟩] [2,3,12])
 .ret)))) [.tmp 2,.tmp 3]:=c!
instance ACr(s:AU):Ct Go.Proofs.Tryz.prog (I3 s) 288 [iT s] PH:=FiM AAR λr h d e=>by
  unfold I3 at h;have K:∀b:Nat,HA 0 18 17 0 λ(c:Int)(a:BX)=>[(12,.mx (.mp b a)),(18,.tv (eI c))]:=λ_=>⟨⟩;have:HMO 12:=⟨⟩;exact au
theorem Z2(t:AC)(s:AU)(κ:List Fp)(p:(Int×Int)×Int)(a:BX)(r:Bo (List Fp) Unit)(h:QP t s κ p=Y r):WP (AV Go.Proofs.Tryz.prog) (.block 1 (.seq (.region [⟨Y 25,.men 22,W⟩,
    ⟨Y 26,.ext (.s 25) 0,W⟩,
    ⟨Y 27,.ext (.s 25) 1,W⟩,
    ⟨Y 7,.alc [⟨T,.int .i64 0⟩,⟨T,.int .i64 0⟩],W⟩,
    ⟨W,.stb 2 7 (.s 26),W⟩,
    ⟨Y 8,.mv (.s 27),W⟩] [1,2,7,8,22])
 (.seq (.draw [9,10,28,29,30,31,32,33,34,35,36,37,38,39,40,41,42] [⟨Y 29,.lda (.s 2) 2,W⟩,
    ⟨Y 30,.bad 1 0,W⟩,
    ⟨Y 31,.fad (.s 30) 0,W⟩,
    ⟨Y 32,.fad (.s 31) 31,W⟩,
    ⟨Y 33,.fad (.s 32) 0,W⟩,
    ⟨Y 34,.fad (.s 33) 0,W⟩,
    ⟨Y 35,.ld (.s 34),W⟩,
    ⟨Y 36,.bad 7 0,W⟩,
    ⟨Y 37,.ld (.s 36),W⟩,
    ⟨Y 38,.iad (.s 35) (.s 37) 1,W⟩,
    ⟨Y 39,.ld (.s 38),W⟩,
    ⟨Y 40,.call 289 [.s 29,.s 39],W⟩,
    ⟨Y 28,.mv (.s 40),W⟩,
    ⟨Y 41,.ext (.s 28) 0,W⟩,
    ⟨Y 42,.ext (.s 28) 1,W⟩,
    ⟨Y 9,.mv (.s 41),W⟩,
    ⟨Y 10,.mv (.s 42),W⟩] [1,2,7,8,9,22])
 (.seq (.seq (.region [⟨Y 43,.mv (.s 8),W⟩,
    ⟨Y 44,.mv (.s 9),W⟩,
    ⟨Y 45,.bad 7 1,W⟩,
    ⟨Y 46,.ld (.s 45),W⟩,
    ⟨Y 47,.iad (.s 44) (.s 46) 4,W⟩,
    ⟨Y 48,.fad (.s 47) 1,W⟩,
    ⟨Y 49,.ld (.s 48),W⟩,
    ⟨Y 50,.bin (.i) .lss (.s 43) (.s 49),W⟩,
    ⟨Y 51,.mv (.s 50),W⟩,
    ⟨Y 52,.mv (.s 8),Y (51,T)⟩,
    ⟨Y 53,.mv (.s 9),Y (51,T)⟩,
    ⟨Y 54,.bad 7 1,Y (51,T)⟩,
    ⟨Y 55,.ld (.s 54),Y (51,T)⟩,
    ⟨Y 56,.iad (.s 53) (.s 55) 4,Y (51,T)⟩,
    ⟨Y 57,.fad (.s 56) 2,Y (51,T)⟩,
    ⟨Y 58,.ld (.s 57),Y (51,T)⟩,
    ⟨Y 59,.bin (.i) .gtr (.s 52) (.s 58),Y (51,T)⟩,
    ⟨Y 60,.pick (.s 51) (.c (.bool X)) (.s 59),W⟩] [1,2,7,8,22,60])
 (.cond (.s 60) (.seq (.region [⟨Y 4,.mv (.c (.int .i64 6)),W⟩] [1,4])
 .ret)
 (.skip [1,2,7,8,22])))
 (.draw [61,62,63,64,65,66,67,68,69,70,71,72,73] [⟨Y 61,.bad 1 0,W⟩,
    ⟨Y 62,.fad (.s 61) 0,W⟩,
    ⟨Y 63,.fad (.s 62) 31,W⟩,
    ⟨Y 64,.fad (.s 63) 2,W⟩,
    ⟨Y 65,.lan (.s 64),W⟩,
    ⟨Y 66,.bad 7 0,W⟩,
    ⟨Y 67,.ld (.s 66),W⟩,
    ⟨Y 68,.nia (.s 65) (.s 67),W⟩,
    ⟨Y 69,.nld (.s 68),W⟩,
    ⟨Y 70,.bad 7 1,W⟩,
    ⟨Y 71,.ld (.s 70),W⟩,
    ⟨Y 72,.mv (.s 8),W⟩,
    ⟨Y 73,.nia (.s 69) (.s 71),W⟩,
    ⟨W,.nst (.s 73) (.s 72),W⟩] [1,2,22]))))) ⟨λe=>∃b,r=.next b/\Rn (e.fl [1,2,22]) [(1,.bx (Dt (Ph s b))),(2,.tv (.pt (AL t).cells)),(22,.mx (.mi (Y p) a))],λ_ _=>False,λe=>∃v,r=.ret v/\Rn e [(1,.bx (Dt (Ph s κ))),(4,.tv (eI 6))]⟩ [(1,.bx (Dt (Ph s κ))),(2,.tv (.pt (AL t).cells)),(22,.mx (.mi (Y p) a))]:=by
  unfold QP at h;exact au
noncomputable def cY:PC:=(.seq (.region [⟨Y 2,.Abr (.s 0),W⟩,
    ⟨Y 4,.mv (.c (.int .i64 0)),W⟩] [1,2])
 (.seq (.region [⟨Y 12,.bad 1 0,W⟩,
    ⟨Y 13,.fad (.s 12) 0,W⟩,
    ⟨Y 14,.lda (.s 13) 38,W⟩,
    ⟨Y 15,.AaJ 288 [.s 14],W⟩,
    ⟨Y 11,.mvm 15,W⟩,
    ⟨Y 16,.ext (.s 11) 0,W⟩,
    ⟨Y 17,.ext (.s 11) 1,W⟩,
    ⟨Y 5,.mv (.s 16),W⟩,
    ⟨Y 6,.mv (.s 17),W⟩] [1,2,5,6,15])
 (.seq (.seq (.region [⟨Y 18,.mv (.s 6),W⟩,
    ⟨Y 19,.bin (.i) .neq (.s 18) (.c (.int .i64 0)),W⟩] [1,2,5,6,15,19])
 (.cond (.s 19) (.seq (.region [⟨Y 20,.mv (.s 6),W⟩,
    ⟨Y 4,.mv (.s 20),W⟩] [1,4])
 .ret)
 (.skip [1,2,5,15])))
 (.seq (.seq (.region [⟨Y 21,.mv (.s 5),W⟩,
    ⟨Y 22,.x6 15 (.s 21),W⟩] [1,2,22])
 (.block 0 (.loop [1,2,22] (.seq (.region [⟨Y 23,.mnx 22,W⟩,
    ⟨Y 24,.ext (.s 23) 0,W⟩] [1,2,22,24])
 (.seq (.cond (.s 24) (.skip [1,2,22])
 (.exit 0 [1]))
 (.block 1 (.seq (.region [⟨Y 25,.men 22,W⟩,
    ⟨Y 26,.ext (.s 25) 0,W⟩,
    ⟨Y 27,.ext (.s 25) 1,W⟩,
    ⟨Y 7,.alc [⟨T,.int .i64 0⟩,⟨T,.int .i64 0⟩],W⟩,
    ⟨W,.stb 2 7 (.s 26),W⟩,
    ⟨Y 8,.mv (.s 27),W⟩] [1,2,7,8,22])
 (.seq (.draw [9,10,28,29,30,31,32,33,34,35,36,37,38,39,40,41,42] [⟨Y 29,.lda (.s 2) 2,W⟩,
    ⟨Y 30,.bad 1 0,W⟩,
    ⟨Y 31,.fad (.s 30) 0,W⟩,
    ⟨Y 32,.fad (.s 31) 31,W⟩,
    ⟨Y 33,.fad (.s 32) 0,W⟩,
    ⟨Y 34,.fad (.s 33) 0,W⟩,
    ⟨Y 35,.ld (.s 34),W⟩,
    ⟨Y 36,.bad 7 0,W⟩,
    ⟨Y 37,.ld (.s 36),W⟩,
    ⟨Y 38,.iad (.s 35) (.s 37) 1,W⟩,
    ⟨Y 39,.ld (.s 38),W⟩,
    ⟨Y 40,.call 289 [.s 29,.s 39],W⟩,
    ⟨Y 28,.mv (.s 40),W⟩,
    ⟨Y 41,.ext (.s 28) 0,W⟩,
    ⟨Y 42,.ext (.s 28) 1,W⟩,
    ⟨Y 9,.mv (.s 41),W⟩,
    ⟨Y 10,.mv (.s 42),W⟩] [1,2,7,8,9,22])
 (.seq (.seq (.region [⟨Y 43,.mv (.s 8),W⟩,
    ⟨Y 44,.mv (.s 9),W⟩,
    ⟨Y 45,.bad 7 1,W⟩,
    ⟨Y 46,.ld (.s 45),W⟩,
    ⟨Y 47,.iad (.s 44) (.s 46) 4,W⟩,
    ⟨Y 48,.fad (.s 47) 1,W⟩,
    ⟨Y 49,.ld (.s 48),W⟩,
    ⟨Y 50,.bin (.i) .lss (.s 43) (.s 49),W⟩,
    ⟨Y 51,.mv (.s 50),W⟩,
    ⟨Y 52,.mv (.s 8),Y (51,T)⟩,
    ⟨Y 53,.mv (.s 9),Y (51,T)⟩,
    ⟨Y 54,.bad 7 1,Y (51,T)⟩,
    ⟨Y 55,.ld (.s 54),Y (51,T)⟩,
    ⟨Y 56,.iad (.s 53) (.s 55) 4,Y (51,T)⟩,
    ⟨Y 57,.fad (.s 56) 2,Y (51,T)⟩,
    ⟨Y 58,.ld (.s 57),Y (51,T)⟩,
    ⟨Y 59,.bin (.i) .gtr (.s 52) (.s 58),Y (51,T)⟩,
    ⟨Y 60,.pick (.s 51) (.c (.bool X)) (.s 59),W⟩] [1,2,7,8,22,60])
 (.cond (.s 60) (.seq (.region [⟨Y 4,.mv (.c (.int .i64 6)),W⟩] [1,4])
 .ret)
 (.skip [1,2,7,8,22])))
 (.draw [61,62,63,64,65,66,67,68,69,70,71,72,73] [⟨Y 61,.bad 1 0,W⟩,
    ⟨Y 62,.fad (.s 61) 0,W⟩,
    ⟨Y 63,.fad (.s 62) 31,W⟩,
    ⟨Y 64,.fad (.s 63) 2,W⟩,
    ⟨Y 65,.lan (.s 64),W⟩,
    ⟨Y 66,.bad 7 0,W⟩,
    ⟨Y 67,.ld (.s 66),W⟩,
    ⟨Y 68,.nia (.s 65) (.s 67),W⟩,
    ⟨Y 69,.nld (.s 68),W⟩,
    ⟨Y 70,.bad 7 1,W⟩,
    ⟨Y 71,.ld (.s 70),W⟩,
    ⟨Y 72,.mv (.s 8),W⟩,
    ⟨Y 73,.nia (.s 69) (.s 71),W⟩,
    ⟨W,.nst (.s 73) (.s 72),W⟩] [1,2,22]))))))))))
 (.seq (.region [⟨Y 4,.mv (.c (.int .i64 0)),W⟩] [1,4])
 .ret)))))
theorem AAP:CK f229 cY [.tmp 4]:=c!
theorem AAs:PC.x9 cY=X/\PC.z1 1 cY=X:=c!
variable{t:AC}{s:AU}
theorem kK{p:(Int×Int)×Int}{b:Bool}(h:QR t s p=Y b){κ:List Fp}(a:Mz κ s.hV.ej):
    (b=X->QP t s κ p=Y (.next (CP κ p)))/\(b=T->QP t s κ p=Y (.ret ())):=by
  unfold QR QP at h;unfold QP;obtain⟨c,d,h⟩:=bind_some h;obtain⟨q,f,d⟩:=bind_some d;obtain⟨r,g,d⟩:=bind_some d;obtain⟨u,i,d⟩:=bind_some d;obtain⟨j,k,d⟩:=bind_some d;simp only[f,g,i,w_]at *;rw[k,w_];cases j with
  |true=>
    simp only[if_true,tl]at d|-;subst d;simp only[tl]at h;subst h;exact⟨λe=>q?,λ_=>trivial⟩
  |false=>
    simp only[Bool.false_eq_true,if_false]at d|-;obtain⟨v,l,d⟩:=bind_some d;obtain⟨w,m,d⟩:=bind_some d;cases d;simp only[tl]at h;subst h;obtain⟨x,x',n,o⟩:=a.idx l m;refine⟨λ_=>?_,λe=>q?⟩;rw[n,w_,o,w_,df n o]
theorem mc{a:BX}{c:Bool}(n:a.Dis)(g:AaH (QR t s) a=Y c){L z:AB->Prop}{x:Nat->AB->Prop}{d:AB->Prop}
    (m:c=X->z [(1,.bx (Dt (Ph s (a.foldl CP s.hV.ej))))])(f:c=T->∀κ,d [(1,.bx (Dt (Ph s κ))),(4,.tv (eI 6))]):
    WP (AV Go.Proofs.Tryz.prog) (.loop [1,2,22] (.seq (.region [⟨Y 23,.mnx 22,W⟩,
    ⟨Y 24,.ext (.s 23) 0,W⟩] [1,2,22,24])
 (.seq (.cond (.s 24) (.skip [1,2,22])
 (.exit 0 [1]))
 (.block 1 (.seq (.region [⟨Y 25,.men 22,W⟩,
    ⟨Y 26,.ext (.s 25) 0,W⟩,
    ⟨Y 27,.ext (.s 25) 1,W⟩,
    ⟨Y 7,.alc [⟨T,.int .i64 0⟩,⟨T,.int .i64 0⟩],W⟩,
    ⟨W,.stb 2 7 (.s 26),W⟩,
    ⟨Y 8,.mv (.s 27),W⟩] [1,2,7,8,22])
 (.seq (.draw [9,10,28,29,30,31,32,33,34,35,36,37,38,39,40,41,42] [⟨Y 29,.lda (.s 2) 2,W⟩,
    ⟨Y 30,.bad 1 0,W⟩,
    ⟨Y 31,.fad (.s 30) 0,W⟩,
    ⟨Y 32,.fad (.s 31) 31,W⟩,
    ⟨Y 33,.fad (.s 32) 0,W⟩,
    ⟨Y 34,.fad (.s 33) 0,W⟩,
    ⟨Y 35,.ld (.s 34),W⟩,
    ⟨Y 36,.bad 7 0,W⟩,
    ⟨Y 37,.ld (.s 36),W⟩,
    ⟨Y 38,.iad (.s 35) (.s 37) 1,W⟩,
    ⟨Y 39,.ld (.s 38),W⟩,
    ⟨Y 40,.call 289 [.s 29,.s 39],W⟩,
    ⟨Y 28,.mv (.s 40),W⟩,
    ⟨Y 41,.ext (.s 28) 0,W⟩,
    ⟨Y 42,.ext (.s 28) 1,W⟩,
    ⟨Y 9,.mv (.s 41),W⟩,
    ⟨Y 10,.mv (.s 42),W⟩] [1,2,7,8,9,22])
 (.seq (.seq (.region [⟨Y 43,.mv (.s 8),W⟩,
    ⟨Y 44,.mv (.s 9),W⟩,
    ⟨Y 45,.bad 7 1,W⟩,
    ⟨Y 46,.ld (.s 45),W⟩,
    ⟨Y 47,.iad (.s 44) (.s 46) 4,W⟩,
    ⟨Y 48,.fad (.s 47) 1,W⟩,
    ⟨Y 49,.ld (.s 48),W⟩,
    ⟨Y 50,.bin (.i) .lss (.s 43) (.s 49),W⟩,
    ⟨Y 51,.mv (.s 50),W⟩,
    ⟨Y 52,.mv (.s 8),Y (51,T)⟩,
    ⟨Y 53,.mv (.s 9),Y (51,T)⟩,
    ⟨Y 54,.bad 7 1,Y (51,T)⟩,
    ⟨Y 55,.ld (.s 54),Y (51,T)⟩,
    ⟨Y 56,.iad (.s 53) (.s 55) 4,Y (51,T)⟩,
    ⟨Y 57,.fad (.s 56) 2,Y (51,T)⟩,
    ⟨Y 58,.ld (.s 57),Y (51,T)⟩,
    ⟨Y 59,.bin (.i) .gtr (.s 52) (.s 58),Y (51,T)⟩,
    ⟨Y 60,.pick (.s 51) (.c (.bool X)) (.s 59),W⟩] [1,2,7,8,22,60])
 (.cond (.s 60) (.seq (.region [⟨Y 4,.mv (.c (.int .i64 6)),W⟩] [1,4])
 .ret)
 (.skip [1,2,7,8,22])))
 (.draw [61,62,63,64,65,66,67,68,69,70,71,72,73] [⟨Y 61,.bad 1 0,W⟩,
    ⟨Y 62,.fad (.s 61) 0,W⟩,
    ⟨Y 63,.fad (.s 62) 31,W⟩,
    ⟨Y 64,.fad (.s 63) 2,W⟩,
    ⟨Y 65,.lan (.s 64),W⟩,
    ⟨Y 66,.bad 7 0,W⟩,
    ⟨Y 67,.ld (.s 66),W⟩,
    ⟨Y 68,.nia (.s 65) (.s 67),W⟩,
    ⟨Y 69,.nld (.s 68),W⟩,
    ⟨Y 70,.bad 7 1,W⟩,
    ⟨Y 71,.ld (.s 70),W⟩,
    ⟨Y 72,.mv (.s 8),W⟩,
    ⟨Y 73,.nia (.s 69) (.s 71),W⟩,
    ⟨W,.nst (.s 73) (.s 72),W⟩] [1,2,22])))))))) ⟨L,λj e=>if j=0 then z e else x j e,d⟩ [(1,.bx (Dt s)),(2,.tv (.pt (AL t).cells)),(22,.mx (.mi W a))]:=by
  obtain ⟨m1,Q⟩:=YX g;refine⟨vb _ (σ:=List Fp×Option ((Int×Int)×Int)×BX) (λσ=>[(1,.bx (Dt (Ph s σ.1))),(2,.tv (.pt (AL t).cells)),(22,.mx (.mi σ.2.1 σ.2.2))])
    (λσ=>Mz σ.1 s.hV.ej/\(∀l,σ.2.2.Perm l->l.foldl CP σ.1=a.foldl CP s.hV.ej)/\(∀p∈σ.2.2,p∈a)/\(c=T->∃p∈σ.2.2,QR t s p=Y T))
    (λσ=>σ.2.2.length) (s.hV.ej,W,a) rfl ⟨rfl,λl A=>X4 n A _,λp r=>r,Q⟩ ?_⟩
  rintro ⟨κ,last,u⟩ ⟨H,I,J,K⟩ ε;refine WP.out (?_:WP _ _ _ _);apply L3;apply RM;refine ABU rfl a! (λe=>?_) (λp o r=>?_)
  · simp only at e
    subst e;have O:c=X:=by
      cases c with
      |true=>rfl|false=>obtain⟨p,r,_⟩:=K rfl;cases r
    have P:κ=a.foldl CP s.hV.ej:=I [] (List.Perm.refl _);apply st 1;exact rfl;exact λ_ k=>k;apply Ox;exact v?;intro C;apply L3;apply TR;exact rfl;exact rfl;apply mE;exact v?;show(if(0:Nat)=0 then z [(1,.bx (Dt (Ph s κ)))]else x 0 [(1,.bx (Dt (Ph s κ)))]);rw[ac rfl,P];exact m O
  · apply st 1;exact rfl;exact λ_ k=>k
    apply Ox;exact v?;intro C;apply L3;apply TS;exact rfl;exact rfl;apply cw;exact v?;intro N;have D:p∈u:=r.mem_iff.2 V;obtain⟨b,hb,E⟩:=m1 p (J p D);obtain⟨R,S⟩:=kK hb H;cases b with
    |true=>
      refine ⟨PC.o4 _ _ _ _ (Z2 t s κ p o _ (R rfl)).out _ (λe he=>?_) (λ_ _ h=>h.elim) (λe he=>?_)⟩
      · obtain⟨θ,y,F⟩:=he
        cases y;refine⟨(CP κ p,Y p,o),F.out,⟨(Z1 κ p).trans H,λl A=>?_,λq B=>J q (r.mem_iff.2 (by simp[B])),λM=>?_⟩,?_⟩
        .exact I (p::l) (r.trans (A.cons p))
        · obtain⟨q,B,w⟩:=K M
          rcases List.mem_cons.1 (r.mem_iff.1 B)with rfl|G
          .rw[hb]at w;cases w
          .exact⟨q,G,w⟩
        · have:=r.length_eq
          simp only[cE]at this;show o.length<u.length;omega
      · obtain⟨v,y,_⟩:=he
        cases y
    |false=>
      refine ⟨PC.o4 _ _ _ _ (Z2 t s κ p o _ (S rfl)).out _ (λe he=>?_) (λ_ _ h=>h.elim) (λe he=>?_)⟩
      · obtain⟨θ,y,_⟩:=he
        cases y
      · obtain⟨v,_,F⟩:=he
        rw [F.out];exact f (by cases c with|false=>rfl|true=>exact absurd (E rfl) V) κ
instance ACp(t:AC)(s:AU):Ct Go.Proofs.Tryz.prog (Mt t s) 229 [AL t,.undef] (λr=>.bo (Dt s) (if(!decide (r.1=0))=X then(Dt r.2).set 33 ⟨T,.undef⟩else Dt r.2) 1 [eI r.1]):=ABj AAP AAs λr h u l=>by
  unfold cY;unfold Mt at h;obtain⟨a,ha,h⟩:=bind_some h;have d:=(inferInstance:Ct Go.Proofs.Tryz.prog (I3 s) 288 [iT s] PH).snd a ha;apply L3;apply RM;apply st 1;exact rfl;exact λ_ k=>k;apply st 1;exact rfl;exact λ_ k=>k;apply Ox;exact v?;intro m;apply L3;apply RM;apply st 1;exact rfl;exact λ_ k=>k;apply st 1;exact rfl;exact λ_ k=>k;apply st 2;exact rfl;exact λ_ k=>⟨Nat.le_of_ble_eq_true rfl,k⟩;by_cases he:a.2=0
  · have e:PH a=.mpr a.1 [.int .i64 a.2]:=ac he
    rw [e]at d;rw[ae (by simp[he])]at h;split at h
    · rename_i hd
      have hd:BX.Dis a.1:=(show List.Pairwise (λx y:(Int×Int)×Int=>x.1≠y.1) a.1 from of_decide_eq_true hd);obtain⟨c,q,h⟩:=bind_some h;refine rL rfl d (λb=>?_);apply st 1;exact rfl;exact λ_ k=>k;apply st 1;exact rfl;exact λ_ k=>k;apply st 1;exact rfl;exact λ_ k=>k;apply st 1;exact rfl;exact λ_ k=>k;apply st 1;exact rfl;exact λ_ k=>k;apply Ox;exact v?;intro g;apply L3;apply L3;apply RM;apply st 1;exact rfl;exact λ_ k=>k;apply st 1;exact rfl;exact λ_ k=>k;apply Ox;exact v?;intro i;apply TR;exact rfl;simp[he];apply cw;exact v?;intro j;apply L3;apply L3;apply RM;apply st 1;exact rfl;exact λ_ k=>k;apply st 2;exact rfl;exact λ_ k=>⟨⟨a!,rfl⟩,k⟩;apply Ox;exact v?;intro n;apply iK;refine mc hd q (λf=>?_) (λf κ=>?_)
      · intro o
        apply L3;apply RM;apply st 1;exact rfl;exact λ_ k=>k;apply Ox;exact v?;intro p;apply j6;rw[ac f]at h;cases h;exact⟨_,Wk.refl _,rfl,rfl⟩
      · rw[ae u?]at h
        cases h;refine⟨_,?_,rfl,rfl⟩;exact Wk.set (Dt (Ph s κ)) 33
    .cases h
  · have e:PH a=.tp [.undef,.int .i64 a.2]:=ae he
    rw [e]at d;rw[ac (by simp[he])]at h;refine rK rfl d ?_;apply st 1;exact rfl;exact λ_ k=>k;apply st 1;exact rfl;exact λ_ k=>k;apply st 1;exact rfl;exact λ_ k=>k;apply st 1;exact rfl;exact λ_ k=>k;apply st 1;exact rfl;exact λ_ k=>k;apply Ox;exact v?;intro g;apply L3;apply L3;apply RM;apply st 1;exact rfl;exact λ_ k=>k;apply st 1;exact rfl;exact λ_ k=>k;apply Ox;exact v?;intro i;apply TS;exact rfl;simp[he];apply L3;apply RM;apply st 1;exact rfl;exact λ_ k=>k;apply st 1;exact rfl;exact λ_ k=>k;apply Ox;exact v?;intro j;apply j6;cases h;simp only[he,decide_false,Bool.not_false,if_true];exact⟨_,Wk.set (Dt s) 33,rfl,rfl⟩
end Go.Sf.Sc
