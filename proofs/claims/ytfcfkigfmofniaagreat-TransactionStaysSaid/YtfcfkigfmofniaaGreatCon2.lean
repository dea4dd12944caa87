/- Contracts of the functions. -/
import Derived.Test.YtfcfkigfmofniaaGreatCon0
import Derived.Test.YtfcfkigfmofniaaGreatCon1
import Derived.Test.YtfcfkigfmofniaaGreatTryzShelf
import Derived.Test.YtfcfkigfmofniaaGreatTw
set_option linter.all false
set_option maxRecDepth 100000
set_option maxHeartbeats 4000000
namespace Go.Sf.Sc
open Go Go.Sf Go.Proofs.Tryz
instance(a b c d e f):CT (E1 a b c d e f) 329 [AJ a,BB b,AI c,Bi d,Bb e,eB f] rI:=Fe f329 0x81e8db7d69e9cd6d7038a9c437cdcd387d6901746d38a9b1708d93626258 [] (E1.eq_1 ..)
instance(a b c):CT (Ff a b c) 390 [eI a,lI b,lI c] (rO lI):=Bj f390 0x821807010f0e0d0702059d01e280301484800701640f0e0d0702059f81991a30470140780003 [] (Ff.eq_1 ..) (Az 0 15 14 0 (hX 7 1 eI))
instance(a b):CT (Mk a b) 396 [eI a,.pt [eI b]] rB:=Fe f396 0xb605033058b7 [] (Mk.eq_1 ..)
instance(a b):CT (Gy a b) 394 [lI a,eI b] rI:=Fe f394 0x81558e1030a201 [] (Gy.eq_1 ..)
instance(a b):CT (JN a b) 399 [lI a,eI b] rI:=Fe f399 0x81de559c01b7 [] (JN.eq_1 ..)
instance(a b c):CT (Dc a b c) 401 [.pt (Ro a).cells,eI b,eI c] rB:=Fe f401 0x813f074660b403099001605e030990015bf37e02900197583058810e017e0590019bf2f37e5c5c30780003 [.bin (.a [0,0,0]) .eql (.s 38) (.s 57)] (Dc.eq_1 ..)
instance(a):CT (B5 a) 400 [.pt (Ro a).cells] rB:=Ip f400 0xa5141312d70591141312d705141312d70581880114131206d70626251413120604d7099dff14131206d706018e0130b814131206d7066426251413120604d7099f7e029061ff141312d70585012cb45e9b81f2f30064141312d705da01905c61650309908c01 [] (B5.eq_1 ..) (A5 0 20 19 0) (Az 2 38 37 0 (hT 6 eB))
noncomputable def ZJ:PC:=PC.of OE f398.body (xq bT 0xff00015f4a0b90024802470446201d0ac5201d09c5040bc5370001a4a306000491a4a3060004a4a30600043c1f0a900151011e0ac5370052371f0a90014faa011e0ac537ffa4a30600048a0a20011d0a90b5030790b50820303781960164a4a30600049f7e02c581151d0ac581657e5c5c37151d0ac500013f3e3d020005913f3e3d0200053f3e3d0200053c1f09900151011e09c5373f3e3d0200053f3e3d0200053c005237a0371f0990014faa011e09c537ff3f3e3d0200058a0a20011d0990b5030790b50a08806080725c5c37a190b50a583058810e017205c584800001643f3e3d020005da5c02c581151d09c58165725c5c37151d09c50061050308c50b030bc50001) []
theorem u7:CK f398 ZJ []:=by decide +kernel
theorem vU:PC.yb ZJ=true/\PC.yd 0 ZJ=true:=by decide +kernel
abbrev Q_398(n:Nat):Prop:=∀(f:AM),CT (Aw n f) 398 [.undef] (fun r=>.bo (Cm f) (Cm r) 0 [])
theorem uo(n:Nat)(_ih_398:Q_398 n)(f:AM):CT (Aw (n+1) f) 398 [.undef] (fun r=>.bo (Cm f) (Cm r) 0 []):=nD u7 vU fun r h c b d=>by
  unfold ZJ;unfold f398;unfold Aw at h;have:=Az 1 63 62 0 fun s1:AM=>[(0,.bx (Cm s1))];have:=Az 3 164 163 0 fun s3:AM=>[(0,.bx (Cm s3))];have:HJ 28 fun(a:AM)=>[(0,.bx (Cm a))]:=⟨⟩;exact nz
theorem um:∀n:Nat,Q_398 n:=by
  intro n
  induction n with
  |zero=>exact(fun f=>⟨fun _ h=>by cases h⟩)
  |succ n a=>exact uo n a
instance(f):CT (GJ f) 398 [.undef] (fun r=>.bo (Cm f) (Cm r) 0 []):=⟨fun r h=>by
  obtain ⟨N,a⟩:=Cp h;exact((um N) f).snd r (a N (b6 _))⟩
theorem u0:CK f397 (Rq [Aa 6 0,Aa 7 1,Aa 8 2,Aa 9 3,⟨some 12,.Aat 2,none⟩] [4,5,6,7,8,9]<|Sq (Dr [13,14,15,16,17,18,19,20,21] [Ab 14 7 2,Ab 15 8 2,Ab 16 6 2,⟨some 17,.call 326 [.s 16],none⟩,Ab 18 9 2,⟨some 19,.mv (.s 4),none⟩,⟨some 20,.mv (.s 5),none⟩,⟨some 21,.z7 [.list 1 [],.list 3 [],.list 1 [],.list 3 [],.list 1 [],.list 1 [],.list 1 [],.bool false,.int .i64 0,.nil,.nil,.nil] [(0,2,.s 14),(2,2,.s 15),(4,1,.s 17),(5,2,.s 18),(7,1,.s 19),(8,1,.s 20)],none⟩,⟨some 22,.Aal [none,none,none,none,none,none,none,none,none,some ⟨true,.xl 1 []⟩,some ⟨true,.xl 1 []⟩,some ⟨true,.list 2 []⟩] (.s 21),none⟩,⟨some 13,.bad 22 0,none⟩] [13,22])<|Rq [Ac 23 13 0,⟨some 24,.y6 398 [.s 23] 0,none⟩] [13,22]<|Rq [Ac 25 13 0,Ac 26 25 0,Ac 27 26 11,⟨some 28,.ld (.s 27),none⟩,⟨some 12,.tk 28,none⟩] [12]<|.ret) [.tmp 12]:=by decide +kernel
instance(a b c d e f):CT (HT a b c d e f) 397 [AJ a,Ah b,Ah c,Aq d,eB e,eI f] (rS (eL 2 Aq)):=Fi u0 fun r h g i=>by
  unfold HT at h;exact au
instance(a b c d e):CT (Ls a b c d e) 395 [AJ a,Ah b,Ah c,Aq d,eB e] (rT (eL 2 Aq) eI):=Fe f395 0x8182015502c0f701820ec4ad8d024062620401 [] (Ls.eq_1 ..)
instance(a b c d e):CT (GW a b c d e) 391 [AJ a,Ah b,Ah c,Aq d,eB e] (rT (eL 2 Aq) eI):=Fe f391 0x81826a0e01adad5502d6760b5e5e5502d676ee5b5502c08a655e0b92655bee5502d676ad8d024062620401 [] (GW.eq_1 ..)
instance(a b):CT (EZ a b) 332 [Qy a,lI b] (rT eI eI):=Fe f332 0x840ec4dcc8fa5b30d5 [] (EZ.eq_1 ..)
instance(a b c d):CT (Dh a b c d) 392 [CJ a,BB b,Aq c,lI d] (rT lI eB):=gB f392 0x8182180a016867660a049d7dc0882014707504c97005430a01646867660a04daeff8022c2b2ae0d0089d7dc08a583058846a01201438bb2c2b2a0f0ee0d00a2c2b2a0f0ee0d00a5fe201e2057ebb301401148a0817d1011401588172bb81605e60605b5b5d41bbd305c9ac0443f802642c2b2ae0d008dabbe0d0052221e0d0079d01e20114b8e0d005642221e0d0079f01993fbe993ffabe1a013040936236 [.Aae 1 22 (.int .i64 0) (.s 27),.z8 1 [.bool false] (.s 30)] (Dh.eq_1 ..) (Az 0 34 33 0 (hX 11 1 eB)) (Az 2 44 43 0 fun s2:Fp×a6=>[(10,.xo 1 (List.map eI s2.1)),(11,.xo 1 (List.map eB s2.2))]) (A5 4 104 103 0)
instance(a b c):CT (B6 a b c) 381 [CJ a,AI b,Bb c] (rT (eL 3 Bb) eI):=Bj f381 0x81ed0c013b3a390c6303079d3b3a390c6303073b3a390c6303073c02034803470946c40284e9b43870ef064489f13802430c01643b3a390c6303079f8103c05503d669e9030542ad5cbbad3789f104f07e377ebb0b5e0ed972bbee89fcf4046f0340f5 [] (B6.eq_1 ..) (Az 0 59 58 0 (hO 12 (eL 3 Bb)))
abbrev AaR(n:Nat):Prop:=∀(a:BI)(c:d5)(m:AO),CT (Am n a c m) 330 [CJ a,AI c,Bb m] (rT EI eI)
abbrev AaP(n:Nat):Prop:=∀(a:BI)(c:d5)(m:AO),CT (BG n a c m) 359 [CJ a,AI c,Bb m] (rT EI eI)
theorem uk(n:Nat)(_ih_330:AaR n)(_ih_359:AaP n)(a:BI)(c:d5)(m:AO):CT (Am (n+1) a c m) 330 [CJ a,AI c,Bb m] (rT EI eI):=Fk f330 0xd80a46ffdd6a0e6db10644c3d80a4606014b4a490605eb9ddd010a468501dd0b460547700169750ec9746db10644094bb6c9b109730601644b4a490605ebdab9c3d8700a06022f2e2d0a060503079de6ef054805477004efdd010a4669750ec9746db10644094b0ac9b109430a0602642f2e2d0a06050307dab90ec9c3d8010a46ffdd0a46c3d80a46c384750e49746db109435e0644c383376cc9f5 [] [.cell 6 (some 5),.tmp 7] fun r h b d=>by
  unfold Am at h;have:=Az 2 47 46 0 fun s2:A1×A1=>[(6,.bx [⟨false,eI s2.1.yX⟩,⟨true,lI s2.1.n8.d4.ca⟩,⟨true,lI s2.1.n8.d4.ci⟩,⟨true,lI s2.1.n8.fd⟩,⟨true,Hn s2.1.fu⟩]),(10,.bx [⟨false,eI s2.2.yX⟩,⟨true,lI s2.2.n8.d4.ca⟩,⟨true,lI s2.2.n8.d4.ci⟩,⟨true,lI s2.2.n8.fd⟩,⟨true,Hn s2.2.fu⟩])];have:=Az 4 75 74 0 fun s4:A1=>[(6,.bx [⟨false,eI s4.yX⟩,⟨true,lI s4.n8.d4.ca⟩,⟨true,lI s4.n8.d4.ci⟩,⟨true,lI s4.n8.fd⟩,⟨true,Hn s4.fu⟩])];exact nz
theorem ul(n:Nat)(_ih_330:AaR n)(_ih_359:AaP n)(a:BI)(c:d5)(m:AO):CT (BG (n+1) a c m) 359 [CJ a,AI c,Bb m] (rT EI eI):=Fk f359 0xd80a4606011b1a190604eb9ddd010a468501dd0c460547706d69750ec9746db109435e06449b0fc96d03430601641b1a190604eb9f81dd010a4669e96db106446cc9f5 [] [.cell 6 (some 5),.tmp 7] fun r h b d=>by
  unfold BG at h;have:=Az 0 27 26 0 fun s0:A1=>[(6,.bx [⟨false,eI s0.yX⟩,⟨true,lI s0.n8.d4.ca⟩,⟨true,lI s0.n8.d4.ci⟩,⟨true,lI s0.n8.fd⟩,⟨true,Hn s0.fu⟩])];exact nz
theorem nK:∀n:Nat,AaR n/\AaP n:=by
  intro n
  induction n with
  |zero=>exact⟨(fun b c m=>⟨fun _ h=>by cases h⟩),(fun b c m=>⟨fun _ h=>by cases h⟩)⟩
  |succ n a=>exact⟨uk n a.1 a.2,ul n a.1 a.2⟩
instance(s_0 c m):CT (El s_0 c m) 330 [CJ s_0,AI c,Bb m] (rT EI eI):=⟨fun r h=>by
  obtain ⟨N,a⟩:=Cp h;exact((nK N).1 s_0 c m).snd r (a N (b6 _))⟩
instance(s_0 c m):CT (Pk s_0 c m) 359 [CJ s_0,AI c,Bb m] (rT EI eI):=⟨fun r h=>by
  obtain ⟨N,a⟩:=Cp h;exact((nK N).2 s_0 c m).snd r (a N (b6 _))⟩
instance(a b c d e f):CT (D3 a b c d e f) 285 [AJ a,BB b,AI c,Bi d,Bb e,eB f] (rT EI eI):=Fk f285 0xd86a0e6db10d46016d38dd010a4676016d6db170386cc993626258 [] [.cell 12 (some 5),.tmp 13] fun r h g i=>by
  unfold D3 at h;exact nz
instance(a b c d e f):CT (DP a b c d e f) 224 [AJ a,BB b,AI c,Bi d,Bb e,eB f] (rT eB eI):=Fe f224 0x840158dc69750e4974016d6db170383093626258 [] (DP.eq_1 ..)
instance(a):CT (JO a) 225 [Bb a] (rS Bb):=Fk f225 0x783b9b09f0b404f07e370ed90fc9a2 [] [.cell 2 (some 3)] fun r h b c=>by
  unfold JO at h;exact nz
instance(a):CT (J9 a) 226 [Bi a] (rS Bi):=Fk f226 0x9b6d5d021312115d059de6026fcb0148304704bb82605d02641312115d05dabb0350fb3f3f0e7e370ed9fba2 [.yt [.w 9,.w 13],.yt [.g 14 0 2,.g 14 1 2,.z ⟨true,.list 1 []⟩]] [.cell 2 (some 3)] fun r h b c=>by
  unfold J9 at h;have:=Az 0 19 18 0 fun s0:ff=>[(3,.bx [⟨true,lI s0.d3.ca⟩,⟨true,lE s0.d3.ci⟩,⟨true,(eL 1 lI) s0.ej⟩])];exact nz
instance(a b):CT (Lv a b) 227 [eI a,lI b] (rO lI):=Bj f227 0x821858d258049d01e23014d2715806d27158065f8861817430b85864d25804819514993f30409602 [.z8 1 [.int .i64 0] (.s 9)] (Lv.eq_1 ..) (Az 0 13 12 0 (hX 5 1 eI))
instance(a b c d e f):CT (GG a b c d e f) 228 [eI a,lI b,lI c,lI d,lI e,eI f] (rO lI):=Ip f228 0x82180d012b2a0d639d2b2a0d632b2a0d639130e230148517d10114b80d01642b2a0d638195140d05021615140d6336089d01e260608030301484800d0502641615140d6336089f81991a30470140ba9606 [] (GG.eq_1 ..) (Az 0 22 21 0 (hX 13 1 eI)) (Az 2 43 42 0 fun s2:Int×Fp=>[(5,.tv (eI s2.1)),(13,.xo 1 (List.map eI s2.2))])
instance(a b):CT (Jp a b) 287 [AJ a,eI b] (rO lI):=Bj f287 0xed070113121107049d78cb5e02d302c9ac044307016413121107049f8182aa01e9018d40d5 [] (Jp.eq_1 ..) (Az 0 19 18 0 (hO 7 lI))
noncomputable def ZE:PC:=PC.of OE f229.body (xq bT 0x30b0afae01049db0afae0104b0afae01045f4a01901f9003480347074660b47224c5605e7224c55b0401901fc537f77e5c1fc5807e24c59b81f2f33064b0afae0104dab907ca7b7a790736069d7b7a790736067b7a790736063c1f02411f9021221ac42302411fc5b54a5c5c1f9001cb01045c5c1fc537f7725c1fc5807224c5848007ca647b7a79073606da3707369b4a497136079de601901f9003480347074660b47222c5605e7222c55b0401901fc5379bf2f37e378160073603644b4a49713607dab9710536051e1d1c710536089d1f02411f902122014f80db562302411fc5b54a5c5c1f9001cb80d9045c5c1fc537816071053605641e1d1c71053608da37899bfcfbf406905c376d1cc56230) []
theorem uv:CK f229 ZE []:=by decide +kernel
theorem vQ:PC.yb ZE=true/\PC.yd 1 ZE=true:=by decide +kernel
instance(a b c):CT (IQ a b c) 229 [AJ a,.undef,Hh c] (fun r=>.bo (DI b) (DI r) 1 []):=nD uv vQ fun r h e d f=>by
  unfold ZE;unfold f229;unfold IQ at h;have:=Az 0 30 29 0 fun s0:Ax=>[(1,.bx (DI s0))];have:=Az 2 75 74 0 fun s2:Ax=>[(1,.bx (DI s2))];have:=Az 4 123 122 0 fun s4:Ax=>[(1,.bx (DI s4))];have:=Az 6 176 175 0 fun s6:Ax=>[(1,.bx (DI s6))];exact nz
theorem uy:CK f288 (.seq (.region [⟨some 1,.Aak (.s 0),none⟩,
    ⟨some 2,.mv (.c .undef),none⟩,
    ⟨some 3,.mv (.c (.int .i64 0)),none⟩] [1])
 (.seq (.region [⟨some 12,.mkm,none⟩,
    ⟨some 4,.mvm 12,none⟩] [1,4,12])
 (.seq (.seq (.region [⟨some 13,.bad 1 0,none⟩,
    ⟨some 14,.y5 (.s 13) 6,none⟩,
    ⟨some 15,.y5 (.s 14) 2,none⟩,
    ⟨some 16,.ld (.s 15),none⟩,
    ⟨some 17,.len (.s 16),none⟩,
    ⟨some 18,.mv (.c (.int .i64 0)),none⟩] [1,4,12,16,17,18])
 (.block 0 (.loop [1,4,12,16,17,18] (.seq (.region [⟨some 19,.bin (.i) .lss (.s 18) (.s 17),none⟩] [1,4,12,16,17,18,19])
 (.seq (.cond (.s 19) (.skip [1,4,12,16,17,18])
 (.exit 0 [4,12]))
 (.seq (.block 1 (.seq (.region [⟨some 20,.iad (.s 16) (.s 18) 4,none⟩,
    ⟨some 21,.lda (.s 20) 4,none⟩,
    ⟨some 6,.alc [⟨false,.int .i64 0⟩,⟨false,.int .i64 0⟩,⟨false,.int .i64 0⟩,⟨false,.int .i64 0⟩],none⟩,
    ⟨none,.stb 4 6 (.s 21),none⟩] [1,4,6,12,16,17,18])
 (.seq (.region [⟨some 23,.bad 6 2,none⟩,
    ⟨some 24,.lda (.s 23) 2,none⟩,
    ⟨some 25,.bad 1 25,none⟩,
    ⟨some 26,.y5 (.s 25) 2,none⟩,
    ⟨some 27,.ld (.s 26),none⟩,
    ⟨some 28,.call 332 [.s 24,.s 27],none⟩,
    ⟨some 22,.mv (.s 28),none⟩,
    ⟨some 29,.ext (.s 22) 0,none⟩,
    ⟨some 30,.ext (.s 22) 1,none⟩,
    ⟨some 7,.mv (.s 29),none⟩,
    ⟨some 8,.mv (.s 30),none⟩] [1,4,6,7,8,12,16,17,18])
 (.seq (.seq (.region [⟨some 31,.mv (.s 8),none⟩,
    ⟨some 32,.bin (.i) .neq (.s 31) (.c (.int .i64 0)),none⟩] [1,4,6,7,8,12,16,17,18,32])
 (.cond (.s 32) (.seq (.region [⟨some 33,.mv (.s 8),none⟩,
    ⟨some 2,.mv (.c .undef),none⟩,
    ⟨some 3,.mv (.s 33),none⟩] [2,3,12])
 .ret)
 (.skip [1,4,6,7,12,16,17,18])))
 (.seq (.draw [9,34,35,36,37,38,39,40,41,42,43] [⟨some 34,.bad 1 36,none⟩,
    ⟨some 35,.y5 (.s 34) 0,none⟩,
    ⟨some 36,.ld (.s 35),none⟩,
    ⟨some 37,.bad 6 0,none⟩,
    ⟨some 38,.ld (.s 37),none⟩,
    ⟨some 39,.iad (.s 36) (.s 38) 1,none⟩,
    ⟨some 40,.ld (.s 39),none⟩,
    ⟨some 41,.bad 6 1,none⟩,
    ⟨some 42,.ld (.s 41),none⟩,
    ⟨some 43,.z7 [.int .i64 0,.int .i64 0] [(0,1,.s 40),(1,1,.s 42)],none⟩,
    ⟨some 9,.alc [⟨false,.int .i64 0⟩,⟨false,.int .i64 0⟩],none⟩,
    ⟨none,.stb 2 9 (.s 43),none⟩] [1,4,7,9,12,16,17,18])
 (.seq (.seq (.region [⟨some 45,.mv (.s 4),none⟩,
    ⟨some 46,.lda (.s 9) 2,none⟩,
    ⟨some 47,.mlk 12 (.s 45) (.s 46),none⟩,
    ⟨some 44,.mv (.s 47),none⟩,
    ⟨some 48,.ext (.s 44) 0,none⟩,
    ⟨some 49,.ext (.s 44) 1,none⟩,
    ⟨some 10,.mv (.s 48),none⟩,
    ⟨some 11,.mv (.s 49),none⟩] [1,4,7,9,10,11,12,16,17,18])
 (.seq (.region [⟨some 50,.mv (.s 11),none⟩,
    ⟨some 51,.mv (.s 50),none⟩,
    ⟨some 52,.mv (.s 10),some (51,true)⟩,
    ⟨some 53,.mv (.s 7),some (51,true)⟩,
    ⟨some 54,.bin (.i) .neq (.s 52) (.s 53),some (51,true)⟩,
    ⟨some 55,.pick (.s 51) (.s 54) (.c (.bool false)),none⟩] [1,4,7,9,12,16,17,18,55])
 (.cond (.s 55) (.seq (.region [⟨some 2,.mv (.c .undef),none⟩,
    ⟨some 3,.mv (.c (.int .i64 11)),none⟩] [2,3,12])
 .ret)
 (.skip [1,4,7,9,12,16,17,18]))))
 (.region [⟨some 56,.mv (.s 4),none⟩,
    ⟨some 57,.lda (.s 9) 2,none⟩,
    ⟨some 58,.mv (.s 7),none⟩,
    ⟨none,.mup 12 (.s 56) (.s 57) (.s 58),none⟩] [1,4,12,16,17,18])))))))
 (.region [⟨some 59,.bin (.i) .add (.s 18) (.c (.int .i64 1)),none⟩,
    ⟨some 18,.mv (.s 59),none⟩] [1,4,12,16,17,18])))))))
 (.seq (.region [⟨some 60,.mv (.s 4),none⟩,
    ⟨some 2,.mv (.s 60),none⟩,
    ⟨some 3,.mv (.c (.int .i64 0)),none⟩] [2,3,12])
 .ret)))) [.tmp 2,.tmp 3]:=by decide +kernel
instance yK(s:Ax):Ct Go.Proofs.Tryz.prog (Ht s) 288 [cY s] Nj:=xZ uy fun r h d e=>by
  unfold Ht at h;have K:∀b:Nat,HA 0 18 17 0 fun(a:Int)(c:BM)=>[(12,.mx (.mp b c)),(18,.tv (eI a))]:=fun _=>⟨⟩;have:wb 12:=⟨⟩;exact au
theorem X6(t:eb)(s:Ax)(V:List Fp)(p:(Int×Int)×Int)(a:BM)(r:Bf (List Fp) Unit)(h:Ou t s V p=some r):WP (AX Go.Proofs.Tryz.prog) (.block 1 (.seq (.region [⟨some 25,.men 22,none⟩,
    ⟨some 26,.ext (.s 25) 0,none⟩,
    ⟨some 27,.ext (.s 25) 1,none⟩,
    ⟨some 7,.alc [⟨false,.int .i64 0⟩,⟨false,.int .i64 0⟩],none⟩,
    ⟨none,.stb 2 7 (.s 26),none⟩,
    ⟨some 8,.mv (.s 27),none⟩] [1,2,7,8,22])
 (.seq (.draw [9,10,28,29,30,31,32,33,34,35,36,37,38,39,40,41,42] [⟨some 29,.lda (.s 2) 2,none⟩,
    ⟨some 30,.bad 1 0,none⟩,
    ⟨some 31,.y5 (.s 30) 0,none⟩,
    ⟨some 32,.y5 (.s 31) 31,none⟩,
    ⟨some 33,.y5 (.s 32) 0,none⟩,
    ⟨some 34,.y5 (.s 33) 0,none⟩,
    ⟨some 35,.ld (.s 34),none⟩,
    ⟨some 36,.bad 7 0,none⟩,
    ⟨some 37,.ld (.s 36),none⟩,
    ⟨some 38,.iad (.s 35) (.s 37) 1,none⟩,
    ⟨some 39,.ld (.s 38),none⟩,
    ⟨some 40,.call 106 [.s 29,.s 39],none⟩,
    ⟨some 28,.mv (.s 40),none⟩,
    ⟨some 41,.ext (.s 28) 0,none⟩,
    ⟨some 42,.ext (.s 28) 1,none⟩,
    ⟨some 9,.mv (.s 41),none⟩,
    ⟨some 10,.mv (.s 42),none⟩] [1,2,7,8,9,22])
 (.seq (.seq (.region [⟨some 43,.mv (.s 8),none⟩,
    ⟨some 44,.mv (.s 9),none⟩,
    ⟨some 45,.bad 7 1,none⟩,
    ⟨some 46,.ld (.s 45),none⟩,
    ⟨some 47,.iad (.s 44) (.s 46) 4,none⟩,
    ⟨some 48,.y5 (.s 47) 1,none⟩,
    ⟨some 49,.ld (.s 48),none⟩,
    ⟨some 50,.bin (.i) .lss (.s 43) (.s 49),none⟩,
    ⟨some 51,.mv (.s 50),none⟩,
    ⟨some 52,.mv (.s 8),some (51,false)⟩,
    ⟨some 53,.mv (.s 9),some (51,false)⟩,
    ⟨some 54,.bad 7 1,some (51,false)⟩,
    ⟨some 55,.ld (.s 54),some (51,false)⟩,
    ⟨some 56,.iad (.s 53) (.s 55) 4,some (51,false)⟩,
    ⟨some 57,.y5 (.s 56) 2,some (51,false)⟩,
    ⟨some 58,.ld (.s 57),some (51,false)⟩,
    ⟨some 59,.bin (.i) .gtr (.s 52) (.s 58),some (51,false)⟩,
    ⟨some 60,.pick (.s 51) (.c (.bool true)) (.s 59),none⟩] [1,2,7,8,22,60])
 (.cond (.s 60) (.seq (.region [⟨some 4,.mv (.c (.int .i64 6)),none⟩] [1,4])
 .ret)
 (.skip [1,2,7,8,22])))
 (.draw [61,62,63,64,65,66,67,68,69,70,71,72,73] [⟨some 61,.bad 1 0,none⟩,
    ⟨some 62,.y5 (.s 61) 0,none⟩,
    ⟨some 63,.y5 (.s 62) 31,none⟩,
    ⟨some 64,.y5 (.s 63) 2,none⟩,
    ⟨some 65,.lan (.s 64),none⟩,
    ⟨some 66,.bad 7 0,none⟩,
    ⟨some 67,.ld (.s 66),none⟩,
    ⟨some 68,.nia (.s 65) (.s 67),none⟩,
    ⟨some 69,.nld (.s 68),none⟩,
    ⟨some 70,.bad 7 1,none⟩,
    ⟨some 71,.ld (.s 70),none⟩,
    ⟨some 72,.mv (.s 8),none⟩,
    ⟨some 73,.nia (.s 69) (.s 71),none⟩,
    ⟨none,.nst (.s 73) (.s 72),none⟩] [1,2,22]))))) ⟨fun e=>∃b,r=.next b/\Rn (e.fm [1,2,22]) [(1,.bx (DI (OF s b))),(2,.tv (.pt (AJ t).cells)),(22,.mx (.mi (some p) a))],fun _ _=>False,fun e=>∃v,r=.ret v/\Rn e [(1,.bx (DI (OF s V))),(4,.tv (eI 6))]⟩ [(1,.bx (DI (OF s V))),(2,.tv (.pt (AJ t).cells)),(22,.mx (.mi (some p) a))]:=by
  unfold Ou at h;exact au
noncomputable def ZG:PC:=(.seq (.region [⟨some 2,.Aak (.s 0),none⟩,
    ⟨some 4,.mv (.c (.int .i64 0)),none⟩] [1,2])
 (.seq (.region [⟨some 12,.bad 1 0,none⟩,
    ⟨some 13,.y5 (.s 12) 0,none⟩,
    ⟨some 14,.lda (.s 13) 38,none⟩,
    ⟨some 15,.zm 288 [.s 14],none⟩,
    ⟨some 11,.mvm 15,none⟩,
    ⟨some 16,.ext (.s 11) 0,none⟩,
    ⟨some 17,.ext (.s 11) 1,none⟩,
    ⟨some 5,.mv (.s 16),none⟩,
    ⟨some 6,.mv (.s 17),none⟩] [1,2,5,6,15])
 (.seq (.seq (.region [⟨some 18,.mv (.s 6),none⟩,
    ⟨some 19,.bin (.i) .neq (.s 18) (.c (.int .i64 0)),none⟩] [1,2,5,6,15,19])
 (.cond (.s 19) (.seq (.region [⟨some 20,.mv (.s 6),none⟩,
    ⟨some 4,.mv (.s 20),none⟩] [1,4])
 .ret)
 (.skip [1,2,5,15])))
 (.seq (.seq (.region [⟨some 21,.mv (.s 5),none⟩,
    ⟨some 22,.x7 15 (.s 21),none⟩] [1,2,22])
 (.block 0 (.loop [1,2,22] (.seq (.region [⟨some 23,.mnx 22,none⟩,
    ⟨some 24,.ext (.s 23) 0,none⟩] [1,2,22,24])
 (.seq (.cond (.s 24) (.skip [1,2,22])
 (.exit 0 [1]))
 (.block 1 (.seq (.region [⟨some 25,.men 22,none⟩,
    ⟨some 26,.ext (.s 25) 0,none⟩,
    ⟨some 27,.ext (.s 25) 1,none⟩,
    ⟨some 7,.alc [⟨false,.int .i64 0⟩,⟨false,.int .i64 0⟩],none⟩,
    ⟨none,.stb 2 7 (.s 26),none⟩,
    ⟨some 8,.mv (.s 27),none⟩] [1,2,7,8,22])
 (.seq (.draw [9,10,28,29,30,31,32,33,34,35,36,37,38,39,40,41,42] [⟨some 29,.lda (.s 2) 2,none⟩,
    ⟨some 30,.bad 1 0,none⟩,
    ⟨some 31,.y5 (.s 30) 0,none⟩,
    ⟨some 32,.y5 (.s 31) 31,none⟩,
    ⟨some 33,.y5 (.s 32) 0,none⟩,
    ⟨some 34,.y5 (.s 33) 0,none⟩,
    ⟨some 35,.ld (.s 34),none⟩,
    ⟨some 36,.bad 7 0,none⟩,
    ⟨some 37,.ld (.s 36),none⟩,
    ⟨some 38,.iad (.s 35) (.s 37) 1,none⟩,
    ⟨some 39,.ld (.s 38),none⟩,
    ⟨some 40,.call 106 [.s 29,.s 39],none⟩,
    ⟨some 28,.mv (.s 40),none⟩,
    ⟨some 41,.ext (.s 28) 0,none⟩,
    ⟨some 42,.ext (.s 28) 1,none⟩,
    ⟨some 9,.mv (.s 41),none⟩,
    ⟨some 10,.mv (.s 42),none⟩] [1,2,7,8,9,22])
 (.seq (.seq (.region [⟨some 43,.mv (.s 8),none⟩,
    ⟨some 44,.mv (.s 9),none⟩,
    ⟨some 45,.bad 7 1,none⟩,
    ⟨some 46,.ld (.s 45),none⟩,
    ⟨some 47,.iad (.s 44) (.s 46) 4,none⟩,
    ⟨some 48,.y5 (.s 47) 1,none⟩,
    ⟨some 49,.ld (.s 48),none⟩,
    ⟨some 50,.bin (.i) .lss (.s 43) (.s 49),none⟩,
    ⟨some 51,.mv (.s 50),none⟩,
    ⟨some 52,.mv (.s 8),some (51,false)⟩,
    ⟨some 53,.mv (.s 9),some (51,false)⟩,
    ⟨some 54,.bad 7 1,some (51,false)⟩,
    ⟨some 55,.ld (.s 54),some (51,false)⟩,
    ⟨some 56,.iad (.s 53) (.s 55) 4,some (51,false)⟩,
    ⟨some 57,.y5 (.s 56) 2,some (51,false)⟩,
    ⟨some 58,.ld (.s 57),some (51,false)⟩,
    ⟨some 59,.bin (.i) .gtr (.s 52) (.s 58),some (51,false)⟩,
    ⟨some 60,.pick (.s 51) (.c (.bool true)) (.s 59),none⟩] [1,2,7,8,22,60])
 (.cond (.s 60) (.seq (.region [⟨some 4,.mv (.c (.int .i64 6)),none⟩] [1,4])
 .ret)
 (.skip [1,2,7,8,22])))
 (.draw [61,62,63,64,65,66,67,68,69,70,71,72,73] [⟨some 61,.bad 1 0,none⟩,
    ⟨some 62,.y5 (.s 61) 0,none⟩,
    ⟨some 63,.y5 (.s 62) 31,none⟩,
    ⟨some 64,.y5 (.s 63) 2,none⟩,
    ⟨some 65,.lan (.s 64),none⟩,
    ⟨some 66,.bad 7 0,none⟩,
    ⟨some 67,.ld (.s 66),none⟩,
    ⟨some 68,.nia (.s 65) (.s 67),none⟩,
    ⟨some 69,.nld (.s 68),none⟩,
    ⟨some 70,.bad 7 1,none⟩,
    ⟨some 71,.ld (.s 70),none⟩,
    ⟨some 72,.mv (.s 8),none⟩,
    ⟨some 73,.nia (.s 69) (.s 71),none⟩,
    ⟨none,.nst (.s 73) (.s 72),none⟩] [1,2,22]))))))))))
 (.seq (.region [⟨some 4,.mv (.c (.int .i64 0)),none⟩] [1,4])
 .ret)))))
theorem uw:CK f230 ZG [.tmp 4]:=by decide +kernel
theorem vR:PC.yb ZG=true/\PC.yd 1 ZG=true:=by decide +kernel
variable{t:eb}{s:Ax}
theorem eF{p:(Int×Int)×Int}{b:Bool}(h:Ov t s p=some b){V:List Fp}(a:LS V s.sc.ej):
    (b=true->Ou t s V p=some (.next (CY V p)))/\(b=false->Ou t s V p=some (.ret ())):=by
  unfold Ov Ou at h;unfold Ou;obtain⟨c,d,h⟩:=bind_some h;obtain⟨q,f,d⟩:=bind_some d;obtain⟨r,g,d⟩:=bind_some d;obtain⟨u,i,d⟩:=bind_some d;obtain⟨j,k,d⟩:=bind_some d;simp only[f,g,i,Option.bind_some]at *;rw[k,Option.bind_some];cases j with
  |true=>
    simp only[if_true,tn]at d|-;subst d;simp only[tn]at h;subst h;exact⟨fun e=>(by cases e),fun _=>trivial⟩
  |false=>
    simp only[Bool.false_eq_true,if_false]at d|-;obtain⟨v,l,d⟩:=bind_some d;obtain⟨w,m,d⟩:=bind_some d;cases d;simp only[tn]at h;subst h;obtain⟨x,x',n,o⟩:=a.idx l m;refine⟨fun _=>?_,fun e=>(by cases e)⟩;rw[n,Option.bind_some,o,Option.bind_some,Zv n o]
theorem gY{a:BM}{c:Bool}(f:a.Dis)(n:zk (Ov t s) a=some c){M z:AB->Prop}{x:Nat->AB->Prop}{d:AB->Prop}
    (g:c=true->z [(1,.bx (DI (OF s (a.foldl CY s.sc.ej))))])(m:c=false->∀V,d [(1,.bx (DI (OF s V))),(4,.tv (eI 6))]):
    WP (AX Go.Proofs.Tryz.prog) (.loop [1,2,22] (.seq (.region [⟨some 23,.mnx 22,none⟩,
    ⟨some 24,.ext (.s 23) 0,none⟩] [1,2,22,24])
 (.seq (.cond (.s 24) (.skip [1,2,22])
 (.exit 0 [1]))
 (.block 1 (.seq (.region [⟨some 25,.men 22,none⟩,
    ⟨some 26,.ext (.s 25) 0,none⟩,
    ⟨some 27,.ext (.s 25) 1,none⟩,
    ⟨some 7,.alc [⟨false,.int .i64 0⟩,⟨false,.int .i64 0⟩],none⟩,
    ⟨none,.stb 2 7 (.s 26),none⟩,
    ⟨some 8,.mv (.s 27),none⟩] [1,2,7,8,22])
 (.seq (.draw [9,10,28,29,30,31,32,33,34,35,36,37,38,39,40,41,42] [⟨some 29,.lda (.s 2) 2,none⟩,
    ⟨some 30,.bad 1 0,none⟩,
    ⟨some 31,.y5 (.s 30) 0,none⟩,
    ⟨some 32,.y5 (.s 31) 31,none⟩,
    ⟨some 33,.y5 (.s 32) 0,none⟩,
    ⟨some 34,.y5 (.s 33) 0,none⟩,
    ⟨some 35,.ld (.s 34),none⟩,
    ⟨some 36,.bad 7 0,none⟩,
    ⟨some 37,.ld (.s 36),none⟩,
    ⟨some 38,.iad (.s 35) (.s 37) 1,none⟩,
    ⟨some 39,.ld (.s 38),none⟩,
    ⟨some 40,.call 106 [.s 29,.s 39],none⟩,
    ⟨some 28,.mv (.s 40),none⟩,
    ⟨some 41,.ext (.s 28) 0,none⟩,
    ⟨some 42,.ext (.s 28) 1,none⟩,
    ⟨some 9,.mv (.s 41),none⟩,
    ⟨some 10,.mv (.s 42),none⟩] [1,2,7,8,9,22])
 (.seq (.seq (.region [⟨some 43,.mv (.s 8),none⟩,
    ⟨some 44,.mv (.s 9),none⟩,
    ⟨some 45,.bad 7 1,none⟩,
    ⟨some 46,.ld (.s 45),none⟩,
    ⟨some 47,.iad (.s 44) (.s 46) 4,none⟩,
    ⟨some 48,.y5 (.s 47) 1,none⟩,
    ⟨some 49,.ld (.s 48),none⟩,
    ⟨some 50,.bin (.i) .lss (.s 43) (.s 49),none⟩,
    ⟨some 51,.mv (.s 50),none⟩,
    ⟨some 52,.mv (.s 8),some (51,false)⟩,
    ⟨some 53,.mv (.s 9),some (51,false)⟩,
    ⟨some 54,.bad 7 1,some (51,false)⟩,
    ⟨some 55,.ld (.s 54),some (51,false)⟩,
    ⟨some 56,.iad (.s 53) (.s 55) 4,some (51,false)⟩,
    ⟨some 57,.y5 (.s 56) 2,some (51,false)⟩,
    ⟨some 58,.ld (.s 57),some (51,false)⟩,
    ⟨some 59,.bin (.i) .gtr (.s 52) (.s 58),some (51,false)⟩,
    ⟨some 60,.pick (.s 51) (.c (.bool true)) (.s 59),none⟩] [1,2,7,8,22,60])
 (.cond (.s 60) (.seq (.region [⟨some 4,.mv (.c (.int .i64 6)),none⟩] [1,4])
 .ret)
 (.skip [1,2,7,8,22])))
 (.draw [61,62,63,64,65,66,67,68,69,70,71,72,73] [⟨some 61,.bad 1 0,none⟩,
    ⟨some 62,.y5 (.s 61) 0,none⟩,
    ⟨some 63,.y5 (.s 62) 31,none⟩,
    ⟨some 64,.y5 (.s 63) 2,none⟩,
    ⟨some 65,.lan (.s 64),none⟩,
    ⟨some 66,.bad 7 0,none⟩,
    ⟨some 67,.ld (.s 66),none⟩,
    ⟨some 68,.nia (.s 65) (.s 67),none⟩,
    ⟨some 69,.nld (.s 68),none⟩,
    ⟨some 70,.bad 7 1,none⟩,
    ⟨some 71,.ld (.s 70),none⟩,
    ⟨some 72,.mv (.s 8),none⟩,
    ⟨some 73,.nia (.s 69) (.s 71),none⟩,
    ⟨none,.nst (.s 73) (.s 72),none⟩] [1,2,22])))))))) ⟨M,fun j e=>if j=0 then z e else x j e,d⟩ [(1,.bx (DI s)),(2,.tv (.pt (AJ t).cells)),(22,.mx (.mi none a))]:=by
  obtain ⟨m1,R⟩:=Wi n;refine⟨p7 _ (σ:=List Fp×Option ((Int×Int)×Int)×BM) (fun σ=>[(1,.bx (DI (OF s σ.1))),(2,.tv (.pt (AJ t).cells)),(22,.mx (.mi σ.2.1 σ.2.2))])
    (fun σ=>LS σ.1 s.sc.ej/\(∀l,σ.2.2.Perm l->l.foldl CY σ.1=a.foldl CY s.sc.ej)/\(∀p∈σ.2.2,p∈a)/\(c=false->∃p∈σ.2.2,Ov t s p=some false))
    (fun σ=>σ.2.2.length) (s.sc.ej,none,a) rfl ⟨rfl,fun l A=>WH f A _,fun p r=>r,R⟩ ?_⟩
  rintro ⟨V,last,u⟩ ⟨I,J,K,L⟩ W;refine WP.out (?_:WP _ _ _ _);apply KZ;apply P0;refine wM rfl (by decide) (fun e=>?_) (fun p o r=>?_)
  · simp only at e
    subst e;have P:c=true:=by
      cases c with
      |true=>rfl|false=>obtain⟨p,r,_⟩:=L rfl;cases r
    have Q:V=a.foldl CY s.sc.ej:=J [] (List.Perm.refl _);apply st 1;exact rfl;exact fun _ k=>k;apply NO;(focus (repeat(first|exact IF|(apply Kf;exact rfl)|(apply Kc;exact rfl)|(apply Kd;exact rfl)|(apply Kg;exact rfl)|(apply Ke;exact rfl))));intro C;apply KZ;apply Ri;exact rfl;exact rfl;apply gJ;(focus (repeat(first|exact IF|(apply Kf;exact rfl)|(apply Kc;exact rfl)|(apply Kd;exact rfl)|(apply Kg;exact rfl)|(apply Ke;exact rfl))));show(if(0:Nat)=0 then z [(1,.bx (DI (OF s V)))]else x 0 [(1,.bx (DI (OF s V)))]);rw[ae rfl,Q];exact g P
  · apply st 1;exact rfl;exact fun _ k=>k
    apply NO;(focus (repeat(first|exact IF|(apply Kf;exact rfl)|(apply Kc;exact rfl)|(apply Kd;exact rfl)|(apply Kg;exact rfl)|(apply Ke;exact rfl))));intro C;apply KZ;apply Rj;exact rfl;exact rfl;apply ZV;(focus (repeat(first|exact IF|(apply Kf;exact rfl)|(apply Kc;exact rfl)|(apply Kd;exact rfl)|(apply Kg;exact rfl)|(apply Ke;exact rfl))));intro O;have D:p∈u:=r.mem_iff.2 (by simp);obtain⟨b,H,E⟩:=m1 p (K p D);obtain⟨S,T⟩:=eF H I;cases b with
    |true=>
      refine ⟨PC.og _ _ _ _ (X6 t s V p o _ (S rfl)).out _ (fun e he=>?_) (fun _ _ h=>h.elim) (fun e he=>?_)⟩
      · obtain⟨U,y,F⟩:=he
        cases y;refine⟨(CY V p,some p,o),F.out,⟨(X5 V p).trans I,fun l A=>?_,fun q B=>K q (r.mem_iff.2 (by simp[B])),fun N=>?_⟩,?_⟩
        .exact J (p::l) (r.trans (A.cons p))
        · obtain⟨q,B,w⟩:=L N
          rcases List.mem_cons.1 (r.mem_iff.1 B)with rfl|G
          .rw[H]at w;cases w
          .exact⟨q,G,w⟩
        · have:=r.length_eq
          simp only[c7]at this;show o.length<u.length;omega
      · obtain⟨v,y,_⟩:=he
        cases y
    |false=>
      refine ⟨PC.og _ _ _ _ (X6 t s V p o _ (T rfl)).out _ (fun e he=>?_) (fun _ _ h=>h.elim) (fun e he=>?_)⟩
      · obtain⟨U,y,_⟩:=he
        cases y
      · obtain⟨v,_,F⟩:=he
        rw [F.out];exact m (by cases c with|false=>rfl|true=>exact absurd (E rfl) (by simp)) V
instance yG(t:eb)(s:Ax):Ct Go.Proofs.Tryz.prog (LM t s) 230 [AJ t,.undef] (fun r=>.bo (DI s) (if(!decide (r.1=0))=true then(DI r.2).set 33 ⟨false,.undef⟩else DI r.2) 1 [eI r.1]):=wz uw vR fun r h v l=>by
  unfold ZG;unfold LM at h;obtain⟨a,q,h⟩:=bind_some h;have d:=(inferInstance:Ct Go.Proofs.Tryz.prog (Ht s) 288 [cY s] Nj).snd a q;apply KZ;apply P0;apply st 1;exact rfl;exact fun _ k=>k;apply st 1;exact rfl;exact fun _ k=>k;apply NO;(focus (repeat(first|exact IF|(apply Kf;exact rfl)|(apply Kc;exact rfl)|(apply Kd;exact rfl)|(apply Kg;exact rfl)|(apply Ke;exact rfl))));intro m;apply KZ;apply P0;apply st 1;exact rfl;exact fun _ k=>k;apply st 1;exact rfl;exact fun _ k=>k;apply st 2;exact rfl;exact fun _ k=>⟨Nat.le_of_ble_eq_true rfl,k⟩;by_cases he:a.2=0
  · have e:Nj a=.mpr a.1 [.int .i64 a.2]:=ae he
    rw [e]at d;rw[az (by simp[he])]at h;split at h
    · rename_i hd
      have hd:BM.Dis a.1:=(show List.Pairwise (fun x y:(Int×Int)×Int=>x.1≠y.1) a.1 from of_decide_eq_true hd);obtain⟨c,u,h⟩:=bind_some h;refine l4 rfl d (fun b=>?_);apply st 1;exact rfl;exact fun _ k=>k;apply st 1;exact rfl;exact fun _ k=>k;apply st 1;exact rfl;exact fun _ k=>k;apply st 1;exact rfl;exact fun _ k=>k;apply st 1;exact rfl;exact fun _ k=>k;apply NO;(focus (repeat(first|exact IF|(apply Kf;exact rfl)|(apply Kc;exact rfl)|(apply Kd;exact rfl)|(apply Kg;exact rfl)|(apply Ke;exact rfl))));intro g;apply KZ;apply KZ;apply P0;apply st 1;exact rfl;exact fun _ k=>k;apply st 1;exact rfl;exact fun _ k=>k;apply NO;(focus (repeat(first|exact IF|(apply Kf;exact rfl)|(apply Kc;exact rfl)|(apply Kd;exact rfl)|(apply Kg;exact rfl)|(apply Ke;exact rfl))));intro i;apply Ri;exact rfl;simp[he];apply ZV;(focus (repeat(first|exact IF|(apply Kf;exact rfl)|(apply Kc;exact rfl)|(apply Kd;exact rfl)|(apply Kg;exact rfl)|(apply Ke;exact rfl))));intro j;apply KZ;apply KZ;apply P0;apply st 1;exact rfl;exact fun _ k=>k;apply st 2;exact rfl;exact fun _ k=>⟨⟨by decide,rfl⟩,k⟩;apply NO;(focus (repeat(first|exact IF|(apply Kf;exact rfl)|(apply Kc;exact rfl)|(apply Kd;exact rfl)|(apply Kg;exact rfl)|(apply Ke;exact rfl))));intro n;apply cO;refine gY hd u (fun f=>?_) (fun f V=>?_)
      · intro o
        apply KZ;apply P0;apply st 1;exact rfl;exact fun _ k=>k;apply NO;(focus (repeat(first|exact IF|(apply Kf;exact rfl)|(apply Kc;exact rfl)|(apply Kd;exact rfl)|(apply Kg;exact rfl)|(apply Ke;exact rfl))));intro p;apply dw;rw[ae f]at h;cases h;exact⟨_,Wk.refl _,rfl,rfl⟩
      · rw[az (by simp[f])]at h
        cases h;refine⟨_,?_,rfl,rfl⟩;exact Wk.set (DI (OF s V)) 33
    .cases h
  · have e:Nj a=.tp [.undef,.int .i64 a.2]:=az he
    rw [e]at d;rw[ae (by simp[he])]at h;refine l3 rfl d ?_;apply st 1;exact rfl;exact fun _ k=>k;apply st 1;exact rfl;exact fun _ k=>k;apply st 1;exact rfl;exact fun _ k=>k;apply st 1;exact rfl;exact fun _ k=>k;apply st 1;exact rfl;exact fun _ k=>k;apply NO;(focus (repeat(first|exact IF|(apply Kf;exact rfl)|(apply Kc;exact rfl)|(apply Kd;exact rfl)|(apply Kg;exact rfl)|(apply Ke;exact rfl))));intro g;apply KZ;apply KZ;apply P0;apply st 1;exact rfl;exact fun _ k=>k;apply st 1;exact rfl;exact fun _ k=>k;apply NO;(focus (repeat(first|exact IF|(apply Kf;exact rfl)|(apply Kc;exact rfl)|(apply Kd;exact rfl)|(apply Kg;exact rfl)|(apply Ke;exact rfl))));intro i;apply Rj;exact rfl;simp[he];apply KZ;apply P0;apply st 1;exact rfl;exact fun _ k=>k;apply st 1;exact rfl;exact fun _ k=>k;apply NO;(focus (repeat(first|exact IF|(apply Kf;exact rfl)|(apply Kc;exact rfl)|(apply Kd;exact rfl)|(apply Kg;exact rfl)|(apply Ke;exact rfl))));intro j;apply dw;cases h;simp only[he,decide_false,Bool.not_false,if_true];exact⟨_,Wk.set (DI s) 33,rfl,rfl⟩
end Go.Sf.Sc
