/- Contracts of the functions. -/
import Derived.Test.YtfcfkigfmofniaaGreatCon1
set_option linter.all false
set_option maxRecDepth 100000
set_option maxHeartbeats 4000000
open Option renaming some->Y,none->W
open Bool renaming true->X,false->T
open Option renaming bind_some->u!
namespace Go.Sf.Sc
open Go Go.Sf Go.Proofs.Tryz
instance(a b c d e f):CT (E7 a b c d e f) 329 [AJ a,BB b,AI c,Bk d,Bf e,eB f] rI:=Fe f329 0x81e8db7d69e9cf6d6f38aac337cfcf387d6901746d38aab26f8d93626258 [] (E7.eq_1 ..)
instance(a b c):CT (Ft a b c) 390 [eI a,lI b,lI c] (rO lI):=Bl f390 0x821807010f0e0d0702059d01e380301489800701640f0e0d070205a181991a30470140780003 [] (Ft.eq_1 ..) (Ay 0 15 14 0 (hX 7 1 eI))
instance(a b):CT (Mm a b) 396 [eI a,.pt [eI b]] rB:=Fe f396 0xb405033058b7 [] (Mm.eq_1 ..)
instance(a b):CT (G0 a b) 394 [lI a,eI b] rI:=Fe f394 0x81558e1030a501 [] (G0.eq_1 ..)
instance(a b):CT (JR a b) 399 [lI a,eI b] rI:=Fe f399 0x81e0559c01b7 [] (JR.eq_1 ..)
instance(a b c):CT (Df a b c) 401 [.pt (Rv a).cells,eI b,eI c] rB:=Fe f401 0x813f074660b503099001605e030990015bf67e0290019a583058810e017e0590019ff5f67e5c5c30780003 [.bin (.a [0,0,0]) .eql (.s 38) (.s 57)] (Df.eq_1 ..)
instance(a):CT (B5 a) 400 [.pt (Rv a).cells] rB:=Hz f400 0xa6141312d70591141312d705141312d70581880114131206d70626251413120604d7099dff14131206d706018e0130b814131206d7066426251413120604d709a17e029061ff141312d70585012cb55e9f81f5f60064141312d705da01905c61650309908401 [] (B5.eq_1 ..) (A3 0 20 19 0) (Ay 2 38 37 0 (hT 6 eB))
noncomputable def ZX:PC:=PC.of OI f398.body (xq bT 0xff00015f4a0b90024802470446201d0ac8201d09c8040bc8370001a4a306000491a4a3060004a4a30600043c1f0a900151011e0ac8370052371f0a90014fac011e0ac837ffa4a30600048a0a20011d0a90b6030790b60820303781970164a4a3060004a17e02c881151d0ac881657e5c5c37151d0ac800013f3e3d020005913f3e3d0200053f3e3d0200053c1f09900151011e09c8373f3e3d0200053f3e3d0200053c005237a0371f0990014fac011e09c837ff3f3e3d0200058a0a20011d0990b6030790b60a08806080715c5c379b90b60a583058810e017105c889800001643f3e3d020005da5c02c881151d09c88165715c5c37151d09c80061050308c80b030bc80001) []
theorem vK:CK f398 ZX []:=d_
theorem vg:PC.yh ZX=X/\PC.yj 0 ZX=X:=d_
abbrev Q_398(n:Nat):Prop:=∀(f:AM),CT (Aw n f) 398 [.undef] (λr=>.bo (Cm f) (Cm r) 0 [])
theorem u9(n:Nat)(_ih_398:Q_398 n)(f:AM):CT (Aw (n+1) f) 398 [.undef] (λr=>.bo (Cm f) (Cm r) 0 []):=nP vK vg λr h c b d=>by
  unfold ZX;unfold f398;unfold Aw at h;have:=Ay 1 63 62 0 λs1:AM=>[(0,.bx (Cm s1))];have:=Ay 3 164 163 0 λs3:AM=>[(0,.bx (Cm s3))];have:HJ 28 λ(a:AM)=>[(0,.bx (Cm a))]:=⟨⟩;exact nz
theorem u7:∀n:Nat,Q_398 n:=by
  intro n
  induction n with
  |zero=>exact(λf=>⟨λ_ h=>c?⟩)
  |succ n a=>exact u9 n a
instance(f):CT (GL f) 398 [.undef] (λr=>.bo (Cm f) (Cm r) 0 []):=⟨λr h=>by
  obtain ⟨N,a⟩:=Cq h;exact((u7 N) f).snd r (a N (b6 _))⟩
theorem vJ:CK f397 (Rq [Aa 6 0,Aa 7 1,Aa 8 2,Aa 9 3,⟨Y 12,.AaG 2,W⟩] [4,5,6,7,8,9]<|Sq (Dr [13,14,15,16,17,18,19,20,21] [Ab 14 7 2,Ab 15 8 2,Ab 16 6 2,⟨Y 17,.call 326 [.s 16],W⟩,Ab 18 9 2,⟨Y 19,.mv (.s 4),W⟩,⟨Y 20,.mv (.s 5),W⟩,⟨Y 21,.bld [.list 1 [],.list 3 [],.list 1 [],.list 3 [],.list 1 [],.list 1 [],.list 1 [],.bool T,.int .i64 0,.nil,.nil,.nil] [(0,2,.s 14),(2,2,.s 15),(4,1,.s 17),(5,2,.s 18),(7,1,.s 19),(8,1,.s 20)],W⟩,⟨Y 22,.Aay [W,W,W,W,W,W,W,W,W,Y ⟨X,.xl 1 []⟩,Y ⟨X,.xl 1 []⟩,Y ⟨X,.list 2 []⟩] (.s 21),W⟩,⟨Y 13,.bad 22 0,W⟩] [13,22])<|Rq [Ac 23 13 0,⟨Y 24,.zi 398 [.s 23] 0,W⟩] [13,22]<|Rq [Ac 25 13 0,Ac 26 25 0,Ac 27 26 11,⟨Y 28,.ld (.s 27),W⟩,⟨Y 12,.tk 28,W⟩] [12]<|.ret) [.tmp 12]:=d_
instance(a b c d e f):CT (Ha a b c d e f) 397 [AJ a,Ah b,Ah c,Ao d,eB e,eI f] (rS (eL 2 Ao)):=Fi vJ λr h g i=>by
  unfold Ha at h;exact au
instance(a b c d e):CT (Ls a b c d e) 395 [AJ a,Ah b,Ah c,Ao d,eB e] (rT (eL 2 Ao) eI):=Fe f395 0x8182015502c085f3820ec3b18d024062620401 [] (Ls.eq_1 ..)
instance(a b c d e):CT (GZ a b c d e) 391 [AJ a,Ah b,Ah c,Ao d,eB e] (rT (eL 2 Ao) eI):=Fe f391 0x81826a0e01b1b15502d6770b5e5e5502d677f05b5502c08a655e0b96655bf05502d677b18d024062620401 [] (GZ.eq_1 ..)
instance(a b):CT (Ef a b) 332 [Q7 a,lI b] (rT eI eI):=Fe f332 0x890ec3ddcafa5b30d8 [] (Ef.eq_1 ..)
instance(a b c d):CT (Dk a b c d) 392 [CJ a,BB b,Ao c,lI d] (rT lI eB):=gT f392 0x8182180a016867660a049d7dc08820146f7504c96f05430a01646867660a04daf1f8022c2b2ae1d0089d7dc08a583058896a01201438bd2c2b2a0f0ee1d00a2c2b2a0f0ee1d00a5fe301e3057ebd301401148a0817d1011401588171bd81605e60605b5b5d41bdd405c9ad0443f802642c2b2ae1d008dabde1d0052221e1d0079d01e30114b8e1d005642221e1d007a101993fbc993ffabc1a013040936236 [.Aat 1 22 (.int .i64 0) (.s 27),.mkx 1 [.bool T] (.s 30)] (Dk.eq_1 ..) (Ay 0 34 33 0 (hX 11 1 eB)) (Ay 2 44 43 0 λs2:Fp×a6=>[(10,.xo 1 (List.map eI s2.1)),(11,.xo 1 (List.map eB s2.2))]) (A3 4 104 103 0)
instance(a b c):CT (B6 a b c) 381 [CJ a,AI b,Bf c] (rT (eL 3 Bf) eI):=Bl f381 0x81ef0c013b3a390c6303079d3b3a390c6303073b3a390c6303073c02034803470946c30289e9b5386ff106448cf43802430c01643b3a390c630307a18103c05503d669e9030542b15cbdb1378cf404f27e377ebd0b5e0ed971bdf08cfbea04700340f7 [] (B6.eq_1 ..) (Ay 0 59 58 0 (hO 12 (eL 3 Bf)))
abbrev Aa5(n:Nat):Prop:=∀(a:BI)(c:d5)(m:AO),CT (Am n a c m) 330 [CJ a,AI c,Bf m] (rT EO eI)
abbrev Aa1(n:Nat):Prop:=∀(a:BI)(c:d5)(m:AO),CT (BG n a c m) 359 [CJ a,AI c,Bf m] (rT EO eI)
theorem uz(n:Nat)(_ih_330:Aa5 n)(_ih_359:Aa1 n)(a:BI)(c:d5)(m:AO):CT (Am (n+1) a c m) 330 [CJ a,AI c,Bf m] (rT EO eI):=Fk f330 0xd30a46ffdf6a0e6db20644c5d30a4606014b4a490605ed9ddf010a468501df0b4605476f0169750ec9746db20644094bb4c9b209730601644b4a490605eddab9c5d36f0a06022f2e2d0a060503079de6f1054805476f04f1df010a4669750ec9746db20644094b0ac9b209430a0602642f2e2d0a06050307dab90ec9c5d3010a46ffdf0a46c5d30a46c589750e49746db209435e0644c583376bc9f7 [] [.cell 6 (Y 5),.tmp 7] λr h b d=>by
  unfold Am at h;have:=Ay 2 47 46 0 λs2:A1×A1=>[(6,.bx [⟨T,eI s2.1.zg⟩,⟨X,lI s2.1.n8.d4.ca⟩,⟨X,lI s2.1.n8.d4.ci⟩,⟨X,lI s2.1.n8.ff⟩,⟨X,Hr s2.1.gl⟩]),(10,.bx [⟨T,eI s2.2.zg⟩,⟨X,lI s2.2.n8.d4.ca⟩,⟨X,lI s2.2.n8.d4.ci⟩,⟨X,lI s2.2.n8.ff⟩,⟨X,Hr s2.2.gl⟩])];have:=Ay 4 75 74 0 λs4:A1=>[(6,.bx [⟨T,eI s4.zg⟩,⟨X,lI s4.n8.d4.ca⟩,⟨X,lI s4.n8.d4.ci⟩,⟨X,lI s4.n8.ff⟩,⟨X,Hr s4.gl⟩])];exact nz
theorem u0(n:Nat)(_ih_330:Aa5 n)(_ih_359:Aa1 n)(a:BI)(c:d5)(m:AO):CT (BG (n+1) a c m) 359 [CJ a,AI c,Bf m] (rT EO eI):=Fk f359 0xd30a4606011b1a190604ed9ddf010a468501df0c4605476f6d69750ec9746db209435e06449f0fc96d03430601641b1a190604eda181df010a4669e96db206446bc9f7 [] [.cell 6 (Y 5),.tmp 7] λr h b d=>by
  unfold BG at h;have:=Ay 0 27 26 0 λs0:A1=>[(6,.bx [⟨T,eI s0.zg⟩,⟨X,lI s0.n8.d4.ca⟩,⟨X,lI s0.n8.d4.ci⟩,⟨X,lI s0.n8.ff⟩,⟨X,Hr s0.gl⟩])];exact nz
theorem nW:∀n:Nat,Aa5 n/\Aa1 n:=by
  intro n
  induction n with
  |zero=>exact⟨(λb c m=>⟨λ_ h=>c?⟩),(λb c m=>⟨λ_ h=>c?⟩)⟩
  |succ n a=>exact⟨uz n a.1 a.2,u0 n a.1 a.2⟩
instance(s_0 c m):CT (Eu s_0 c m) 330 [CJ s_0,AI c,Bf m] (rT EO eI):=⟨λr h=>by
  obtain ⟨N,a⟩:=Cq h;exact((nW N).1 s_0 c m).snd r (a N (b6 _))⟩
instance(s_0 c m):CT (Po s_0 c m) 359 [CJ s_0,AI c,Bf m] (rT EO eI):=⟨λr h=>by
  obtain ⟨N,a⟩:=Cq h;exact((nW N).2 s_0 c m).snd r (a N (b6 _))⟩
instance(a b c d e f):CT (D9 a b c d e f) 285 [AJ a,BB b,AI c,Bk d,Bf e,eB f] (rT EO eI):=Fk f285 0xd36a0e6db20d46016d38df010a4677016d6db26f386bc993626258 [] [.cell 12 (Y 5),.tmp 13] λr h g i=>by
  unfold D9 at h;exact nz
instance(a b c d e f):CT (DR a b c d e f) 224 [AJ a,BB b,AI c,Bk d,Bf e,eB f] (rT eB eI):=Fe f224 0x890158dd69750e4974016d6db26f383093626258 [] (DR.eq_1 ..)
instance(a):CT (JS a) 225 [Bf a] (rS Bf):=Fk f225 0x783b9f09f2b504f27e370ed90fc9a5 [] [.cell 2 (Y 3)] λr h b c=>by
  unfold JS at h;exact nz
instance(a):CT (KD a) 226 [Bk a] (rS Bk):=Fk f226 0x9f6d5d021312115d059de60270cc0148304704bd82605d02641312115d05dabd035010c93f3f0e7e370ed910c9a5 [.yz [.w 9,.w 13],.yz [.g 14 0 2,.g 14 1 2,.z ⟨X,.list 1 []⟩]] [.cell 2 (Y 3)] λr h b c=>by
  unfold KD at h;have:=Ay 0 19 18 0 λs0:fl=>[(3,.bx [⟨X,lI s0.d3.ca⟩,⟨X,lE s0.d3.ci⟩,⟨X,(eL 1 lI) s0.em⟩])];exact nz
instance(a b):CT (Lv a b) 227 [eI a,lI b] (rO lI):=Bl f227 0x821858d258049d01e33014d2725806d27258065f8861817430b85864d25804819514993f30409702 [.mkx 1 [.int .i64 0] (.s 9)] (Lv.eq_1 ..) (Ay 0 13 12 0 (hX 5 1 eI))
instance(a b c d e f):CT (GJ a b c d e f) 228 [eI a,lI b,lI c,lI d,lI e,eI f] (rO lI):=Hz f228 0x82180d012b2a0d639d2b2a0d632b2a0d639130e330148517d10114b80d01642b2a0d638195140d05021615140d6336089d01e360608030301489800d0502641615140d633608a181991a30470140bb9706 [] (GJ.eq_1 ..) (Ay 0 22 21 0 (hX 13 1 eI)) (Ay 2 43 42 0 λs2:Int×Fp=>[(5,.tv (eI s2.1)),(13,.xo 1 (List.map eI s2.2))])
instance(a b):CT (Jt a b) 287 [AJ a,eI b] (rO lI):=Bl f287 0xef070113121107049d78cc5e02d402c9ad04430701641312110704a18182ac01e9018d40d8 [] (Jt.eq_1 ..) (Ay 0 19 18 0 (hO 7 lI))
noncomputable def ZT:PC:=PC.of OI f229.body (xq bT 0x30b0afae01049db0afae0104b0afae01045f4a01901f9003480347074660b57124c8605e7124c85b0401901fc837850b7e5c1fc8807e24c89f81f5f63064b0afae0104dab907cb7b7a790736069d7b7a790736067b7a790736063c1f02411f9021221ac32302411fc8b64a5c5c1f9001cc01045c5c1fc837850b715c1fc8807124c8898007cb647b7a79073606da3707369f4a497236079de601901f9003480347074660b57122c8605e7122c85b0401901fc8379ff5f67e378160073603644b4a49723607dab9720536051e1d1c720536089d1f02411f902122014f80db562302411fc8b64a5c5c1f9001cc80d9045c5c1fc837816072053605641e1d1c72053608da378c9ffb10c9ea06905c376d1cc86230) []
theorem vE:CK f229 ZT []:=d_
theorem vc:PC.yh ZT=X/\PC.yj 1 ZT=X:=d_
instance(a b c):CT (IW a b c) 229 [AJ a,.undef,Hk c] (λr=>.bo (DJ b) (DJ r) 1 []):=nP vE vc λr h e d f=>by
  unfold ZT;unfold f229;unfold IW at h;have:=Ay 0 30 29 0 λs0:Ax=>[(1,.bx (DJ s0))];have:=Ay 2 75 74 0 λs2:Ax=>[(1,.bx (DJ s2))];have:=Ay 4 123 122 0 λs4:Ax=>[(1,.bx (DJ s4))];have:=Ay 6 176 175 0 λs6:Ax=>[(1,.bx (DJ s6))];exact nz
theorem vH:CK f288 (.seq (.region [⟨Y 1,.Aaz (.s 0),W⟩,
    ⟨Y 2,.mv (.c .undef),W⟩,
    ⟨Y 3,.mv (.c (.int .i64 0)),W⟩] [1])
 (.seq (.region [⟨Y 12,.mkm,W⟩,
    ⟨Y 4,.mvm 12,W⟩] [1,4,12])
 (.seq (.seq (.region [⟨Y 13,.bad 1 0,W⟩,
    ⟨Y 14,.zj (.s 13) 6,W⟩,
    ⟨Y 15,.zj (.s 14) 2,W⟩,
    ⟨Y 16,.ld (.s 15),W⟩,
    ⟨Y 17,.len (.s 16),W⟩,
    ⟨Y 18,.mv (.c (.int .i64 0)),W⟩] [1,4,12,16,17,18])
 (.block 0 (.loop [1,4,12,16,17,18] (.seq (.region [⟨Y 19,.bin (.i) .lss (.s 18) (.s 17),W⟩] [1,4,12,16,17,18,19])
 (.seq (.cond (.s 19) (.skip [1,4,12,16,17,18])
 (.exit 0 [4,12]))
 (.seq (.block 1 (.seq (.region [⟨Y 20,.iad (.s 16) (.s 18) 4,W⟩,
    ⟨Y 21,.lda (.s 20) 4,W⟩,
    ⟨Y 6,.alc [⟨T,.int .i64 0⟩,⟨T,.int .i64 0⟩,⟨T,.int .i64 0⟩,⟨T,.int .i64 0⟩],W⟩,
    ⟨W,.stb 4 6 (.s 21),W⟩] [1,4,6,12,16,17,18])
 (.seq (.region [⟨Y 23,.bad 6 2,W⟩,
    ⟨Y 24,.lda (.s 23) 2,W⟩,
    ⟨Y 25,.bad 1 25,W⟩,
    ⟨Y 26,.zj (.s 25) 2,W⟩,
    ⟨Y 27,.ld (.s 26),W⟩,
    ⟨Y 28,.call 332 [.s 24,.s 27],W⟩,
    ⟨Y 22,.mv (.s 28),W⟩,
    ⟨Y 29,.ext (.s 22) 0,W⟩,
    ⟨Y 30,.ext (.s 22) 1,W⟩,
    ⟨Y 7,.mv (.s 29),W⟩,
    ⟨Y 8,.mv (.s 30),W⟩] [1,4,6,7,8,12,16,17,18])
 (.seq (.seq (.region [⟨Y 31,.mv (.s 8),W⟩,
    ⟨Y 32,.bin (.i) .neq (.s 31) (.c (.int .i64 0)),W⟩] [1,4,6,7,8,12,16,17,18,32])
 (.cond (.s 32) (.seq (.region [⟨Y 33,.mv (.s 8),W⟩,
    ⟨Y 2,.mv (.c .undef),W⟩,
    ⟨Y 3,.mv (.s 33),W⟩] [2,3,12])
 .ret)
 (.skip [1,4,6,7,12,16,17,18])))
 (.seq (.draw [9,34,35,36,37,38,39,40,41,42,43] [⟨Y 34,.bad 1 36,W⟩,
    ⟨Y 35,.zj (.s 34) 0,W⟩,
    ⟨Y 36,.ld (.s 35),W⟩,
    ⟨Y 37,.bad 6 0,W⟩,
    ⟨Y 38,.ld (.s 37),W⟩,
    ⟨Y 39,.iad (.s 36) (.s 38) 1,W⟩,
    ⟨Y 40,.ld (.s 39),W⟩,
    ⟨Y 41,.bad 6 1,W⟩,
    ⟨Y 42,.ld (.s 41),W⟩,
    ⟨Y 43,.bld [.int .i64 0,.int .i64 0] [(0,1,.s 40),(1,1,.s 42)],W⟩,
    ⟨Y 9,.alc [⟨T,.int .i64 0⟩,⟨T,.int .i64 0⟩],W⟩,
    ⟨W,.stb 2 9 (.s 43),W⟩] [1,4,7,9,12,16,17,18])
 (.seq (.seq (.region [⟨Y 45,.mv (.s 4),W⟩,
    ⟨Y 46,.lda (.s 9) 2,W⟩,
    ⟨Y 47,.mlk 12 (.s 45) (.s 46),W⟩,
    ⟨Y 44,.mv (.s 47),W⟩,
    ⟨Y 48,.ext (.s 44) 0,W⟩,
    ⟨Y 49,.ext (.s 44) 1,W⟩,
    ⟨Y 10,.mv (.s 48),W⟩,
    ⟨Y 11,.mv (.s 49),W⟩] [1,4,7,9,10,11,12,16,17,18])
 (.seq (.region [⟨Y 50,.mv (.s 11),W⟩,
    ⟨Y 51,.mv (.s 50),W⟩,
    ⟨Y 52,.mv (.s 10),Y (51,X)⟩,
    ⟨Y 53,.mv (.s 7),Y (51,X)⟩,
    ⟨Y 54,.bin (.i) .neq (.s 52) (.s 53),Y (51,X)⟩,
    ⟨Y 55,.pick (.s 51) (.s 54) (.c (.bool T)),W⟩] [1,4,7,9,12,16,17,18,55])
 (.cond (.s 55) (.seq (.region [⟨Y 2,.mv (.c .undef),W⟩,
    ⟨Y 3,.mv (.c (.int .i64 11)),W⟩] [2,3,12])
 .ret)
 (.skip [1,4,7,9,12,16,17,18]))))
 (.region [⟨Y 56,.mv (.s 4),W⟩,
    ⟨Y 57,.lda (.s 9) 2,W⟩,
    ⟨Y 58,.mv (.s 7),W⟩,
    ⟨W,.mup 12 (.s 56) (.s 57) (.s 58),W⟩] [1,4,12,16,17,18])))))))
 (.region [⟨Y 59,.bin (.i) .add (.s 18) (.c (.int .i64 1)),W⟩,
    ⟨Y 18,.mv (.s 59),W⟩] [1,4,12,16,17,18])))))))
 (.seq (.region [⟨Y 60,.mv (.s 4),W⟩,
    ⟨Y 2,.mv (.s 60),W⟩,
    ⟨Y 3,.mv (.c (.int .i64 0)),W⟩] [2,3,12])
 .ret)))) [.tmp 2,.tmp 3]:=d_
instance yY(s:Ax):Ct Go.Proofs.Tryz.prog (Hx s) 288 [cu s] Nl:=xt vH λr h d e=>by
  unfold Hx at h;have K:∀b:Nat,HA 0 18 17 0 λ(c:Int)(a:BM)=>[(12,.mx (.mp b a)),(18,.tv (eI c))]:=λ_=>⟨⟩;have:wu 12:=⟨⟩;exact au
theorem YG(t:eb)(s:Ax)(κ:List Fp)(p:(Int×Int)×Int)(a:BM)(r:Be (List Fp) Unit)(h:Oy t s κ p=Y r):WP (AX Go.Proofs.Tryz.prog) (.block 1 (.seq (.region [⟨Y 25,.men 22,W⟩,
    ⟨Y 26,.ext (.s 25) 0,W⟩,
    ⟨Y 27,.ext (.s 25) 1,W⟩,
    ⟨Y 7,.alc [⟨T,.int .i64 0⟩,⟨T,.int .i64 0⟩],W⟩,
    ⟨W,.stb 2 7 (.s 26),W⟩,
    ⟨Y 8,.mv (.s 27),W⟩] [1,2,7,8,22])
 (.seq (.draw [9,10,28,29,30,31,32,33,34,35,36,37,38,39,40,41,42] [⟨Y 29,.lda (.s 2) 2,W⟩,
    ⟨Y 30,.bad 1 0,W⟩,
    ⟨Y 31,.zj (.s 30) 0,W⟩,
    ⟨Y 32,.zj (.s 31) 31,W⟩,
    ⟨Y 33,.zj (.s 32) 0,W⟩,
    ⟨Y 34,.zj (.s 33) 0,W⟩,
    ⟨Y 35,.ld (.s 34),W⟩,
    ⟨Y 36,.bad 7 0,W⟩,
    ⟨Y 37,.ld (.s 36),W⟩,
    ⟨Y 38,.iad (.s 35) (.s 37) 1,W⟩,
    ⟨Y 39,.ld (.s 38),W⟩,
    ⟨Y 40,.call 106 [.s 29,.s 39],W⟩,
    ⟨Y 28,.mv (.s 40),W⟩,
    ⟨Y 41,.ext (.s 28) 0,W⟩,
    ⟨Y 42,.ext (.s 28) 1,W⟩,
    ⟨Y 9,.mv (.s 41),W⟩,
    ⟨Y 10,.mv (.s 42),W⟩] [1,2,7,8,9,22])
 (.seq (.seq (.region [⟨Y 43,.mv (.s 8),W⟩,
    ⟨Y 44,.mv (.s 9),W⟩,
    ⟨Y 45,.bad 7 1,W⟩,
    ⟨Y 46,.ld (.s 45),W⟩,
    ⟨Y 47,.iad (.s 44) (.s 46) 4,W⟩,
    ⟨Y 48,.zj (.s 47) 1,W⟩,
    ⟨Y 49,.ld (.s 48),W⟩,
    ⟨Y 50,.bin (.i) .lss (.s 43) (.s 49),W⟩,
    ⟨Y 51,.mv (.s 50),W⟩,
    ⟨Y 52,.mv (.s 8),Y (51,T)⟩,
    ⟨Y 53,.mv (.s 9),Y (51,T)⟩,
    ⟨Y 54,.bad 7 1,Y (51,T)⟩,
    ⟨Y 55,.ld (.s 54),Y (51,T)⟩,
    ⟨Y 56,.iad (.s 53) (.s 55) 4,Y (51,T)⟩,
    ⟨Y 57,.zj (.s 56) 2,Y (51,T)⟩,
    ⟨Y 58,.ld (.s 57),Y (51,T)⟩,
    ⟨Y 59,.bin (.i) .gtr (.s 52) (.s 58),Y (51,T)⟩,
    ⟨Y 60,.pick (.s 51) (.c (.bool X)) (.s 59),W⟩] [1,2,7,8,22,60])
 (.cond (.s 60) (.seq (.region [⟨Y 4,.mv (.c (.int .i64 6)),W⟩] [1,4])
 .ret)
 (.skip [1,2,7,8,22])))
 (.draw [61,62,63,64,65,66,67,68,69,70,71,72,73] [⟨Y 61,.bad 1 0,W⟩,
    ⟨Y 62,.zj (.s 61) 0,W⟩,
    ⟨Y 63,.zj (.s 62) 31,W⟩,
    ⟨Y 64,.zj (.s 63) 2,W⟩,
    ⟨Y 65,.lan (.s 64),W⟩,
    ⟨Y 66,.bad 7 0,W⟩,
    ⟨Y 67,.ld (.s 66),W⟩,
    ⟨Y 68,.nia (.s 65) (.s 67),W⟩,
    ⟨Y 69,.nld (.s 68),W⟩,
    ⟨Y 70,.bad 7 1,W⟩,
    ⟨Y 71,.ld (.s 70),W⟩,
    ⟨Y 72,.mv (.s 8),W⟩,
    ⟨Y 73,.nia (.s 69) (.s 71),W⟩,
    ⟨W,.nst (.s 73) (.s 72),W⟩] [1,2,22]))))) ⟨λe=>∃b,r=.next b/\Rn (e.fu [1,2,22]) [(1,.bx (DJ (OJ s b))),(2,.tv (.pt (AJ t).cells)),(22,.mx (.mi (Y p) a))],λ_ _=>False,λe=>∃v,r=.ret v/\Rn e [(1,.bx (DJ (OJ s κ))),(4,.tv (eI 6))]⟩ [(1,.bx (DJ (OJ s κ))),(2,.tv (.pt (AJ t).cells)),(22,.mx (.mi (Y p) a))]:=by
  unfold Oy at h;exact au
noncomputable def ZU:PC:=(.seq (.region [⟨Y 2,.Aaz (.s 0),W⟩,
    ⟨Y 4,.mv (.c (.int .i64 0)),W⟩] [1,2])
 (.seq (.region [⟨Y 12,.bad 1 0,W⟩,
    ⟨Y 13,.zj (.s 12) 0,W⟩,
    ⟨Y 14,.lda (.s 13) 38,W⟩,
    ⟨Y 15,.zE 288 [.s 14],W⟩,
    ⟨Y 11,.mvm 15,W⟩,
    ⟨Y 16,.ext (.s 11) 0,W⟩,
    ⟨Y 17,.ext (.s 11) 1,W⟩,
    ⟨Y 5,.mv (.s 16),W⟩,
    ⟨Y 6,.mv (.s 17),W⟩] [1,2,5,6,15])
 (.seq (.seq (.region [⟨Y 18,.mv (.s 6),W⟩,
    ⟨Y 19,.bin (.i) .neq (.s 18) (.c (.int .i64 0)),W⟩] [1,2,5,6,15,19])
 (.cond (.s 19) (.seq (.region [⟨Y 20,.mv (.s 6),W⟩,
    ⟨Y 4,.mv (.s 20),W⟩] [1,4])
 .ret)
 (.skip [1,2,5,15])))
 (.seq (.seq (.region [⟨Y 21,.mv (.s 5),W⟩,
    ⟨Y 22,.x7 15 (.s 21),W⟩] [1,2,22])
 (.block 0 (.loop [1,2,22] (.seq (.region [⟨Y 23,.mnx 22,W⟩,
    ⟨Y 24,.ext (.s 23) 0,W⟩] [1,2,22,24])
 (.seq (.cond (.s 24) (.skip [1,2,22])
 (.exit 0 [1]))
 (.block 1 (.seq (.region [⟨Y 25,.men 22,W⟩,
    ⟨Y 26,.ext (.s 25) 0,W⟩,
    ⟨Y 27,.ext (.s 25) 1,W⟩,
    ⟨Y 7,.alc [⟨T,.int .i64 0⟩,⟨T,.int .i64 0⟩],W⟩,
    ⟨W,.stb 2 7 (.s 26),W⟩,
    ⟨Y 8,.mv (.s 27),W⟩] [1,2,7,8,22])
 (.seq (.draw [9,10,28,29,30,31,32,33,34,35,36,37,38,39,40,41,42] [⟨Y 29,.lda (.s 2) 2,W⟩,
    ⟨Y 30,.bad 1 0,W⟩,
    ⟨Y 31,.zj (.s 30) 0,W⟩,
    ⟨Y 32,.zj (.s 31) 31,W⟩,
    ⟨Y 33,.zj (.s 32) 0,W⟩,
    ⟨Y 34,.zj (.s 33) 0,W⟩,
    ⟨Y 35,.ld (.s 34),W⟩,
    ⟨Y 36,.bad 7 0,W⟩,
    ⟨Y 37,.ld (.s 36),W⟩,
    ⟨Y 38,.iad (.s 35) (.s 37) 1,W⟩,
    ⟨Y 39,.ld (.s 38),W⟩,
    ⟨Y 40,.call 106 [.s 29,.s 39],W⟩,
    ⟨Y 28,.mv (.s 40),W⟩,
    ⟨Y 41,.ext (.s 28) 0,W⟩,
    ⟨Y 42,.ext (.s 28) 1,W⟩,
    ⟨Y 9,.mv (.s 41),W⟩,
    ⟨Y 10,.mv (.s 42),W⟩] [1,2,7,8,9,22])
 (.seq (.seq (.region [⟨Y 43,.mv (.s 8),W⟩,
    ⟨Y 44,.mv (.s 9),W⟩,
    ⟨Y 45,.bad 7 1,W⟩,
    ⟨Y 46,.ld (.s 45),W⟩,
    ⟨Y 47,.iad (.s 44) (.s 46) 4,W⟩,
    ⟨Y 48,.zj (.s 47) 1,W⟩,
    ⟨Y 49,.ld (.s 48),W⟩,
    ⟨Y 50,.bin (.i) .lss (.s 43) (.s 49),W⟩,
    ⟨Y 51,.mv (.s 50),W⟩,
    ⟨Y 52,.mv (.s 8),Y (51,T)⟩,
    ⟨Y 53,.mv (.s 9),Y (51,T)⟩,
    ⟨Y 54,.bad 7 1,Y (51,T)⟩,
    ⟨Y 55,.ld (.s 54),Y (51,T)⟩,
    ⟨Y 56,.iad (.s 53) (.s 55) 4,Y (51,T)⟩,
    ⟨Y 57,.zj (.s 56) 2,Y (51,T)⟩,
    ⟨Y 58,.ld (.s 57),Y (51,T)⟩,
    ⟨Y 59,.bin (.i) .gtr (.s 52) (.s 58),Y (51,T)⟩,
    ⟨Y 60,.pick (.s 51) (.c (.bool X)) (.s 59),W⟩] [1,2,7,8,22,60])
 (.cond (.s 60) (.seq (.region [⟨Y 4,.mv (.c (.int .i64 6)),W⟩] [1,4])
 .ret)
 (.skip [1,2,7,8,22])))
 (.draw [61,62,63,64,65,66,67,68,69,70,71,72,73] [⟨Y 61,.bad 1 0,W⟩,
    ⟨Y 62,.zj (.s 61) 0,W⟩,
    ⟨Y 63,.zj (.s 62) 31,W⟩,
    ⟨Y 64,.zj (.s 63) 2,W⟩,
    ⟨Y 65,.lan (.s 64),W⟩,
    ⟨Y 66,.bad 7 0,W⟩,
    ⟨Y 67,.ld (.s 66),W⟩,
    ⟨Y 68,.nia (.s 65) (.s 67),W⟩,
    ⟨Y 69,.nld (.s 68),W⟩,
    ⟨Y 70,.bad 7 1,W⟩,
    ⟨Y 71,.ld (.s 70),W⟩,
    ⟨Y 72,.mv (.s 8),W⟩,
    ⟨Y 73,.nia (.s 69) (.s 71),W⟩,
    ⟨W,.nst (.s 73) (.s 72),W⟩] [1,2,22]))))))))))
 (.seq (.region [⟨Y 4,.mv (.c (.int .i64 0)),W⟩] [1,4])
 .ret)))))
theorem vF:CK f230 ZU [.tmp 4]:=d_
theorem vd:PC.yh ZU=X/\PC.yj 1 ZU=X:=d_
variable{t:eb}{s:Ax}
theorem ef{p:(Int×Int)×Int}{b:Bool}(h:Oz t s p=Y b){κ:List Fp}(a:LV κ s.sr.em):
    (b=X->Oy t s κ p=Y (.next (CZ κ p)))/\(b=T->Oy t s κ p=Y (.ret ())):=by
  unfold Oz Oy at h;unfold Oy;obtain⟨c,d,h⟩:=bind_some h;obtain⟨q,f,d⟩:=bind_some d;obtain⟨r,g,d⟩:=bind_some d;obtain⟨u,i,d⟩:=bind_some d;obtain⟨j,k,d⟩:=bind_some d;simp only[f,g,i,u!]at *;rw[k,u!];cases j with
  |true=>
    simp only[if_true,t5]at d|-;subst d;simp only[t5]at h;subst h;exact⟨λe=>o_,λ_=>trivial⟩
  |false=>
    simp only[Bool.false_eq_true,if_false]at d|-;obtain⟨v,l,d⟩:=bind_some d;obtain⟨w,m,d⟩:=bind_some d;cases d;simp only[t5]at h;subst h;obtain⟨x,x',n,o⟩:=a.idx l m;refine⟨λ_=>?_,λe=>o_⟩;rw[n,u!,o,u!,Z9 n o]
theorem iB{a:BM}{c:Bool}(n:a.Dis)(m:zB (Oz t s) a=Y c){M z:AB->Prop}{x:Nat->AB->Prop}{d:AB->Prop}
    (f:c=X->z [(1,.bx (DJ (OJ s (a.foldl CZ s.sr.em))))])(g:c=T->∀κ,d [(1,.bx (DJ (OJ s κ))),(4,.tv (eI 6))]):
    WP (AX Go.Proofs.Tryz.prog) (.loop [1,2,22] (.seq (.region [⟨Y 23,.mnx 22,W⟩,
    ⟨Y 24,.ext (.s 23) 0,W⟩] [1,2,22,24])
 (.seq (.cond (.s 24) (.skip [1,2,22])
 (.exit 0 [1]))
 (.block 1 (.seq (.region [⟨Y 25,.men 22,W⟩,
    ⟨Y 26,.ext (.s 25) 0,W⟩,
    ⟨Y 27,.ext (.s 25) 1,W⟩,
    ⟨Y 7,.alc [⟨T,.int .i64 0⟩,⟨T,.int .i64 0⟩],W⟩,
    ⟨W,.stb 2 7 (.s 26),W⟩,
    ⟨Y 8,.mv (.s 27),W⟩] [1,2,7,8,22])
 (.seq (.draw [9,10,28,29,30,31,32,33,34,35,36,37,38,39,40,41,42] [⟨Y 29,.lda (.s 2) 2,W⟩,
    ⟨Y 30,.bad 1 0,W⟩,
    ⟨Y 31,.zj (.s 30) 0,W⟩,
    ⟨Y 32,.zj (.s 31) 31,W⟩,
    ⟨Y 33,.zj (.s 32) 0,W⟩,
    ⟨Y 34,.zj (.s 33) 0,W⟩,
    ⟨Y 35,.ld (.s 34),W⟩,
    ⟨Y 36,.bad 7 0,W⟩,
    ⟨Y 37,.ld (.s 36),W⟩,
    ⟨Y 38,.iad (.s 35) (.s 37) 1,W⟩,
    ⟨Y 39,.ld (.s 38),W⟩,
    ⟨Y 40,.call 106 [.s 29,.s 39],W⟩,
    ⟨Y 28,.mv (.s 40),W⟩,
    ⟨Y 41,.ext (.s 28) 0,W⟩,
    ⟨Y 42,.ext (.s 28) 1,W⟩,
    ⟨Y 9,.mv (.s 41),W⟩,
    ⟨Y 10,.mv (.s 42),W⟩] [1,2,7,8,9,22])
 (.seq (.seq (.region [⟨Y 43,.mv (.s 8),W⟩,
    ⟨Y 44,.mv (.s 9),W⟩,
    ⟨Y 45,.bad 7 1,W⟩,
    ⟨Y 46,.ld (.s 45),W⟩,
    ⟨Y 47,.iad (.s 44) (.s 46) 4,W⟩,
    ⟨Y 48,.zj (.s 47) 1,W⟩,
    ⟨Y 49,.ld (.s 48),W⟩,
    ⟨Y 50,.bin (.i) .lss (.s 43) (.s 49),W⟩,
    ⟨Y 51,.mv (.s 50),W⟩,
    ⟨Y 52,.mv (.s 8),Y (51,T)⟩,
    ⟨Y 53,.mv (.s 9),Y (51,T)⟩,
    ⟨Y 54,.bad 7 1,Y (51,T)⟩,
    ⟨Y 55,.ld (.s 54),Y (51,T)⟩,
    ⟨Y 56,.iad (.s 53) (.s 55) 4,Y (51,T)⟩,
    ⟨Y 57,.zj (.s 56) 2,Y (51,T)⟩,
    ⟨Y 58,.ld (.s 57),Y (51,T)⟩,
    ⟨Y 59,.bin (.i) .gtr (.s 52) (.s 58),Y (51,T)⟩,
    ⟨Y 60,.pick (.s 51) (.c (.bool X)) (.s 59),W⟩] [1,2,7,8,22,60])
 (.cond (.s 60) (.seq (.region [⟨Y 4,.mv (.c (.int .i64 6)),W⟩] [1,4])
 .ret)
 (.skip [1,2,7,8,22])))
 (.draw [61,62,63,64,65,66,67,68,69,70,71,72,73] [⟨Y 61,.bad 1 0,W⟩,
    ⟨Y 62,.zj (.s 61) 0,W⟩,
    ⟨Y 63,.zj (.s 62) 31,W⟩,
    ⟨Y 64,.zj (.s 63) 2,W⟩,
    ⟨Y 65,.lan (.s 64),W⟩,
    ⟨Y 66,.bad 7 0,W⟩,
    ⟨Y 67,.ld (.s 66),W⟩,
    ⟨Y 68,.nia (.s 65) (.s 67),W⟩,
    ⟨Y 69,.nld (.s 68),W⟩,
    ⟨Y 70,.bad 7 1,W⟩,
    ⟨Y 71,.ld (.s 70),W⟩,
    ⟨Y 72,.mv (.s 8),W⟩,
    ⟨Y 73,.nia (.s 69) (.s 71),W⟩,
    ⟨W,.nst (.s 73) (.s 72),W⟩] [1,2,22])))))))) ⟨M,λj e=>if j=0 then z e else x j e,d⟩ [(1,.bx (DJ s)),(2,.tv (.pt (AJ t).cells)),(22,.mx (.mi W a))]:=by
  obtain ⟨m1,R⟩:=Wu m;refine⟨qM _ (σ:=List Fp×Option ((Int×Int)×Int)×BM) (λσ=>[(1,.bx (DJ (OJ s σ.1))),(2,.tv (.pt (AJ t).cells)),(22,.mx (.mi σ.2.1 σ.2.2))])
    (λσ=>LV σ.1 s.sr.em/\(∀l,σ.2.2.Perm l->l.foldl CZ σ.1=a.foldl CZ s.sr.em)/\(∀p∈σ.2.2,p∈a)/\(c=T->∃p∈σ.2.2,Oz t s p=Y T))
    (λσ=>σ.2.2.length) (s.sr.em,W,a) rfl ⟨rfl,λl A=>WU n A _,λp r=>r,R⟩ ?_⟩
  rintro ⟨κ,last,u⟩ ⟨I,J,K,L⟩ η;refine WP.out (?_:WP _ _ _ _);apply Kd;apply P6;refine wb rfl a? (λe=>?_) (λp o r=>?_)
  · simp only at e
    subst e;have P:c=X:=by
      cases c with
      |true=>rfl|false=>obtain⟨p,r,_⟩:=L rfl;cases r
    have Q:κ=a.foldl CZ s.sr.em:=J [] (List.Perm.refl _);apply st 1;exact rfl;exact λ_ k=>k;apply NQ;(focus (repeat(first|exact IK|(apply Kj;exact rfl)|(apply Kg;exact rfl)|(apply Kh;exact rfl)|(apply Kk;exact rfl)|(apply Ki;exact rfl))));intro C;apply Kd;apply Ro;exact rfl;exact rfl;apply gf;(focus (repeat(first|exact IK|(apply Kj;exact rfl)|(apply Kg;exact rfl)|(apply Kh;exact rfl)|(apply Kk;exact rfl)|(apply Ki;exact rfl))));show(if(0:Nat)=0 then z [(1,.bx (DJ (OJ s κ)))]else x 0 [(1,.bx (DJ (OJ s κ)))]);rw[ae rfl,Q];exact f P
  · apply st 1;exact rfl;exact λ_ k=>k
    apply NQ;(focus (repeat(first|exact IK|(apply Kj;exact rfl)|(apply Kg;exact rfl)|(apply Kh;exact rfl)|(apply Kk;exact rfl)|(apply Ki;exact rfl))));intro C;apply Kd;apply Rp;exact rfl;exact rfl;apply Zj;(focus (repeat(first|exact IK|(apply Kj;exact rfl)|(apply Kg;exact rfl)|(apply Kh;exact rfl)|(apply Kk;exact rfl)|(apply Ki;exact rfl))));intro O;have D:p∈u:=r.mem_iff.2 V;obtain⟨b,H,E⟩:=m1 p (K p D);obtain⟨S,θ⟩:=ef H I;cases b with
    |true=>
      refine ⟨PC.o3 _ _ _ _ (YG t s κ p o _ (S rfl)).out _ (λe he=>?_) (λ_ _ h=>h.elim) (λe he=>?_)⟩
      · obtain⟨ε,y,F⟩:=he
        cases y;refine⟨(CZ κ p,Y p,o),F.out,⟨(YF κ p).trans I,λl A=>?_,λq B=>K q (r.mem_iff.2 (by simp[B])),λN=>?_⟩,?_⟩
        .exact J (p::l) (r.trans (A.cons p))
        · obtain⟨q,B,w⟩:=L N
          rcases List.mem_cons.1 (r.mem_iff.1 B)with rfl|G
          .rw[H]at w;cases w
          .exact⟨q,G,w⟩
        · have:=r.length_eq
          simp only[c7]at this;show o.length<u.length;omega
      · obtain⟨v,y,_⟩:=he
        cases y
    |false=>
      refine ⟨PC.o3 _ _ _ _ (YG t s κ p o _ (θ rfl)).out _ (λe he=>?_) (λ_ _ h=>h.elim) (λe he=>?_)⟩
      · obtain⟨ε,y,_⟩:=he
        cases y
      · obtain⟨v,_,F⟩:=he
        rw [F.out];exact g (by cases c with|false=>rfl|true=>exact absurd (E rfl) V) κ
instance yU(t:eb)(s:Ax):Ct Go.Proofs.Tryz.prog (LR t s) 230 [AJ t,.undef] (λr=>.bo (DJ s) (if(!decide (r.1=0))=X then(DJ r.2).set 33 ⟨T,.undef⟩else DJ r.2) 1 [eI r.1]):=xF vF vd λr h v l=>by
  unfold ZU;unfold LR at h;obtain⟨a,q,h⟩:=bind_some h;have d:=(inferInstance:Ct Go.Proofs.Tryz.prog (Hx s) 288 [cu s] Nl).snd a q;apply Kd;apply P6;apply st 1;exact rfl;exact λ_ k=>k;apply st 1;exact rfl;exact λ_ k=>k;apply NQ;(focus (repeat(first|exact IK|(apply Kj;exact rfl)|(apply Kg;exact rfl)|(apply Kh;exact rfl)|(apply Kk;exact rfl)|(apply Ki;exact rfl))));intro m;apply Kd;apply P6;apply st 1;exact rfl;exact λ_ k=>k;apply st 1;exact rfl;exact λ_ k=>k;apply st 2;exact rfl;exact λ_ k=>⟨Nat.le_of_ble_eq_true rfl,k⟩;by_cases he:a.2=0
  · have e:Nl a=.mpr a.1 [.int .i64 a.2]:=ae he
    rw [e]at d;rw[az (by simp[he])]at h;split at h
    · rename_i hd
      have hd:BM.Dis a.1:=(show List.Pairwise (λx y:(Int×Int)×Int=>x.1≠y.1) a.1 from of_decide_eq_true hd);obtain⟨c,u,h⟩:=bind_some h;refine mI rfl d (λb=>?_);apply st 1;exact rfl;exact λ_ k=>k;apply st 1;exact rfl;exact λ_ k=>k;apply st 1;exact rfl;exact λ_ k=>k;apply st 1;exact rfl;exact λ_ k=>k;apply st 1;exact rfl;exact λ_ k=>k;apply NQ;(focus (repeat(first|exact IK|(apply Kj;exact rfl)|(apply Kg;exact rfl)|(apply Kh;exact rfl)|(apply Kk;exact rfl)|(apply Ki;exact rfl))));intro g;apply Kd;apply Kd;apply P6;apply st 1;exact rfl;exact λ_ k=>k;apply st 1;exact rfl;exact λ_ k=>k;apply NQ;(focus (repeat(first|exact IK|(apply Kj;exact rfl)|(apply Kg;exact rfl)|(apply Kh;exact rfl)|(apply Kk;exact rfl)|(apply Ki;exact rfl))));intro i;apply Ro;exact rfl;simp[he];apply Zj;(focus (repeat(first|exact IK|(apply Kj;exact rfl)|(apply Kg;exact rfl)|(apply Kh;exact rfl)|(apply Kk;exact rfl)|(apply Ki;exact rfl))));intro j;apply Kd;apply Kd;apply P6;apply st 1;exact rfl;exact λ_ k=>k;apply st 2;exact rfl;exact λ_ k=>⟨⟨a?,rfl⟩,k⟩;apply NQ;(focus (repeat(first|exact IK|(apply Kj;exact rfl)|(apply Kg;exact rfl)|(apply Kh;exact rfl)|(apply Kk;exact rfl)|(apply Ki;exact rfl))));intro n;apply cg;refine iB hd u (λf=>?_) (λf κ=>?_)
      · intro o
        apply Kd;apply P6;apply st 1;exact rfl;exact λ_ k=>k;apply NQ;(focus (repeat(first|exact IK|(apply Kj;exact rfl)|(apply Kg;exact rfl)|(apply Kh;exact rfl)|(apply Kk;exact rfl)|(apply Ki;exact rfl))));intro p;apply eQ;rw[ae f]at h;cases h;exact⟨_,Wk.refl _,rfl,rfl⟩
      · rw[az (by simp[f])]at h
        cases h;refine⟨_,?_,rfl,rfl⟩;exact Wk.set (DJ (OJ s κ)) 33
    .cases h
  · have e:Nl a=.tp [.undef,.int .i64 a.2]:=az he
    rw [e]at d;rw[ae (by simp[he])]at h;refine mH rfl d ?_;apply st 1;exact rfl;exact λ_ k=>k;apply st 1;exact rfl;exact λ_ k=>k;apply st 1;exact rfl;exact λ_ k=>k;apply st 1;exact rfl;exact λ_ k=>k;apply st 1;exact rfl;exact λ_ k=>k;apply NQ;(focus (repeat(first|exact IK|(apply Kj;exact rfl)|(apply Kg;exact rfl)|(apply Kh;exact rfl)|(apply Kk;exact rfl)|(apply Ki;exact rfl))));intro g;apply Kd;apply Kd;apply P6;apply st 1;exact rfl;exact λ_ k=>k;apply st 1;exact rfl;exact λ_ k=>k;apply NQ;(focus (repeat(first|exact IK|(apply Kj;exact rfl)|(apply Kg;exact rfl)|(apply Kh;exact rfl)|(apply Kk;exact rfl)|(apply Ki;exact rfl))));intro i;apply Rp;exact rfl;simp[he];apply Kd;apply P6;apply st 1;exact rfl;exact λ_ k=>k;apply st 1;exact rfl;exact λ_ k=>k;apply NQ;(focus (repeat(first|exact IK|(apply Kj;exact rfl)|(apply Kg;exact rfl)|(apply Kh;exact rfl)|(apply Kk;exact rfl)|(apply Ki;exact rfl))));intro j;apply eQ;cases h;simp only[he,decide_false,Bool.not_false,if_true];exact⟨_,Wk.set (DJ s) 33,rfl,rfl⟩
end Go.Sf.Sc
