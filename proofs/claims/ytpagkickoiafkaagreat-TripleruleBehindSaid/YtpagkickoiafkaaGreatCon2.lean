/- Contracts of the functions. -/
import Derived.Test.YtpagkickoiafkaaGreatCon1
set_option linter.all false
set_option maxRecDepth 100000
set_option maxHeartbeats 4000000
open Option renaming some->Y,none->W
open Bool renaming true->X,false->T
open Option renaming bind_some->v?
namespace Go.Sf.Sc
open Go Go.Sf Go.Proofs.Tryz
theorem v!{p:Prop}(h:p:=by repeat(first|exact Ic|(apply K0;exact rfl)|(apply Kx;exact rfl)|(apply Ky;exact rfl)|(apply K3;exact rfl)|(apply Kz;exact rfl))):p:=h
instance(a b):CT (Mj a b) 311 [AO a,eI b] (rT lI eI):=B0 f311 0xf50207011312070258d5131207025813120702583cb3c401028e3038d907016513120702589b9fc05501c0c8a901383040db [] (Mj.eq_1 ..) (BG 0 19 18 0 (hO 7 lI))
instance(a):CT (JY a) 259 [AO a] (rO (eL 1 (eL 1 eB))):=H6 f259 0x820231d13104d5b3c41802d10531051c1b1ad1053108d5014de90114815dd1053105651c1b1ad10531089bd9fb0138993fe5d93165d131049b9fc00140c3 [.mkx 1 [.bool T] (.s 18)] (JY.eq_1 ..) (BG 0 13 12 0 (hO 3 (eL 1 (eL 1 eB)))) (BG 2 28 27 0 (hX 5 1 eB))
instance(a b c d):CT (Ja a b c d) 190 [AO a,An b,An c,Aw d] rI:=H6 f190 0xaa474645fc06d7f4a75da75a585c5d5c5a55855a5abbbbecec6bd65c6bd65c55cb5c965e815dfd474645fc06ddb5fc0325242309fc07d7885d915a5d919f55cb5a965e8191fc036525242309fc07dd32829055cb5c0bf6e50b9f6092 [] (Ja.eq_1 ..) (BA 0 37 36 0) (BA 2 71 70 0)
theorem AAR(l:Fp)(r:Bool)(h:Hs l=Y r):AV prog 255 [lI l] (.sh (eB r)):=by
  unfold Hs at h;rw[<-qY]at h;split at h
  · rename_i a
    cases h;exact fA l a
  .cases h
instance ABT(l:Fp):Ct Go.Proofs.Tryz.prog (Hs l) 255 [lI l] (rS eB):=⟨AAR l⟩
instance(a b c d e):CT (Hr a b c d e) 187 [AO a,An b,An c,Aw d,eB e] rI:=Fe f187 0xb48ab85c735a3055e8f3a8e838ac6060e4 [] (Hr.eq_1 ..)
instance(a b c):CT (IP a b c) 256 [AO a,BP b,Bq c] rI:=Fe f256 0x815e017c6ba8c89aaced [] (IP.eq_1 ..)
instance(a b):CT (ER a b) 307 [Rh a,lI b] rI:=Fe f307 0xbc5c5d9f555c859fdb [] (ER.eq_1 ..)
instance(a b):CT (Gg a b) 347 [eI a,eI b] (rT eI Kr):=Fe f347 0xa2583f583f013f5e816f01283f013f30bd [.cvt .u64 (.s 9),.cvt .u64 (.s 11),.bin (.w) .shr (.s 16) (.c (.int .u64 63)),.bin (.w) .shr (.s 18) (.c (.int .u64 63)),.cvt .i64 (.s 21)] (Gg.eq_1 ..)
instance(a b):CT (E3 a b) 346 [Rh a,.pt [lI b]] (λr=>.tp [eI r.1,Kr r.2.1,eB r.2.2]):=Fe f346 0x81a230a27c5c5d5a037681a20a74035a585a81a230a27c5cbc9f30db [] (E3.eq_1 ..)
instance(a b):CT (F8 a b) 308 [FQ a,lI b] rB:=Fe f308 0xf8a5969fa5965a810ea90e300e30558a0830085ea2116f010f3803425ea2116f010fac425e100192 [] (F8.eq_1 ..)
instance(a b c):CT (IQ a b c) 257 [BP a,Bq b,Aw c] (rT lI eI):=H6 f257 0xf51808e94b4a0804d701c08820149ade05c99a05430801654c4b4a0804dd0442085b191817eb6a0308d701c08501201438cc1918170c0beb6a030a1918170c0beb6a030a3c014de9014de90577cc301401148a0817e90114585e6ccc815d5c5d5d5a5aa7ef06c9eae6085b65191817eb6a0308ddcc99993fd43fd43040ed [.mkx 1 [.int .i64 0] (.s 17),.mkx 1 [.bool T] (.s 20)] (IQ.eq_1 ..) (BG 0 25 24 0 λs0:Fp×Ne=>[(8,.xo 1 (List.map eI s0.1)),(9,.xo 1 (List.map eB s0.2))]) (BA 2 76 75 0)
instance(a b c d):CT (Ge a b c d) 188 [AO a,BP b,Bq c,Aw d] (rT lI eI):=Fe f188 0xf56f906b9a5501c0e8c6c6a801c0c86b9a3830406092 [] (Ge.eq_1 ..)
instance(a b c d):CT (OO a b c d) 120 [AO a,CE b,Bq c,Bp d] rI:=Fe f120 0xb4d0e25580fbc66b9ab5a8850e030f42c6c63859b5ac6092 [] (OO.eq_1 ..)
instance(a b c d):CT (Iq a b c d) 121 [AO a,An b,An c,Aw d] (rT An eI):=Fk f121 0x81a6380c08022726250c080606d5f7b9c4915a0432815d0c0802652726250c080606dd32025008c93f0e5c55a658ee90f3a8a658ee9038ac08c96092 [.tl [.z ⟨X,.list 1 []⟩,.w 34]] [.cell 8 (Y 2),.tmp 9] λr h e f=>by
  unfold Iq at h;have:=BG 0 39 38 0 λs0:ci=>[(12,.bx [⟨X,lI s0.bq⟩,⟨X,lE s0.ca⟩])];exact nz
instance(a):CT (FD a) 191 [IY a] rI:=Fe f191 0x81900442c655e8da38cc38b9c3 [] (FD.eq_1 ..)
instance(a b):CT (F5 a b) 261 [lI a,lI b] (rO (eL 2 Rg)):=H6 f261 0x8202cfc1056905d5c1056905c1fc6907bac1fc6907c1fc69073c02024802470f4630028a0ab60130b60196dcdcc1056905f0c1fc6907bc5e580165c10569059b0102c002406902 [] (F5.eq_1 ..) (BG 0 10 9 0 (hO 5 (eL 2 Rg))) (BG 2 7 0 0 (hO 5 (eL 2 Rg)))
instance(a):CT (Dh a) 192 [IY a] (rT (eL 2 Rg) (eL 2 Rg)):=Fe f192 0x82820e77044277da0e6c04426cda02400240c3 [] (Dh.eq_1 ..)
instance(a):CT (DL a) 262 [IY a] (rO lI):=B0 f262 0x820231c1083105d5c1083105c10831053cb3c40102d0016c0442a2913165c1083105dd59066ec00140c3 [] (DL.eq_1 ..) (BG 0 10 9 0 (hO 3 lI))
instance(a):CT (DE a) 193 [IY a] (rO lI):=B0 f193 0x8202e4d10b043106d5d10b043106d10b0431063cb3c401028ab8a7300e5c30b60177dabb81ec6bd6e465d10b043106dd0141026ec0820e08440140c3 [] (DE.eq_1 ..) (BG 0 13 12 0 (hO 4 lI))
instance(a b c):CT (Gf a b c) 194 [eI a,lI b,lI c] (rO lI):=H6 f194 0x82020a01201f1e0a04d5201f1e0a04201f1e0a043cb3c40102885e81910a0165201f1e0a049b9801c0070111100f070205d511100f07020511100f0702053c014de90114d030a29107016511100f0702059b81993f304002ca [.mkx 1 [.bool T] (.s 13)] (Gf.eq_1 ..) (BG 0 17 16 0 (hX 7 1 eB)) (BG 2 32 31 0 (hO 10 lI))
instance(a b c d):CT (KO a b c d) 122 [An a,An b,FP c,Aw d] (rT FP eI):=Fk f122 0x8013b81a602460e5c5c0b5c0e5a5ae576a6064681740e084481a60646bc74010b0182fb084455a60106ee0e0844084b16c9184638f3ace76092 [] [.cell 8 (Y 2),.tmp 9] λr h e f=>by
  unfold KO at h;exact nz
instance(a b c d e f):CT (IT a b c d e f) 263 [AO a,BP b,AI c,Bq d,Bp e,eB f] rI:=Fe f263 0xb4d0e25580fbc66b9aa8c801c6c6c6a880017c6ba8c8ad9aac936060cf [] (IT.eq_1 ..)
instance(a b c):CT (F6 a b c) 363 [eI a,lI b,lI c] (rO lI):=B0 f363 0x82180701e30d070205d5014de9913014a291070165e30d0702059b81991a3047014002ca [] (F6.eq_1 ..) (BG 0 15 14 0 (hX 7 1 eI))
instance(a b):CT (Mv a b) 384 [eI a,.pt [eI b]] rB:=Fe f384 0x81a50396fa [] (Mv.eq_1 ..)
instance(a b):CT (Kn a b) 377 [lI a,eI b] rI:=Fe f377 0xb48e1030c301 [] (Kn.eq_1 ..)
instance(a b):CT (JZ a b) 388 [lI a,eI b] rI:=Fe f388 0x81dc559cfa [] (JZ.eq_1 ..)
instance(a b c):CT (Dp a b c) 390 [.pt (SZ a).cells,eI b,eI c] rB:=Fe f390 0x813f07465da7030997015d5c030997015a6bd6770297f28acf965e0e0177059701bbec6bd67759593002ca [.bin (.a [0,0,0]) .eql (.s 38) (.s 57)] (Dp.eq_1 ..)
instance(a):CT (CI a) 389 [.pt (SZ a).cells] rB:=H6 f389 0xaa141312f1055f141312f105141312f10581880114131206f10626251413120604f109d5ff14131206f106018e0130d914131206f1066526251413120604f1099b7702975eff141312f10585012ca75cbb81ec6b0343fd141312f105dd0197595e740309978c01 [] (CI.eq_1 ..) (BA 0 20 19 0) (BG 2 38 37 0 (hT 6 eB))
noncomputable def a7:PC:=PC.of OK f387.body (xq bT 0xff00013cf70b97024802470246201d0acd201d09cd040bcd320001a4a30600045fa4a3060004a4a30600043c1f0a970151011e0acd320052321f0a97014fa9011e0acd32ffa4a30600048a0a20011d0a97b9030797b90820303281690165a4a30600049b7702cd81151d0acd817477595932151d0acd00013f3e3d0200055f3f3e3d0200053f3e3d0200053c1f09970151011e09cd323f3e3d0200053f3e3d0200053c005232a0321f0997014fa9011e09cd32ff3f3e3d0200058a0a20011d0997b9030797b90a08915d916c595932d297b9a501965e0e016c05cda25d6901653f3e3d020005dd5902cd81151d09cd81746c595932151d09cd005e050308cd0b030bcd0001) []
theorem yf:CK f387 a7 []:=b!
theorem y5:PC.pE a7=X/\PC.r0 0 a7=X:=b!
abbrev Q_387(n:Nat):Prop:=∀(f:AM),CT (BN n f) 387 [.undef] (λr=>.bo (C2 f) (C2 r) 0 [])
theorem yV(n:Nat)(_ih_387:Q_387 n)(f:AM):CT (BN (n+1) f) 387 [.undef] (λr=>.bo (C2 f) (C2 r) 0 []):=qh yf y5 λr h c b d=>by
  unfold a7;unfold f387;unfold BN at h;have:=BG 1 63 62 0 λs1:AM=>[(0,.bx (C2 s1))];have:=BG 3 164 163 0 λs3:AM=>[(0,.bx (C2 s3))];have:HJ 28 λ(a:AM)=>[(0,.bx (C2 a))]:=⟨⟩;exact nz
theorem yU:∀n:Nat,Q_387 n:=by
  intro n
  induction n with
  |zero=>exact(λf=>⟨λ_ h=>d!⟩)
  |succ n a=>exact yV n a
instance(f):CT (JI f) 387 [.undef] (λr=>.bo (C2 f) (C2 r) 0 []):=⟨λr h=>by
  obtain ⟨N,a⟩:=Cl h;exact((yU N) f).snd r (a N (aN _))⟩
theorem ye:CK f385 (Rq [Ac 6 0,Ac 7 1,Ac 8 2,Ac 9 3,⟨Y 12,.Aa8 2,W⟩] [4,5,6,7,8,9]<|Sq (Dr [13,14,15,16,17,18,19,20,21] [Ad 14 7 2,Ad 15 8 2,Ad 16 6 2,⟨Y 17,.call 259 [.s 16],W⟩,Ad 18 9 2,Aa 19 4,Aa 20 5,⟨Y 21,.bld [.list 1 [],.list 3 [],.list 1 [],.list 3 [],.list 1 [],.list 1 [],.list 1 [],.bool T,.int .i64 0,.nil,.nil,.nil] [(0,2,.s 14),(2,2,.s 15),(4,1,.s 17),(5,2,.s 18),(7,1,.s 19),(8,1,.s 20)],W⟩,⟨Y 22,.Aa7 [W,W,W,W,W,W,W,W,W,Y ⟨X,.xl 1 []⟩,Y ⟨X,.xl 1 []⟩,Y ⟨X,.list 2 []⟩] (.s 21),W⟩,⟨Y 13,.bad 22 0,W⟩] [13,22])<|Rq [Ae 23 13 0,⟨Y 24,.wi 387 [.s 23] 0,W⟩] [13,22]<|Rq [Ae 25 13 0,Ae 26 25 0,Ae 27 26 11,⟨Y 28,.ld (.s 27),W⟩,Ab 12 28] [12]<|.ret) [.tmp 12]:=b!
instance(a b c d e f):CT (LZ a b c d e f) 385 [AO a,An b,An c,Aw d,eB e,eI f] (rS (eL 2 Aw)):=Fi ye λr h g i=>by
  unfold LZ at h;exact au
instance(a b c d e):CT (Qj a b c d e) 378 [AO a,An b,An c,Aw d,eB e] (rT (eL 2 Aw) eI):=Fe f378 0xf5f202c0e001820e0138f3ac02406060e4 [] (Qj.eq_1 ..)
instance(a b c d e):CT (KX a b c d e) 364 [AO a,An b,An c,Aw d,eB e] (rT (eL 2 Aw) eI):=Fe f364 0xf56f0e0138f3a802c0c80b5c5c5502c0c8e55a5502c0cb5c0bf6e5e55502c0e838ac02406060e4 [] (KX.eq_1 ..)
instance(a b):CT (E0 a b) 268 [Rh a,lI b] (rT eI eI):=Fe f268 0xa20e01a881d074015a30db [] (E0.eq_1 ..)
instance(a b c d):CT (Dt a b c d) 365 [Ca a,BP b,Aw c,lI d] (rT lI eB):=qf f365 0xf5180a016867660a04d701c08820149ade05c99a05430a01656867660a04dd0442a5022c2b2a0b0ab708d701c08acf965e816f01201438cc2c2b2ae30b0ab70a2c2b2ae30b0ab70a3c014de9014de90577cc301401148a0817e90114585e6ccc815d5c5d5d5a5a5b41ccef06c9eae6a502652c2b2a0b0ab708ddcc0b0ab70522210b0ab707d5014de90114d90b0ab7056522210b0ab7079b01993fd4993f7401d41a013040936031 [.AaX 1 22 (.int .i64 0) (.s 27),.mkx 1 [.bool T] (.s 30)] (Dt.eq_1 ..) (BG 0 34 33 0 (hX 11 1 eB)) (BG 2 44 43 0 λs2:Fp×Ne=>[(10,.xo 1 (List.map eI s2.1)),(11,.xo 1 (List.map eB s2.2))]) (BA 4 104 103 0)
instance(a b c):CT (DF a b c) 353 [Ca a,AI b,Bp c] (rT (eL 3 Bp) eI):=B0 f353 0xf5020c013b3a390c6a0307d53b3a390c6a03073b3a390c6a03073c02034803471146013802a2fba7389a04420644a6e73802430c01653b3a390c6a03079b8103c05503c080fb030542f359cc38c6a6e702460e773277cc0b5c0ed86ccce5a608c93859046e0340ed [] (DF.eq_1 ..) (BG 0 59 58 0 (hO 12 (eL 3 Bp)))
abbrev AbB(n:Nat):Prop:=∀(a:Ba)(c:c9)(m:AN),CT (BS n a c m) 264 [Ca a,AI c,Bp m] (rT Ea eI)
abbrev Abz(n:Nat):Prop:=∀(a:Ba)(c:c9)(m:AN),CT (B6 n a c m) 313 [Ca a,AI c,Bp m] (rT Ea eI)
theorem yL(n:Nat)(_ih_264:AbB n)(_ih_313:Abz n)(a:Ba)(c:c9)(m:AN):CT (BS (n+1) a c m) 264 [Ca a,AI c,Bp m] (rT Ea eI):=Fk f264 0xbc4b124676de6f0e6bad0644bcbc4b124606014b4a49890306d7de01124685f2de134605479a80de12c97c6bad0644094b810bc9ad09780601654b4a49890306ddb5bcbc4b9a0a06022f2e2d0a890307d5f70442054805479a04044255de0112eede12c97c6bad0644094b0bc9ad09430a0602652f2e2d0a890307ddb512c9bcbc4b01124676de1246bcbc4b1246bca2de12497c6bad09435c0644bc83b912c9ed [] [.cell 6 (Y 5),.tmp 7] λr h b d=>by
  unfold BS at h;have:=BG 2 47 46 0 λs2:BC×BC=>[(6,.bx [⟨T,eI s2.1.x8⟩,⟨X,lI s2.1.gh.cE.bq⟩,⟨X,lI s2.1.gh.cE.ca⟩,⟨X,lI s2.1.gh.ek⟩,⟨X,H8 s2.1.ej⟩]),(10,.bx [⟨T,eI s2.2.x8⟩,⟨X,lI s2.2.gh.cE.bq⟩,⟨X,lI s2.2.gh.cE.ca⟩,⟨X,lI s2.2.gh.ek⟩,⟨X,H8 s2.2.ej⟩])];have:=BG 4 75 74 0 λs4:BC=>[(6,.bx [⟨T,eI s4.x8⟩,⟨X,lI s4.gh.cE.bq⟩,⟨X,lI s4.gh.cE.ca⟩,⟨X,lI s4.gh.ek⟩,⟨X,H8 s4.ej⟩])];exact nz
theorem yS(n:Nat)(_ih_264:AbB n)(_ih_313:Abz n)(a:Ba)(c:c9)(m:AN):CT (B6 (n+1) a c m) 313 [Ca a,AI c,Bp m] (rT Ea eI):=Fk f313 0xbc4b124606011b1a1906040306d7de01124685f2de144605479a6b6dde12c97c6bad09435c0644bb17c96b03430601651b1a19060403069bb4de0112eefb6bad06440112c9ed [] [.cell 6 (Y 5),.tmp 7] λr h b d=>by
  unfold B6 at h;have:=BG 0 27 26 0 λs0:BC=>[(6,.bx [⟨T,eI s0.x8⟩,⟨X,lI s0.gh.cE.bq⟩,⟨X,lI s0.gh.cE.ca⟩,⟨X,lI s0.gh.ek⟩,⟨X,H8 s0.ej⟩])];exact nz
theorem qp:∀n:Nat,AbB n/\Abz n:=by
  intro n
  induction n with
  |zero=>exact⟨(λb c m=>⟨λ_ h=>d!⟩),(λb c m=>⟨λ_ h=>d!⟩)⟩
  |succ n a=>exact⟨yL n a.1 a.2,yS n a.1 a.2⟩
instance(s_0 c m):CT (G4 s_0 c m) 264 [Ca s_0,AI c,Bp m] (rT Ea eI):=⟨λr h=>by
  obtain ⟨N,a⟩:=Cl h;exact((qp N).1 s_0 c m).snd r (a N (aN _))⟩
instance(s_0 c m):CT (P9 s_0 c m) 313 [Ca s_0,AI c,Bp m] (rT Ea eI):=⟨λr h=>by
  obtain ⟨N,a⟩:=Cl h;exact((qp N).2 s_0 c m).snd r (a N (aN _))⟩
instance(a b c d e f):CT (Gv a b c d e f) 195 [AO a,BP b,AI c,Bq d,Bp e,eB f] (rT Ea eI):=Fk f195 0xbc4b6f0e6bad1a46016ba8de0112ee0e016b6bad9aac12c9936060cf [] [.cell 12 (Y 5),.tmp 13] λr h g i=>by
  unfold Gv at h;exact nz
instance(a b c d e f):CT (Fy a b c d e f) 123 [AO a,BP b,AI c,Bq d,Bp e,eB f] (rT eB eI):=Fe f123 0xa258f2816dde12497c016b6bad9a3830936060cf [] (Fy.eq_1 ..)
instance(a):CT (Jf a) 124 [Bp a] (rS Bp):=Fk f124 0xb33bbb11460ea702460e77320ed817c9c3 [] [.cell 2 (Y 3)] λr h b c=>by
  unfold Jf at h;exact nz
instance(a):CT (KY a) 125 [Bq a] (rS Bq):=Fk f125 0xbb6b5b021312115b05d5f7026ec40148304704cc825d5b02651312115b05ddcc035010c93f3f0e77320ed810c9c3 [.tl [.w 9,.w 13],.tl [.g 14 0 2,.g 14 1 2,.z ⟨X,.list 1 []⟩]] [.cell 2 (Y 3)] λr h b c=>by
  unfold KY at h;have:=BG 0 19 18 0 λs0:AH=>[(3,.bx [⟨X,lI s0.ci.bq⟩,⟨X,lE s0.ci.ca⟩,⟨X,(eL 1 lI) s0.eg⟩])];exact nz
instance(a b):CT (MF a b) 126 [eI a,lI b] (rO lI):=B0 f126 0x8218cfd1cf04d5014de93014d1fc0106d1fc01063c01885e817c3081580165d1cf04819514993f30406902 [.mkx 1 [.int .i64 0] (.s 9)] (MF.eq_1 ..) (BG 0 13 12 0 (hX 5 1 eI))
instance(a b c d e f):CT (Ga a b c d e f) 127 [eI a,lI b,lI c,lI d,lI e,eI f] (rO lI):=H6 f127 0x82180d012b2a0d6ad52b2a0d6a2b2a0d6a5f304de930148517e90114d90d01652b2a0d6a8195140d05021615140d6a3108d5014de95d5d91303014a2910d0502651615140d6a31089b81991a30470140fe6906 [] (Ga.eq_1 ..) (BG 0 22 21 0 (hX 13 1 eI)) (BG 2 43 42 0 λs2:Int×Fp=>[(5,.tv (eI s2.1)),(13,.xo 1 (List.map eI s2.2))])
instance(a b):CT (ON a b) 198 [AO a,eI b] (rO lI):=B0 f198 0x820207011312110704d5b3c45c02ef04c9eae607016513121107049bf5a901fb01ac40db [] (ON.eq_1 ..) (BG 0 19 18 0 (hO 7 lI))
noncomputable def av:PC:=PC.of OK f128.body (xq bT 0x30b0afae0104d5b0afae0104b0afae01043cf701971f970348034707465da76c24cd5d5c6c24cd5ae4971fcd32e077591fcd917724cdbb81ec6bd63065b0afae0104ddb50701027b7a79073106d57b7a790731067b7a790731063c1f02411f9721221a01382302411fcdb94a59591f9701c4010459591fcd32e06c591fcd916c24cda291070102657b7a79073106dd320731bb4a4907063107d5f701971f970348034707465da76c22cd5d5c6c22cd5ae4971fcd32bbec6bd67732815d073103654b4a4907063107ddb5fc31051e1d1cfc3108d51f02411f972122014f91e2562302411fcdb94a59591f9701c491d80459591fcd32815dfc3105651e1d1cfc3108dd32a6bb08c910c93859069759326b1ccd6030) []
theorem yY:CK f128 av []:=b!
theorem yx:PC.pE av=X/\PC.r0 1 av=X:=b!
instance(a b c):CT (ME a b c) 128 [AO a,.undef,FP c] (λr=>.bo (Da b) (Da r) 1 []):=qh yY yx λr h e d f=>by
  unfold av;unfold f128;unfold ME at h;have:=BG 0 30 29 0 λs0:Au=>[(1,.bx (Da s0))];have:=BG 2 75 74 0 λs2:Au=>[(1,.bx (Da s2))];have:=BG 4 123 122 0 λs4:Au=>[(1,.bx (Da s4))];have:=BG 6 176 175 0 λs6:Au=>[(1,.bx (Da s6))];exact nz
theorem yb:CK f199 (.seq (.region [⟨Y 1,.Aa3 (.s 0),W⟩,
    ⟨Y 2,.mv (.c .undef),W⟩,
    ⟨Y 3,.mv (.c (.int .i64 0)),W⟩] [1])
 (.seq (.region [⟨Y 12,.mkm,W⟩,
    ⟨Y 4,.mvm 12,W⟩] [1,4,12])
 (.seq (.seq (.region [⟨Y 13,.bad 1 0,W⟩,
    ⟨Y 14,.zt (.s 13) 6,W⟩,
    ⟨Y 15,.zt (.s 14) 2,W⟩,
    ⟨Y 16,.ld (.s 15),W⟩,
    ⟨Y 17,.len (.s 16),W⟩,
    ⟨Y 18,.mv (.c (.int .i64 0)),W⟩] [1,4,12,16,17,18])
 (.block 0 (.loop [1,4,12,16,17,18] (.seq (.region [⟨Y 19,.bin (.i) .lss (.s 18) (.s 17),W⟩] [1,4,12,16,17,18,19])
 (.seq (.cond (.s 19) (.skip [1,4,12,16,17,18])
 (.exit 0 [4,12]))
 (.seq (.block 1 (.seq (.region [⟨Y 20,.iad (.s 16) (.s 18) 4,W⟩,
    ⟨Y 21,.lda (.s 20) 4,W⟩,
    ⟨Y 6,.alc [⟨T,.int .i64 0⟩,⟨T,.int .i64 0⟩,⟨T,.int .i64 0⟩,⟨T,.int .i64 0⟩],W⟩,
    ⟨W,.stb 4 6 (.s 21),W⟩] [1,4,6,12,16,17,18])
 (.seq (.region [⟨Y 23,.bad 6 2,W⟩,
    ⟨Y 24,.lda (.s 23) 2,W⟩,
    ⟨Y 25,.bad 1 25,W⟩,
    ⟨Y 26,.zt (.s 25) 2,W⟩,
    ⟨Y 27,.ld (.s 26),W⟩,
    ⟨Y 28,.call 268 [.s 24,.s 27],W⟩,
    ⟨Y 22,.mv (.s 28),W⟩,
    ⟨Y 29,.ext (.s 22) 0,W⟩,
    ⟨Y 30,.ext (.s 22) 1,W⟩,
    ⟨Y 7,.mv (.s 29),W⟩,
    ⟨Y 8,.mv (.s 30),W⟩] [1,4,6,7,8,12,16,17,18])
 (.seq (.seq (.region [⟨Y 31,.mv (.s 8),W⟩,
    ⟨Y 32,.bin (.i) .neq (.s 31) (.c (.int .i64 0)),W⟩] [1,4,6,7,8,12,16,17,18,32])
 (.cond (.s 32) (.seq (.region [⟨Y 33,.mv (.s 8),W⟩,
    ⟨Y 2,.mv (.c .undef),W⟩,
    ⟨Y 3,.mv (.s 33),W⟩] [2,3,12])
 .ret)
 (.skip [1,4,6,7,12,16,17,18])))
 (.seq (.draw [9,34,35,36,37,38,39,40,41,42,43] [⟨Y 34,.bad 1 36,W⟩,
    ⟨Y 35,.zt (.s 34) 0,W⟩,
    ⟨Y 36,.ld (.s 35),W⟩,
    ⟨Y 37,.bad 6 0,W⟩,
    ⟨Y 38,.ld (.s 37),W⟩,
    ⟨Y 39,.iad (.s 36) (.s 38) 1,W⟩,
    ⟨Y 40,.ld (.s 39),W⟩,
    ⟨Y 41,.bad 6 1,W⟩,
    ⟨Y 42,.ld (.s 41),W⟩,
    ⟨Y 43,.bld [.int .i64 0,.int .i64 0] [(0,1,.s 40),(1,1,.s 42)],W⟩,
    ⟨Y 9,.alc [⟨T,.int .i64 0⟩,⟨T,.int .i64 0⟩],W⟩,
    ⟨W,.stb 2 9 (.s 43),W⟩] [1,4,7,9,12,16,17,18])
 (.seq (.seq (.region [⟨Y 45,.mv (.s 4),W⟩,
    ⟨Y 46,.lda (.s 9) 2,W⟩,
    ⟨Y 47,.mlk 12 (.s 45) (.s 46),W⟩,
    ⟨Y 44,.mv (.s 47),W⟩,
    ⟨Y 48,.ext (.s 44) 0,W⟩,
    ⟨Y 49,.ext (.s 44) 1,W⟩,
    ⟨Y 10,.mv (.s 48),W⟩,
    ⟨Y 11,.mv (.s 49),W⟩] [1,4,7,9,10,11,12,16,17,18])
 (.seq (.region [⟨Y 50,.mv (.s 11),W⟩,
    ⟨Y 51,.mv (.s 50),W⟩,
    ⟨Y 52,.mv (.s 10),Y (51,X)⟩,
    ⟨Y 53,.mv (.s 7),Y (51,X)⟩,
    ⟨Y 54,.bin (.i) .neq (.s 52) (.s 53),Y (51,X)⟩,
    ⟨Y 55,.pick (.s 51) (.s 54) (.c (.bool T)),W⟩] [1,4,7,9,12,16,17,18,55])
 (.cond (.s 55) (.seq (.region [⟨Y 2,.mv (.c .undef),W⟩,
    ⟨Y 3,.mv (.c (.int .i64 11)),W⟩] [2,3,12])
 .ret)
 (.skip [1,4,7,9,12,16,17,18]))))
 (.region [⟨Y 56,.mv (.s 4),W⟩,
    ⟨Y 57,.lda (.s 9) 2,W⟩,
    ⟨Y 58,.mv (.s 7),W⟩,
    ⟨W,.mup 12 (.s 56) (.s 57) (.s 58),W⟩] [1,4,12,16,17,18])))))))
 (.region [⟨Y 59,.bin (.i) .add (.s 18) (.c (.int .i64 1)),W⟩,
    ⟨Y 18,.mv (.s 59),W⟩] [1,4,12,16,17,18])))))))
 (.seq (.region [⟨Y 60,.mv (.s 4),W⟩,
    ⟨Y 2,.mv (.s 60),W⟩,
    ⟨Y 3,.mv (.c (.int .i64 0)),W⟩] [2,3,12])
 .ret)))) [.tmp 2,.tmp 3]:=b!
instance ABR(s:Au):Ct Go.Proofs.Tryz.prog (IF s) 199 [fQ s] Nt:=FiM yb λr h d e=>by
  unfold IF at h;have K:∀b:Nat,HA 0 18 17 0 λ(a:Int)(c:BZ)=>[(12,.mx (.mp b c)),(18,.tv (eI a))]:=λ_=>⟨⟩;have:zw 12:=⟨⟩;exact au
theorem ZP(t:AC)(s:Au)(κ:List Fp)(p:(Int×Int)×Int)(a:BZ)(r:B3 (List Fp) Unit)(h:Rl t s κ p=Y r):WP (AV Go.Proofs.Tryz.prog) (.block 1 (.seq (.region [⟨Y 25,.men 22,W⟩,
    ⟨Y 26,.ext (.s 25) 0,W⟩,
    ⟨Y 27,.ext (.s 25) 1,W⟩,
    ⟨Y 7,.alc [⟨T,.int .i64 0⟩,⟨T,.int .i64 0⟩],W⟩,
    ⟨W,.stb 2 7 (.s 26),W⟩,
    ⟨Y 8,.mv (.s 27),W⟩] [1,2,7,8,22])
 (.seq (.draw [9,10,28,29,30,31,32,33,34,35,36,37,38,39,40,41,42] [⟨Y 29,.lda (.s 2) 2,W⟩,
    ⟨Y 30,.bad 1 0,W⟩,
    ⟨Y 31,.zt (.s 30) 0,W⟩,
    ⟨Y 32,.zt (.s 31) 31,W⟩,
    ⟨Y 33,.zt (.s 32) 0,W⟩,
    ⟨Y 34,.zt (.s 33) 0,W⟩,
    ⟨Y 35,.ld (.s 34),W⟩,
    ⟨Y 36,.bad 7 0,W⟩,
    ⟨Y 37,.ld (.s 36),W⟩,
    ⟨Y 38,.iad (.s 35) (.s 37) 1,W⟩,
    ⟨Y 39,.ld (.s 38),W⟩,
    ⟨Y 40,.call 200 [.s 29,.s 39],W⟩,
    ⟨Y 28,.mv (.s 40),W⟩,
    ⟨Y 41,.ext (.s 28) 0,W⟩,
    ⟨Y 42,.ext (.s 28) 1,W⟩,
    ⟨Y 9,.mv (.s 41),W⟩,
    ⟨Y 10,.mv (.s 42),W⟩] [1,2,7,8,9,22])
 (.seq (.seq (.region [⟨Y 43,.mv (.s 8),W⟩,
    ⟨Y 44,.mv (.s 9),W⟩,
    ⟨Y 45,.bad 7 1,W⟩,
    ⟨Y 46,.ld (.s 45),W⟩,
    ⟨Y 47,.iad (.s 44) (.s 46) 4,W⟩,
    ⟨Y 48,.zt (.s 47) 1,W⟩,
    ⟨Y 49,.ld (.s 48),W⟩,
    ⟨Y 50,.bin (.i) .lss (.s 43) (.s 49),W⟩,
    ⟨Y 51,.mv (.s 50),W⟩,
    ⟨Y 52,.mv (.s 8),Y (51,T)⟩,
    ⟨Y 53,.mv (.s 9),Y (51,T)⟩,
    ⟨Y 54,.bad 7 1,Y (51,T)⟩,
    ⟨Y 55,.ld (.s 54),Y (51,T)⟩,
    ⟨Y 56,.iad (.s 53) (.s 55) 4,Y (51,T)⟩,
    ⟨Y 57,.zt (.s 56) 2,Y (51,T)⟩,
    ⟨Y 58,.ld (.s 57),Y (51,T)⟩,
    ⟨Y 59,.bin (.i) .gtr (.s 52) (.s 58),Y (51,T)⟩,
    ⟨Y 60,.pick (.s 51) (.c (.bool X)) (.s 59),W⟩] [1,2,7,8,22,60])
 (.cond (.s 60) (.seq (.region [⟨Y 4,.mv (.c (.int .i64 6)),W⟩] [1,4])
 .ret)
 (.skip [1,2,7,8,22])))
 (.draw [61,62,63,64,65,66,67,68,69,70,71,72,73] [⟨Y 61,.bad 1 0,W⟩,
    ⟨Y 62,.zt (.s 61) 0,W⟩,
    ⟨Y 63,.zt (.s 62) 31,W⟩,
    ⟨Y 64,.zt (.s 63) 2,W⟩,
    ⟨Y 65,.lan (.s 64),W⟩,
    ⟨Y 66,.bad 7 0,W⟩,
    ⟨Y 67,.ld (.s 66),W⟩,
    ⟨Y 68,.nia (.s 65) (.s 67),W⟩,
    ⟨Y 69,.nld (.s 68),W⟩,
    ⟨Y 70,.bad 7 1,W⟩,
    ⟨Y 71,.ld (.s 70),W⟩,
    ⟨Y 72,.mv (.s 8),W⟩,
    ⟨Y 73,.nia (.s 69) (.s 71),W⟩,
    ⟨W,.nst (.s 73) (.s 72),W⟩] [1,2,22]))))) ⟨λe=>∃b,r=.next b/\Rn (e.em [1,2,22]) [(1,.bx (Da (OL s b))),(2,.tv (.pt (AO t).cells)),(22,.mx (.mi (Y p) a))],λ_ _=>False,λe=>∃v,r=.ret v/\Rn e [(1,.bx (Da (OL s κ))),(4,.tv (eI 6))]⟩ [(1,.bx (Da (OL s κ))),(2,.tv (.pt (AO t).cells)),(22,.mx (.mi (Y p) a))]:=by
  unfold Rl at h;exact au
noncomputable def aw:PC:=(.seq (.region [⟨Y 2,.Aa3 (.s 0),W⟩,
    ⟨Y 4,.mv (.c (.int .i64 0)),W⟩] [1,2])
 (.seq (.region [⟨Y 12,.bad 1 0,W⟩,
    ⟨Y 13,.zt (.s 12) 0,W⟩,
    ⟨Y 14,.lda (.s 13) 38,W⟩,
    ⟨Y 15,.Aan 199 [.s 14],W⟩,
    ⟨Y 11,.mvm 15,W⟩,
    ⟨Y 16,.ext (.s 11) 0,W⟩,
    ⟨Y 17,.ext (.s 11) 1,W⟩,
    ⟨Y 5,.mv (.s 16),W⟩,
    ⟨Y 6,.mv (.s 17),W⟩] [1,2,5,6,15])
 (.seq (.seq (.region [⟨Y 18,.mv (.s 6),W⟩,
    ⟨Y 19,.bin (.i) .neq (.s 18) (.c (.int .i64 0)),W⟩] [1,2,5,6,15,19])
 (.cond (.s 19) (.seq (.region [⟨Y 20,.mv (.s 6),W⟩,
    ⟨Y 4,.mv (.s 20),W⟩] [1,4])
 .ret)
 (.skip [1,2,5,15])))
 (.seq (.seq (.region [⟨Y 21,.mv (.s 5),W⟩,
    ⟨Y 22,.pc 15 (.s 21),W⟩] [1,2,22])
 (.block 0 (.loop [1,2,22] (.seq (.region [⟨Y 23,.mnx 22,W⟩,
    ⟨Y 24,.ext (.s 23) 0,W⟩] [1,2,22,24])
 (.seq (.cond (.s 24) (.skip [1,2,22])
 (.exit 0 [1]))
 (.block 1 (.seq (.region [⟨Y 25,.men 22,W⟩,
    ⟨Y 26,.ext (.s 25) 0,W⟩,
    ⟨Y 27,.ext (.s 25) 1,W⟩,
    ⟨Y 7,.alc [⟨T,.int .i64 0⟩,⟨T,.int .i64 0⟩],W⟩,
    ⟨W,.stb 2 7 (.s 26),W⟩,
    ⟨Y 8,.mv (.s 27),W⟩] [1,2,7,8,22])
 (.seq (.draw [9,10,28,29,30,31,32,33,34,35,36,37,38,39,40,41,42] [⟨Y 29,.lda (.s 2) 2,W⟩,
    ⟨Y 30,.bad 1 0,W⟩,
    ⟨Y 31,.zt (.s 30) 0,W⟩,
    ⟨Y 32,.zt (.s 31) 31,W⟩,
    ⟨Y 33,.zt (.s 32) 0,W⟩,
    ⟨Y 34,.zt (.s 33) 0,W⟩,
    ⟨Y 35,.ld (.s 34),W⟩,
    ⟨Y 36,.bad 7 0,W⟩,
    ⟨Y 37,.ld (.s 36),W⟩,
    ⟨Y 38,.iad (.s 35) (.s 37) 1,W⟩,
    ⟨Y 39,.ld (.s 38),W⟩,
    ⟨Y 40,.call 200 [.s 29,.s 39],W⟩,
    ⟨Y 28,.mv (.s 40),W⟩,
    ⟨Y 41,.ext (.s 28) 0,W⟩,
    ⟨Y 42,.ext (.s 28) 1,W⟩,
    ⟨Y 9,.mv (.s 41),W⟩,
    ⟨Y 10,.mv (.s 42),W⟩] [1,2,7,8,9,22])
 (.seq (.seq (.region [⟨Y 43,.mv (.s 8),W⟩,
    ⟨Y 44,.mv (.s 9),W⟩,
    ⟨Y 45,.bad 7 1,W⟩,
    ⟨Y 46,.ld (.s 45),W⟩,
    ⟨Y 47,.iad (.s 44) (.s 46) 4,W⟩,
    ⟨Y 48,.zt (.s 47) 1,W⟩,
    ⟨Y 49,.ld (.s 48),W⟩,
    ⟨Y 50,.bin (.i) .lss (.s 43) (.s 49),W⟩,
    ⟨Y 51,.mv (.s 50),W⟩,
    ⟨Y 52,.mv (.s 8),Y (51,T)⟩,
    ⟨Y 53,.mv (.s 9),Y (51,T)⟩,
    ⟨Y 54,.bad 7 1,Y (51,T)⟩,
    ⟨Y 55,.ld (.s 54),Y (51,T)⟩,
    ⟨Y 56,.iad (.s 53) (.s 55) 4,Y (51,T)⟩,
    ⟨Y 57,.zt (.s 56) 2,Y (51,T)⟩,
    ⟨Y 58,.ld (.s 57),Y (51,T)⟩,
    ⟨Y 59,.bin (.i) .gtr (.s 52) (.s 58),Y (51,T)⟩,
    ⟨Y 60,.pick (.s 51) (.c (.bool X)) (.s 59),W⟩] [1,2,7,8,22,60])
 (.cond (.s 60) (.seq (.region [⟨Y 4,.mv (.c (.int .i64 6)),W⟩] [1,4])
 .ret)
 (.skip [1,2,7,8,22])))
 (.draw [61,62,63,64,65,66,67,68,69,70,71,72,73] [⟨Y 61,.bad 1 0,W⟩,
    ⟨Y 62,.zt (.s 61) 0,W⟩,
    ⟨Y 63,.zt (.s 62) 31,W⟩,
    ⟨Y 64,.zt (.s 63) 2,W⟩,
    ⟨Y 65,.lan (.s 64),W⟩,
    ⟨Y 66,.bad 7 0,W⟩,
    ⟨Y 67,.ld (.s 66),W⟩,
    ⟨Y 68,.nia (.s 65) (.s 67),W⟩,
    ⟨Y 69,.nld (.s 68),W⟩,
    ⟨Y 70,.bad 7 1,W⟩,
    ⟨Y 71,.ld (.s 70),W⟩,
    ⟨Y 72,.mv (.s 8),W⟩,
    ⟨Y 73,.nia (.s 69) (.s 71),W⟩,
    ⟨W,.nst (.s 73) (.s 72),W⟩] [1,2,22]))))))))))
 (.seq (.region [⟨Y 4,.mv (.c (.int .i64 0)),W⟩] [1,4])
 .ret)))))
theorem yZ:CK f129 aw [.tmp 4]:=b!
theorem yy:PC.pE aw=X/\PC.r0 1 aw=X:=b!
variable{t:AC}{s:Au}
theorem iy{p:(Int×Int)×Int}{b:Bool}(h:Rm t s p=Y b){κ:List Fp}(a:Lk κ s.fq.eg):
    (b=X->Rl t s κ p=Y (.next (CJ κ p)))/\(b=T->Rl t s κ p=Y (.ret ())):=by
  unfold Rm Rl at h;unfold Rl;obtain⟨c,d,h⟩:=bind_some h;obtain⟨q,f,d⟩:=bind_some d;obtain⟨r,g,d⟩:=bind_some d;obtain⟨u,i,d⟩:=bind_some d;obtain⟨j,k,d⟩:=bind_some d;simp only[f,g,i,v?]at *;rw[k,v?];cases j with
  |true=>
    simp only[if_true,kx]at d|-;subst d;simp only[kx]at h;subst h;exact⟨λe=>r!,λ_=>trivial⟩
  |false=>
    simp only[Bool.false_eq_true,if_false]at d|-;obtain⟨v,l,d⟩:=bind_some d;obtain⟨w,m,d⟩:=bind_some d;cases d;simp only[kx]at h;subst h;obtain⟨x,x',n,o⟩:=a.idx l m;refine⟨λ_=>?_,λe=>r!⟩;rw[n,v?,o,v?,bn n o]
theorem kh{a:BZ}{c:Bool}(n:a.Dis)(f:Ta (Rm t s) a=Y c){M z:AB->Prop}{x:Nat->AB->Prop}{d:AB->Prop}
    (g:c=X->z [(1,.bx (Da (OL s (a.foldl CJ s.fq.eg))))])(m:c=T->∀κ,d [(1,.bx (Da (OL s κ))),(4,.tv (eI 6))]):
    WP (AV Go.Proofs.Tryz.prog) (.loop [1,2,22] (.seq (.region [⟨Y 23,.mnx 22,W⟩,
    ⟨Y 24,.ext (.s 23) 0,W⟩] [1,2,22,24])
 (.seq (.cond (.s 24) (.skip [1,2,22])
 (.exit 0 [1]))
 (.block 1 (.seq (.region [⟨Y 25,.men 22,W⟩,
    ⟨Y 26,.ext (.s 25) 0,W⟩,
    ⟨Y 27,.ext (.s 25) 1,W⟩,
    ⟨Y 7,.alc [⟨T,.int .i64 0⟩,⟨T,.int .i64 0⟩],W⟩,
    ⟨W,.stb 2 7 (.s 26),W⟩,
    ⟨Y 8,.mv (.s 27),W⟩] [1,2,7,8,22])
 (.seq (.draw [9,10,28,29,30,31,32,33,34,35,36,37,38,39,40,41,42] [⟨Y 29,.lda (.s 2) 2,W⟩,
    ⟨Y 30,.bad 1 0,W⟩,
    ⟨Y 31,.zt (.s 30) 0,W⟩,
    ⟨Y 32,.zt (.s 31) 31,W⟩,
    ⟨Y 33,.zt (.s 32) 0,W⟩,
    ⟨Y 34,.zt (.s 33) 0,W⟩,
    ⟨Y 35,.ld (.s 34),W⟩,
    ⟨Y 36,.bad 7 0,W⟩,
    ⟨Y 37,.ld (.s 36),W⟩,
    ⟨Y 38,.iad (.s 35) (.s 37) 1,W⟩,
    ⟨Y 39,.ld (.s 38),W⟩,
    ⟨Y 40,.call 200 [.s 29,.s 39],W⟩,
    ⟨Y 28,.mv (.s 40),W⟩,
    ⟨Y 41,.ext (.s 28) 0,W⟩,
    ⟨Y 42,.ext (.s 28) 1,W⟩,
    ⟨Y 9,.mv (.s 41),W⟩,
    ⟨Y 10,.mv (.s 42),W⟩] [1,2,7,8,9,22])
 (.seq (.seq (.region [⟨Y 43,.mv (.s 8),W⟩,
    ⟨Y 44,.mv (.s 9),W⟩,
    ⟨Y 45,.bad 7 1,W⟩,
    ⟨Y 46,.ld (.s 45),W⟩,
    ⟨Y 47,.iad (.s 44) (.s 46) 4,W⟩,
    ⟨Y 48,.zt (.s 47) 1,W⟩,
    ⟨Y 49,.ld (.s 48),W⟩,
    ⟨Y 50,.bin (.i) .lss (.s 43) (.s 49),W⟩,
    ⟨Y 51,.mv (.s 50),W⟩,
    ⟨Y 52,.mv (.s 8),Y (51,T)⟩,
    ⟨Y 53,.mv (.s 9),Y (51,T)⟩,
    ⟨Y 54,.bad 7 1,Y (51,T)⟩,
    ⟨Y 55,.ld (.s 54),Y (51,T)⟩,
    ⟨Y 56,.iad (.s 53) (.s 55) 4,Y (51,T)⟩,
    ⟨Y 57,.zt (.s 56) 2,Y (51,T)⟩,
    ⟨Y 58,.ld (.s 57),Y (51,T)⟩,
    ⟨Y 59,.bin (.i) .gtr (.s 52) (.s 58),Y (51,T)⟩,
    ⟨Y 60,.pick (.s 51) (.c (.bool X)) (.s 59),W⟩] [1,2,7,8,22,60])
 (.cond (.s 60) (.seq (.region [⟨Y 4,.mv (.c (.int .i64 6)),W⟩] [1,4])
 .ret)
 (.skip [1,2,7,8,22])))
 (.draw [61,62,63,64,65,66,67,68,69,70,71,72,73] [⟨Y 61,.bad 1 0,W⟩,
    ⟨Y 62,.zt (.s 61) 0,W⟩,
    ⟨Y 63,.zt (.s 62) 31,W⟩,
    ⟨Y 64,.zt (.s 63) 2,W⟩,
    ⟨Y 65,.lan (.s 64),W⟩,
    ⟨Y 66,.bad 7 0,W⟩,
    ⟨Y 67,.ld (.s 66),W⟩,
    ⟨Y 68,.nia (.s 65) (.s 67),W⟩,
    ⟨Y 69,.nld (.s 68),W⟩,
    ⟨Y 70,.bad 7 1,W⟩,
    ⟨Y 71,.ld (.s 70),W⟩,
    ⟨Y 72,.mv (.s 8),W⟩,
    ⟨Y 73,.nia (.s 69) (.s 71),W⟩,
    ⟨W,.nst (.s 73) (.s 72),W⟩] [1,2,22])))))))) ⟨M,λj e=>if j=0 then z e else x j e,d⟩ [(1,.bx (Da s)),(2,.tv (.pt (AO t).cells)),(22,.mx (.mi W a))]:=by
  obtain ⟨m1,R⟩:=Xu f;refine⟨uA _ (σ:=List Fp×Option ((Int×Int)×Int)×BZ) (λσ=>[(1,.bx (Da (OL s σ.1))),(2,.tv (.pt (AO t).cells)),(22,.mx (.mi σ.2.1 σ.2.2))])
    (λσ=>Lk σ.1 s.fq.eg/\(∀l,σ.2.2.Perm l->l.foldl CJ σ.1=a.foldl CJ s.fq.eg)/\(∀p∈σ.2.2,p∈a)/\(c=T->∃p∈σ.2.2,Rm t s p=Y T))
    (λσ=>σ.2.2.length) (s.fq.eg,W,a) rfl ⟨rfl,λl A=>XQ n A _,λp r=>r,R⟩ ?_⟩
  rintro ⟨κ,last,u⟩ ⟨I,J,K,L⟩ η;refine WP.out (?_:WP _ _ _ _);apply Kt;apply QM;refine zb rfl a_ (λe=>?_) (λp o r=>?_)
  · simp only at e
    subst e;have P:c=X:=by
      cases c with
      |true=>rfl|false=>obtain⟨p,r,_⟩:=L rfl;cases r
    have Q:κ=a.foldl CJ s.fq.eg:=J [] (List.Perm.refl _);apply st 1;exact rfl;exact λ_ k=>k;apply Nb;exact v!;intro C;apply Kt;apply ST;exact rfl;exact rfl;apply kM;exact v!;show(if(0:Nat)=0 then z [(1,.bx (Da (OL s κ)))]else x 0 [(1,.bx (Da (OL s κ)))]);rw[QQ rfl,Q];exact g P
  · apply st 1;exact rfl;exact λ_ k=>k
    apply Nb;exact v!;intro C;apply Kt;apply SU;exact rfl;exact rfl;apply bL;exact v!;intro O;have D:p∈u:=r.mem_iff.2 V;obtain⟨b,H,E⟩:=m1 p (K p D);obtain⟨S,θ⟩:=iy H I;cases b with
    |true=>
      refine ⟨PC.gF _ _ _ _ (ZP t s κ p o _ (S rfl)).out _ (λe he=>?_) (λ_ _ h=>h.elim) (λe he=>?_)⟩
      · obtain⟨ε,y,F⟩:=he
        cases y;refine⟨(CJ κ p,Y p,o),F.out,⟨(ZO κ p).trans I,λl A=>?_,λq B=>K q (r.mem_iff.2 (by simp[B])),λN=>?_⟩,?_⟩
        .exact J (p::l) (r.trans (A.cons p))
        · obtain⟨q,B,w⟩:=L N
          rcases List.mem_cons.1 (r.mem_iff.1 B)with rfl|G
          .rw[H]at w;cases w
          .exact⟨q,G,w⟩
        · have:=r.length_eq
          simp only[ae]at this;show o.length<u.length;omega
      · obtain⟨v,y,_⟩:=he
        cases y
    |false=>
      refine ⟨PC.gF _ _ _ _ (ZP t s κ p o _ (θ rfl)).out _ (λe he=>?_) (λ_ _ h=>h.elim) (λe he=>?_)⟩
      · obtain⟨ε,y,_⟩:=he
        cases y
      · obtain⟨v,_,F⟩:=he
        rw [F.out];exact m (by cases c with|false=>rfl|true=>exact absurd (E rfl) V) κ
instance ABO(t:AC)(s:Au):Ct Go.Proofs.Tryz.prog (P6 t s) 129 [AO t,.undef] (λr=>.bo (Da s) (if(!decide (r.1=0))=X then(Da r.2).set 33 ⟨T,.undef⟩else Da r.2) 1 [eI r.1]):=AAD yZ yy λr h v l=>by
  unfold aw;unfold P6 at h;obtain⟨a,q,h⟩:=bind_some h;have d:=(inferInstance:Ct Go.Proofs.Tryz.prog (IF s) 199 [fQ s] Nt).snd a q;apply Kt;apply QM;apply st 1;exact rfl;exact λ_ k=>k;apply st 1;exact rfl;exact λ_ k=>k;apply Nb;exact v!;intro m;apply Kt;apply QM;apply st 1;exact rfl;exact λ_ k=>k;apply st 1;exact rfl;exact λ_ k=>k;apply st 2;exact rfl;exact λ_ k=>⟨Nat.le_of_ble_eq_true rfl,k⟩;by_cases he:a.2=0
  · have e:Nt a=.mpr a.1 [.int .i64 a.2]:=QQ he
    rw [e]at d;rw[aE (by simp[he])]at h;split at h
    · rename_i hd
      have hd:BZ.Dis a.1:=(show List.Pairwise (λx y:(Int×Int)×Int=>x.1≠y.1) a.1 from of_decide_eq_true hd);obtain⟨c,u,h⟩:=bind_some h;refine pP rfl d (λb=>?_);apply st 1;exact rfl;exact λ_ k=>k;apply st 1;exact rfl;exact λ_ k=>k;apply st 1;exact rfl;exact λ_ k=>k;apply st 1;exact rfl;exact λ_ k=>k;apply st 1;exact rfl;exact λ_ k=>k;apply Nb;exact v!;intro g;apply Kt;apply Kt;apply QM;apply st 1;exact rfl;exact λ_ k=>k;apply st 1;exact rfl;exact λ_ k=>k;apply Nb;exact v!;intro i;apply ST;exact rfl;simp[he];apply bL;exact v!;intro j;apply Kt;apply Kt;apply QM;apply st 1;exact rfl;exact λ_ k=>k;apply st 2;exact rfl;exact λ_ k=>⟨⟨a_,rfl⟩,k⟩;apply Nb;exact v!;intro n;apply fE;refine kh hd u (λf=>?_) (λf κ=>?_)
      · intro o
        apply Kt;apply QM;apply st 1;exact rfl;exact λ_ k=>k;apply Nb;exact v!;intro p;apply iZ;rw[QQ f]at h;cases h;exact⟨_,Wk.refl _,rfl,rfl⟩
      · rw[aE (by simp[f])]at h
        cases h;refine⟨_,?_,rfl,rfl⟩;exact Wk.set (Da (OL s κ)) 33
    .cases h
  · have e:Nt a=.tp [.undef,.int .i64 a.2]:=aE he
    rw [e]at d;rw[QQ (by simp[he])]at h;refine pO rfl d ?_;apply st 1;exact rfl;exact λ_ k=>k;apply st 1;exact rfl;exact λ_ k=>k;apply st 1;exact rfl;exact λ_ k=>k;apply st 1;exact rfl;exact λ_ k=>k;apply st 1;exact rfl;exact λ_ k=>k;apply Nb;exact v!;intro g;apply Kt;apply Kt;apply QM;apply st 1;exact rfl;exact λ_ k=>k;apply st 1;exact rfl;exact λ_ k=>k;apply Nb;exact v!;intro i;apply SU;exact rfl;simp[he];apply Kt;apply QM;apply st 1;exact rfl;exact λ_ k=>k;apply st 1;exact rfl;exact λ_ k=>k;apply Nb;exact v!;intro j;apply iZ;cases h;simp only[he,decide_false,Bool.not_false,if_true];exact⟨_,Wk.set (Da s) 33,rfl,rfl⟩
end Go.Sf.Sc
