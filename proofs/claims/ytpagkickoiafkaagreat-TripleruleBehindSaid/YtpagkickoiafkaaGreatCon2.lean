/- Contracts of the functions. -/
import Derived.Test.YtpagkickoiafkaaGreatCon1
set_option linter.all false
set_option maxRecDepth 100000
set_option maxHeartbeats 4000000
open Option renaming some->Y,none->W
open Bool renaming true->X,false->T
open Option renaming bind_some->l!
namespace Go.Sf.Sc
open Go Go.Sf Go.Proofs.Tryz
theorem l'{p:Prop}(h:p:=by repeat(first|exact EJ|(apply F8;exact rfl)|(apply F5;exact rfl)|(apply F6;exact rfl)|(apply F9;exact rfl)|(apply F7;exact rfl))):p:=h
instance(a b):CT (L0 a b) 311 [AK a,eI b] (rT lI eI):=BJ f311 0xf50207011312070258d5131207025813120702583cb3c401028e3038d907016513120702589b9fc05501c0c8a901383040db [] (L0.eq_1 ..) (As 0 19 18 0 (hO 7 lI))
instance(a):CT (IM a) 259 [AK a] (rO (eL 1 (eL 1 eB))):=D4 f259 0x820231d13104d5b3c41802d10531051c1b1ad1053108d5014de90114815dd1053105651c1b1ad10531089bd9fb0138993fe5d93165d131049b9fc00140c3 [.lY 1 [.bool T] (.s 18)] (IM.eq_1 ..) (As 0 13 12 0 (hO 3 (eL 1 (eL 1 eB)))) (As 2 28 27 0 (hX 5 1 eB))
instance(a b c d):CT (IP a b c d) 190 [AK a,AU b,AU c,Aj d] rI:=D4 f190 0xaa474645fc06d7f4a75da75a585c5d5c5a55855a5abbbbecec6bd65c6bd65c55cb5c965e815dfd474645fc06ddb5fc0325242309fc07d7885d915a5d919f55cb5a965e8191fc036525242309fc07dd32829055cb5c0bf6e50b9f6092 [] (IP.eq_1 ..) (Ap 0 37 36 0) (Ap 2 71 70 0)
theorem fX(l:Fp)(r:Bool)(h:GW l=Y r):AO prog 255 [lI l] (.sh (eB r)):=by
  unfold GW at h;rw[<-X0]at h;split at h
  · rename_i a
    cases h;exact TQ l a
  .cases h
instance iv(l:Fp):Ct Go.Proofs.Tryz.prog (GW l) 255 [lI l] (rS eB):=⟨fX l⟩
instance(a b c d e):CT (GV a b c d e) 187 [AK a,AU b,AU c,Aj d,eB e] rI:=Fe f187 0xb48ab85c735a3055e8f3a8e838ac6060e4 [] (GV.eq_1 ..)
instance(a b c):CT (Hq a b c) 256 [AK a,Av b,BC c] rI:=Fe f256 0x815e017c6ba8c89aaced [] (Hq.eq_1 ..)
instance(a b):CT (ED a b) 307 [Kz a,lI b] rI:=Fe f307 0xbc5c5d9f555c859fdb [] (ED.eq_1 ..)
instance(a b):CT (F4 a b) 347 [eI a,eI b] (rT eI Ft):=Fe f347 0xa2583f583f013f5e816f01283f013f30bd [.mt .u64 (.s 9),.mt .u64 (.s 11),.bin (.w) .shr (.s 16) (.c (.int .u64 63)),.bin (.w) .shr (.s 18) (.c (.int .u64 63)),.mt .i64 (.s 21)] (F4.eq_1 ..)
instance(a b):CT (EE a b) 346 [Kz a,.pt [lI b]] (λr=>.tp [eI r.1,Ft r.2.1,eB r.2.2]):=Fe f346 0x81a230a27c5c5d5a037681a20a74035a585a81a230a27c5cbc9f30db [] (EE.eq_1 ..)
instance(a b):CT (E9 a b) 308 [DB a,lI b] rB:=Fe f308 0xf8a5969fa5965a810ea90e300e30558a0830085ea2116f010f3803425ea2116f010fac425e100192 [] (E9.eq_1 ..)
instance(a b c):CT (Hr a b c) 257 [Av a,BC b,Aj c] (rT lI eI):=D4 f257 0xf51808e94b4a0804d701c08820149ade05c99a05430801654c4b4a0804dd0442085b191817eb6a0308d701c08501201438cc1918170c0beb6a030a1918170c0beb6a030a3c014de9014de90577cc301401148a0817e90114585e6ccc815d5c5d5d5a5aa7ef06c9eae6085b65191817eb6a0308ddcc99993fd43fd43040ed [.lY 1 [.int .i64 0] (.s 17),.lY 1 [.bool T] (.s 20)] (Hr.eq_1 ..) (As 0 25 24 0 λs0:Fp×a5=>[(8,.xo 1 (List.map eI s0.1)),(9,.xo 1 (List.map eB s0.2))]) (Ap 2 76 75 0)
instance(a b c d):CT (Fy a b c d) 188 [AK a,Av b,BC c,Aj d] (rT lI eI):=Fe f188 0xf56f906b9a5501c0e8c6c6a801c0c86b9a3830406092 [] (Fy.eq_1 ..)
instance(a b c d):CT (Kn a b c d) 120 [AK a,BY b,BC c,BB d] rI:=Fe f120 0xb4d0e25580fbc66b9ab5a8850e030f42c6c63859b5ac6092 [] (Kn.eq_1 ..)
instance(a b c d):CT (IL a b c d) 121 [AK a,AU b,AU c,Aj d] (rT AU eI):=Fk f121 0x81a6380c08022726250c080606d5f7b9c4915a0432815d0c0802652726250c080606dd32025008c93f0e5c55a658ee90f3a8a658ee9038ac08c96092 [.ky [.z ⟨X,.list 1 []⟩,.w 34]] [.cell 8 (Y 2),.tmp 9] λr h e f=>by
  unfold IL at h;have:=As 0 39 38 0 λs0:ff=>[(12,.bx [⟨X,lI s0.fd⟩,⟨X,lE s0.fq⟩])];exact nz
instance(a):CT (Db a) 191 [EG a] rI:=Fe f191 0x81900442c655e8da38cc38b9c3 [] (Db.eq_1 ..)
instance(a b):CT (E7 a b) 261 [lI a,lI b] (rO (eL 2 Ky)):=D4 f261 0x8202cfc1056905d5c1056905c1fc6907bac1fc6907c1fc69073c02024802470f4630028a0ab60130b60196dcdcc1056905f0c1fc6907bc5e580165c10569059b0102c002406902 [] (E7.eq_1 ..) (As 0 10 9 0 (hO 5 (eL 2 Ky))) (As 2 7 0 0 (hO 5 (eL 2 Ky)))
instance(a):CT (Cn a) 192 [EG a] (rT (eL 2 Ky) (eL 2 Ky)):=Fe f192 0x82820e77044277da0e6c04426cda02400240c3 [] (Cn.eq_1 ..)
instance(a):CT (DG a) 262 [EG a] (rO lI):=BJ f262 0x820231c1083105d5c1083105c10831053cb3c40102d0016c0442a2913165c1083105dd59066ec00140c3 [] (DG.eq_1 ..) (As 0 10 9 0 (hO 3 lI))
instance(a):CT (C5 a) 193 [EG a] (rO lI):=BJ f193 0x8202e4d10b043106d5d10b043106d10b0431063cb3c401028ab8a7300e5c30b60177dabb81ec6bd6e465d10b043106dd0141026ec0820e08440140c3 [] (C5.eq_1 ..) (As 0 13 12 0 (hO 4 lI))
instance(a b c):CT (F1 a b c) 194 [eI a,lI b,lI c] (rO lI):=D4 f194 0x82020a01201f1e0a04d5201f1e0a04201f1e0a043cb3c40102885e81910a0165201f1e0a049b9801c0070111100f070205d511100f07020511100f0702053c014de90114d030a29107016511100f0702059b81993f304002ca [.lY 1 [.bool T] (.s 13)] (F1.eq_1 ..) (As 0 17 16 0 (hX 7 1 eB)) (As 2 32 31 0 (hO 10 lI))
instance(a b c d):CT (Jd a b c d) 122 [AU a,AU b,C1 c,Aj d] (rT C1 eI):=Fk f122 0x8013b81a602460e5c5c0b5c0e5a5ae576a6064681740e084481a60646bc74010b0182fb084455a60106ee0e0844084b16c9184638f3ace76092 [] [.cell 8 (Y 2),.tmp 9] λr h e f=>by
  unfold Jd at h;exact nz
instance(a b c d e f):CT (Ht a b c d e f) 263 [AK a,Av b,AG c,BC d,BB e,eB f] rI:=Fe f263 0xb4d0e25580fbc66b9aa8c801c6c6c6a880017c6ba8c8ad9aac936060cf [] (Ht.eq_1 ..)
instance(a b c):CT (E8 a b c) 363 [eI a,lI b,lI c] (rO lI):=BJ f363 0x82180701e30d070205d5014de9913014a291070165e30d0702059b81991a3047014002ca [] (E8.eq_1 ..) (As 0 15 14 0 (hX 7 1 eI))
instance(a b):CT (Jo a b) 384 [eI a,.pt [eI b]] rB:=Fe f384 0x81a50396fa [] (Jo.eq_1 ..)
instance(a b):CT (JL a b) 377 [lI a,eI b] rI:=Fe f377 0xb48e1030c301 [] (JL.eq_1 ..)
instance(a b):CT (IN a b) 388 [lI a,eI b] rI:=Fe f388 0x81dc559cfa [] (IN.eq_1 ..)
instance(a b c):CT (DK a b c) 390 [.pt (MA a).cells,eI b,eI c] rB:=Fe f390 0x813f07465da7030997015d5c030997015a6bd6770297f28acf965e0e0177059701bbec6bd67759593002ca [.bin (.a [0,0,0]) .eql (.s 38) (.s 57)] (DK.eq_1 ..)
instance(a):CT (Da a) 389 [.pt (MA a).cells] rB:=D4 f389 0xaa141312f1055f141312f105141312f10581880114131206f10626251413120604f109d5ff14131206f106018e0130d914131206f1066526251413120604f1099b7702975eff141312f10585012ca75cbb81ec6b0343fd141312f105dd0197595e740309978c01 [] (Da.eq_1 ..) (Ap 0 20 19 0) (As 2 38 37 0 (hT 6 eB))
noncomputable def R5:PC:=PC.of IS f387.body (xq bT 0xff00013cf70b97024802470246201d0acd201d09cd040bcd320001a4a30600045fa4a3060004a4a30600043c1f0a970151011e0acd320052321f0a97014fa9011e0acd32ffa4a30600048a0a20011d0a97b9030797b90820303281690165a4a30600049b7702cd81151d0acd817477595932151d0acd00013f3e3d0200055f3f3e3d0200053f3e3d0200053c1f09970151011e09cd323f3e3d0200053f3e3d0200053c005232a0321f0997014fa9011e09cd32ff3f3e3d0200058a0a20011d0997b9030797b90a08915d916c595932d297b9a501965e0e016c05cda25d6901653f3e3d020005dd5902cd81151d09cd81746c595932151d09cd005e050308cd0b030bcd0001) []
theorem dI:CK f387 R5 []:=b_
theorem dg:PC.kg R5=X/\PC.kh 0 R5=X:=b_
abbrev Q_387(n:Nat):Prop:=∀(f:AW),CT (Br n f) 387 [.undef] (λr=>.bo (Bq f) (Bq r) 0 [])
theorem c5(n:Nat)(_ih_387:Q_387 n)(f:AW):CT (Br (n+1) f) 387 [.undef] (λr=>.bo (Bq f) (Bq r) 0 []):=X8 dI dg λr h c b d=>by
  unfold R5;unfold f387;unfold Br at h;have:=As 1 63 62 0 λs1:AW=>[(0,.bx (Bq s1))];have:=As 3 164 163 0 λs3:AW=>[(0,.bx (Bq s3))];have:HJ 28 λ(a:AW)=>[(0,.bx (Bq a))]:=⟨⟩;exact nz
theorem cz:∀n:Nat,Q_387 n:=by
  intro n
  induction n with
  |zero=>exact(λf=>⟨λ_ h=>b?⟩)
  |succ n a=>exact c5 n a
instance(f):CT (Hg f) 387 [.undef] (λr=>.bo (Bq f) (Bq r) 0 []):=⟨λr h=>by
  obtain ⟨N,a⟩:=Bh h;exact((cz N) f).snd r (a N (bk _))⟩
theorem dH:CK f385 (Rq [Ac 6 0,Ac 7 1,Ac 8 2,Ac 9 3,⟨Y 12,.mr 2,W⟩] [4,5,6,7,8,9]<|Sq (Dr [13,14,15,16,17,18,19,20,21] [Ad 14 7 2,Ad 15 8 2,Ad 16 6 2,⟨Y 17,.call 259 [.s 16],W⟩,Ad 18 9 2,Aa 19 4,Aa 20 5,⟨Y 21,.ma [.list 1 [],.list 3 [],.list 1 [],.list 3 [],.list 1 [],.list 1 [],.list 1 [],.bool T,.int .i64 0,.nil,.nil,.nil] [(0,2,.s 14),(2,2,.s 15),(4,1,.s 17),(5,2,.s 18),(7,1,.s 19),(8,1,.s 20)],W⟩,⟨Y 22,.ml [W,W,W,W,W,W,W,W,W,Y ⟨X,.xl 1 []⟩,Y ⟨X,.xl 1 []⟩,Y ⟨X,.list 2 []⟩] (.s 21),W⟩,⟨Y 13,.bad 22 0,W⟩] [13,22])<|Rq [Ae 23 13 0,⟨Y 24,.kD 387 [.s 23] 0,W⟩] [13,22]<|Rq [Ae 25 13 0,Ae 26 25 0,Ae 27 26 11,⟨Y 28,.ld (.s 27),W⟩,Ab 12 28] [12]<|.ret) [.tmp 12]:=b_
instance(a b c d e f):CT (Kk a b c d e f) 385 [AK a,AU b,AU c,Aj d,eB e,eI f] (rS (eL 2 Aj)):=Fi dH λr h g i=>by
  unfold Kk at h;exact au
instance(a b c d e):CT (NS a b c d e) 378 [AK a,AU b,AU c,Aj d,eB e] (rT (eL 2 Aj) eI):=Fe f378 0xf5f202c0e001820e0138f3ac02406060e4 [] (NS.eq_1 ..)
instance(a b c d e):CT (Jn a b c d e) 364 [AK a,AU b,AU c,Aj d,eB e] (rT (eL 2 Aj) eI):=Fe f364 0xf56f0e0138f3a802c0c80b5c5c5502c0c8e55a5502c0cb5c0bf6e5e55502c0e838ac02406060e4 [] (Jn.eq_1 ..)
instance(a b):CT (Ej a b) 268 [Kz a,lI b] (rT eI eI):=Fe f268 0xa20e01a881d074015a30db [] (Ej.eq_1 ..)
instance(a b c d):CT (Dw a b c d) 365 [BZ a,Av b,Aj c,lI d] (rT lI eB):=X7 f365 0xf5180a016867660a04d701c08820149ade05c99a05430a01656867660a04dd0442a5022c2b2a0b0ab708d701c08acf965e816f01201438cc2c2b2ae30b0ab70a2c2b2ae30b0ab70a3c014de9014de90577cc301401148a0817e90114585e6ccc815d5c5d5d5a5a5b41ccef06c9eae6a502652c2b2a0b0ab708ddcc0b0ab70522210b0ab707d5014de90114d90b0ab7056522210b0ab7079b01993fd4993f7401d41a013040936031 [.md 1 22 (.int .i64 0) (.s 27),.lY 1 [.bool T] (.s 30)] (Dw.eq_1 ..) (As 0 34 33 0 (hX 11 1 eB)) (As 2 44 43 0 λs2:Fp×a5=>[(10,.xo 1 (List.map eI s2.1)),(11,.xo 1 (List.map eB s2.2))]) (Ap 4 104 103 0)
instance(a b c):CT (C6 a b c) 353 [BZ a,AG b,BB c] (rT (eL 3 BB) eI):=BJ f353 0xf5020c013b3a390c6a0307d53b3a390c6a03073b3a390c6a03073c02034803471146013802a2fba7389a04420644a6e73802430c01653b3a390c6a03079b8103c05503c080fb030542f359cc38c6a6e702460e773277cc0b5c0ed86ccce5a608c93859046e0340ed [] (C6.eq_1 ..) (As 0 59 58 0 (hO 12 (eL 3 BB)))
abbrev ny(n:Nat):Prop:=∀(a:BN)(c:gt)(m:AT),CT (A8 n a c m) 264 [BZ a,AG c,BB m] (rT CW eI)
abbrev np(n:Nat):Prop:=∀(a:BN)(c:gt)(m:AT),CT (BV n a c m) 313 [BZ a,AG c,BB m] (rT CW eI)
theorem cq(n:Nat)(_ih_264:ny n)(_ih_313:np n)(a:BN)(c:gt)(m:AT):CT (A8 (n+1) a c m) 264 [BZ a,AG c,BB m] (rT CW eI):=Fk f264 0xbc4b124676de6f0e6bad0644bcbc4b124606014b4a49890306d7de01124685f2de134605479a80de12c97c6bad0644094b810bc9ad09780601654b4a49890306ddb5bcbc4b9a0a06022f2e2d0a890307d5f70442054805479a04044255de0112eede12c97c6bad0644094b0bc9ad09430a0602652f2e2d0a890307ddb512c9bcbc4b01124676de1246bcbc4b1246bca2de12497c6bad09435c0644bc83b912c9ed [] [.cell 6 (Y 5),.tmp 7] λr h b d=>by
  unfold A8 at h;have:=As 2 47 46 0 λs2:A7×A7=>[(6,.bx [⟨T,eI s2.1.kI⟩,⟨X,lI s2.1.jz.f0.fd⟩,⟨X,lI s2.1.jz.f0.fq⟩,⟨X,lI s2.1.jz.jk⟩,⟨X,D5 s2.1.jv⟩]),(10,.bx [⟨T,eI s2.2.kI⟩,⟨X,lI s2.2.jz.f0.fd⟩,⟨X,lI s2.2.jz.f0.fq⟩,⟨X,lI s2.2.jz.jk⟩,⟨X,D5 s2.2.jv⟩])];have:=As 4 75 74 0 λs4:A7=>[(6,.bx [⟨T,eI s4.kI⟩,⟨X,lI s4.jz.f0.fd⟩,⟨X,lI s4.jz.f0.fq⟩,⟨X,lI s4.jz.jk⟩,⟨X,D5 s4.jv⟩])];exact nz
theorem cx(n:Nat)(_ih_264:ny n)(_ih_313:np n)(a:BN)(c:gt)(m:AT):CT (BV (n+1) a c m) 313 [BZ a,AG c,BB m] (rT CW eI):=Fk f313 0xbc4b124606011b1a1906040306d7de01124685f2de144605479a6b6dde12c97c6bad09435c0644bb17c96b03430601651b1a19060403069bb4de0112eefb6bad06440112c9ed [] [.cell 6 (Y 5),.tmp 7] λr h b d=>by
  unfold BV at h;have:=As 0 27 26 0 λs0:A7=>[(6,.bx [⟨T,eI s0.kI⟩,⟨X,lI s0.jz.f0.fd⟩,⟨X,lI s0.jz.f0.fq⟩,⟨X,lI s0.jz.jk⟩,⟨X,D5 s0.jv⟩])];exact nz
theorem YD:∀n:Nat,ny n/\np n:=by
  intro n
  induction n with
  |zero=>exact⟨(λb c m=>⟨λ_ h=>b?⟩),(λb c m=>⟨λ_ h=>b?⟩)⟩
  |succ n a=>exact⟨cq n a.1 a.2,cx n a.1 a.2⟩
instance(s_0 c m):CT (Fw s_0 c m) 264 [BZ s_0,AG c,BB m] (rT CW eI):=⟨λr h=>by
  obtain ⟨N,a⟩:=Bh h;exact((YD N).1 s_0 c m).snd r (a N (bk _))⟩
instance(s_0 c m):CT (Jc s_0 c m) 313 [BZ s_0,AG c,BB m] (rT CW eI):=⟨λr h=>by
  obtain ⟨N,a⟩:=Bh h;exact((YD N).2 s_0 c m).snd r (a N (bk _))⟩
instance(a b c d e f):CT (Gt a b c d e f) 195 [AK a,Av b,AG c,BC d,BB e,eB f] (rT CW eI):=Fk f195 0xbc4b6f0e6bad1a46016ba8de0112ee0e016b6bad9aac12c9936060cf [] [.cell 12 (Y 5),.tmp 13] λr h g i=>by
  unfold Gt at h;exact nz
instance(a b c d e f):CT (Fo a b c d e f) 123 [AK a,Av b,AG c,BC d,BB e,eB f] (rT eB eI):=Fe f123 0xa258f2816dde12497c016b6bad9a3830936060cf [] (Fo.eq_1 ..)
instance(a):CT (Iu a) 124 [BB a] (rS BB):=Fk f124 0xb33bbb11460ea702460e77320ed817c9c3 [] [.cell 2 (Y 3)] λr h b c=>by
  unfold Iu at h;exact nz
instance(a):CT (Jp a) 125 [BC a] (rS BC):=Fk f125 0xbb6b5b021312115b05d5f7026ec40148304704cc825d5b02651312115b05ddcc035010c93f3f0e77320ed810c9c3 [.ky [.w 9,.w 13],.ky [.g 14 0 2,.g 14 1 2,.z ⟨X,.list 1 []⟩]] [.cell 2 (Y 3)] λr h b c=>by
  unfold Jp at h;have:=As 0 19 18 0 λs0:AN=>[(3,.bx [⟨X,lI s0.ff.fd⟩,⟨X,lE s0.ff.fq⟩,⟨X,(eL 1 lI) s0.jf⟩])];exact nz
instance(a b):CT (KD a b) 126 [eI a,lI b] (rO lI):=BJ f126 0x8218cfd1cf04d5014de93014d1fc0106d1fc01063c01885e817c3081580165d1cf04819514993f30406902 [.lY 1 [.int .i64 0] (.s 9)] (KD.eq_1 ..) (As 0 13 12 0 (hX 5 1 eI))
instance(a b c d e f):CT (IU a b c d e f) 127 [eI a,lI b,lI c,lI d,lI e,eI f] (rO lI):=D4 f127 0x82180d012b2a0d6ad52b2a0d6a2b2a0d6a5f304de930148517e90114d90d01652b2a0d6a8195140d05021615140d6a3108d5014de95d5d91303014a2910d0502651615140d6a31089b81991a30470140fe6906 [] (IU.eq_1 ..) (As 0 22 21 0 (hX 13 1 eI)) (As 2 43 42 0 λs2:Int×Fp=>[(5,.tv (eI s2.1)),(13,.xo 1 (List.map eI s2.2))])
instance(a b):CT (NY a b) 198 [AK a,eI b] (rO lI):=BJ f198 0x820207011312110704d5b3c45c02ef04c9eae607016513121107049bf5a901fb01ac40db [] (NY.eq_1 ..) (As 0 19 18 0 (hO 7 lI))
noncomputable def R1:PC:=PC.of IS f128.body (xq bT 0x30b0afae0104d5b0afae0104b0afae01043cf701971f970348034707465da76c24cd5d5c6c24cd5ae4971fcd32e077591fcd917724cdbb81ec6bd63065b0afae0104ddb50701027b7a79073106d57b7a790731067b7a790731063c1f02411f9721221a01382302411fcdb94a59591f9701c4010459591fcd32e06c591fcd916c24cda291070102657b7a79073106dd320731bb4a4907063107d5f701971f970348034707465da76c22cd5d5c6c22cd5ae4971fcd32bbec6bd67732815d073103654b4a4907063107ddb5fc31051e1d1cfc3108d51f02411f972122014f91e2562302411fcdb94a59591f9701c491d80459591fcd32815dfc3105651e1d1cfc3108dd32a6bb08c910c93859069759326b1ccd6030) []
theorem c9:CK f128 R1 []:=b_
theorem db:PC.kg R1=X/\PC.kh 1 R1=X:=b_
instance(a b c):CT (NW a b c) 128 [AK a,.undef,C1 c] (λr=>.bo (B7 b) (B7 r) 1 []):=X8 c9 db λr h e d f=>by
  unfold R1;unfold f128;unfold NW at h;have:=As 0 30 29 0 λs0:A9=>[(1,.bx (B7 s0))];have:=As 2 75 74 0 λs2:A9=>[(1,.bx (B7 s2))];have:=As 4 123 122 0 λs4:A9=>[(1,.bx (B7 s4))];have:=As 6 176 175 0 λs6:A9=>[(1,.bx (B7 s6))];exact nz
theorem dE:CK f199 (.seq (.region [⟨Y 1,.mq (.s 0),W⟩,
    ⟨Y 2,.mv (.c .undef),W⟩,
    ⟨Y 3,.mv (.c (.int .i64 0)),W⟩] [1])
 (.seq (.region [⟨Y 12,.mJ,W⟩,
    ⟨Y 4,.nG 12,W⟩] [1,4,12])
 (.seq (.seq (.region [⟨Y 13,.bad 1 0,W⟩,
    ⟨Y 14,.kK (.s 13) 6,W⟩,
    ⟨Y 15,.kK (.s 14) 2,W⟩,
    ⟨Y 16,.ld (.s 15),W⟩,
    ⟨Y 17,.len (.s 16),W⟩,
    ⟨Y 18,.mv (.c (.int .i64 0)),W⟩] [1,4,12,16,17,18])
 (.block 0 (.loop [1,4,12,16,17,18] (.seq (.region [⟨Y 19,.bin (.i) .lss (.s 18) (.s 17),W⟩] [1,4,12,16,17,18,19])
 (.seq (.cond (.s 19) (.skip [1,4,12,16,17,18])
 (.exit 0 [4,12]))
 (.seq (.block 1 (.seq (.region [⟨Y 20,.l4 (.s 16) (.s 18) 4,W⟩,
    ⟨Y 21,.mn (.s 20) 4,W⟩,
    ⟨Y 6,.mP [⟨T,.int .i64 0⟩,⟨T,.int .i64 0⟩,⟨T,.int .i64 0⟩,⟨T,.int .i64 0⟩],W⟩,
    ⟨W,.mh 4 6 (.s 21),W⟩] [1,4,6,12,16,17,18])
 (.seq (.region [⟨Y 23,.bad 6 2,W⟩,
    ⟨Y 24,.mn (.s 23) 2,W⟩,
    ⟨Y 25,.bad 1 25,W⟩,
    ⟨Y 26,.kK (.s 25) 2,W⟩,
    ⟨Y 27,.ld (.s 26),W⟩,
    ⟨Y 28,.call 268 [.s 24,.s 27],W⟩,
    ⟨Y 22,.mv (.s 28),W⟩,
    ⟨Y 29,.ext (.s 22) 0,W⟩,
    ⟨Y 30,.ext (.s 22) 1,W⟩,
    ⟨Y 7,.mv (.s 29),W⟩,
    ⟨Y 8,.mv (.s 30),W⟩] [1,4,6,7,8,12,16,17,18])
 (.seq (.seq (.region [⟨Y 31,.mv (.s 8),W⟩,
    ⟨Y 32,.bin (.i) .neq (.s 31) (.c (.int .i64 0)),W⟩] [1,4,6,7,8,12,16,17,18,32])
 (.cond (.s 32) (.seq (.region [⟨Y 33,.mv (.s 8),W⟩,
    ⟨Y 2,.mv (.c .undef),W⟩,
    ⟨Y 3,.mv (.s 33),W⟩] [2,3,12])
 .ret)
 (.skip [1,4,6,7,12,16,17,18])))
 (.seq (.draw [9,34,35,36,37,38,39,40,41,42,43] [⟨Y 34,.bad 1 36,W⟩,
    ⟨Y 35,.kK (.s 34) 0,W⟩,
    ⟨Y 36,.ld (.s 35),W⟩,
    ⟨Y 37,.bad 6 0,W⟩,
    ⟨Y 38,.ld (.s 37),W⟩,
    ⟨Y 39,.l4 (.s 36) (.s 38) 1,W⟩,
    ⟨Y 40,.ld (.s 39),W⟩,
    ⟨Y 41,.bad 6 1,W⟩,
    ⟨Y 42,.ld (.s 41),W⟩,
    ⟨Y 43,.ma [.int .i64 0,.int .i64 0] [(0,1,.s 40),(1,1,.s 42)],W⟩,
    ⟨Y 9,.mP [⟨T,.int .i64 0⟩,⟨T,.int .i64 0⟩],W⟩,
    ⟨W,.mh 2 9 (.s 43),W⟩] [1,4,7,9,12,16,17,18])
 (.seq (.seq (.region [⟨Y 45,.mv (.s 4),W⟩,
    ⟨Y 46,.mn (.s 9) 2,W⟩,
    ⟨Y 47,.nN 12 (.s 45) (.s 46),W⟩,
    ⟨Y 44,.mv (.s 47),W⟩,
    ⟨Y 48,.ext (.s 44) 0,W⟩,
    ⟨Y 49,.ext (.s 44) 1,W⟩,
    ⟨Y 10,.mv (.s 48),W⟩,
    ⟨Y 11,.mv (.s 49),W⟩] [1,4,7,9,10,11,12,16,17,18])
 (.seq (.region [⟨Y 50,.mv (.s 11),W⟩,
    ⟨Y 51,.mv (.s 50),W⟩,
    ⟨Y 52,.mv (.s 10),Y (51,X)⟩,
    ⟨Y 53,.mv (.s 7),Y (51,X)⟩,
    ⟨Y 54,.bin (.i) .neq (.s 52) (.s 53),Y (51,X)⟩,
    ⟨Y 55,.pick (.s 51) (.s 54) (.c (.bool T)),W⟩] [1,4,7,9,12,16,17,18,55])
 (.cond (.s 55) (.seq (.region [⟨Y 2,.mv (.c .undef),W⟩,
    ⟨Y 3,.mv (.c (.int .i64 11)),W⟩] [2,3,12])
 .ret)
 (.skip [1,4,7,9,12,16,17,18]))))
 (.region [⟨Y 56,.mv (.s 4),W⟩,
    ⟨Y 57,.mn (.s 9) 2,W⟩,
    ⟨Y 58,.mv (.s 7),W⟩,
    ⟨W,.nf 12 (.s 56) (.s 57) (.s 58),W⟩] [1,4,12,16,17,18])))))))
 (.region [⟨Y 59,.bin (.i) .add (.s 18) (.c (.int .i64 1)),W⟩,
    ⟨Y 18,.mv (.s 59),W⟩] [1,4,12,16,17,18])))))))
 (.seq (.region [⟨Y 60,.mv (.s 4),W⟩,
    ⟨Y 2,.mv (.s 60),W⟩,
    ⟨Y 3,.mv (.c (.int .i64 0)),W⟩] [2,3,12])
 .ret)))) [.tmp 2,.tmp 3]:=b_
instance iq(s:A9):Ct Go.Proofs.Tryz.prog (HL s) 199 [TY s] H4:=gi dE λr h d e=>by
  unfold HL at h;have K:∀b:Nat,HA 0 18 17 0 λ(a:Int)(c:Be)=>[(12,.mx (.mp b c)),(18,.tv (eI a))]:=λ_=>⟨⟩;have:eb 12:=⟨⟩;exact au
theorem RI(t:AE)(s:A9)(κ:List Fp)(p:(Int×Int)×Int)(a:Be)(r:Dt (List Fp) Unit)(h:Mi t s κ p=Y r):WP (AO Go.Proofs.Tryz.prog) (.block 1 (.seq (.region [⟨Y 25,.nE 22,W⟩,
    ⟨Y 26,.ext (.s 25) 0,W⟩,
    ⟨Y 27,.ext (.s 25) 1,W⟩,
    ⟨Y 7,.mP [⟨T,.int .i64 0⟩,⟨T,.int .i64 0⟩],W⟩,
    ⟨W,.mh 2 7 (.s 26),W⟩,
    ⟨Y 8,.mv (.s 27),W⟩] [1,2,7,8,22])
 (.seq (.draw [9,10,28,29,30,31,32,33,34,35,36,37,38,39,40,41,42] [⟨Y 29,.mn (.s 2) 2,W⟩,
    ⟨Y 30,.bad 1 0,W⟩,
    ⟨Y 31,.kK (.s 30) 0,W⟩,
    ⟨Y 32,.kK (.s 31) 31,W⟩,
    ⟨Y 33,.kK (.s 32) 0,W⟩,
    ⟨Y 34,.kK (.s 33) 0,W⟩,
    ⟨Y 35,.ld (.s 34),W⟩,
    ⟨Y 36,.bad 7 0,W⟩,
    ⟨Y 37,.ld (.s 36),W⟩,
    ⟨Y 38,.l4 (.s 35) (.s 37) 1,W⟩,
    ⟨Y 39,.ld (.s 38),W⟩,
    ⟨Y 40,.call 200 [.s 29,.s 39],W⟩,
    ⟨Y 28,.mv (.s 40),W⟩,
    ⟨Y 41,.ext (.s 28) 0,W⟩,
    ⟨Y 42,.ext (.s 28) 1,W⟩,
    ⟨Y 9,.mv (.s 41),W⟩,
    ⟨Y 10,.mv (.s 42),W⟩] [1,2,7,8,9,22])
 (.seq (.seq (.region [⟨Y 43,.mv (.s 8),W⟩,
    ⟨Y 44,.mv (.s 9),W⟩,
    ⟨Y 45,.bad 7 1,W⟩,
    ⟨Y 46,.ld (.s 45),W⟩,
    ⟨Y 47,.l4 (.s 44) (.s 46) 4,W⟩,
    ⟨Y 48,.kK (.s 47) 1,W⟩,
    ⟨Y 49,.ld (.s 48),W⟩,
    ⟨Y 50,.bin (.i) .lss (.s 43) (.s 49),W⟩,
    ⟨Y 51,.mv (.s 50),W⟩,
    ⟨Y 52,.mv (.s 8),Y (51,T)⟩,
    ⟨Y 53,.mv (.s 9),Y (51,T)⟩,
    ⟨Y 54,.bad 7 1,Y (51,T)⟩,
    ⟨Y 55,.ld (.s 54),Y (51,T)⟩,
    ⟨Y 56,.l4 (.s 53) (.s 55) 4,Y (51,T)⟩,
    ⟨Y 57,.kK (.s 56) 2,Y (51,T)⟩,
    ⟨Y 58,.ld (.s 57),Y (51,T)⟩,
    ⟨Y 59,.bin (.i) .gtr (.s 52) (.s 58),Y (51,T)⟩,
    ⟨Y 60,.pick (.s 51) (.c (.bool X)) (.s 59),W⟩] [1,2,7,8,22,60])
 (.cond (.s 60) (.seq (.region [⟨Y 4,.mv (.c (.int .i64 6)),W⟩] [1,4])
 .ret)
 (.skip [1,2,7,8,22])))
 (.draw [61,62,63,64,65,66,67,68,69,70,71,72,73] [⟨Y 61,.bad 1 0,W⟩,
    ⟨Y 62,.kK (.s 61) 0,W⟩,
    ⟨Y 63,.kK (.s 62) 31,W⟩,
    ⟨Y 64,.kK (.s 63) 2,W⟩,
    ⟨Y 65,.nD (.s 64),W⟩,
    ⟨Y 66,.bad 7 0,W⟩,
    ⟨Y 67,.ld (.s 66),W⟩,
    ⟨Y 68,.mL (.s 65) (.s 67),W⟩,
    ⟨Y 69,.ng (.s 68),W⟩,
    ⟨Y 70,.bad 7 1,W⟩,
    ⟨Y 71,.ld (.s 70),W⟩,
    ⟨Y 72,.mv (.s 8),W⟩,
    ⟨Y 73,.mL (.s 69) (.s 71),W⟩,
    ⟨W,.mK (.s 73) (.s 72),W⟩] [1,2,22]))))) ⟨λe=>∃b,r=.next b/\Rn (e.jj [1,2,22]) [(1,.bx (B7 (JM s b))),(2,.tv (.pt (AK t).cells)),(22,.mx (.mi (Y p) a))],λ_ _=>False,λe=>∃v,r=.ret v/\Rn e [(1,.bx (B7 (JM s κ))),(4,.tv (eI 6))]⟩ [(1,.bx (B7 (JM s κ))),(2,.tv (.pt (AK t).cells)),(22,.mx (.mi (Y p) a))]:=by
  unfold Mi at h;exact au
noncomputable def R2:PC:=(.seq (.region [⟨Y 2,.mq (.s 0),W⟩,
    ⟨Y 4,.mv (.c (.int .i64 0)),W⟩] [1,2])
 (.seq (.region [⟨Y 12,.bad 1 0,W⟩,
    ⟨Y 13,.kK (.s 12) 0,W⟩,
    ⟨Y 14,.mn (.s 13) 38,W⟩,
    ⟨Y 15,.kX 199 [.s 14],W⟩,
    ⟨Y 11,.nG 15,W⟩,
    ⟨Y 16,.ext (.s 11) 0,W⟩,
    ⟨Y 17,.ext (.s 11) 1,W⟩,
    ⟨Y 5,.mv (.s 16),W⟩,
    ⟨Y 6,.mv (.s 17),W⟩] [1,2,5,6,15])
 (.seq (.seq (.region [⟨Y 18,.mv (.s 6),W⟩,
    ⟨Y 19,.bin (.i) .neq (.s 18) (.c (.int .i64 0)),W⟩] [1,2,5,6,15,19])
 (.cond (.s 19) (.seq (.region [⟨Y 20,.mv (.s 6),W⟩,
    ⟨Y 4,.mv (.s 20),W⟩] [1,4])
 .ret)
 (.skip [1,2,5,15])))
 (.seq (.seq (.region [⟨Y 21,.mv (.s 5),W⟩,
    ⟨Y 22,.j7 15 (.s 21),W⟩] [1,2,22])
 (.block 0 (.loop [1,2,22] (.seq (.region [⟨Y 23,.nC 22,W⟩,
    ⟨Y 24,.ext (.s 23) 0,W⟩] [1,2,22,24])
 (.seq (.cond (.s 24) (.skip [1,2,22])
 (.exit 0 [1]))
 (.block 1 (.seq (.region [⟨Y 25,.nE 22,W⟩,
    ⟨Y 26,.ext (.s 25) 0,W⟩,
    ⟨Y 27,.ext (.s 25) 1,W⟩,
    ⟨Y 7,.mP [⟨T,.int .i64 0⟩,⟨T,.int .i64 0⟩],W⟩,
    ⟨W,.mh 2 7 (.s 26),W⟩,
    ⟨Y 8,.mv (.s 27),W⟩] [1,2,7,8,22])
 (.seq (.draw [9,10,28,29,30,31,32,33,34,35,36,37,38,39,40,41,42] [⟨Y 29,.mn (.s 2) 2,W⟩,
    ⟨Y 30,.bad 1 0,W⟩,
    ⟨Y 31,.kK (.s 30) 0,W⟩,
    ⟨Y 32,.kK (.s 31) 31,W⟩,
    ⟨Y 33,.kK (.s 32) 0,W⟩,
    ⟨Y 34,.kK (.s 33) 0,W⟩,
    ⟨Y 35,.ld (.s 34),W⟩,
    ⟨Y 36,.bad 7 0,W⟩,
    ⟨Y 37,.ld (.s 36),W⟩,
    ⟨Y 38,.l4 (.s 35) (.s 37) 1,W⟩,
    ⟨Y 39,.ld (.s 38),W⟩,
    ⟨Y 40,.call 200 [.s 29,.s 39],W⟩,
    ⟨Y 28,.mv (.s 40),W⟩,
    ⟨Y 41,.ext (.s 28) 0,W⟩,
    ⟨Y 42,.ext (.s 28) 1,W⟩,
    ⟨Y 9,.mv (.s 41),W⟩,
    ⟨Y 10,.mv (.s 42),W⟩] [1,2,7,8,9,22])
 (.seq (.seq (.region [⟨Y 43,.mv (.s 8),W⟩,
    ⟨Y 44,.mv (.s 9),W⟩,
    ⟨Y 45,.bad 7 1,W⟩,
    ⟨Y 46,.ld (.s 45),W⟩,
    ⟨Y 47,.l4 (.s 44) (.s 46) 4,W⟩,
    ⟨Y 48,.kK (.s 47) 1,W⟩,
    ⟨Y 49,.ld (.s 48),W⟩,
    ⟨Y 50,.bin (.i) .lss (.s 43) (.s 49),W⟩,
    ⟨Y 51,.mv (.s 50),W⟩,
    ⟨Y 52,.mv (.s 8),Y (51,T)⟩,
    ⟨Y 53,.mv (.s 9),Y (51,T)⟩,
    ⟨Y 54,.bad 7 1,Y (51,T)⟩,
    ⟨Y 55,.ld (.s 54),Y (51,T)⟩,
    ⟨Y 56,.l4 (.s 53) (.s 55) 4,Y (51,T)⟩,
    ⟨Y 57,.kK (.s 56) 2,Y (51,T)⟩,
    ⟨Y 58,.ld (.s 57),Y (51,T)⟩,
    ⟨Y 59,.bin (.i) .gtr (.s 52) (.s 58),Y (51,T)⟩,
    ⟨Y 60,.pick (.s 51) (.c (.bool X)) (.s 59),W⟩] [1,2,7,8,22,60])
 (.cond (.s 60) (.seq (.region [⟨Y 4,.mv (.c (.int .i64 6)),W⟩] [1,4])
 .ret)
 (.skip [1,2,7,8,22])))
 (.draw [61,62,63,64,65,66,67,68,69,70,71,72,73] [⟨Y 61,.bad 1 0,W⟩,
    ⟨Y 62,.kK (.s 61) 0,W⟩,
    ⟨Y 63,.kK (.s 62) 31,W⟩,
    ⟨Y 64,.kK (.s 63) 2,W⟩,
    ⟨Y 65,.nD (.s 64),W⟩,
    ⟨Y 66,.bad 7 0,W⟩,
    ⟨Y 67,.ld (.s 66),W⟩,
    ⟨Y 68,.mL (.s 65) (.s 67),W⟩,
    ⟨Y 69,.ng (.s 68),W⟩,
    ⟨Y 70,.bad 7 1,W⟩,
    ⟨Y 71,.ld (.s 70),W⟩,
    ⟨Y 72,.mv (.s 8),W⟩,
    ⟨Y 73,.mL (.s 69) (.s 71),W⟩,
    ⟨W,.mK (.s 73) (.s 72),W⟩] [1,2,22]))))))))))
 (.seq (.region [⟨Y 4,.mv (.c (.int .i64 0)),W⟩] [1,4])
 .ret)))))
theorem dA:CK f129 R2 [.tmp 4]:=b_
theorem dc:PC.kg R2=X/\PC.kh 1 R2=X:=b_
variable{t:AE}{s:A9}
theorem UK{p:(Int×Int)×Int}{b:Bool}(h:QP t s p=Y b){κ:List Fp}(a:KG κ s.jM.jf):
    (b=X->Mi t s κ p=Y (.next (Dd κ p)))/\(b=T->Mi t s κ p=Y (.ret ())):=by
  unfold QP Mi at h;unfold Mi;obtain⟨c,d,h⟩:=bind_some h;obtain⟨q,f,d⟩:=bind_some d;obtain⟨r,g,d⟩:=bind_some d;obtain⟨u,i,d⟩:=bind_some d;obtain⟨j,k,d⟩:=bind_some d;simp only[f,g,i,l!]at *;rw[k,l!];cases j with
  |true=>
    simp only[if_true,jR]at d|-;subst d;simp only[jR]at h;subst h;exact⟨λe=>i?,λ_=>trivial⟩
  |false=>
    simp only[Bool.false_eq_true,if_false]at d|-;obtain⟨v,l,d⟩:=bind_some d;obtain⟨w,m,d⟩:=bind_some d;cases d;simp only[jR]at h;subst h;obtain⟨x,x',n,o⟩:=a.idx l m;refine⟨λ_=>?_,λe=>i?⟩;rw[n,l!,o,l!,Wh n o]
theorem VR{a:Be}{c:Bool}(m:a.Dis)(f:Ry (QP t s) a=Y c){M z:AA->Prop}{x:Nat->AA->Prop}{d:AA->Prop}
    (n:c=X->z [(1,.bx (B7 (JM s (a.foldl Dd s.jM.jf))))])(g:c=T->∀κ,d [(1,.bx (B7 (JM s κ))),(4,.tv (eI 6))]):
    WP (AO Go.Proofs.Tryz.prog) (.loop [1,2,22] (.seq (.region [⟨Y 23,.nC 22,W⟩,
    ⟨Y 24,.ext (.s 23) 0,W⟩] [1,2,22,24])
 (.seq (.cond (.s 24) (.skip [1,2,22])
 (.exit 0 [1]))
 (.block 1 (.seq (.region [⟨Y 25,.nE 22,W⟩,
    ⟨Y 26,.ext (.s 25) 0,W⟩,
    ⟨Y 27,.ext (.s 25) 1,W⟩,
    ⟨Y 7,.mP [⟨T,.int .i64 0⟩,⟨T,.int .i64 0⟩],W⟩,
    ⟨W,.mh 2 7 (.s 26),W⟩,
    ⟨Y 8,.mv (.s 27),W⟩] [1,2,7,8,22])
 (.seq (.draw [9,10,28,29,30,31,32,33,34,35,36,37,38,39,40,41,42] [⟨Y 29,.mn (.s 2) 2,W⟩,
    ⟨Y 30,.bad 1 0,W⟩,
    ⟨Y 31,.kK (.s 30) 0,W⟩,
    ⟨Y 32,.kK (.s 31) 31,W⟩,
    ⟨Y 33,.kK (.s 32) 0,W⟩,
    ⟨Y 34,.kK (.s 33) 0,W⟩,
    ⟨Y 35,.ld (.s 34),W⟩,
    ⟨Y 36,.bad 7 0,W⟩,
    ⟨Y 37,.ld (.s 36),W⟩,
    ⟨Y 38,.l4 (.s 35) (.s 37) 1,W⟩,
    ⟨Y 39,.ld (.s 38),W⟩,
    ⟨Y 40,.call 200 [.s 29,.s 39],W⟩,
    ⟨Y 28,.mv (.s 40),W⟩,
    ⟨Y 41,.ext (.s 28) 0,W⟩,
    ⟨Y 42,.ext (.s 28) 1,W⟩,
    ⟨Y 9,.mv (.s 41),W⟩,
    ⟨Y 10,.mv (.s 42),W⟩] [1,2,7,8,9,22])
 (.seq (.seq (.region [⟨Y 43,.mv (.s 8),W⟩,
    ⟨Y 44,.mv (.s 9),W⟩,
    ⟨Y 45,.bad 7 1,W⟩,
    ⟨Y 46,.ld (.s 45),W⟩,
    ⟨Y 47,.l4 (.s 44) (.s 46) 4,W⟩,
    ⟨Y 48,.kK (.s 47) 1,W⟩,
    ⟨Y 49,.ld (.s 48),W⟩,
    ⟨Y 50,.bin (.i) .lss (.s 43) (.s 49),W⟩,
    ⟨Y 51,.mv (.s 50),W⟩,
    ⟨Y 52,.mv (.s 8),Y (51,T)⟩,
    ⟨Y 53,.mv (.s 9),Y (51,T)⟩,
    ⟨Y 54,.bad 7 1,Y (51,T)⟩,
    ⟨Y 55,.ld (.s 54),Y (51,T)⟩,
    ⟨Y 56,.l4 (.s 53) (.s 55) 4,Y (51,T)⟩,
    ⟨Y 57,.kK (.s 56) 2,Y (51,T)⟩,
    ⟨Y 58,.ld (.s 57),Y (51,T)⟩,
    ⟨Y 59,.bin (.i) .gtr (.s 52) (.s 58),Y (51,T)⟩,
    ⟨Y 60,.pick (.s 51) (.c (.bool X)) (.s 59),W⟩] [1,2,7,8,22,60])
 (.cond (.s 60) (.seq (.region [⟨Y 4,.mv (.c (.int .i64 6)),W⟩] [1,4])
 .ret)
 (.skip [1,2,7,8,22])))
 (.draw [61,62,63,64,65,66,67,68,69,70,71,72,73] [⟨Y 61,.bad 1 0,W⟩,
    ⟨Y 62,.kK (.s 61) 0,W⟩,
    ⟨Y 63,.kK (.s 62) 31,W⟩,
    ⟨Y 64,.kK (.s 63) 2,W⟩,
    ⟨Y 65,.nD (.s 64),W⟩,
    ⟨Y 66,.bad 7 0,W⟩,
    ⟨Y 67,.ld (.s 66),W⟩,
    ⟨Y 68,.mL (.s 65) (.s 67),W⟩,
    ⟨Y 69,.ng (.s 68),W⟩,
    ⟨Y 70,.bad 7 1,W⟩,
    ⟨Y 71,.ld (.s 70),W⟩,
    ⟨Y 72,.mv (.s 8),W⟩,
    ⟨Y 73,.mL (.s 69) (.s 71),W⟩,
    ⟨W,.mK (.s 73) (.s 72),W⟩] [1,2,22])))))))) ⟨M,λj e=>if j=0 then z e else x j e,d⟩ [(1,.bx (B7 s)),(2,.tv (.pt (AK t).cells)),(22,.mx (.mi W a))]:=by
  obtain ⟨m1,R⟩:=Qd f;refine⟨ZM _ (σ:=List Fp×Option ((Int×Int)×Int)×Be) (λσ=>[(1,.bx (B7 (JM s σ.1))),(2,.tv (.pt (AK t).cells)),(22,.mx (.mi σ.2.1 σ.2.2))])
    (λσ=>KG σ.1 s.jM.jf/\(∀l,σ.2.2.Perm l->l.foldl Dd σ.1=a.foldl Dd s.jM.jf)/\(∀p∈σ.2.2,p∈a)/\(c=T->∃p∈σ.2.2,QP t s p=Y T))
    (λσ=>σ.2.2.length) (s.jM.jf,W,a) rfl ⟨rfl,λl A=>UM m A _,λp r=>r,R⟩ ?_⟩
  rintro ⟨κ,last,u⟩ ⟨I,J,K,L⟩ η;refine WP.out (?_:WP _ _ _ _);apply Fx;apply Jw;refine eC rfl a? (λe=>?_) (λp o r=>?_)
  · simp only at e
    subst e;have P:c=X:=by
      cases c with
      |true=>rfl|false=>obtain⟨p,r,_⟩:=L rfl;cases r
    have Q:κ=a.foldl Dd s.jM.jf:=J [] (List.Perm.refl _);apply st 1;exact rfl;exact λ_ k=>k;apply Hp;exact l';intro C;apply Fx;apply L6;exact rfl;exact rfl;apply VD;exact l';show(if(0:Nat)=0 then z [(1,.bx (B7 (JM s κ)))]else x 0 [(1,.bx (B7 (JM s κ)))]);rw[ae rfl,Q];exact n P
  · apply st 1;exact rfl;exact λ_ k=>k
    apply Hp;exact l';intro C;apply Fx;apply L7;exact rfl;exact rfl;apply SH;exact l';intro O;have D:p∈u:=r.mem_iff.2 V;obtain⟨b,H,E⟩:=m1 p (K p D);obtain⟨S,θ⟩:=UK H I;cases b with
    |true=>
      refine ⟨PC.jr _ _ _ _ (RI t s κ p o _ (S rfl)).out _ (λe he=>?_) (λ_ _ h=>h.elim) (λe he=>?_)⟩
      · obtain⟨ε,y,F⟩:=he
        cases y;refine⟨(Dd κ p,Y p,o),F.out,⟨(VQ κ p).trans I,λl A=>?_,λq B=>K q (r.mem_iff.2 (by simp[B])),λN=>?_⟩,?_⟩
        .exact J (p::l) (r.trans (A.cons p))
        · obtain⟨q,B,w⟩:=L N
          rcases List.mem_cons.1 (r.mem_iff.1 B)with rfl|G
          .rw[H]at w;cases w
          .exact⟨q,G,w⟩
        · have:=r.length_eq
          simp only[ci]at this;show o.length<u.length;omega
      · obtain⟨v,y,_⟩:=he
        cases y
    |false=>
      refine ⟨PC.jr _ _ _ _ (RI t s κ p o _ (θ rfl)).out _ (λe he=>?_) (λ_ _ h=>h.elim) (λe he=>?_)⟩
      · obtain⟨ε,y,_⟩:=he
        cases y
      · obtain⟨v,_,F⟩:=he
        rw [F.out];exact g (by cases c with|false=>rfl|true=>exact absurd (E rfl) V) κ
instance im(t:AE)(s:A9):Ct Go.Proofs.Tryz.prog (O5 t s) 129 [AK t,.undef] (λr=>.bo (B7 s) (if(!decide (r.1=0))=X then(B7 r.2).set 33 ⟨T,.undef⟩else B7 r.2) 1 [eI r.1]):=fE dA dc λr h v l=>by
  unfold R2;unfold O5 at h;obtain⟨a,q,h⟩:=bind_some h;have d:=(inferInstance:Ct Go.Proofs.Tryz.prog (HL s) 199 [TY s] H4).snd a q;apply Fx;apply Jw;apply st 1;exact rfl;exact λ_ k=>k;apply st 1;exact rfl;exact λ_ k=>k;apply Hp;exact l';intro m;apply Fx;apply Jw;apply st 1;exact rfl;exact λ_ k=>k;apply st 1;exact rfl;exact λ_ k=>k;apply st 2;exact rfl;exact λ_ k=>⟨Nat.le_of_ble_eq_true rfl,k⟩;by_cases he:a.2=0
  · have e:H4 a=.mpr a.1 [.int .i64 a.2]:=ae he
    rw [e]at d;rw[az (by simp[he])]at h;split at h
    · rename_i hd
      have hd:Be.Dis a.1:=(show List.Pairwise (λx y:(Int×Int)×Int=>x.1≠y.1) a.1 from of_decide_eq_true hd);obtain⟨c,u,h⟩:=bind_some h;refine XJ rfl d (λb=>?_);apply st 1;exact rfl;exact λ_ k=>k;apply st 1;exact rfl;exact λ_ k=>k;apply st 1;exact rfl;exact λ_ k=>k;apply st 1;exact rfl;exact λ_ k=>k;apply st 1;exact rfl;exact λ_ k=>k;apply Hp;exact l';intro g;apply Fx;apply Fx;apply Jw;apply st 1;exact rfl;exact λ_ k=>k;apply st 1;exact rfl;exact λ_ k=>k;apply Hp;exact l';intro i;apply L6;exact rfl;simp[he];apply SH;exact l';intro j;apply Fx;apply Fx;apply Jw;apply st 1;exact rfl;exact λ_ k=>k;apply st 2;exact rfl;exact λ_ k=>⟨⟨a?,rfl⟩,k⟩;apply Hp;exact l';intro n;apply TU;refine VR hd u (λf=>?_) (λf κ=>?_)
      · intro o
        apply Fx;apply Jw;apply st 1;exact rfl;exact λ_ k=>k;apply Hp;exact l';intro p;apply T8;rw[ae f]at h;cases h;exact⟨_,Wk.refl _,rfl,rfl⟩
      · rw[az (by simp[f])]at h
        cases h;refine⟨_,?_,rfl,rfl⟩;exact Wk.set (B7 (JM s κ)) 33
    .cases h
  · have e:H4 a=.tp [.undef,.int .i64 a.2]:=az he
    rw [e]at d;rw[ae (by simp[he])]at h;refine XI rfl d ?_;apply st 1;exact rfl;exact λ_ k=>k;apply st 1;exact rfl;exact λ_ k=>k;apply st 1;exact rfl;exact λ_ k=>k;apply st 1;exact rfl;exact λ_ k=>k;apply st 1;exact rfl;exact λ_ k=>k;apply Hp;exact l';intro g;apply Fx;apply Fx;apply Jw;apply st 1;exact rfl;exact λ_ k=>k;apply st 1;exact rfl;exact λ_ k=>k;apply Hp;exact l';intro i;apply L7;exact rfl;simp[he];apply Fx;apply Jw;apply st 1;exact rfl;exact λ_ k=>k;apply st 1;exact rfl;exact λ_ k=>k;apply Hp;exact l';intro j;apply T8;cases h;simp only[he,decide_false,Bool.not_false,if_true];exact⟨_,Wk.set (B7 s) 33,rfl,rfl⟩
end Go.Sf.Sc
