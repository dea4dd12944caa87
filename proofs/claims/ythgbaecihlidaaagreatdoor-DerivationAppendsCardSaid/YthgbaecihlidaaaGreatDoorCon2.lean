/- Contracts of the functions. -/
import Derived.Test.YthgbaecihlidaaaGreatDoorCon0
import Derived.Test.YthgbaecihlidaaaGreatDoorCon1
import Derived.Test.YthgbaecihlidaaaGreatDoorTryzShelf
import Derived.Test.YthgbaecihlidaaaGreatDoorFo
set_option linter.all false
set_option maxRecDepth 100000
set_option maxHeartbeats 4000000
namespace Go.Sf.Sc
open Go Go.Sf Go.Proofs.Tryz
theorem rz:CK f280 (Rq [Ag 6 0,Ag 7 1,Ag 8 2,Ag 9 3,⟨some 12,.Abz 2,none⟩] [4,5,6,7,8,9]<|Sq (Dr [13,14,15,16,17,18,19,20,21] [Ab 14 7 2,Ab 15 8 2,Ab 16 6 2,⟨some 17,.call 287 [.s 16],none⟩,Ab 18 9 2,Aa 19 4,Aa 20 5,⟨some 21,.bld [.list 1 [],.list 3 [],.list 1 [],.list 3 [],.list 1 [],.nil,.nil,.bool false,.int .i64 0,.nil,.nil,.nil] [(0,2,.s 14),(2,2,.s 15),(4,1,.s 17),(5,2,.s 18),(7,1,.s 19),(8,1,.s 20)],none⟩,⟨some 22,.AbD [none,none,none,none,none,none,none,none,none,some ⟨true,.xl 1 []⟩,some ⟨true,.xl 1 []⟩,some ⟨true,.list 2 []⟩] (.s 21),none⟩,Aj 13 22 0] [13,22])<|Rq [Af 23 13 0,⟨some 24,.AaJ 314 [.s 23] 0,none⟩] [13,22]<|Rq [Af 25 13 0,Af 26 25 0,Af 27 26 11,Ak 28 27,Ah 12 28] [12]<|.ret) [.tmp 12]:=by decide +kernel
instance yN(t:ej)(p:d6)(g:d6)(b:Ly)(a:Bool)(c:Int):CT (E4 t p g b a c) 280 [AN t,A8 p,A8 g,kv b,eB a,eI c] (fun r=>.sh ((eL 2 Bm) r)):=Fi rz fun r h d e=>by
  unfold E4 at h;exact au
instance xW(t:ej)(p:d6)(g:d6)(b:Ly)(a:Bool):CT (Hl t p g b a) 231 [AN t,A8 p,A8 g,kv b,eB a] (fun r=>.tp [(eL 2 Bm) r.1,eI r.2]):=Fj f231 0x8182013602c0850b01820ed43737ab024062620401 [] fun h=>by
  unfold Hl at h;exact nz
instance wY(t:ej)(p:d6)(g:d6)(a:Bool):CT (Iz t p g a) 173 [AN t,A8 p,A8 g,eB a] (fun r=>.tp [(eL 2 Bm) r.1,eI r.2]):=Fj f173 0x81826b0e0107463737373602c0706d37ab0240936231 [] fun h=>by
  unfold Iz at h;exact nz
instance xX(a:kg)(b:Fp):CT (EB a b) 232 [UY a,lI b] rI:=Fj f232 0xa75c6f7e365c857ec3 [] fun h=>by
  unfold EB at h;exact nz
instance yP(a:Int)(b:Int):CT (GA a b) 282 [eI a,eI b] (fun r=>.tp [eI r.1,Hu r.2]):=Fj f282 0x7f383f383f013f5d8172283f013f309f [.cvt .u64 (.s 9),.cvt .u64 (.s 11),.bin (.w) .shr (.s 16) (.c (.int .u64 63)),.bin (.w) .shr (.s 18) (.c (.int .u64 63)),.cvt .i64 (.s 21)] fun h=>by
  unfold GA at h;exact nz
instance yO(t:kg)(a:Fp):CT (EX t a) 281 [UY t,.pt [lI a]] (fun r=>.tp [eI r.1,Hu r.2.1,eB r.2.2]):=Fj f281 0x817f307f975c6f5503ffb57f0a6303f455817f307f975ca77e30c3 [] fun h=>by
  unfold EX at h;exact nz
instance xY(a:Test)(b:Fp):CT (Fc a b) 233 [GY a,lI b] rB:=Fj f233 0xc478747e787455810eb3fbfb890830085d7f11720f3703425d7f11720fab425d10019a [] fun h=>by
  unfold Fc at h;exact nz
instance wZ(p:ed)(a:gt)(m:eb):CT (Et p a m) 174 [BO p,Cw a,Bm m] (fun r=>.tp [lI r.1,eI r.2]):=Fj f174 0x81821808d14b4a080475f2c08820148dd303c98d054308db4c4b4a0804c5dc0857191817090860030875f2c08501201437ca1918170c0b090860030a1918170c0b090860030a3ce9e90584ca301401148a0817d10114385d6cca816f5c6f6f55559eba04c9b1d90857611918170908600308c5ca99993fa83fa83040e4 [.mkx 1 [.int .i64 0] (.s 17),.mkx 1 [.bool false] (.s 20)] fun h=>by
  unfold Et at h;have:HA 0 25 24 0 fun(c:Int)(b:Fp×ae)=>[(8,.xo 1 (List.map eI b.1)),(9,.xo 1 (List.map eB b.2)),(25,.tv (eI c))]:=⟨⟩;have:HA 2 76 75 0 fun(d:Int)(_:Unit)=>[(76,.tv (eI d))]:=⟨⟩;exact nz
instance vN(t:ej)(p:ed)(b:gt)(a:Bool):CT (Dz t p b a) 114 [AN t,BO p,Cw b,eB a] (fun r=>.tp [(eL 3 CX) r.1,eI r.2]):=Fj f114 0x81f00d012827260dfc06752827260dfc062827260dfc063c02034803470846d4026482726d6a8d9607c93702430ddb2827260dfc06f703c03603c070ebd432e0373603c070e68dab0340936231 [] fun h=>by
  unfold Dz at h;have:HA 0 40 39 0 fun(c:Int)(d:List AS)=>[(13,.ow ((eL 3 CX) d)),(40,.tv (eI c))]:=⟨⟩;exact nz
instance xb(t:ej)(p:d6)(g:d6)(m:eb):CT (F6 t p g m) 236 [AN t,A8 p,A8 g,Bm m] rI:=Fj f236 0x91474645f60675f59e6f9ef45c6f5c55ac5555a2a2eaead7c6d7c689d0745d81800061474645f606c5b2f60325242309f6077536886f80556f807e896355745d8180f6036125242309f607c532826d89d0df38cf0b7e629a [] fun h=>by
  unfold F6 at h;have:HA 0 37 36 0 fun(a:Int)(_:Unit)=>[(37,.tv (eI a))]:=⟨⟩;have:HA 2 71 70 0 fun(b:Int)(_:Unit)=>[(71,.tv (eI b))]:=⟨⟩;exact nz
theorem uM(l:Fp)(r:Bool)(h:Gy l=some r):AO prog 286 [lI l] (.sh (eB r)):=by
  unfold Gy at h;rw[<-kS]at h;split at h
  · rename_i a
    cases h;exact Zl l a
  .cases h
instance zK(l:Fp):Ct Go.Proofs.Tryz.prog (Gy l) 286 [lI l] (fun r=>.sh (eB r)):=⟨uM l⟩
instance xZ(t:ej)(p:d6)(g:d6)(m:eb)(a:Bool):CT (E2 t p g m a) 234 [AN t,A8 p,A8 g,Bm m,eB a] rI:=Fj f234 0x81890a0ea10e55307d6d3737377d6d37ab62620401 [] fun h=>by
  unfold E2 at h;exact nz
instance xa(t:ej)(p:ed)(a:gt)(m:eb):CT (D9 t p a m) 235 [AN t,BO p,Cw a,Bm m] (fun r=>.tp [lI r.1,eI r.2]):=Fj f235 0x81826b6d6a8df2c0706de0e037f2c070e68d373040629a [] fun h=>by
  unfold D9 at h;exact nz
instance wa(t:ej)(a:hO)(b:gt)(m:AS):CT (IW t a b m) 175 [AN t,CP a,Cw b,CX m] rI:=Fj f175 0x81dd57777d82726d326a8db237ac0e030f42e0e0375bb2ab629a [] fun h=>by
  unfold IW at h;exact nz
instance wb(t:ej)(p:d6)(g:d6)(m:eb):CT (E3 t p g m) 176 [AN t,A8 p,A8 g,Bm m] (fun r=>.tp [A8 r.1,eI r.2]):=Fk f176 0x8196370c08022726250c08060675c83201d280550432816f0c0802612726250c080606c5320250e33f0e5c3696b8ec6d3737373696b8ec6d37abe3629a [.Aaz [.z ⟨true,.list 1 []⟩,.w 34]] [.cell 8 (some 2),.tmp 9] fun r h c d=>by
  unfold E3 at h;have:HA 0 39 38 0 fun(b:Int)(a:d6)=>[(12,.bx [⟨true,lI a.d5⟩,⟨true,lE a.d7⟩]),(39,.tv (eI b))]:=⟨⟩;exact nz
instance xc(a:Bt):CT (Cn a) 237 [HV a] rI:=Fj f237 0x816ddce07d6db737cae0019b [] fun h=>by
  unfold Cn at h;exact nz
instance yU(a:Fp)(b:Fp):CT (FX a b) 288 [lI a,lI b] (fun r=>.own ((eL 2 UX) r)):=Fj f288 0xf0adb405650575b4056505b4f665076eb4f66507b4f665073c0202480247094630028a0aa90130a90174efefb4056505fab4f66507a75d38dbb40565057cb8c002406502 [] fun h=>by
  unfold FX at h;have:HA 0 10 9 0 fun(c:Int)(d:List Jb)=>[(5,.ow ((eL 2 UX) d)),(10,.tv (eI c))]:=⟨⟩;have:HA 2 7 0 0 fun(f:Int)(e:List Jb)=>[(5,.ow ((eL 2 UX) e)),(7,.tv (eI f))]:=⟨⟩;exact nz
instance xd(a:Bt):CT (DW a) 238 [HV a] (fun r=>.tp [(eL 2 UX) r.1,(eL 2 UX) r.2]):=Fj f238 0x82820e84dc84b70e6cdc6cb7024002409b [] fun h=>by
  unfold DW at h;exact nz
instance yV(a:Bt):CT (C5 a) 289 [HV a] (fun r=>.own (lI r)):=Fj f289 0xf031b408310575b4083105b40831053c90d2b8c1016cdc7f803161b4083105c55b0677c001409b [] fun h=>by
  unfold C5 at h;have:HA 0 10 9 0 fun(c:Int)(b:Fp)=>[(3,.ow (lI b)),(10,.tv (eI c))]:=⟨⟩;exact nz
instance xe(a:Bt):CT (Cz a) 239 [HV a] (fun r=>.own (lI r)):=Fj f239 0xf00401da0b04310675da0b043106da0b0431063c90d2b88a0a0e9e300e5c30a90184b7a281ead75f04dbda0b043106c50141f9c0820e084401409b [] fun h=>by
  unfold Cz at h;have:HA 0 13 12 0 fun(c:Int)(b:Fp)=>[(4,.ow (lI b)),(13,.tv (eI c))]:=⟨⟩;exact nz
instance xf(n:Int)(a:Fp)(b:Fp):CT (F9 n a b) 240 [eI n,lI a,lI b] (fun r=>.own (lI r)):=Fj f240 0xf00a01201f1e0a0475201f1e0a04201f1e0a043c90d2b8885d81800adb201f1e0a047c9801c0070111100f0702057511100f07020511100f0702053ce90114c1307f8007db11100f070205f7993f3040026503 [.mkx 1 [.bool false] (.s 13)] fun h=>by
  unfold F9 at h;have:HA 0 17 16 0 fun(c:Int)(d:ae)=>[(7,.xo 1 (List.map eB d)),(17,.tv (eI c))]:=⟨⟩;have:HA 2 32 31 0 fun(f:Int)(e:Fp)=>[(10,.ow (lI e)),(32,.tv (eI f))]:=⟨⟩;exact nz
instance wc(l:d6)(g:d6)(a:Bo)(m:eb):CT (GH l g a m) 177 [A8 l,A8 g,MA a,Bm m] (fun r=>.tp [MA r.1,eI r.2]):=Fk f177 0x8013b819604460e5c5cdf0e5555cfff3696034681630e084481960346a763010b0182eb08443696feec0e0844084b0ec90a46373737ab07c9629a [] [.cell 8 (some 2),.tmp 9] fun r h b c=>by
  unfold GH at h;exact nz
instance yW(t:ej)(p:ed)(c:ea)(b:gt)(m:AS)(a:Bool):CT (Eu t p c b m a) 290 [AN t,BO p,AI c,Cw b,CX m,eB a] rI:=Fj f290 0x81dd57777d82726d326a8d37bbd432e0e0377d01976a37bb9d8dab936262ad [] fun h=>by
  unfold Eu at h;exact nz
instance yx(n:Int)(b:Fp)(a:Fp):CT (FY n b a) 345 [eI n,lI b,lI a] (fun r=>.own (lI r)):=Fj f345 0x821807010f0e0d07020575e98030147f8007db0f0e0d070205f7991a30470140026503 [] fun h=>by
  unfold FY at h;have:HA 0 15 14 0 fun(c:Int)(d:Fp)=>[(7,.xo 1 (List.map eI d)),(15,.tv (eI c))]:=⟨⟩;exact nz
instance y5(k:Int)(a:Int):CT (LV k a) 350 [eI k,.pt [eI a]] rB:=Fj f350 0xf80374de [] fun h=>by
  unfold LV at h;exact nz
instance y4(l:Fp)(n:Int):CT (Gk l n) 349 [lI l,eI n] rI:=Fj f349 0x81368e10309b01 [] fun h=>by
  unfold Gk at h;exact nz
instance yy(t:ej)(p:d6)(g:d6)(b:eb)(a:Bool):CT (GJ t p g b a) 346 [AN t,A8 p,A8 g,Bm b,eB a] (fun r=>.tp [(eL 2 Bm) r.1,eI r.2]):=Fj f346 0x81826b0ed43737373602c0700edf5c3602c0700ecf553602c08ad0df38cfcf3602c0706d37ab024062620401 [] fun h=>by
  unfold GJ at h;exact nz
instance yY(a:kg)(b:Fp):CT (ET a b) 293 [UY a,lI b] (fun r=>.tp [eI r.1,eI r.2]):=Fj f293 0x7f0ed4b5c163015530c3 [] fun h=>by
  unfold ET at h;exact nz
instance yz(b:BE)(q:ed)(m:eb)(a:Fp):CT (Dg b q m a) 347 [CL b,BO q,Bm m,lI a] (fun r=>.tp [lI r.1,eB r.2]):=Fj f347 0x8182180a016867660a0475f2c08820148dd303c98d05430adb6867660a04c5dc78022c2b2a0b0acd0875f2c08aad745d8172201437ca2c2b2a0f0e0b0acd0a2c2b2a0f0e0b0acd0a3ce9e90584ca301401148a0817d10114385d6cca816f5c6f6f5555eecaba04c9b1d97802612c2b2a0b0acd08c5ca0b0acd0522210b0acd0775e9011481010b0acd056122210b0acd077c01993fa8993f6301a81a013040936231 [.Abo 1 22 (.int .i64 0) (.s 27),.mkx 1 [.bool false] (.s 30)] fun h=>by
  unfold Dg at h;have:HA 0 34 33 0 fun(d:Int)(e:ae)=>[(11,.xo 1 (List.map eB e)),(34,.tv (eI d))]:=⟨⟩;have:HA 2 44 43 0 fun(g:Int)(c:Fp×ae)=>[(10,.xo 1 (List.map eI c.1)),(11,.xo 1 (List.map eB c.2)),(44,.tv (eI g))]:=⟨⟩;have:HA 4 104 103 0 fun(f:Int)(_:Unit)=>[(104,.tv (eI f))]:=⟨⟩;exact nz
instance yw(a:BE)(c:ea)(m:AS):CT (CB a c m) 338 [CL a,AI c,CX m] (fun r=>.tp [(eL 3 CX) r.1,eI r.2]):=Fj f338 0x81f00c013b3a390c600307753b3a390c6003073b3a390c6003073c02034803470846d4027feb9e378ddc06449607c93702430cdb3b3a390c600307f703c03603c070eb03054237375bca37e09607c904460e843284cadf0ebd6ccacf96e3375b04770340e4 [] fun h=>by
  unfold CB at h;have:HA 0 59 58 0 fun(b:Int)(d:List AS)=>[(12,.ow ((eL 3 CX) d)),(59,.tv (eI b))]:=⟨⟩;exact nz
abbrev Ab1(n:Nat):Prop:=∀(a:BE)(c:ea)(m:AS),CT (Aw n a c m) 291 [CL a,AI c,CX m] (fun r=>.tp [F2 r.1,eI r.2])
abbrev AbX(n:Nat):Prop:=∀(a:BE)(c:ea)(m:AS),CT (BP n a c m) 320 [CL a,AI c,CX m] (fun r=>.tp [F2 r.1,eI r.2])
theorem rl(n:Nat)(_ih_291:Ab1 n)(_ih_320:AbX n)(b:BE)(c:ea)(m:AS):CT (Aw (n+1) b c m) 291 [CL b,AI c,CX m] (fun r=>.tp [F2 r.1,eI r.2]):=Fk f291 0xa74b0b46ff36d36be69d0644a7a74b0b4606014b4a49fcd57536d3010b46850136d30c4605478d70d30fc9976a9d0644094bc4c99d095f06db4b4a49fcd5c5b2a7a74b8d0a06022f2e2d0afc030775c8dc054805478d04dc36d3010becd30fc9976a9d0644094b0ac99d09430a0602612f2e2d0afc0307c5b20fc9a7a74b010b46ff36d30b46a7a74b0b46a77fd30f49976a9d09435c0644a78332010fc9e4 [] [.cell 6 (some 5),.tmp 7] fun r h g i=>by
  unfold Aw at h;have:HA 2 47 46 0 fun(f:Int)(a:B1×B1)=>[(6,.bx [⟨false,eI a.1.Aa0⟩,⟨true,lI a.1.pr.eb.d5⟩,⟨true,lI a.1.pr.eb.d7⟩,⟨true,lI a.1.pr.fq⟩,⟨true,Ln a.1.hT⟩]),(10,.bx [⟨false,eI a.2.Aa0⟩,⟨true,lI a.2.pr.eb.d5⟩,⟨true,lI a.2.pr.eb.d7⟩,⟨true,lI a.2.pr.fq⟩,⟨true,Ln a.2.hT⟩]),(47,.tv (eI f))]:=⟨⟩;have:HA 4 75 74 0 fun(e:Int)(d:B1)=>[(6,.bx [⟨false,eI d.Aa0⟩,⟨true,lI d.pr.eb.d5⟩,⟨true,lI d.pr.eb.d7⟩,⟨true,lI d.pr.fq⟩,⟨true,Ln d.hT⟩]),(75,.tv (eI e))]:=⟨⟩;exact nz
theorem rq(n:Nat)(_ih_291:Ab1 n)(_ih_320:AbX n)(b:BE)(c:ea)(m:AS):CT (BP (n+1) b c m) 320 [CL b,AI c,CX m] (fun r=>.tp [F2 r.1,eI r.2]):=Fk f320 0xa74b0b4606011b1a190604d57536d3010b46850136d30d4605478d6a64d30fc9976a9d09435c0644a210c9d74306db1b1a190604d5f736d3010beceb6a9d0644010fc9e4 [] [.cell 6 (some 5),.tmp 7] fun r h e f=>by
  unfold BP at h;have:HA 0 27 26 0 fun(d:Int)(a:B1)=>[(6,.bx [⟨false,eI a.Aa0⟩,⟨true,lI a.pr.eb.d5⟩,⟨true,lI a.pr.eb.d7⟩,⟨true,lI a.pr.fq⟩,⟨true,Ln a.hT⟩]),(27,.tv (eI d))]:=⟨⟩;exact nz
theorem ki:∀n:Nat,Ab1 n/\AbX n:=by
  intro n
  induction n with
  |zero=>exact⟨(fun b c m=>⟨fun _ h=>by cases h⟩),(fun b c m=>⟨fun _ h=>by cases h⟩)⟩
  |succ n a=>exact⟨rl n a.1 a.2,rq n a.1 a.2⟩
instance yX(a:BE)(c:ea)(m:AS):CT (Eh a c m) 291 [CL a,AI c,CX m] (fun r=>.tp [F2 r.1,eI r.2]):=⟨fun r h=>by
  obtain ⟨N,b⟩:=DU h;exact((ki N).1 a c m).snd r (b N (bk _))⟩
instance yr(a:BE)(c:ea)(m:AS):CT (OC a c m) 320 [CL a,AI c,CX m] (fun r=>.tp [F2 r.1,eI r.2]):=⟨fun r h=>by
  obtain ⟨N,b⟩:=DU h;exact((ki N).2 a c m).snd r (b N (bk _))⟩
instance xg(t:ej)(p:ed)(c:ea)(b:gt)(m:AS)(a:Bool):CT (D1 t p c b m a) 241 [AN t,BO p,AI c,Cw b,CX m,eB a] (fun r=>.tp [F2 r.1,eI r.2]):=Fk f241 0xa74b6be69d0e46016a3736d3010bec0e016a6a9d8dab0fc9936262ad [] [.cell 12 (some 5),.tmp 13] fun r h d e=>by
  unfold D1 at h;exact nz
instance wd(t:ej)(p:ed)(c:ea)(b:gt)(m:AS)(a:Bool):CT (DP t p c b m a) 178 [AN t,BO p,AI c,Cw b,CX m,eB a] (fun r=>.tp [eB r.1,eI r.2]):=Fj f178 0x7f3801b564d30f4997016a6a9d8d3730936262ad [] fun h=>by
  unfold DP at h;exact nz
instance we(m:AS):CT (IV m) 179 [CX m] (fun r=>.sh (CX r)):=Fk f179 0x903ba208460e9e04460e84320ebd10c99b [] [.cell 2 (some 3)] fun r h a b=>by
  unfold IV at h;exact nz
instance wg(a:gt):CT (JJ a) 180 [Cw a] (fun r=>.sh (Cw r)):=Fk f180 0xa26a5702e711d675c8f9d20148304704ca826f570261e711d6c5ca03500dc93f3f0e84320ebd0dc99b [.Aaz [.w 9,.w 13],.Aaz [.g 14 0 2,.g 14 1 2,.z ⟨true,.list 1 []⟩]] [.cell 2 (some 3)] fun r h d e=>by
  unfold JJ at h;have:HA 0 19 18 0 fun(c:Int)(b:gt)=>[(3,.bx [⟨true,lI b.d6.d5⟩,⟨true,lE b.d6.d7⟩,⟨true,(eL 1 lI) b.gp⟩]),(19,.tv (eI c))]:=⟨⟩;exact nz
instance wj(n:Int)(l:Fp):CT (Kd n l) 181 [eI n,lI l] (fun r=>.own (lI r)):=Fj f181 0x8218addaad0475e93014da76ad06da76ad063c01885d8197308138dbdaad04819514993f30406502 [.mkx 1 [.int .i64 0] (.s 9)] fun h=>by
  unfold Kd at h;have:HA 0 13 12 0 fun(b:Int)(a:Fp)=>[(5,.xo 1 (List.map eI a)),(13,.tv (eI b))]:=⟨⟩;exact nz
instance wk(b:Int)(e:Fp)(d:Fp)(a:Fp)(c:Fp)(n:Int):CT (F7 b e d a c n) 182 [eI b,lI e,lI d,lI a,lI c,eI n] (fun r=>.own (lI r)):=Fj f182 0x82180d012b2a0d60752b2a0d602b2a0d605e30e230148517d1011481010ddb2b2a0d608195140d05021615140d60310875e96f6f803030147f800d0502611615140d603108f7991a30470140a66506 [] fun h=>by
  unfold F7 at h;have:HA 0 22 21 0 fun(g:Int)(i:Fp)=>[(13,.xo 1 (List.map eI i)),(22,.tv (eI g))]:=⟨⟩;have:HA 2 43 42 0 fun(j:Int)(f:Int×Fp)=>[(5,.tv (eI f.1)),(13,.xo 1 (List.map eI f.2)),(43,.tv (eI j))]:=⟨⟩;exact nz
instance xh(t:ej)(a:Int):CT (I1 t a) 243 [AN t,eI a] (fun r=>.own (lI r)):=Fj f243 0xf00701e71107047590d25c02ba02c9b1d907dbe7110704f782b301eb01ab40c3 [] fun h=>by
  unfold I1 at h;have:HA 0 19 18 0 fun(c:Int)(b:Fp)=>[(7,.ow (lI b)),(19,.tv (eI c))]:=⟨⟩;exact nz
noncomputable def XL:PC:=PC.of Ws f183.body (xq bT 0x30b0afaefd75b0afaefdb0afaefd3cc801921f920348034705466f9e6c24bc6f5c6c24bc550401921fbc32850b845b1fbc808424bca281ead75f3061b0afaefdc5b207b87b7a79073106757b7a790731067b7a790731063c1f02411f9221221ad42302411fbc32c85b5b1f9201d2fd5b5b1fbc32850b6c5b1fbc806c24bc7f8007b8617b7a79073106c5320731a24a4976310775c801921f920348034705466f9e6c22bc6f5c6c22bc550401921fbc32a2ead75f8432816f073103614b4a49763107c5b2f631051e1d1cf63108751f02411f922122014f805777562302411fbc32c85b5b1f9201d280bd045b5b1fbc32816ff63105611e1d1cf63108c53296a2e30dc9375b06925b326a1cbc6230) []
theorem ru:CK f183 XL []:=by decide +kernel
theorem sQ:PC.Aal XL=true/\PC.Aad 1 XL=true:=by decide +kernel
instance wl(t:ej)(a:A9)(d:Bo):CT (Ho t a d) 183 [AN t,.undef,MA d] (fun r=>.bo (DF a) (DF r) 1 []):=tX ru sQ fun r h m l n=>by
  unfold XL;unfold f183;unfold Ho at h;have:HA 0 30 29 0 fun(e:Int)(f:A9)=>[(1,.bx (DF f)),(30,.tv (eI e))]:=⟨⟩;have:HA 2 75 74 0 fun(j:Int)(i:A9)=>[(1,.bx (DF i)),(75,.tv (eI j))]:=⟨⟩;have:HA 4 123 122 0 fun(g:Int)(k:A9)=>[(1,.bx (DF k)),(123,.tv (eI g))]:=⟨⟩;have:HA 6 176 175 0 fun(c:Int)(b:A9)=>[(1,.bx (DF b)),(176,.tv (eI c))]:=⟨⟩;exact nz
theorem ry:CK f244 (.seq (.region [⟨some 1,.Abx (.s 0),none⟩,
    ⟨some 2,.mv (.c .undef),none⟩,
    ⟨some 3,.mv (.c (.int .i64 0)),none⟩] [1])
 (.seq (.region [⟨some 12,.mkm,none⟩,
    ⟨some 4,.mvm 12,none⟩] [1,4,12])
 (.seq (.seq (.region [⟨some 13,.bad 1 0,none⟩,
    ⟨some 14,.fad (.s 13) 6,none⟩,
    ⟨some 15,.fad (.s 14) 2,none⟩,
    ⟨some 16,.ld (.s 15),none⟩,
    ⟨some 17,.len (.s 16),none⟩,
    ⟨some 18,.mv (.c (.int .i64 0)),none⟩] [1,4,12,16,17,18])
 (.block 0 (.loop [1,4,12,16,17,18] (.seq (.region [⟨some 19,.bin (.i) .lss (.s 18) (.s 17),none⟩] [1,4,12,16,17,18,19])
 (.seq (.cond (.s 19) (.skip [1,4,12,16,17,18])
 (.exit 0 [4,12]))
 (.seq (.block 1 (.seq (.region [⟨some 20,.iad (.s 16) (.s 18) 4,none⟩,
    ⟨some 21,.lda (.s 20) 4,none⟩,
    ⟨some 6,.alc [⟨false,.int .i64 0⟩,⟨false,.int .i64 0⟩,⟨false,.int .i64 0⟩,⟨false,.int .i64 0⟩],none⟩,
    ⟨none,.stb 4 6 (.s 21),none⟩] [1,4,6,12,16,17,18])
 (.seq (.region [⟨some 23,.bad 6 2,none⟩,
    ⟨some 24,.lda (.s 23) 2,none⟩,
    ⟨some 25,.bad 1 25,none⟩,
    ⟨some 26,.fad (.s 25) 2,none⟩,
    ⟨some 27,.ld (.s 26),none⟩,
    ⟨some 28,.call 293 [.s 24,.s 27],none⟩,
    ⟨some 22,.mv (.s 28),none⟩,
    ⟨some 29,.ext (.s 22) 0,none⟩,
    ⟨some 30,.ext (.s 22) 1,none⟩,
    ⟨some 7,.mv (.s 29),none⟩,
    ⟨some 8,.mv (.s 30),none⟩] [1,4,6,7,8,12,16,17,18])
 (.seq (.seq (.region [⟨some 31,.mv (.s 8),none⟩,
    ⟨some 32,.bin (.i) .neq (.s 31) (.c (.int .i64 0)),none⟩] [1,4,6,7,8,12,16,17,18,32])
 (.cond (.s 32) (.seq (.region [⟨some 33,.mv (.s 8),none⟩,
    ⟨some 2,.mv (.c .undef),none⟩,
    ⟨some 3,.mv (.s 33),none⟩] [2,3,12])
 .ret)
 (.skip [1,4,6,7,12,16,17,18])))
 (.seq (.draw [9,34,35,36,37,38,39,40,41,42,43] [⟨some 34,.bad 1 36,none⟩,
    ⟨some 35,.fad (.s 34) 0,none⟩,
    ⟨some 36,.ld (.s 35),none⟩,
    ⟨some 37,.bad 6 0,none⟩,
    ⟨some 38,.ld (.s 37),none⟩,
    ⟨some 39,.iad (.s 36) (.s 38) 1,none⟩,
    ⟨some 40,.ld (.s 39),none⟩,
    ⟨some 41,.bad 6 1,none⟩,
    ⟨some 42,.ld (.s 41),none⟩,
    ⟨some 43,.bld [.int .i64 0,.int .i64 0] [(0,1,.s 40),(1,1,.s 42)],none⟩,
    ⟨some 9,.alc [⟨false,.int .i64 0⟩,⟨false,.int .i64 0⟩],none⟩,
    ⟨none,.stb 2 9 (.s 43),none⟩] [1,4,7,9,12,16,17,18])
 (.seq (.seq (.region [⟨some 45,.mv (.s 4),none⟩,
    ⟨some 46,.lda (.s 9) 2,none⟩,
    ⟨some 47,.mlk 12 (.s 45) (.s 46),none⟩,
    ⟨some 44,.mv (.s 47),none⟩,
    ⟨some 48,.ext (.s 44) 0,none⟩,
    ⟨some 49,.ext (.s 44) 1,none⟩,
    ⟨some 10,.mv (.s 48),none⟩,
    ⟨some 11,.mv (.s 49),none⟩] [1,4,7,9,10,11,12,16,17,18])
 (.seq (.region [⟨some 50,.mv (.s 11),none⟩,
    ⟨some 51,.mv (.s 50),none⟩,
    ⟨some 52,.mv (.s 10),some (51,true)⟩,
    ⟨some 53,.mv (.s 7),some (51,true)⟩,
    ⟨some 54,.bin (.i) .neq (.s 52) (.s 53),some (51,true)⟩,
    ⟨some 55,.pick (.s 51) (.s 54) (.c (.bool false)),none⟩] [1,4,7,9,12,16,17,18,55])
 (.cond (.s 55) (.seq (.region [⟨some 2,.mv (.c .undef),none⟩,
    ⟨some 3,.mv (.c (.int .i64 11)),none⟩] [2,3,12])
 .ret)
 (.skip [1,4,7,9,12,16,17,18]))))
 (.region [⟨some 56,.mv (.s 4),none⟩,
    ⟨some 57,.lda (.s 9) 2,none⟩,
    ⟨some 58,.mv (.s 7),none⟩,
    ⟨none,.mup 12 (.s 56) (.s 57) (.s 58),none⟩] [1,4,12,16,17,18])))))))
 (.region [⟨some 59,.bin (.i) .add (.s 18) (.c (.int .i64 1)),none⟩,
    ⟨some 18,.mv (.s 59),none⟩] [1,4,12,16,17,18])))))))
 (.seq (.region [⟨some 60,.mv (.s 4),none⟩,
    ⟨some 2,.mv (.s 60),none⟩,
    ⟨some 3,.mv (.c (.int .i64 0)),none⟩] [2,3,12])
 .ret)))) [.tmp 2,.tmp 3]:=by decide +kernel
instance zE(s:A9):Ct Go.Proofs.Tryz.prog (HK s) 244 [Z2 s] MJ:=uu ry fun r h d e=>by
  unfold HK at h;have K:∀b:Nat,HA 0 18 17 0 fun(c:Int)(a:BR)=>[(12,.mx (.mp b a)),(18,.tv (eI c))]:=fun _=>⟨⟩;have:tY 12:=⟨⟩;exact au
theorem WA(t:ej)(s:A9)(V:List Fp)(p:(Int×Int)×Int)(a:BR)(r:Bu (List Fp) Unit)(h:NQ t s V p=some r):WP (AO Go.Proofs.Tryz.prog) (.block 1 (.seq (.region [⟨some 25,.men 22,none⟩,
    ⟨some 26,.ext (.s 25) 0,none⟩,
    ⟨some 27,.ext (.s 25) 1,none⟩,
    ⟨some 7,.alc [⟨false,.int .i64 0⟩,⟨false,.int .i64 0⟩],none⟩,
    ⟨none,.stb 2 7 (.s 26),none⟩,
    ⟨some 8,.mv (.s 27),none⟩] [1,2,7,8,22])
 (.seq (.draw [9,10,28,29,30,31,32,33,34,35,36,37,38,39,40,41,42] [⟨some 29,.lda (.s 2) 2,none⟩,
    ⟨some 30,.bad 1 0,none⟩,
    ⟨some 31,.fad (.s 30) 0,none⟩,
    ⟨some 32,.fad (.s 31) 31,none⟩,
    ⟨some 33,.fad (.s 32) 0,none⟩,
    ⟨some 34,.fad (.s 33) 0,none⟩,
    ⟨some 35,.ld (.s 34),none⟩,
    ⟨some 36,.bad 7 0,none⟩,
    ⟨some 37,.ld (.s 36),none⟩,
    ⟨some 38,.iad (.s 35) (.s 37) 1,none⟩,
    ⟨some 39,.ld (.s 38),none⟩,
    ⟨some 40,.call 169 [.s 29,.s 39],none⟩,
    ⟨some 28,.mv (.s 40),none⟩,
    ⟨some 41,.ext (.s 28) 0,none⟩,
    ⟨some 42,.ext (.s 28) 1,none⟩,
    ⟨some 9,.mv (.s 41),none⟩,
    ⟨some 10,.mv (.s 42),none⟩] [1,2,7,8,9,22])
 (.seq (.seq (.region [⟨some 43,.mv (.s 8),none⟩,
    ⟨some 44,.mv (.s 9),none⟩,
    ⟨some 45,.bad 7 1,none⟩,
    ⟨some 46,.ld (.s 45),none⟩,
    ⟨some 47,.iad (.s 44) (.s 46) 4,none⟩,
    ⟨some 48,.fad (.s 47) 1,none⟩,
    ⟨some 49,.ld (.s 48),none⟩,
    ⟨some 50,.bin (.i) .lss (.s 43) (.s 49),none⟩,
    ⟨some 51,.mv (.s 50),none⟩,
    ⟨some 52,.mv (.s 8),some (51,false)⟩,
    ⟨some 53,.mv (.s 9),some (51,false)⟩,
    ⟨some 54,.bad 7 1,some (51,false)⟩,
    ⟨some 55,.ld (.s 54),some (51,false)⟩,
    ⟨some 56,.iad (.s 53) (.s 55) 4,some (51,false)⟩,
    ⟨some 57,.fad (.s 56) 2,some (51,false)⟩,
    ⟨some 58,.ld (.s 57),some (51,false)⟩,
    ⟨some 59,.bin (.i) .gtr (.s 52) (.s 58),some (51,false)⟩,
    ⟨some 60,.pick (.s 51) (.c (.bool true)) (.s 59),none⟩] [1,2,7,8,22,60])
 (.cond (.s 60) (.seq (.region [⟨some 4,.mv (.c (.int .i64 6)),none⟩] [1,4])
 .ret)
 (.skip [1,2,7,8,22])))
 (.draw [61,62,63,64,65,66,67,68,69,70,71,72,73] [⟨some 61,.bad 1 0,none⟩,
    ⟨some 62,.fad (.s 61) 0,none⟩,
    ⟨some 63,.fad (.s 62) 31,none⟩,
    ⟨some 64,.fad (.s 63) 2,none⟩,
    ⟨some 65,.lan (.s 64),none⟩,
    ⟨some 66,.bad 7 0,none⟩,
    ⟨some 67,.ld (.s 66),none⟩,
    ⟨some 68,.nia (.s 65) (.s 67),none⟩,
    ⟨some 69,.nld (.s 68),none⟩,
    ⟨some 70,.bad 7 1,none⟩,
    ⟨some 71,.ld (.s 70),none⟩,
    ⟨some 72,.mv (.s 8),none⟩,
    ⟨some 73,.nia (.s 69) (.s 71),none⟩,
    ⟨none,.nst (.s 73) (.s 72),none⟩] [1,2,22]))))) ⟨fun e=>∃b,r=.next b/\Rn (e.fu [1,2,22]) [(1,.bx (DF (Mk s b))),(2,.tv (.pt (AN t).cells)),(22,.mx (.mi (some p) a))],fun _ _=>False,fun e=>∃v,r=.ret v/\Rn e [(1,.bx (DF (Mk s V))),(4,.tv (eI 6))]⟩ [(1,.bx (DF (Mk s V))),(2,.tv (.pt (AN t).cells)),(22,.mx (.mi (some p) a))]:=by
  unfold NQ at h;exact au
noncomputable def XM:PC:=(.seq (.region [⟨some 2,.Abx (.s 0),none⟩,
    ⟨some 4,.mv (.c (.int .i64 0)),none⟩] [1,2])
 (.seq (.region [⟨some 12,.bad 1 0,none⟩,
    ⟨some 13,.fad (.s 12) 0,none⟩,
    ⟨some 14,.lda (.s 13) 38,none⟩,
    ⟨some 15,.AaO 244 [.s 14],none⟩,
    ⟨some 11,.mvm 15,none⟩,
    ⟨some 16,.ext (.s 11) 0,none⟩,
    ⟨some 17,.ext (.s 11) 1,none⟩,
    ⟨some 5,.mv (.s 16),none⟩,
    ⟨some 6,.mv (.s 17),none⟩] [1,2,5,6,15])
 (.seq (.seq (.region [⟨some 18,.mv (.s 6),none⟩,
    ⟨some 19,.bin (.i) .neq (.s 18) (.c (.int .i64 0)),none⟩] [1,2,5,6,15,19])
 (.cond (.s 19) (.seq (.region [⟨some 20,.mv (.s 6),none⟩,
    ⟨some 4,.mv (.s 20),none⟩] [1,4])
 .ret)
 (.skip [1,2,5,15])))
 (.seq (.seq (.region [⟨some 21,.mv (.s 5),none⟩,
    ⟨some 22,.mrg 15 (.s 21),none⟩] [1,2,22])
 (.block 0 (.loop [1,2,22] (.seq (.region [⟨some 23,.mnx 22,none⟩,
    ⟨some 24,.ext (.s 23) 0,none⟩] [1,2,22,24])
 (.seq (.cond (.s 24) (.skip [1,2,22])
 (.exit 0 [1]))
 (.block 1 (.seq (.region [⟨some 25,.men 22,none⟩,
    ⟨some 26,.ext (.s 25) 0,none⟩,
    ⟨some 27,.ext (.s 25) 1,none⟩,
    ⟨some 7,.alc [⟨false,.int .i64 0⟩,⟨false,.int .i64 0⟩],none⟩,
    ⟨none,.stb 2 7 (.s 26),none⟩,
    ⟨some 8,.mv (.s 27),none⟩] [1,2,7,8,22])
 (.seq (.draw [9,10,28,29,30,31,32,33,34,35,36,37,38,39,40,41,42] [⟨some 29,.lda (.s 2) 2,none⟩,
    ⟨some 30,.bad 1 0,none⟩,
    ⟨some 31,.fad (.s 30) 0,none⟩,
    ⟨some 32,.fad (.s 31) 31,none⟩,
    ⟨some 33,.fad (.s 32) 0,none⟩,
    ⟨some 34,.fad (.s 33) 0,none⟩,
    ⟨some 35,.ld (.s 34),none⟩,
    ⟨some 36,.bad 7 0,none⟩,
    ⟨some 37,.ld (.s 36),none⟩,
    ⟨some 38,.iad (.s 35) (.s 37) 1,none⟩,
    ⟨some 39,.ld (.s 38),none⟩,
    ⟨some 40,.call 169 [.s 29,.s 39],none⟩,
    ⟨some 28,.mv (.s 40),none⟩,
    ⟨some 41,.ext (.s 28) 0,none⟩,
    ⟨some 42,.ext (.s 28) 1,none⟩,
    ⟨some 9,.mv (.s 41),none⟩,
    ⟨some 10,.mv (.s 42),none⟩] [1,2,7,8,9,22])
 (.seq (.seq (.region [⟨some 43,.mv (.s 8),none⟩,
    ⟨some 44,.mv (.s 9),none⟩,
    ⟨some 45,.bad 7 1,none⟩,
    ⟨some 46,.ld (.s 45),none⟩,
    ⟨some 47,.iad (.s 44) (.s 46) 4,none⟩,
    ⟨some 48,.fad (.s 47) 1,none⟩,
    ⟨some 49,.ld (.s 48),none⟩,
    ⟨some 50,.bin (.i) .lss (.s 43) (.s 49),none⟩,
    ⟨some 51,.mv (.s 50),none⟩,
    ⟨some 52,.mv (.s 8),some (51,false)⟩,
    ⟨some 53,.mv (.s 9),some (51,false)⟩,
    ⟨some 54,.bad 7 1,some (51,false)⟩,
    ⟨some 55,.ld (.s 54),some (51,false)⟩,
    ⟨some 56,.iad (.s 53) (.s 55) 4,some (51,false)⟩,
    ⟨some 57,.fad (.s 56) 2,some (51,false)⟩,
    ⟨some 58,.ld (.s 57),some (51,false)⟩,
    ⟨some 59,.bin (.i) .gtr (.s 52) (.s 58),some (51,false)⟩,
    ⟨some 60,.pick (.s 51) (.c (.bool true)) (.s 59),none⟩] [1,2,7,8,22,60])
 (.cond (.s 60) (.seq (.region [⟨some 4,.mv (.c (.int .i64 6)),none⟩] [1,4])
 .ret)
 (.skip [1,2,7,8,22])))
 (.draw [61,62,63,64,65,66,67,68,69,70,71,72,73] [⟨some 61,.bad 1 0,none⟩,
    ⟨some 62,.fad (.s 61) 0,none⟩,
    ⟨some 63,.fad (.s 62) 31,none⟩,
    ⟨some 64,.fad (.s 63) 2,none⟩,
    ⟨some 65,.lan (.s 64),none⟩,
    ⟨some 66,.bad 7 0,none⟩,
    ⟨some 67,.ld (.s 66),none⟩,
    ⟨some 68,.nia (.s 65) (.s 67),none⟩,
    ⟨some 69,.nld (.s 68),none⟩,
    ⟨some 70,.bad 7 1,none⟩,
    ⟨some 71,.ld (.s 70),none⟩,
    ⟨some 72,.mv (.s 8),none⟩,
    ⟨some 73,.nia (.s 69) (.s 71),none⟩,
    ⟨none,.nst (.s 73) (.s 72),none⟩] [1,2,22]))))))))))
 (.seq (.region [⟨some 4,.mv (.c (.int .i64 0)),none⟩] [1,4])
 .ret)))))
theorem rx:CK f184 XM [.tmp 4]:=by decide +kernel
theorem sR:PC.Aal XM=true/\PC.Aad 1 XM=true:=by decide +kernel
variable{t:ej}{s:A9}
theorem bZ{p:(Int×Int)×Int}{b:Bool}(h:NR t s p=some b){V:List Fp}(a:KM V s.tc.gp):
    (b=true->NQ t s V p=some (.next (CQ V p)))/\(b=false->NQ t s V p=some (.ret ())):=by
  unfold NR NQ at h;unfold NQ;obtain⟨c,d,h⟩:=bind_some h;obtain⟨q,f,d⟩:=bind_some d;obtain⟨r,g,d⟩:=bind_some d;obtain⟨u,i,d⟩:=bind_some d;obtain⟨j,k,d⟩:=bind_some d;simp only[f,g,i,Option.bind_some]at *;rw[k,Option.bind_some];cases j with
  |true=>
    simp only[if_true,wi]at d|-;subst d;simp only[wi]at h;subst h;exact⟨fun e=>(by cases e),fun _=>trivial⟩
  |false=>
    simp only[Bool.false_eq_true,if_false]at d|-;obtain⟨v,l,d⟩:=bind_some d;obtain⟨w,m,d⟩:=bind_some d;cases d;simp only[wi]at h;subst h;obtain⟨x,x',n,o⟩:=a.idx l m;refine⟨fun _=>?_,fun e=>(by cases e)⟩;rw[n,Option.bind_some,o,Option.bind_some,g9 n o]
theorem dt{a:BR}{c:Bool}(m:a.Dis)(g:AaM (NR t s) a=some c){M z:AB->Prop}{x:Nat->AB->Prop}{d:AB->Prop}
    (f:c=true->z [(1,.bx (DF (Mk s (a.foldl CQ s.tc.gp))))])(n:c=false->∀V,d [(1,.bx (DF (Mk s V))),(4,.tv (eI 6))]):
    WP (AO Go.Proofs.Tryz.prog) (.loop [1,2,22] (.seq (.region [⟨some 23,.mnx 22,none⟩,
    ⟨some 24,.ext (.s 23) 0,none⟩] [1,2,22,24])
 (.seq (.cond (.s 24) (.skip [1,2,22])
 (.exit 0 [1]))
 (.block 1 (.seq (.region [⟨some 25,.men 22,none⟩,
    ⟨some 26,.ext (.s 25) 0,none⟩,
    ⟨some 27,.ext (.s 25) 1,none⟩,
    ⟨some 7,.alc [⟨false,.int .i64 0⟩,⟨false,.int .i64 0⟩],none⟩,
    ⟨none,.stb 2 7 (.s 26),none⟩,
    ⟨some 8,.mv (.s 27),none⟩] [1,2,7,8,22])
 (.seq (.draw [9,10,28,29,30,31,32,33,34,35,36,37,38,39,40,41,42] [⟨some 29,.lda (.s 2) 2,none⟩,
    ⟨some 30,.bad 1 0,none⟩,
    ⟨some 31,.fad (.s 30) 0,none⟩,
    ⟨some 32,.fad (.s 31) 31,none⟩,
    ⟨some 33,.fad (.s 32) 0,none⟩,
    ⟨some 34,.fad (.s 33) 0,none⟩,
    ⟨some 35,.ld (.s 34),none⟩,
    ⟨some 36,.bad 7 0,none⟩,
    ⟨some 37,.ld (.s 36),none⟩,
    ⟨some 38,.iad (.s 35) (.s 37) 1,none⟩,
    ⟨some 39,.ld (.s 38),none⟩,
    ⟨some 40,.call 169 [.s 29,.s 39],none⟩,
    ⟨some 28,.mv (.s 40),none⟩,
    ⟨some 41,.ext (.s 28) 0,none⟩,
    ⟨some 42,.ext (.s 28) 1,none⟩,
    ⟨some 9,.mv (.s 41),none⟩,
    ⟨some 10,.mv (.s 42),none⟩] [1,2,7,8,9,22])
 (.seq (.seq (.region [⟨some 43,.mv (.s 8),none⟩,
    ⟨some 44,.mv (.s 9),none⟩,
    ⟨some 45,.bad 7 1,none⟩,
    ⟨some 46,.ld (.s 45),none⟩,
    ⟨some 47,.iad (.s 44) (.s 46) 4,none⟩,
    ⟨some 48,.fad (.s 47) 1,none⟩,
    ⟨some 49,.ld (.s 48),none⟩,
    ⟨some 50,.bin (.i) .lss (.s 43) (.s 49),none⟩,
    ⟨some 51,.mv (.s 50),none⟩,
    ⟨some 52,.mv (.s 8),some (51,false)⟩,
    ⟨some 53,.mv (.s 9),some (51,false)⟩,
    ⟨some 54,.bad 7 1,some (51,false)⟩,
    ⟨some 55,.ld (.s 54),some (51,false)⟩,
    ⟨some 56,.iad (.s 53) (.s 55) 4,some (51,false)⟩,
    ⟨some 57,.fad (.s 56) 2,some (51,false)⟩,
    ⟨some 58,.ld (.s 57),some (51,false)⟩,
    ⟨some 59,.bin (.i) .gtr (.s 52) (.s 58),some (51,false)⟩,
    ⟨some 60,.pick (.s 51) (.c (.bool true)) (.s 59),none⟩] [1,2,7,8,22,60])
 (.cond (.s 60) (.seq (.region [⟨some 4,.mv (.c (.int .i64 6)),none⟩] [1,4])
 .ret)
 (.skip [1,2,7,8,22])))
 (.draw [61,62,63,64,65,66,67,68,69,70,71,72,73] [⟨some 61,.bad 1 0,none⟩,
    ⟨some 62,.fad (.s 61) 0,none⟩,
    ⟨some 63,.fad (.s 62) 31,none⟩,
    ⟨some 64,.fad (.s 63) 2,none⟩,
    ⟨some 65,.lan (.s 64),none⟩,
    ⟨some 66,.bad 7 0,none⟩,
    ⟨some 67,.ld (.s 66),none⟩,
    ⟨some 68,.nia (.s 65) (.s 67),none⟩,
    ⟨some 69,.nld (.s 68),none⟩,
    ⟨some 70,.bad 7 1,none⟩,
    ⟨some 71,.ld (.s 70),none⟩,
    ⟨some 72,.mv (.s 8),none⟩,
    ⟨some 73,.nia (.s 69) (.s 71),none⟩,
    ⟨none,.nst (.s 73) (.s 72),none⟩] [1,2,22])))))))) ⟨M,fun j e=>if j=0 then z e else x j e,d⟩ [(1,.bx (DF s)),(2,.tv (.pt (AN t).cells)),(22,.mx (.mi none a))]:=by
  obtain ⟨m1,R⟩:=U0 g;refine⟨nc _ (σ:=List Fp×Option ((Int×Int)×Int)×BR) (fun σ=>[(1,.bx (DF (Mk s σ.1))),(2,.tv (.pt (AN t).cells)),(22,.mx (.mi σ.2.1 σ.2.2))])
    (fun σ=>KM σ.1 s.tc.gp/\(∀l,σ.2.2.Perm l->l.foldl CQ σ.1=a.foldl CQ s.tc.gp)/\(∀p∈σ.2.2,p∈a)/\(c=false->∃p∈σ.2.2,NR t s p=some false))
    (fun σ=>σ.2.2.length) (s.tc.gp,none,a) rfl ⟨rfl,fun l A=>Ua m A _,fun p r=>r,R⟩ ?_⟩
  rintro ⟨V,last,u⟩ ⟨I,J,K,L⟩ W;refine WP.out (?_:WP _ _ _ _);apply Jd;apply OO;refine tJ rfl (by decide) (fun e=>?_) (fun p o r=>?_)
  · simp only at e
    subst e;have P:c=true:=by
      cases c with
      |true=>rfl|false=>obtain⟨p,r,_⟩:=L rfl;cases r
    have Q:V=a.foldl CQ s.tc.gp:=J [] (List.Perm.refl _);apply st;exact fun _ k=>k;apply L0;(focus (repeat(first|exact Hc|(apply Ji;exact rfl)|(apply Jf;exact rfl)|(apply Jg;exact rfl)|(apply Jj;exact rfl)|(apply Jh;exact rfl))));intro C;apply Jd;apply QE;exact rfl;exact rfl;apply dR;(focus (repeat(first|exact Hc|(apply Ji;exact rfl)|(apply Jf;exact rfl)|(apply Jg;exact rfl)|(apply Jj;exact rfl)|(apply Jh;exact rfl))));show(if(0:Nat)=0 then z [(1,.bx (DF (Mk s V)))]else x 0 [(1,.bx (DF (Mk s V)))]);rw[az rfl,Q];exact f P
  · apply st;exact fun _ k=>k
    apply L0;(focus (repeat(first|exact Hc|(apply Ji;exact rfl)|(apply Jf;exact rfl)|(apply Jg;exact rfl)|(apply Jj;exact rfl)|(apply Jh;exact rfl))));intro C;apply Jd;apply QF;exact rfl;exact rfl;apply Xa;(focus (repeat(first|exact Hc|(apply Ji;exact rfl)|(apply Jf;exact rfl)|(apply Jg;exact rfl)|(apply Jj;exact rfl)|(apply Jh;exact rfl))));intro O;have D:p∈u:=r.mem_iff.2 (by simp);obtain⟨b,H,E⟩:=m1 p (K p D);obtain⟨S,T⟩:=bZ H I;cases b with
    |true=>
      refine ⟨PC.o4 _ _ _ _ (WA t s V p o _ (S rfl)).out _ (fun e he=>?_) (fun _ _ h=>h.elim) (fun e he=>?_)⟩
      · obtain⟨U,y,F⟩:=he
        cases y;refine⟨(CQ V p,some p,o),F.out,⟨(V9 V p).trans I,fun l A=>?_,fun q B=>K q (r.mem_iff.2 (by simp[B])),fun N=>?_⟩,?_⟩
        .exact J (p::l) (r.trans (A.cons p))
        · obtain⟨q,B,w⟩:=L N
          rcases List.mem_cons.1 (r.mem_iff.1 B)with rfl|G
          .rw[H]at w;cases w
          .exact⟨q,G,w⟩
        · have:=r.length_eq
          simp only[ci]at this;show o.length<u.length;omega
      · obtain⟨v,y,_⟩:=he
        cases y
    |false=>
      refine ⟨PC.o4 _ _ _ _ (WA t s V p o _ (T rfl)).out _ (fun e he=>?_) (fun _ _ h=>h.elim) (fun e he=>?_)⟩
      · obtain⟨U,y,_⟩:=he
        cases y
      · obtain⟨v,_,F⟩:=he
        rw [F.out];exact n (by cases c with|false=>rfl|true=>exact absurd (E rfl) (by simp)) V
instance zA(t:ej)(s:A9):Ct Go.Proofs.Tryz.prog (KH t s) 184 [AN t,.undef] (fun r=>.bo (DF s) (if(!decide (r.1=0))=true then(DF r.2).set 33 ⟨false,.undef⟩else DF r.2) 1 [eI r.1]):=uA rx sR fun r h v l=>by
  unfold XM;unfold KH at h;obtain⟨a,q,h⟩:=bind_some h;have d:=(inferInstance:Ct Go.Proofs.Tryz.prog (HK s) 244 [Z2 s] MJ).snd a q;apply Jd;apply OO;apply st;exact fun _ k=>k;apply st;exact fun _ k=>k;apply L0;(focus (repeat(first|exact Hc|(apply Ji;exact rfl)|(apply Jf;exact rfl)|(apply Jg;exact rfl)|(apply Jj;exact rfl)|(apply Jh;exact rfl))));intro m;apply Jd;apply OO;apply st;exact fun _ k=>k;apply st;exact fun _ k=>k;apply st;exact fun _ k=>⟨Nat.le_of_ble_eq_true rfl,k⟩;by_cases he:a.2=0
  · have e:MJ a=.mpr a.1 [.int .i64 a.2]:=az he
    rw [e]at d;rw[b6 (by simp[he])]at h;split at h
    · rename_i hd
      have hd:BR.Dis a.1:=(show List.Pairwise (fun x y:(Int×Int)×Int=>x.1≠y.1) a.1 from of_decide_eq_true hd);obtain⟨c,u,h⟩:=bind_some h;refine jX rfl d (fun b=>?_);apply st;exact fun _ k=>k;apply st;exact fun _ k=>k;apply st;exact fun _ k=>k;apply st;exact fun _ k=>k;apply st;exact fun _ k=>k;apply L0;(focus (repeat(first|exact Hc|(apply Ji;exact rfl)|(apply Jf;exact rfl)|(apply Jg;exact rfl)|(apply Jj;exact rfl)|(apply Jh;exact rfl))));intro g;apply Jd;apply Jd;apply OO;apply st;exact fun _ k=>k;apply st;exact fun _ k=>k;apply L0;(focus (repeat(first|exact Hc|(apply Ji;exact rfl)|(apply Jf;exact rfl)|(apply Jg;exact rfl)|(apply Jj;exact rfl)|(apply Jh;exact rfl))));intro i;apply QE;exact rfl;simp[he];apply Xa;(focus (repeat(first|exact Hc|(apply Ji;exact rfl)|(apply Jf;exact rfl)|(apply Jg;exact rfl)|(apply Jj;exact rfl)|(apply Jh;exact rfl))));intro j;apply Jd;apply Jd;apply OO;apply st;exact fun _ k=>k;apply st;exact fun _ k=>⟨⟨by decide,rfl⟩,k⟩;apply L0;(focus (repeat(first|exact Hc|(apply Ji;exact rfl)|(apply Jf;exact rfl)|(apply Jg;exact rfl)|(apply Jj;exact rfl)|(apply Jh;exact rfl))));intro n;apply Zs;refine dt hd u (fun f=>?_) (fun f V=>?_)
      · intro o
        apply Jd;apply OO;apply st;exact fun _ k=>k;apply L0;(focus (repeat(first|exact Hc|(apply Ji;exact rfl)|(apply Jf;exact rfl)|(apply Jg;exact rfl)|(apply Jj;exact rfl)|(apply Jh;exact rfl))));intro p;apply bK;rw[az f]at h;cases h;exact⟨_,Wk.refl _,rfl,rfl⟩
      · rw[b6 (by simp[f])]at h
        cases h;refine⟨_,?_,rfl,rfl⟩;exact Wk.set (DF (Mk s V)) 33
    .cases h
  · have e:MJ a=.tp [.undef,.int .i64 a.2]:=b6 he
    rw [e]at d;rw[az (by simp[he])]at h;refine jW rfl d ?_;apply st;exact fun _ k=>k;apply st;exact fun _ k=>k;apply st;exact fun _ k=>k;apply st;exact fun _ k=>k;apply st;exact fun _ k=>k;apply L0;(focus (repeat(first|exact Hc|(apply Ji;exact rfl)|(apply Jf;exact rfl)|(apply Jg;exact rfl)|(apply Jj;exact rfl)|(apply Jh;exact rfl))));intro g;apply Jd;apply Jd;apply OO;apply st;exact fun _ k=>k;apply st;exact fun _ k=>k;apply L0;(focus (repeat(first|exact Hc|(apply Ji;exact rfl)|(apply Jf;exact rfl)|(apply Jg;exact rfl)|(apply Jj;exact rfl)|(apply Jh;exact rfl))));intro i;apply QF;exact rfl;simp[he];apply Jd;apply OO;apply st;exact fun _ k=>k;apply st;exact fun _ k=>k;apply L0;(focus (repeat(first|exact Hc|(apply Ji;exact rfl)|(apply Jf;exact rfl)|(apply Jg;exact rfl)|(apply Jj;exact rfl)|(apply Jh;exact rfl))));intro j;apply bK;cases h;simp only[he,decide_false,Bool.not_false,if_true];exact⟨_,Wk.set (DF s) 33,rfl,rfl⟩
end Go.Sf.Sc
