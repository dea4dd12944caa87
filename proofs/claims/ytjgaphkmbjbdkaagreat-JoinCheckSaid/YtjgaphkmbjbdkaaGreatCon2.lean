/- Contracts of the functions. -/
import Derived.Test.YtjgaphkmbjbdkaaGreatCon0
import Derived.Test.YtjgaphkmbjbdkaaGreatCon1
import Derived.Test.YtjgaphkmbjbdkaaGreatTryzShelf
import Derived.Test.YtjgaphkmbjbdkaaGreatTw
set_option linter.all false
set_option maxRecDepth 100000
set_option maxHeartbeats 4000000
namespace Go.Sf.Sc
open Go Go.Sf Go.Proofs.Tryz
instance ACL(a:Bk)(b:AC):CT (LH a b) 372 [BP a,.pt (AM b).cells] rB:=Fj f372 0x81ed59f5 [] fun h=>by
  unfold LH at h;exact nz
instance ABr(t:AC)(g:d5):CT (Fo t g) 334 [AM t,Ar g] rB:=Fj f334 0x90a6105a01a61059de [] fun h=>by
  unfold Fo at h;exact nz
instance AA2(t:AC)(p:d5)(g:d5):CT (Ef t p g) 278 [AM t,Ar p,Ar g] rI:=Fj f278 0x819b087f3601087f36718c181716ca06919f7f8007c9360243718c61181716ca069702c7be9f0175369a8d [] fun h=>by
  unfold Ef at h;have:HA 0 24 23 0 fun(a:Int)(_:Unit)=>[(24,.tv (eI a))]:=⟨⟩;exact nz
instance ACM(t:AC)(a:Int):CT (JC t a) 373 [AM t,eI a] (fun r=>.tp [lI r.1,eI r.2]):=Fj f373 0x81f20701dd07025591dd070255dd0702553cb2d9cb8e3036810107f9dd0702559759e237e2770eaaac30fe30 [] fun h=>by
  unfold JC at h;have:HA 0 19 18 0 fun(c:Int)(b:Fp)=>[(7,.ow (lI b)),(19,.tv (eI c))]:=⟨⟩;exact nz
instance ABs(t:AC):CT (Ga t) 335 [AM t] (fun r=>.own ((eL 1 (eL 1 eB)) r)):=Fj f335 0xf231b7310491b2d91802b70531051c1b1ab70531089101fd0114815eb7053105611c1b1ab7053108978101e3ac993fdc81013161b731049759e201fe00 [.mkx 1 [.bool false] (.s 18)] fun h=>by
  unfold Ga at h;have:HA 0 13 12 0 fun(a:Int)(b:List a5)=>[(3,.ow ((eL 1 (eL 1 eB)) b)),(13,.tv (eI a))]:=⟨⟩;have:HA 2 28 27 0 fun(d:Int)(c:a5)=>[(5,.xo 1 (List.map eB c)),(28,.tv (eI d))]:=⟨⟩;exact nz
instance AA3(t:AC)(p:d5)(g:d5)(m:d6):CT (Gb t p g m) 279 [AM t,Ar p,Ar g,Ao m] rI:=Fj f279 0xa2474645eb0506919b057e5e7e59555a5e5a59b5baa5a5f0f0cddacdda9bed30055d815ef8474645eb0506dbb3eb050325242309eb05079137885e9e595e9e59019b725930055d819eeb05036125242309eb0507db32827f9bede855dcdc015c8d [] fun h=>by
  unfold Gb at h;have:HA 0 37 36 0 fun(a:Int)(_:Unit)=>[(37,.tv (eI a))]:=⟨⟩;have:HA 2 71 70 0 fun(b:Int)(_:Unit)=>[(71,.tv (eI b))]:=⟨⟩;exact nz
theorem wY(l:Fp)(r:Bool)(h:H4 l=some r):AU prog 333 [lI l] (.sh (eB r)):=by
  unfold H4 at h;rw[<-ml]at h;split at h
  · rename_i a
    cases h;exact cO l a
  .cases h
instance ACn(l:Fp):Ct Go.Proofs.Tryz.prog (H4 l) 333 [lI l] (fun r=>.sh (eB r)):=⟨wY l⟩
instance AA0(t:AC)(p:d5)(g:d5)(m:d6)(a:Bool):CT (FV t p g m a) 276 [AM t,Ar p,Ar g,Ao m,eB a] rI:=Fj f276 0x819b0a0e5a6559309f7f36be9f7fbe015c5c0401 [] fun h=>by
  unfold FV at h;exact nz
instance AAT(t:AC)(p:ea)(a:AF):CT (EX t p a) 243 [AM t,A9 p,BO a] rI:=Fj f243 0x815d01756236d589369a8d [] fun h=>by
  unfold EX at h;exact nz
instance ABU(a:gn)(b:Fp):CT (EY a b) 310 [Py a,lI b] rI:=Fj f310 0xd65a5e5901375a8559f5 [] fun h=>by
  unfold EY at h;exact nz
instance AB1(a:Int)(b:Int):CT (Gi a b) 346 [eI a,eI b] (fun r=>.tp [eI r.1,K0 r.2]):=Fj f346 0x9d553f553f013f5d816b01283f013f30f7 [.cvt .u64 (.s 9),.cvt .u64 (.s 11),.bin (.w) .shr (.s 16) (.c (.int .u64 63)),.bin (.w) .shr (.s 18) (.c (.int .u64 63)),.cvt .i64 (.s 21)] fun h=>by
  unfold Gi at h;exact nz
instance AB0(t:gn)(a:Fp):CT (E3 t a) 345 [Py t,.pt [lI a]] (fun r=>.tp [eI r.1,K0 r.2.1,eB r.2.2]):=Fj f345 0x819d309d755a5e5903ff379d907203595559819d309d755ad659789330 [] fun h=>by
  unfold E3 at h;exact nz
instance ABV(a:Test)(b:Fp):CT (F4 a b) 311 [Dv a,lI b] rB:=Fj f311 0x900ab6055970b60559810eaa0e300e309b0830085d9d116b010f3603425d9d116b010f36b35d10de [] fun h=>by
  unfold F4 at h;exact nz
instance AAV(p:ea)(a:AF)(m:d6):CT (Gg p a m) 245 [A9 p,BO a,Ao m] (fun r=>.tp [lI r.1,eI r.2]):=Fj f245 0x81821808df4b4a08049137e288201489b804c989054308f94c4b4a0804dbad085b1918170908ca089137e28501201436a91918170c0b0908ca0a1918170c0b0908ca0a3c01fd01fd057da9301401148a0817df0114555d6ca9815e5a5e5eba7e044b05c9d40443085b611918170908ca08dba999993fb43fb430fe8d [.mkx 1 [.int .i64 0] (.s 17),.mkx 1 [.bool false] (.s 20)] fun h=>by
  unfold Gg at h;have:HA 0 25 24 0 fun(c:Int)(b:Fp×a5)=>[(8,.xo 1 (List.map eI b.1)),(9,.xo 1 (List.map eB b.2)),(25,.tv (eI c))]:=⟨⟩;have:HA 2 76 75 0 fun(d:Int)(_:Unit)=>[(76,.tv (eI d))]:=⟨⟩;exact nz
instance AA1(t:AC)(p:ea)(a:AF)(m:d6):CT (EW t p a m) 277 [AM t,A9 p,BO a,Ao m] (fun r=>.tp [lI r.1,eI r.2]):=Fj f277 0x81826b7f628937e2777fc4c43637e277e7893630405c8d [] fun h=>by
  unfold EW at h;exact nz
instance zr(t:AC)(a:eg)(b:AF)(m:AL):CT (Jj t a b m) 212 [AM t,Bz a,BO b,BT m] rI:=Fj f212 0x81f17e019fe3c46289b336b50e030f42c4c43638b336015c8d [] fun h=>by
  unfold Jj at h;exact nz
instance zu(t:AC)(p:d5)(g:d5)(m:d6):CT (FW t p g m) 213 [AM t,Ar p,Ar g,Ao m] (fun r=>.tp [Ar r.1,eI r.2]):=Fk f213 0x8180360c08022726250c08060691014a3201d99e590432815e0c0802612726250c080606db32025007c93f0e5a37800103f37f36be37800103f37fbe0107c95c8d [.Aad [.z ⟨true,.list 1 []⟩,.w 34]] [.cell 8 (some 2),.tmp 9] fun r h c d=>by
  unfold FW at h;have:HA 0 39 38 0 fun(b:Int)(a:d5)=>[(12,.bx [⟨true,lI a.d3⟩,⟨true,lE a.d4⟩]),(39,.tv (eI b))]:=⟨⟩;exact nz
instance AA4(a:B5):CT (DE a) 280 [IX a] rI:=Fj f280 0x817fadc49f7fc636a9c49a00 [] fun h=>by
  unfold DE at h;exact nz
instance ABt(a:Fp)(b:Fp):CT (F1 a b) 336 [lI a,lI b] (fun r=>.own ((eL 2 Q6) r)):=Fj f336 0xf2057009960591e99605e907bd0776e907bd07e907bd073c0202480247054630028a0aa678a67805bbbbe99605d0e907bd07d65d55f9e9960597cbc002406002 [] fun h=>by
  unfold F1 at h;have:HA 0 10 9 0 fun(c:Int)(d:List Gp)=>[(5,.ow ((eL 2 Q6) d)),(10,.tv (eI c))]:=⟨⟩;have:HA 2 7 0 0 fun(f:Int)(e:List Gp)=>[(5,.ow ((eL 2 Q6) e)),(7,.tv (eI f))]:=⟨⟩;exact nz
instance AA5(a:B5):CT (Dt a) 281 [IX a] (fun r=>.tp [(eL 2 Q6) r.1,(eL 2 Q6) r.2]):=Fj f281 0x82820e7dad7dc60e6cad6cc6024002fe00 [] fun h=>by
  unfold Dt at h;exact nz
instance ABu(a:B5):CT (DY a) 337 [IX a] (fun r=>.own (lI r)):=Fj f337 0xf231e908310591e9083105e90831053cb2d9cbc8016cad9d9e3161e9083105db38c6e201fe00 [] fun h=>by
  unfold DY at h;have:HA 0 10 9 0 fun(c:Int)(b:Fp)=>[(3,.ow (lI b)),(10,.tv (eI c))]:=⟨⟩;exact nz
instance AA6(a:B5):CT (DN a) 282 [IX a] (fun r=>.own (lI r)):=Fj f282 0xf20401b70b04310691b70b043106b70b0431063cb2d9cb8a0a0e7e300e5a30a6017dc6a581f0cd9204f9b70b043106db0141a9e2820e084401fe00 [] fun h=>by
  unfold DN at h;have:HA 0 13 12 0 fun(c:Int)(b:Fp)=>[(4,.ow (lI b)),(13,.tv (eI c))]:=⟨⟩;exact nz
instance AA7(n:Int)(a:Fp)(b:Fp):CT (Gh n a b) 283 [eI n,lI a,lI b] (fun r=>.own (lI r)):=Fj f283 0xf20a01201f1e0a0491201f1e0a04201f1e0a043cb2d9cb885d815e70f9201f1e0a049798e2070111100f0702059111100f07020511100f0702053c01fd0114c8309d9e07f911100f0702059781993f3040026003 [.mkx 1 [.bool false] (.s 13)] fun h=>by
  unfold Gh at h;have:HA 0 17 16 0 fun(c:Int)(d:a5)=>[(7,.xo 1 (List.map eB d)),(17,.tv (eI c))]:=⟨⟩;have:HA 2 32 31 0 fun(f:Int)(e:Fp)=>[(10,.ow (lI e)),(32,.tv (eI f))]:=⟨⟩;exact nz
instance zv(l:d5)(g:d5)(a:At)(m:d6):CT (Gt l g a m) 214 [Ar l,Ar g,Ej a,Ao m] (fun r=>.tp [Ej r.1,eI r.2]):=Fk f214 0x8013b818004460e5a5ae80ebadcff3780004681720e084481800046d67201ee82e30844378060f30e0844084b0dc90646bebe60c95c8d [] [.cell 8 (some 2),.tmp 9] fun r h b c=>by
  unfold Gt at h;exact nz
instance ABv(t:AC)(p:ea)(c:d7)(b:AF)(m:AL)(a:Bool):CT (FP t p c b m a) 338 [AM t,A9 p,AH c,BO b,BT m,eB a] rI:=Fj f338 0x81f17e019fe3c4628936d5ac32c4c4369f01756236d5a189369a5c5cb1 [] fun h=>by
  unfold FP at h;exact nz
instance ACa(n:Int)(b:Fp)(a:Fp):CT (F2 n b a) 405 [eI n,lI b,lI a] (fun r=>.own (lI r)):=Fj f405 0x821807010f0e0d0702059101fd5e78149d9e07f90f0e0d0702059781991a30470140026003 [] fun h=>by
  unfold F2 at h;have:HA 0 15 14 0 fun(c:Int)(d:Fp)=>[(7,.xo 1 (List.map eI d)),(15,.tv (eI c))]:=⟨⟩;exact nz
theorem uZ:CK f390 (.seq (.region [⟨some 4,.mv (.c (.int .i64 0)),none⟩] [0,1])
 (.seq (.seq (.region [⟨some 5,.mv (.s 0),none⟩,
    ⟨some 6,.isn (.s 5),none⟩] [0,1,6])
  (.cond (.s 6) (.seq (.region [⟨some 4,.mv (.c (.int .i64 (-1))),none⟩] [4])
   (.ret))
  (.skip [0,1])))
 (.seq (.region [⟨some 7,.mv (.s 0),none⟩,
    ⟨some 8,.mv (.s 1),none⟩,
    ⟨some 9,.iad (.s 7) (.s 8) 1,none⟩,
    ⟨some 10,.ld (.s 9),none⟩,
    ⟨some 4,.mv (.s 10),none⟩] [4])
 (.ret)))) [.tmp 4]:=by decide +kernel
theorem nQN{S:FuncId->Fq->Ax->Prop}{K:AB->Prop}{os:List PR}{O:AB}{d:Nat}{x:AG}(h:x.val O=some .nil)(k:WO S K os ((d,.tv (.bool true))::O)):WO S K (⟨some d,.isn x,none⟩::os) O:=by
 replace k:=k.out;refine⟨?_⟩;simp[wpOps,PR.wp,AE.wp,h];exact k
instance ACX(l:Option Fp)(i:Int):Ct Go.Proofs.Tryz.prog (Lt l i) 390 [(eO 1 eI) l,eI i] (fun r=>.sh (eI r)):=Fi uZ fun r h a b=>by
  cases l with
  |none=>
    replace h:some (-1)=some r:=h
    repeat' (first|(show WO _ _ _ _;first|apply Nf|(apply st 1;exact rfl;first|exact fun _ k=>k|exact fun _ k=>⟨rfl,k⟩)|(apply nQN;exact rfl;exact au))|(show WP _ _ _ _;first|with_reducible apply sg|apply K5|apply Pt)|(show Kp _ _ _;exact au)|(show Nm _ _ _ _;exact au)|apply Zo|intro B|exact au)
  |some l=>replace h:((U3 l).bind fun _=>(idx l i).bind fun x=>some x)=some r:=h;exact au
instance ACZ(f:AK)(b:Int)(k:Int):CT (Dy f b k) 392 [.pt (Rj f).cells,eI b,eI k] rB:=Fj f392 0x813f07465e7e030974015e5a0309740159cd927d0274019b0578055d0e017d057401a5f0cd9231743830026003 [.bin (.a [0,0,0]) .eql (.s 38) (.s 57)] fun h=>by
  unfold Dy at h;exact nz
instance ACY(f:AK):CT (CQ f) 391 [.pt (Rj f).cells] rB:=Fj f391 0xa214ddef055f14ddef0514ddef0581880114dd06ef06262514dd0604ef0991ff14dd06ef06018e78810114dd06ef0661262514dd0604ef09977d02745dff14ddef0585012c7e5aa581f0cd43f814ddef05db0174385d7203097430d8 [] fun h=>by
  unfold CQ at h;have:HA 0 20 19 0 fun(a:Int)(_:Unit)=>[(20,.tv (eI a))]:=⟨⟩;have:HA 2 38 37 0 fun(c:Int)(b:Bool)=>[(6,.tv (eB b)),(38,.tv (eI c))]:=⟨⟩;exact nz
noncomputable def ZL:PC:=PC.of Rz f376.body (xq bT 0xffd83c014a0b74024802470446201d0aa8201d09a8040ba832d8a4a30600045fa4a3060004a4a30600043c1f0a740151011e0aa8320052321f0a74014faa011e0aa832ffa4a30600048a0a20011d0aa8010307a801082030328160f9a4a3060004977d02a881151d0aa8817231743832151d0aa8d83f3e3d0200055f3f3e3d0200053f3e3d0200053c1f09740151011e09a8323f3e3d0200053f3e3d0200053c005232a0321f0974014faa011e09a832ff3f3e3d0200058a0a20011d09a8010307a870089e5e9e6c3838320304a8fc78055d0e016c05a89d5e60f93f3e3d020005db3802a881151d09a881726c383832151d09a8005d050308a80b030ba8d8) []
theorem uY:CK f376 ZL []:=by decide +kernel
theorem uy:PC.t1 ZL=true/\PC.t5 0 ZL=true:=by decide +kernel
abbrev Q_376(n:Nat):Prop:=∀(f:AK),CT (A4 n f) 376 [.undef] (fun r=>.bo (C5 f) (C5 r) 0 [])
theorem uN(n:Nat)(_ih_376:Q_376 n)(f:AK):CT (A4 (n+1) f) 376 [.undef] (fun r=>.bo (C5 f) (C5 r) 0 []):=cR uY uy fun r h i g j=>by
  unfold ZL;unfold f376;unfold A4 at h;have:HA 1 63 62 0 fun(b:Int)(c:AK)=>[(0,.bx (C5 c)),(63,.tv (eI b))]:=⟨⟩;have:HA 3 164 163 0 fun(a:Int)(d:AK)=>[(0,.bx (C5 d)),(164,.tv (eI a))]:=⟨⟩;have:HJ 28 fun(e:AK)=>[(0,.bx (C5 e))]:=⟨⟩;exact nz
theorem uM:∀n:Nat,Q_376 n:=by
  intro n
  induction n with
  |zero=>exact(fun f=>⟨fun _ h=>by cases h⟩)
  |succ n a=>exact uN n a
instance ACP(f:AK):CT (Gf f) 376 [.undef] (fun r=>.bo (C5 f) (C5 r) 0 []):=⟨fun r h=>by
  obtain ⟨N,a⟩:=Cl h;exact((uM N) f).snd r (a N (az _))⟩
theorem uX:CK f344 (Rq [Af 6 0,Af 7 1,Af 8 2,Af 9 3,⟨some 12,.Abd 2,none⟩] [4,5,6,7,8,9]<|Sq (Dr [13,14,15,16,17,18,19,20,21] [Ag 14 7 2,Ag 15 8 2,Ag 16 6 2,⟨some 17,.call 335 [.s 16],none⟩,Ag 18 9 2,Aa 19 4,Aa 20 5,⟨some 21,.bld [.list 1 [],.list 3 [],.list 1 [],.list 3 [],.list 1 [],.nil,.nil,.bool false,.int .i64 0,.nil,.nil,.nil] [(0,2,.s 14),(2,2,.s 15),(4,1,.s 17),(5,2,.s 18),(7,1,.s 19),(8,1,.s 20)],none⟩,⟨some 22,.Aa3 [none,none,none,none,none,none,none,none,none,some ⟨true,.xl 1 []⟩,some ⟨true,.xl 1 []⟩,some ⟨true,.list 2 []⟩] (.s 21),none⟩,⟨some 13,.bad 22 0,none⟩] [13,22])<|Rq [Ah 23 13 0,⟨some 24,.Aaj 376 [.s 23] 0,none⟩] [13,22]<|Rq [Ah 25 13 0,Ah 26 25 0,Ah 27 26 11,Ac 28 27,Ab 12 28] [12]<|.ret) [.tmp 12]:=by decide +kernel
instance ABz(t:AC)(p:d5)(g:d5)(b:QV)(a:Bool)(c:Int):CT (H3 t p g b a c) 344 [AM t,Ar p,Ar g,nD b,eB a,eI c] (fun r=>.sh ((eL 2 Ao) r)):=Fi uX fun r h d e=>by
  unfold H3 at h;exact au
instance ABT(t:AC)(p:d5)(g:d5)(b:QV)(a:Bool):CT (KJ t p g b a) 309 [AM t,Ar p,Ar g,nD b,eB a] (fun r=>.tp [(eL 2 Ao) r.1,eI r.2]):=Fj f309 0x8182013702c085ee820eac36becb405c5c0401 [] fun h=>by
  unfold KJ at h;exact nz
instance ACe(k:Int)(a:Int):CT (M6 k a) 415 [eI k,.pt [eI a]] rB:=Fj f415 0x9005033005e5 [] fun h=>by
  unfold M6 at h;exact nz
instance ACd(l:Fp)(n:Int):CT (Hg l n) 413 [lI l,eI n] rI:=Fj f413 0x81378e103093d8 [] fun h=>by
  unfold Hg at h;exact nz
instance ACb(t:AC)(p:d5)(g:d5)(b:d6)(a:Bool):CT (Gw t p g b a) 406 [AM t,Ar p,Ar g,Ao b,eB a] (fun r=>.tp [(eL 2 Ao) r.1,eI r.2]):=Fj f406 0x81826b0eac36be3702c0770ee85a3702c0770e0bba3702c08aede855dcdc3702c0777fbecb405c5c0401 [] fun h=>by
  unfold Gw at h;exact nz
instance ABx(a:gn)(b:Fp):CT (E1 a b) 342 [Py a,lI b] (fun r=>.tp [eI r.1,eI r.2]):=Fj f342 0x9d0eacb9c8720159309330 [] fun h=>by
  unfold E1 at h;exact nz
instance ACc(b:BD)(q:ea)(m:d6)(a:Fp):CT (D3 b q m a) 407 [Ck b,A9 q,Ao m,lI a] (fun r=>.tp [lI r.1,eB r.2]):=Fj f407 0x8182180a016867660a049137e288201489b804c98905430af96867660a04dbad0a05022c2b2abc0671089137e28a0578055d816b01201436a92c2b2a0f0ebc06710a2c2b2a0f0ebc06710a3c01fd01fd057da9301401148a0817df0114555d6ca9815e5a5e5eba5b41a9044b05c9d404430a0502612c2b2abc067108dba9bc0671052221bc0671079101fd01148101bc067105612221bc0671079701993fb4993f7201b41a78fe5c31 [.Aa8 1 22 (.int .i64 0) (.s 27),.mkx 1 [.bool false] (.s 30)] fun h=>by
  unfold D3 at h;have:HA 0 34 33 0 fun(d:Int)(e:a5)=>[(11,.xo 1 (List.map eB e)),(34,.tv (eI d))]:=⟨⟩;have:HA 2 44 43 0 fun(g:Int)(c:Fp×a5)=>[(10,.xo 1 (List.map eI c.1)),(11,.xo 1 (List.map eB c.2)),(44,.tv (eI g))]:=⟨⟩;have:HA 4 104 103 0 fun(f:Int)(_:Unit)=>[(104,.tv (eI f))]:=⟨⟩;exact nz
instance ACW(a:BD)(c:d7)(m:AL):CT (CS a c m) 389 [Ck a,AH c,BT m] (fun r=>.tp [(eL 3 BT) r.1,eI r.2]):=Fj f389 0x81f20c013b3a390cca07913b3a390cca073b3a390cca073c02034803470946ac029de37e3689ad064480e03602430cf93b3a390cca07978103c03703c077e3030542be38a9be3280e004460ee47da9e80ec16ca9dc8007c93638ad0103fe8d [] fun h=>by
  unfold CS at h;have:HA 0 59 58 0 fun(b:Int)(d:List AL)=>[(12,.ow ((eL 3 BT) d)),(59,.tv (eI b))]:=⟨⟩;exact nz
abbrev AbJ(n:Nat):Prop:=∀(a:BD)(c:d7)(m:AL),CT (Av n a c m) 339 [Ck a,AH c,BT m] (fun r=>.tp [Eb r.1,eI r.2])
abbrev AbE(n:Nat):Prop:=∀(a:BD)(c:d7)(m:AL),CT (BR n a c m) 374 [Ck a,AH c,BT m] (fun r=>.tp [Eb r.1,eI r.2])
theorem uJ(n:Nat)(_ih_339:AbJ n)(_ih_374:AbE n)(b:BD)(c:d7)(m:AL):CT (Av (n+1) b c m) 339 [Ck b,AH c,BT m] (fun r=>.tp [Eb r.1,eI r.2]):=Fk f339 0x81b80a46ff37b86be7a10644d681b80a4606014b4a49060503069137b87046850137b80b4605478977b80ec97562a10644094b90c9fa9206f94b4a4906050306dbb3d681b8890a06022f2e2d0a0605030791014aad054805478904ad37b870f3b80ec97562a10644094b0ac9fa430a0602612f2e2d0a06050307dbb30ec9d681b87046ff37b80a46d681b80a46d69db80e497562fa435a0644d6833265c9938d [] [.cell 6 (some 5),.tmp 7] fun r h g i=>by
  unfold Av at h;have:HA 2 47 46 0 fun(f:Int)(a:BA×BA)=>[(6,.bx [⟨false,eI a.1.Aag⟩,⟨true,lI a.1.kp.d6.d3⟩,⟨true,lI a.1.kp.d6.d4⟩,⟨true,lI a.1.kp.fa⟩,⟨true,IE a.1.en⟩]),(10,.bx [⟨false,eI a.2.Aag⟩,⟨true,lI a.2.kp.d6.d3⟩,⟨true,lI a.2.kp.d6.d4⟩,⟨true,lI a.2.kp.fa⟩,⟨true,IE a.2.en⟩]),(47,.tv (eI f))]:=⟨⟩;have:HA 4 75 74 0 fun(e:Int)(d:BA)=>[(6,.bx [⟨false,eI d.Aag⟩,⟨true,lI d.kp.d6.d3⟩,⟨true,lI d.kp.d6.d4⟩,⟨true,lI d.kp.fa⟩,⟨true,IE d.en⟩]),(75,.tv (eI e))]:=⟨⟩;exact nz
theorem uL(n:Nat)(_ih_339:AbJ n)(_ih_374:AbE n)(b:BD)(c:d7)(m:AL):CT (BR (n+1) b c m) 374 [Ck b,AH c,BT m] (fun r=>.tp [Eb r.1,eI r.2]):=Fk f374 0x81b80a4606011b1a19060403069137b87046850137b80c46054789626ab80ec97562fa435a0644a50fc9cd4306f91b1a1906040306978137b870f3e362a1064465c9938d [] [.cell 6 (some 5),.tmp 7] fun r h e f=>by
  unfold BR at h;have:HA 0 27 26 0 fun(d:Int)(a:BA)=>[(6,.bx [⟨false,eI a.Aag⟩,⟨true,lI a.kp.d6.d3⟩,⟨true,lI a.kp.d6.d4⟩,⟨true,lI a.kp.fa⟩,⟨true,IE a.en⟩]),(27,.tv (eI d))]:=⟨⟩;exact nz
theorem m8:∀n:Nat,AbJ n/\AbE n:=by
  intro n
  induction n with
  |zero=>exact⟨(fun b c m=>⟨fun _ h=>by cases h⟩),(fun b c m=>⟨fun _ h=>by cases h⟩)⟩
  |succ n a=>exact⟨uJ n a.1 a.2,uL n a.1 a.2⟩
instance ABw(a:BD)(c:d7)(m:AL):CT (FC a c m) 339 [Ck a,AH c,BT m] (fun r=>.tp [Eb r.1,eI r.2]):=⟨fun r h=>by
  obtain ⟨N,b⟩:=Cl h;exact((m8 N).1 a c m).snd r (b N (az _))⟩
instance ACN(a:BD)(c:d7)(m:AL):CT (Pg a c m) 374 [Ck a,AH c,BT m] (fun r=>.tp [Eb r.1,eI r.2]):=⟨fun r h=>by
  obtain ⟨N,b⟩:=Cl h;exact((m8 N).2 a c m).snd r (b N (az _))⟩
instance AA8(t:AC)(p:ea)(c:d7)(b:AF)(m:AL)(a:Bool):CT (EQ t p c b m a) 284 [AM t,A9 p,AH c,BO b,BT m,eB a] (fun r=>.tp [Eb r.1,eI r.2]):=Fk f284 0x81b86be7a10d4601623637b870f30e016262a1893665c9935c5cb1 [] [.cell 12 (some 5),.tmp 13] fun r h d e=>by
  unfold EQ at h;exact nz
instance zw(t:AC)(p:ea)(c:d7)(b:AF)(m:AL)(a:Bool):CT (Dp t p c b m a) 215 [AM t,A9 p,AH c,BO b,BT m,eB a] (fun r=>.tp [eB r.1,eI r.2]):=Fj f215 0x9d5501b96ab80e4975016262a1893630935c5cb1 [] fun h=>by
  unfold Dp at h;exact nz
instance zx(m:AL):CT (Ji m) 216 [BT m] (fun r=>.sh (BT r)):=Fk f216 0xb23ba509460e7e04460ee40ec10fc99300 [] [.cell 2 (some 3)] fun r h a b=>by
  unfold Ji at h;exact nz
instance zy(a:AF):CT (Ke a) 217 [BO a] (fun r=>.sh (BO r)):=Fk f217 0xa5625b02dd115b0591014aa901d90148304704a9825e5b0261dd115b05dba9035010c93f3f0ee40ec110c99300 [.Aad [.w 9,.w 13],.Aad [.g 14 0 2,.g 14 1 2,.z ⟨true,.list 1 []⟩]] [.cell 2 (some 3)] fun r h d e=>by
  unfold Ke at h;have:HA 0 19 18 0 fun(c:Int)(b:AF)=>[(3,.bx [⟨true,lI b.d5.d3⟩,⟨true,lE b.d5.d4⟩,⟨true,(eL 1 lI) b.ed⟩]),(19,.tv (eI c))]:=⟨⟩;exact nz
instance z1(n:Int)(l:Fp):CT (MM n l) 218 [eI n,lI l] (fun r=>.own (lI r)):=Fj f218 0x8218b1b7b1049101fd3014b7ebb106b7ebb1063c01885d8175308155f9b7b104819514993f30406002 [.mkx 1 [.int .i64 0] (.s 9)] fun h=>by
  unfold MM at h;have:HA 0 13 12 0 fun(b:Int)(a:Fp)=>[(5,.xo 1 (List.map eI a)),(13,.tv (eI b))]:=⟨⟩;exact nz
instance z6(b:Int)(d:Fp)(e:Fp)(a:Fp)(c:Fp)(n:Int):CT (Gc b d e a c n) 219 [eI b,lI d,lI e,lI a,lI c,eI n] (fun r=>.own (lI r)):=Fj f219 0x82180d012b2a0d71912b2a0d712b2a0d715f30fd30148517df011481010df92b2a0d718195140d05021615140d7131089101fd5e5e5e7830149d9e0d0502611615140d7131089781991a30470140715b6006 [] fun h=>by
  unfold Gc at h;have:HA 0 22 21 0 fun(g:Int)(j:Fp)=>[(13,.xo 1 (List.map eI j)),(22,.tv (eI g))]:=⟨⟩;have:HA 2 43 42 0 fun(i:Int)(f:Int×Fp)=>[(5,.tv (eI f.1)),(13,.xo 1 (List.map eI f.2)),(43,.tv (eI i))]:=⟨⟩;exact nz
end Go.Sf.Sc
