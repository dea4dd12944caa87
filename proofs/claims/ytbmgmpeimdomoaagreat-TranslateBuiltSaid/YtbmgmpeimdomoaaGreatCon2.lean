/- Contracts of the functions. -/
import Derived.Test.YtbmgmpeimdomoaaGreatCon1
set_option linter.all false
set_option maxRecDepth 100000
set_option maxHeartbeats 4000000
open Option renaming some->Y,none->W
open Bool renaming true->X,false->T
open Option renaming bind_some->w!
namespace Go.Sf.Sc
open Go Go.Sf Go.Proofs.Tryz
theorem w_{p:Prop}(h:p:=by repeat(first|exact I6|(apply LK;exact rfl)|(apply LH;exact rfl)|(apply LI;exact rfl)|(apply LM;exact rfl)|(apply LJ;exact rfl))):p:=h
instance(a b c):CT (Gg a b c) 379 [eI a,lI b,lI c] (rO lI):=CA f379 0x821807010f0e0d0702059b01f1913014a29107016a0f0e0d070205a181991a3047014002cf [] (Gg.eq_1 ..) (BI 0 15 14 0 (hX 7 1 eI))
theorem yI:CK f382 (.seq (.region [⟨Y 4,.mv (.c (.int .i64 0)),W⟩] [0,1])
 (.seq (.seq (.region [⟨Y 5,.mv (.s 0),W⟩,
    ⟨Y 6,.isn (.s 5),W⟩] [0,1,6])
  (.cond (.s 6) (.seq (.region [⟨Y 4,.mv (.c (.int .i64 (-1))),W⟩] [4])
   (.ret))
  (.skip [0,1])))
 (.seq (.region [⟨Y 7,.mv (.s 0),W⟩,
    ⟨Y 8,.mv (.s 1),W⟩,
    ⟨Y 9,.iad (.s 7) (.s 8) 1,W⟩,
    ⟨Y 10,.ld (.s 9),W⟩,
    ⟨Y 4,.mv (.s 10),W⟩] [4])
 (.ret)))) [.tmp 4]:=b!
instance AA6(l:Option Fp)(i:Int):Ct Go.Proofs.Tryz.prog (L6 l i) 382 [(eO 1 eI) l,eI i] (rS eI):=Fi yI λr h a b=>by
  cases l with
  |none=>replace h:Y (-1)=Y r:=h;exact au|some l=>replace h:((Wr l).bind λ_=>(idx l i).bind λx=>Y x)=Y r:=h;exact au
instance(a b c):CT (D7 a b c) 384 [.pt (Sh a).cells,eI b,eI c] rB:=Fe f384 0x813f074660b403098401605f030984015dd58c900284019dca9761f490058401a7fd8c31845c3002cf [.bin (.a [0,0,0]) .eql (.s 38) (.s 57)] (D7.eq_1 ..)
instance(a):CT (CR a) 383 [.pt (Sh a).cells] rB:=H9 f383 0xa8141312d10565141312d105141312d10581880114131206d10626251413120604d1099bff14131206d106018e0130eb14131206d1066a26251413120604d109a190028461ff141312d10585012cb45fa781fd436b6a141312d105dc01845c61760309849601 [] (CR.eq_1 ..) (BA 0 20 19 0) (BI 2 38 37 0 (hT 6 eB))
noncomputable def ah:PC:=PC.of Mp f365.body (xq bT 0xff00013cf20b84024802470246201d0abd201d09bd040bbd320001a4a306000465a4a3060004a4a30600043c1f0a840151011e0abd320052321f0a84014fb5011e0abd32ffa4a30600048a0a20011d0abd010307bd0108203032816b016aa4a3060004a19002bd81151d0abd817631845c32151d0abd00013f3e3d020005653f3e3d0200053f3e3d0200053c1f09840151011e09bd323f3e3d0200053f3e3d0200053c005232a0321f0984014fb5011e09bd32ff3f3e3d0200058a0a20011d09bd010307bd010a08916091745c5c32c8bd01a5019761f47405bda2606b016a3f3e3d020005dc5c02bd81151d09bd8176745c5c32151d09bd0061050308bd0b030bbd0001) []
theorem yG:CK f365 ah []:=b!
theorem yg:PC.sx ah=X/\PC.tl 0 ah=X:=b!
abbrev Q_365(n:Nat):Prop:=∀(f:AL),CT (A4 n f) 365 [.undef] (λr=>.bo (DC f) (DC r) 0 [])
theorem xr(n:Nat)(_ih_365:Q_365 n)(f:AL):CT (A4 (n+1) f) 365 [.undef] (λr=>.bo (DC f) (DC r) 0 []):=av yG yg λr h c b d=>by
  unfold ah;unfold f365;unfold A4 at h;have:=BI 1 63 62 0 λs1:AL=>[(0,.bx (DC s1))];have:=BI 3 164 163 0 λs3:AL=>[(0,.bx (DC s3))];have:HJ 28 λ(a:AL)=>[(0,.bx (DC a))]:=⟨⟩;exact nz
theorem xm:∀n:Nat,Q_365 n:=by
  intro n
  induction n with
  |zero=>exact(λf=>⟨λ_ h=>c?⟩)
  |succ n a=>exact xr n a
instance(f):CT (HD f) 365 [.undef] (λr=>.bo (DC f) (DC r) 0 []):=⟨λr h=>by
  obtain ⟨N,a⟩:=DX h;exact((xm N) f).snd r (a N (R0 _))⟩
theorem yE:CK f321 (Rq [Ac 6 0,Ac 7 1,Ac 8 2,Ac 9 3,⟨Y 12,.Abo 2,W⟩] [4,5,6,7,8,9]<|Sq (Dr [13,14,15,16,17,18,19,20,21] [Ad 14 7 2,Ad 15 8 2,Ad 16 6 2,⟨Y 17,.call 252 [.s 16],W⟩,Ad 18 9 2,Aa 19 4,Aa 20 5,⟨Y 21,.bld [.list 1 [],.list 3 [],.list 1 [],.list 3 [],.list 1 [],.nil,.nil,.bool T,.int .i64 0,.nil,.nil,.nil] [(0,2,.s 14),(2,2,.s 15),(4,1,.s 17),(5,2,.s 18),(7,1,.s 19),(8,1,.s 20)],W⟩,⟨Y 22,.Abj [W,W,W,W,W,W,W,W,W,Y ⟨X,.xl 1 []⟩,Y ⟨X,.xl 1 []⟩,Y ⟨X,.list 2 []⟩] (.s 21),W⟩,⟨Y 13,.bad 22 0,W⟩] [13,22])<|Rq [Ae 23 13 0,⟨Y 24,.Aad 365 [.s 23] 0,W⟩] [13,22]<|Rq [Ae 25 13 0,Ae 26 25 0,Ae 27 26 11,⟨Y 28,.ld (.s 27),W⟩,Ab 12 28] [12]<|.ret) [.tmp 12]:=b!
instance(a b c d e f):CT (GI a b c d e f) 321 [AN a,Au b,Au c,qW d,eB e,eI f] (rS (eL 2 A2)):=Fi yE λr h g i=>by
  unfold GI at h;exact au
instance(a b c d e):CT (JG a b c d e) 261 [AN a,Au b,Au c,qW d,eB e] (rT (eL 2 A2) eI):=Fe f261 0x8182015802c085fc82f48d8dcc4069690401 [] (JG.eq_1 ..)
instance(a b):CT (NS a b) 387 [eI a,.pt [eI b]] rB:=Fe f387 0x81a5039701c3 [] (NS.eq_1 ..)
instance(a b):CT (Hz a b) 386 [lI a,eI b] rI:=Fe f386 0x81588e1030bc01 [] (Hz.eq_1 ..)
instance(a b c d e):CT (HP a b c d e) 380 [AN a,Au b,Au c,A2 d,eB e] (rT (eL 2 A2) eI):=Fe f380 0x818277f48d8d5802c09aef5f5802c09ad45d5802c08ae5ef5bd4d45802c09a558dcc4069690401 [] (HP.eq_1 ..)
instance(a b):CT (FP a b) 258 [Ri a,lI b] (rT eI eI):=Fe f258 0xa2f455d6c476015d30df [] (FP.eq_1 ..)
instance(a b c d):CT (ED a b c d) 381 [Cn a,B4 b,A2 c,lI d] (rT lI eB):=ez f381 0x8182180a016867660a049bfbc0882014b3d704c9b305430a016a6867660a04dc0442a5022c2b2a0b0ab6089bfbc08aca9761817701201455da2c2b2a0f0e0b0ab60a2c2b2a0f0e0b0ab60a3c01f101f10590da301401148a0817dd01145b6174da81605f60605d5d5e41daf705c9e9e1a5026a2c2b2a0b0ab608dcda0b0ab60522210b0ab6079b01f10114eb0b0ab6056a22210b0ab607a101993fd8993f7601d81a013040936931 [.Abe 1 22 (.int .i64 0) (.s 27),.mkx 1 [.bool T] (.s 30)] (ED.eq_1 ..) (BI 0 34 33 0 (hX 11 1 eB)) (BI 2 44 43 0 λs2:Fp×MV=>[(10,.xo 1 (List.map eI s2.1)),(11,.xo 1 (List.map eB s2.2))]) (BA 4 104 103 0)
instance(a b c):CT (CU a b c) 364 [Cn a,AQ b,CB c] (rT (eL 3 CB) eI):=CA f364 0x81fa0c013b3a390c6d03079b3b3a390c6d03073b3a390c6d03073c02034803470946015502a2f5b455b304420644ad02c95502430c016a3b3a390c6d0307a18103c05803c07ff50305428d5cda8d32ad02c902460e903290daef0ecd74dad4ad08c9555c04800340f8 [] (CU.eq_1 ..) (BI 0 59 58 0 (hO 12 (eL 3 CB)))
abbrev AbT(n:Nat):Prop:=∀(a:BX)(c:bq)(m:AT),CT (Av n a c m) 256 [Cn a,AQ c,CB m] (rT E7 eI)
abbrev AbR(n:Nat):Prop:=∀(a:BX)(c:bq)(m:AT),CT (BT n a c m) 318 [Cn a,AQ c,CB m] (rT E7 eI)
theorem xZ(n:Nat)(_ih_256:AbT n)(_ih_318:AbR n)(a:BX)(c:bq)(m:AT):CT (Av (n+1) a c m) 256 [Cn a,AQ c,CB m] (rT E7 eI):=Fk f256 0xbe4b0a46ff58d7770e73c60644bebe4b0a4606014b4a499e03069b58d7010a46850158d70b460547b37fd70ec98973c60644094be3c9c6098c06016a4b4a499e0306dcd0bebe4bb30a06022f2e2d0a9e03079bf2044205480547b304044258d7010aeed70ec98973c60644094b0ac9c609430a06026a2f2e2d0a9e0307dcd00ec9bebe4b010a46ff58d70a46bebe4b0a46bea2d70e498973c609435f0644be833275c9f8 [] [.cell 6 (Y 5),.tmp 7] λr h b d=>by
  unfold Av at h;have:=BI 2 47 46 0 λs2:BD×BD=>[(6,.bx [⟨T,eI s2.1.Aam⟩,⟨X,lI s2.1.gE.bk.az⟩,⟨X,lI s2.1.gE.bk.be⟩,⟨X,lI s2.1.gE.eg⟩,⟨X,Ie s2.1.eo⟩]),(10,.bx [⟨T,eI s2.2.Aam⟩,⟨X,lI s2.2.gE.bk.az⟩,⟨X,lI s2.2.gE.bk.be⟩,⟨X,lI s2.2.gE.eg⟩,⟨X,Ie s2.2.eo⟩])];have:=BI 4 75 74 0 λs4:BD=>[(6,.bx [⟨T,eI s4.Aam⟩,⟨X,lI s4.gE.bk.az⟩,⟨X,lI s4.gE.bk.be⟩,⟨X,lI s4.gE.eg⟩,⟨X,Ie s4.eo⟩])];exact nz
theorem xh(n:Nat)(_ih_256:AbT n)(_ih_318:AbR n)(a:BX)(c:bq)(m:AT):CT (BT (n+1) a c m) 318 [Cn a,AQ c,CB m] (rT E7 eI):=Fk f318 0xbe4b0a4606011b1a19060403069b58d7010a46850158d70c460547b3736cd70ec98973c609435f0644a70fc9d54306016a1b1a1906040306a18158d7010aeef573c6064475c9f8 [] [.cell 6 (Y 5),.tmp 7] λr h b d=>by
  unfold BT at h;have:=BI 0 27 26 0 λs0:BD=>[(6,.bx [⟨T,eI s0.Aam⟩,⟨X,lI s0.gE.bk.az⟩,⟨X,lI s0.gE.bk.be⟩,⟨X,lI s0.gE.eg⟩,⟨X,Ie s0.eo⟩])];exact nz
theorem qQ:∀n:Nat,AbT n/\AbR n:=by
  intro n
  induction n with
  |zero=>exact⟨(λb c m=>⟨λ_ h=>c?⟩),(λb c m=>⟨λ_ h=>c?⟩)⟩
  |succ n a=>exact⟨xZ n a.1 a.2,xh n a.1 a.2⟩
instance(s_0 c m):CT (Ff s_0 c m) 256 [Cn s_0,AQ c,CB m] (rT E7 eI):=⟨λr h=>by
  obtain ⟨N,a⟩:=DX h;exact((qQ N).1 s_0 c m).snd r (a N (R0 _))⟩
instance(s_0 c m):CT (QV s_0 c m) 318 [Cn s_0,AQ c,CB m] (rT E7 eI):=⟨λr h=>by
  obtain ⟨N,a⟩:=DX h;exact((qQ N).2 s_0 c m).snd r (a N (R0 _))⟩
instance(a b c d e f):CT (Ej a b c d e f) 181 [AN a,B4 b,AQ c,CF d,CB e,eB f] (rT E7 eI):=Fk f181 0xbe4b770e73c60d4601735558d7010aeef47373c6b35575c9936969ca [] [.cell 12 (Y 5),.tmp 13] λr h g i=>by
  unfold Ej at h;exact nz
instance(a b c d e f):CT (D1 a b c d e f) 109 [AN a,B4 b,AQ c,CF d,CB e,eB f] (rT eB eI):=Fe f109 0xa25b01d66cd70e4989017373c6b35530936969ca [] (D1.eq_1 ..)
instance(a):CT (J8 a) 110 [CB a] (rS CB):=Fk f110 0xac3ba709460eb402460e90320ecd0fc9bc [] [.cell 2 (Y 3)] λr h b c=>by
  unfold J8 at h;exact nz
instance(a):CT (Kq a) 111 [CF a] (rS CF):=Fk f111 0xa7735e021312115e059bf20280d90148304704da82605e026a1312115e05dcda035010c93f3f0e90320ecd10c9bc [.x9 [.w 9,.w 13],.x9 [.g 14 0 2,.g 14 1 2,.z ⟨X,.list 1 []⟩]] [.cell 2 (Y 3)] λr h b c=>by
  unfold Kq at h;have:=BI 0 19 18 0 λs0:AH=>[(3,.bx [⟨X,lI s0.bi.az⟩,⟨X,lE s0.bi.be⟩,⟨X,(eL 1 lI) s0.d5⟩])];exact nz
instance(a b):CT (Mh a b) 112 [eI a,lI b] (rO lI):=CA f112 0x8218ca0d0cca049b01f130140d0cfe01060d0cfe01063c018861818930815b016a0d0cca04819514993f30406b02 [.mkx 1 [.int .i64 0] (.s 9)] (Mh.eq_1 ..) (BI 0 13 12 0 (hX 5 1 eI))
instance(a b c d e f):CT (G7 a b c d e f) 113 [eI a,lI b,lI c,lI d,lI e,eI f] (rO lI):=H9 f113 0x82180d012b2a0d6d9b2b2a0d6d2b2a0d6d6530f130148517dd0114eb0d016a2b2a0d6d8195140d05021615140d6d31089b01f1606091303014a2910d05026a1615140d6d3108a181991a304701406d5e6b06 [] (G7.eq_1 ..) (BI 0 22 21 0 (hX 13 1 eI)) (BI 2 43 42 0 λs2:Int×Fp=>[(5,.tv (eI s2.1)),(13,.xo 1 (List.map eI s2.2))])
instance(a b):CT (KZ a b) 183 [AN a,eI b] (rO lI):=CA f183 0xfa070113121107049bacd95f02f703c9e9e107016a1312110704a18182b501f501db40df [] (KZ.eq_1 ..) (BI 0 19 18 0 (hO 7 lI))
noncomputable def aY:PC:=PC.of Mp f114.body (xq bT 0x30b0afaef39bb0afaef3b0afaef33cf201841f8403480347074660b47424bd605f7424bd5d0401841fbd32850b31841fbd919024bda781fd8c306ab0afaef3dcd007cc7b7a790731069b7b7a790731067b7a790731063c1f02411f8421221a01552302411fbd32f25c5c1f8401d9f35c5c1fbd32850b745c1fbd917424bda29107cc6a7b7a79073106dc320731a74a49070631079bf201841f8403480347074660b47422bd605f7422bd5d0401841fbd32a7fd8c903281600731036a4b4a4907063107dcd0fe31051e1d1cfe31089b1f02411f842122014f91f9562302411fbd32f25c5c1f8401d991cd045c5c1fbd328160fe31056a1e1d1cfe3108dc32ada708c910c9555c06845c32731cbd6930) []
theorem xz:CK f114 aY []:=b!
theorem yb:PC.sx aY=X/\PC.tl 1 aY=X:=b!
instance(a b c):CT (JI a b c) 114 [AN a,.undef,IY c] (λr=>.bo (Dv b) (Dv r) 1 []):=av xz yb λr h e d f=>by
  unfold aY;unfold f114;unfold JI at h;have:=BI 0 30 29 0 λs0:BG=>[(1,.bx (Dv s0))];have:=BI 2 75 74 0 λs2:BG=>[(1,.bx (Dv s2))];have:=BI 4 123 122 0 λs4:BG=>[(1,.bx (Dv s4))];have:=BI 6 176 175 0 λs6:BG=>[(1,.bx (Dv s6))];exact nz
theorem yD:CK f184 (.seq (.region [⟨Y 1,.Abp (.s 0),W⟩,
    ⟨Y 2,.mv (.c .undef),W⟩,
    ⟨Y 3,.mv (.c (.int .i64 0)),W⟩] [1])
 (.seq (.region [⟨Y 12,.mkm,W⟩,
    ⟨Y 4,.mvm 12,W⟩] [1,4,12])
 (.seq (.seq (.region [⟨Y 13,.bad 1 0,W⟩,
    ⟨Y 14,.fad (.s 13) 6,W⟩,
    ⟨Y 15,.fad (.s 14) 2,W⟩,
    ⟨Y 16,.ld (.s 15),W⟩,
    ⟨Y 17,.len (.s 16),W⟩,
    ⟨Y 18,.mv (.c (.int .i64 0)),W⟩] [1,4,12,16,17,18])
 (.block 0 (.loop [1,4,12,16,17,18] (.seq (.region [⟨Y 19,.bin (.i) .lss (.s 18) (.s 17),W⟩] [1,4,12,16,17,18,19])
 (.seq (.cond (.s 19) (.skip [1,4,12,16,17,18])
 (.exit 0 [4,12]))
 (.seq (.block 1 (.seq (.region [⟨Y 20,.iad (.s 16) (.s 18) 4,W⟩,
    ⟨Y 21,.lda (.s 20) 4,W⟩,
    ⟨Y 6,.alc [⟨T,.int .i64 0⟩,⟨T,.int .i64 0⟩,⟨T,.int .i64 0⟩,⟨T,.int .i64 0⟩],W⟩,
    ⟨W,.stb 4 6 (.s 21),W⟩] [1,4,6,12,16,17,18])
 (.seq (.region [⟨Y 23,.bad 6 2,W⟩,
    ⟨Y 24,.lda (.s 23) 2,W⟩,
    ⟨Y 25,.bad 1 25,W⟩,
    ⟨Y 26,.fad (.s 25) 2,W⟩,
    ⟨Y 27,.ld (.s 26),W⟩,
    ⟨Y 28,.call 258 [.s 24,.s 27],W⟩,
    ⟨Y 22,.mv (.s 28),W⟩,
    ⟨Y 29,.ext (.s 22) 0,W⟩,
    ⟨Y 30,.ext (.s 22) 1,W⟩,
    ⟨Y 7,.mv (.s 29),W⟩,
    ⟨Y 8,.mv (.s 30),W⟩] [1,4,6,7,8,12,16,17,18])
 (.seq (.seq (.region [⟨Y 31,.mv (.s 8),W⟩,
    ⟨Y 32,.bin (.i) .neq (.s 31) (.c (.int .i64 0)),W⟩] [1,4,6,7,8,12,16,17,18,32])
 (.cond (.s 32) (.seq (.region [⟨Y 33,.mv (.s 8),W⟩,
    ⟨Y 2,.mv (.c .undef),W⟩,
    ⟨Y 3,.mv (.s 33),W⟩] [2,3,12])
 .ret)
 (.skip [1,4,6,7,12,16,17,18])))
 (.seq (.draw [9,34,35,36,37,38,39,40,41,42,43] [⟨Y 34,.bad 1 36,W⟩,
    ⟨Y 35,.fad (.s 34) 0,W⟩,
    ⟨Y 36,.ld (.s 35),W⟩,
    ⟨Y 37,.bad 6 0,W⟩,
    ⟨Y 38,.ld (.s 37),W⟩,
    ⟨Y 39,.iad (.s 36) (.s 38) 1,W⟩,
    ⟨Y 40,.ld (.s 39),W⟩,
    ⟨Y 41,.bad 6 1,W⟩,
    ⟨Y 42,.ld (.s 41),W⟩,
    ⟨Y 43,.bld [.int .i64 0,.int .i64 0] [(0,1,.s 40),(1,1,.s 42)],W⟩,
    ⟨Y 9,.alc [⟨T,.int .i64 0⟩,⟨T,.int .i64 0⟩],W⟩,
    ⟨W,.stb 2 9 (.s 43),W⟩] [1,4,7,9,12,16,17,18])
 (.seq (.seq (.region [⟨Y 45,.mv (.s 4),W⟩,
    ⟨Y 46,.lda (.s 9) 2,W⟩,
    ⟨Y 47,.mlk 12 (.s 45) (.s 46),W⟩,
    ⟨Y 44,.mv (.s 47),W⟩,
    ⟨Y 48,.ext (.s 44) 0,W⟩,
    ⟨Y 49,.ext (.s 44) 1,W⟩,
    ⟨Y 10,.mv (.s 48),W⟩,
    ⟨Y 11,.mv (.s 49),W⟩] [1,4,7,9,10,11,12,16,17,18])
 (.seq (.region [⟨Y 50,.mv (.s 11),W⟩,
    ⟨Y 51,.mv (.s 50),W⟩,
    ⟨Y 52,.mv (.s 10),Y (51,X)⟩,
    ⟨Y 53,.mv (.s 7),Y (51,X)⟩,
    ⟨Y 54,.bin (.i) .neq (.s 52) (.s 53),Y (51,X)⟩,
    ⟨Y 55,.pick (.s 51) (.s 54) (.c (.bool T)),W⟩] [1,4,7,9,12,16,17,18,55])
 (.cond (.s 55) (.seq (.region [⟨Y 2,.mv (.c .undef),W⟩,
    ⟨Y 3,.mv (.c (.int .i64 11)),W⟩] [2,3,12])
 .ret)
 (.skip [1,4,7,9,12,16,17,18]))))
 (.region [⟨Y 56,.mv (.s 4),W⟩,
    ⟨Y 57,.lda (.s 9) 2,W⟩,
    ⟨Y 58,.mv (.s 7),W⟩,
    ⟨W,.mup 12 (.s 56) (.s 57) (.s 58),W⟩] [1,4,12,16,17,18])))))))
 (.region [⟨Y 59,.bin (.i) .add (.s 18) (.c (.int .i64 1)),W⟩,
    ⟨Y 18,.mv (.s 59),W⟩] [1,4,12,16,17,18])))))))
 (.seq (.region [⟨Y 60,.mv (.s 4),W⟩,
    ⟨Y 2,.mv (.s 60),W⟩,
    ⟨Y 3,.mv (.c (.int .i64 0)),W⟩] [2,3,12])
 .ret)))) [.tmp 2,.tmp 3]:=b!
instance ABH(s:BG):Ct Go.Proofs.Tryz.prog (Il s) 184 [fN s] OT:=FiM yD λr h d e=>by
  unfold Il at h;have K:∀b:Nat,HA 0 18 17 0 λ(c:Int)(a:BW)=>[(12,.mx (.mp b a)),(18,.tv (eI c))]:=λ_=>⟨⟩;have:zi 12:=⟨⟩;exact au
theorem ZL(t:AC)(s:BG)(κ:List Fp)(p:(Int×Int)×Int)(a:BW)(r:B2 (List Fp) Unit)(h:Pe t s κ p=Y r):WP (AS Go.Proofs.Tryz.prog) (.block 1 (.seq (.region [⟨Y 25,.men 22,W⟩,
    ⟨Y 26,.ext (.s 25) 0,W⟩,
    ⟨Y 27,.ext (.s 25) 1,W⟩,
    ⟨Y 7,.alc [⟨T,.int .i64 0⟩,⟨T,.int .i64 0⟩],W⟩,
    ⟨W,.stb 2 7 (.s 26),W⟩,
    ⟨Y 8,.mv (.s 27),W⟩] [1,2,7,8,22])
 (.seq (.draw [9,10,28,29,30,31,32,33,34,35,36,37,38,39,40,41,42] [⟨Y 29,.lda (.s 2) 2,W⟩,
    ⟨Y 30,.bad 1 0,W⟩,
    ⟨Y 31,.fad (.s 30) 0,W⟩,
    ⟨Y 32,.fad (.s 31) 31,W⟩,
    ⟨Y 33,.fad (.s 32) 0,W⟩,
    ⟨Y 34,.fad (.s 33) 0,W⟩,
    ⟨Y 35,.ld (.s 34),W⟩,
    ⟨Y 36,.bad 7 0,W⟩,
    ⟨Y 37,.ld (.s 36),W⟩,
    ⟨Y 38,.iad (.s 35) (.s 37) 1,W⟩,
    ⟨Y 39,.ld (.s 38),W⟩,
    ⟨Y 40,.call 127 [.s 29,.s 39],W⟩,
    ⟨Y 28,.mv (.s 40),W⟩,
    ⟨Y 41,.ext (.s 28) 0,W⟩,
    ⟨Y 42,.ext (.s 28) 1,W⟩,
    ⟨Y 9,.mv (.s 41),W⟩,
    ⟨Y 10,.mv (.s 42),W⟩] [1,2,7,8,9,22])
 (.seq (.seq (.region [⟨Y 43,.mv (.s 8),W⟩,
    ⟨Y 44,.mv (.s 9),W⟩,
    ⟨Y 45,.bad 7 1,W⟩,
    ⟨Y 46,.ld (.s 45),W⟩,
    ⟨Y 47,.iad (.s 44) (.s 46) 4,W⟩,
    ⟨Y 48,.fad (.s 47) 1,W⟩,
    ⟨Y 49,.ld (.s 48),W⟩,
    ⟨Y 50,.bin (.i) .lss (.s 43) (.s 49),W⟩,
    ⟨Y 51,.mv (.s 50),W⟩,
    ⟨Y 52,.mv (.s 8),Y (51,T)⟩,
    ⟨Y 53,.mv (.s 9),Y (51,T)⟩,
    ⟨Y 54,.bad 7 1,Y (51,T)⟩,
    ⟨Y 55,.ld (.s 54),Y (51,T)⟩,
    ⟨Y 56,.iad (.s 53) (.s 55) 4,Y (51,T)⟩,
    ⟨Y 57,.fad (.s 56) 2,Y (51,T)⟩,
    ⟨Y 58,.ld (.s 57),Y (51,T)⟩,
    ⟨Y 59,.bin (.i) .gtr (.s 52) (.s 58),Y (51,T)⟩,
    ⟨Y 60,.pick (.s 51) (.c (.bool X)) (.s 59),W⟩] [1,2,7,8,22,60])
 (.cond (.s 60) (.seq (.region [⟨Y 4,.mv (.c (.int .i64 6)),W⟩] [1,4])
 .ret)
 (.skip [1,2,7,8,22])))
 (.draw [61,62,63,64,65,66,67,68,69,70,71,72,73] [⟨Y 61,.bad 1 0,W⟩,
    ⟨Y 62,.fad (.s 61) 0,W⟩,
    ⟨Y 63,.fad (.s 62) 31,W⟩,
    ⟨Y 64,.fad (.s 63) 2,W⟩,
    ⟨Y 65,.lan (.s 64),W⟩,
    ⟨Y 66,.bad 7 0,W⟩,
    ⟨Y 67,.ld (.s 66),W⟩,
    ⟨Y 68,.nia (.s 65) (.s 67),W⟩,
    ⟨Y 69,.nld (.s 68),W⟩,
    ⟨Y 70,.bad 7 1,W⟩,
    ⟨Y 71,.ld (.s 70),W⟩,
    ⟨Y 72,.mv (.s 8),W⟩,
    ⟨Y 73,.nia (.s 69) (.s 71),W⟩,
    ⟨W,.nst (.s 73) (.s 72),W⟩] [1,2,22]))))) ⟨λe=>∃b,r=.next b/\Rn (e.ei [1,2,22]) [(1,.bx (Dv (Ot s b))),(2,.tv (.pt (AN t).cells)),(22,.mx (.mi (Y p) a))],λ_ _=>False,λe=>∃v,r=.ret v/\Rn e [(1,.bx (Dv (Ot s κ))),(4,.tv (eI 6))]⟩ [(1,.bx (Dv (Ot s κ))),(2,.tv (.pt (AN t).cells)),(22,.mx (.mi (Y p) a))]:=by
  unfold Pe at h;exact au
noncomputable def aZ:PC:=(.seq (.region [⟨Y 2,.Abp (.s 0),W⟩,
    ⟨Y 4,.mv (.c (.int .i64 0)),W⟩] [1,2])
 (.seq (.region [⟨Y 12,.bad 1 0,W⟩,
    ⟨Y 13,.fad (.s 12) 0,W⟩,
    ⟨Y 14,.lda (.s 13) 38,W⟩,
    ⟨Y 15,.AaA 184 [.s 14],W⟩,
    ⟨Y 11,.mvm 15,W⟩,
    ⟨Y 16,.ext (.s 11) 0,W⟩,
    ⟨Y 17,.ext (.s 11) 1,W⟩,
    ⟨Y 5,.mv (.s 16),W⟩,
    ⟨Y 6,.mv (.s 17),W⟩] [1,2,5,6,15])
 (.seq (.seq (.region [⟨Y 18,.mv (.s 6),W⟩,
    ⟨Y 19,.bin (.i) .neq (.s 18) (.c (.int .i64 0)),W⟩] [1,2,5,6,15,19])
 (.cond (.s 19) (.seq (.region [⟨Y 20,.mv (.s 6),W⟩,
    ⟨Y 4,.mv (.s 20),W⟩] [1,4])
 .ret)
 (.skip [1,2,5,15])))
 (.seq (.seq (.region [⟨Y 21,.mv (.s 5),W⟩,
    ⟨Y 22,.r0 15 (.s 21),W⟩] [1,2,22])
 (.block 0 (.loop [1,2,22] (.seq (.region [⟨Y 23,.mnx 22,W⟩,
    ⟨Y 24,.ext (.s 23) 0,W⟩] [1,2,22,24])
 (.seq (.cond (.s 24) (.skip [1,2,22])
 (.exit 0 [1]))
 (.block 1 (.seq (.region [⟨Y 25,.men 22,W⟩,
    ⟨Y 26,.ext (.s 25) 0,W⟩,
    ⟨Y 27,.ext (.s 25) 1,W⟩,
    ⟨Y 7,.alc [⟨T,.int .i64 0⟩,⟨T,.int .i64 0⟩],W⟩,
    ⟨W,.stb 2 7 (.s 26),W⟩,
    ⟨Y 8,.mv (.s 27),W⟩] [1,2,7,8,22])
 (.seq (.draw [9,10,28,29,30,31,32,33,34,35,36,37,38,39,40,41,42] [⟨Y 29,.lda (.s 2) 2,W⟩,
    ⟨Y 30,.bad 1 0,W⟩,
    ⟨Y 31,.fad (.s 30) 0,W⟩,
    ⟨Y 32,.fad (.s 31) 31,W⟩,
    ⟨Y 33,.fad (.s 32) 0,W⟩,
    ⟨Y 34,.fad (.s 33) 0,W⟩,
    ⟨Y 35,.ld (.s 34),W⟩,
    ⟨Y 36,.bad 7 0,W⟩,
    ⟨Y 37,.ld (.s 36),W⟩,
    ⟨Y 38,.iad (.s 35) (.s 37) 1,W⟩,
    ⟨Y 39,.ld (.s 38),W⟩,
    ⟨Y 40,.call 127 [.s 29,.s 39],W⟩,
    ⟨Y 28,.mv (.s 40),W⟩,
    ⟨Y 41,.ext (.s 28) 0,W⟩,
    ⟨Y 42,.ext (.s 28) 1,W⟩,
    ⟨Y 9,.mv (.s 41),W⟩,
    ⟨Y 10,.mv (.s 42),W⟩] [1,2,7,8,9,22])
 (.seq (.seq (.region [⟨Y 43,.mv (.s 8),W⟩,
    ⟨Y 44,.mv (.s 9),W⟩,
    ⟨Y 45,.bad 7 1,W⟩,
    ⟨Y 46,.ld (.s 45),W⟩,
    ⟨Y 47,.iad (.s 44) (.s 46) 4,W⟩,
    ⟨Y 48,.fad (.s 47) 1,W⟩,
    ⟨Y 49,.ld (.s 48),W⟩,
    ⟨Y 50,.bin (.i) .lss (.s 43) (.s 49),W⟩,
    ⟨Y 51,.mv (.s 50),W⟩,
    ⟨Y 52,.mv (.s 8),Y (51,T)⟩,
    ⟨Y 53,.mv (.s 9),Y (51,T)⟩,
    ⟨Y 54,.bad 7 1,Y (51,T)⟩,
    ⟨Y 55,.ld (.s 54),Y (51,T)⟩,
    ⟨Y 56,.iad (.s 53) (.s 55) 4,Y (51,T)⟩,
    ⟨Y 57,.fad (.s 56) 2,Y (51,T)⟩,
    ⟨Y 58,.ld (.s 57),Y (51,T)⟩,
    ⟨Y 59,.bin (.i) .gtr (.s 52) (.s 58),Y (51,T)⟩,
    ⟨Y 60,.pick (.s 51) (.c (.bool X)) (.s 59),W⟩] [1,2,7,8,22,60])
 (.cond (.s 60) (.seq (.region [⟨Y 4,.mv (.c (.int .i64 6)),W⟩] [1,4])
 .ret)
 (.skip [1,2,7,8,22])))
 (.draw [61,62,63,64,65,66,67,68,69,70,71,72,73] [⟨Y 61,.bad 1 0,W⟩,
    ⟨Y 62,.fad (.s 61) 0,W⟩,
    ⟨Y 63,.fad (.s 62) 31,W⟩,
    ⟨Y 64,.fad (.s 63) 2,W⟩,
    ⟨Y 65,.lan (.s 64),W⟩,
    ⟨Y 66,.bad 7 0,W⟩,
    ⟨Y 67,.ld (.s 66),W⟩,
    ⟨Y 68,.nia (.s 65) (.s 67),W⟩,
    ⟨Y 69,.nld (.s 68),W⟩,
    ⟨Y 70,.bad 7 1,W⟩,
    ⟨Y 71,.ld (.s 70),W⟩,
    ⟨Y 72,.mv (.s 8),W⟩,
    ⟨Y 73,.nia (.s 69) (.s 71),W⟩,
    ⟨W,.nst (.s 73) (.s 72),W⟩] [1,2,22]))))))))))
 (.seq (.region [⟨Y 4,.mv (.c (.int .i64 0)),W⟩] [1,4])
 .ret)))))
theorem yA:CK f115 aZ [.tmp 4]:=b!
theorem yc:PC.sx aZ=X/\PC.tl 1 aZ=X:=b!
variable{t:AC}{s:BG}
theorem ia{p:(Int×Int)×Int}{b:Bool}(h:Pf t s p=Y b){κ:List Fp}(a:Nj κ s.k7.d5):
    (b=X->Pe t s κ p=Y (.next (Cl κ p)))/\(b=T->Pe t s κ p=Y (.ret ())):=by
  unfold Pf Pe at h;unfold Pe;obtain⟨c,d,h⟩:=bind_some h;obtain⟨q,f,d⟩:=bind_some d;obtain⟨r,g,d⟩:=bind_some d;obtain⟨u,i,d⟩:=bind_some d;obtain⟨j,k,d⟩:=bind_some d;simp only[f,g,i,w!]at *;rw[k,w!];cases j with
  |true=>
    simp only[if_true,nm]at d|-;subst d;simp only[nm]at h;subst h;exact⟨λe=>m?,λ_=>trivial⟩
  |false=>
    simp only[Bool.false_eq_true,if_false]at d|-;obtain⟨v,l,d⟩:=bind_some d;obtain⟨w,m,d⟩:=bind_some d;cases d;simp only[nm]at h;subst h;obtain⟨x,x',n,o⟩:=a.idx l m;refine⟨λ_=>?_,λe=>m?⟩;rw[n,w!,o,w!,bv n o]
theorem kS{a:BW}{c:Bool}(n:a.Dis)(f:Aaz (Pf t s) a=Y c){M z:AB->Prop}{x:Nat->AB->Prop}{d:AB->Prop}
    (g:c=X->z [(1,.bx (Dv (Ot s (a.foldl Cl s.k7.d5))))])(m:c=T->∀κ,d [(1,.bx (Dv (Ot s κ))),(4,.tv (eI 6))]):
    WP (AS Go.Proofs.Tryz.prog) (.loop [1,2,22] (.seq (.region [⟨Y 23,.mnx 22,W⟩,
    ⟨Y 24,.ext (.s 23) 0,W⟩] [1,2,22,24])
 (.seq (.cond (.s 24) (.skip [1,2,22])
 (.exit 0 [1]))
 (.block 1 (.seq (.region [⟨Y 25,.men 22,W⟩,
    ⟨Y 26,.ext (.s 25) 0,W⟩,
    ⟨Y 27,.ext (.s 25) 1,W⟩,
    ⟨Y 7,.alc [⟨T,.int .i64 0⟩,⟨T,.int .i64 0⟩],W⟩,
    ⟨W,.stb 2 7 (.s 26),W⟩,
    ⟨Y 8,.mv (.s 27),W⟩] [1,2,7,8,22])
 (.seq (.draw [9,10,28,29,30,31,32,33,34,35,36,37,38,39,40,41,42] [⟨Y 29,.lda (.s 2) 2,W⟩,
    ⟨Y 30,.bad 1 0,W⟩,
    ⟨Y 31,.fad (.s 30) 0,W⟩,
    ⟨Y 32,.fad (.s 31) 31,W⟩,
    ⟨Y 33,.fad (.s 32) 0,W⟩,
    ⟨Y 34,.fad (.s 33) 0,W⟩,
    ⟨Y 35,.ld (.s 34),W⟩,
    ⟨Y 36,.bad 7 0,W⟩,
    ⟨Y 37,.ld (.s 36),W⟩,
    ⟨Y 38,.iad (.s 35) (.s 37) 1,W⟩,
    ⟨Y 39,.ld (.s 38),W⟩,
    ⟨Y 40,.call 127 [.s 29,.s 39],W⟩,
    ⟨Y 28,.mv (.s 40),W⟩,
    ⟨Y 41,.ext (.s 28) 0,W⟩,
    ⟨Y 42,.ext (.s 28) 1,W⟩,
    ⟨Y 9,.mv (.s 41),W⟩,
    ⟨Y 10,.mv (.s 42),W⟩] [1,2,7,8,9,22])
 (.seq (.seq (.region [⟨Y 43,.mv (.s 8),W⟩,
    ⟨Y 44,.mv (.s 9),W⟩,
    ⟨Y 45,.bad 7 1,W⟩,
    ⟨Y 46,.ld (.s 45),W⟩,
    ⟨Y 47,.iad (.s 44) (.s 46) 4,W⟩,
    ⟨Y 48,.fad (.s 47) 1,W⟩,
    ⟨Y 49,.ld (.s 48),W⟩,
    ⟨Y 50,.bin (.i) .lss (.s 43) (.s 49),W⟩,
    ⟨Y 51,.mv (.s 50),W⟩,
    ⟨Y 52,.mv (.s 8),Y (51,T)⟩,
    ⟨Y 53,.mv (.s 9),Y (51,T)⟩,
    ⟨Y 54,.bad 7 1,Y (51,T)⟩,
    ⟨Y 55,.ld (.s 54),Y (51,T)⟩,
    ⟨Y 56,.iad (.s 53) (.s 55) 4,Y (51,T)⟩,
    ⟨Y 57,.fad (.s 56) 2,Y (51,T)⟩,
    ⟨Y 58,.ld (.s 57),Y (51,T)⟩,
    ⟨Y 59,.bin (.i) .gtr (.s 52) (.s 58),Y (51,T)⟩,
    ⟨Y 60,.pick (.s 51) (.c (.bool X)) (.s 59),W⟩] [1,2,7,8,22,60])
 (.cond (.s 60) (.seq (.region [⟨Y 4,.mv (.c (.int .i64 6)),W⟩] [1,4])
 .ret)
 (.skip [1,2,7,8,22])))
 (.draw [61,62,63,64,65,66,67,68,69,70,71,72,73] [⟨Y 61,.bad 1 0,W⟩,
    ⟨Y 62,.fad (.s 61) 0,W⟩,
    ⟨Y 63,.fad (.s 62) 31,W⟩,
    ⟨Y 64,.fad (.s 63) 2,W⟩,
    ⟨Y 65,.lan (.s 64),W⟩,
    ⟨Y 66,.bad 7 0,W⟩,
    ⟨Y 67,.ld (.s 66),W⟩,
    ⟨Y 68,.nia (.s 65) (.s 67),W⟩,
    ⟨Y 69,.nld (.s 68),W⟩,
    ⟨Y 70,.bad 7 1,W⟩,
    ⟨Y 71,.ld (.s 70),W⟩,
    ⟨Y 72,.mv (.s 8),W⟩,
    ⟨Y 73,.nia (.s 69) (.s 71),W⟩,
    ⟨W,.nst (.s 73) (.s 72),W⟩] [1,2,22])))))))) ⟨M,λj e=>if j=0 then z e else x j e,d⟩ [(1,.bx (Dv s)),(2,.tv (.pt (AN t).cells)),(22,.mx (.mi W a))]:=by
  obtain ⟨m1,R⟩:=X7 f;refine⟨tR _ (σ:=List Fp×Option ((Int×Int)×Int)×BW) (λσ=>[(1,.bx (Dv (Ot s σ.1))),(2,.tv (.pt (AN t).cells)),(22,.mx (.mi σ.2.1 σ.2.2))])
    (λσ=>Nj σ.1 s.k7.d5/\(∀l,σ.2.2.Perm l->l.foldl Cl σ.1=a.foldl Cl s.k7.d5)/\(∀p∈σ.2.2,p∈a)/\(c=T->∃p∈σ.2.2,Pf t s p=Y T))
    (λσ=>σ.2.2.length) (s.k7.d5,W,a) rfl ⟨rfl,λl A=>Xd n A _,λp r=>r,R⟩ ?_⟩
  rintro ⟨κ,last,u⟩ ⟨I,J,K,L⟩ η;refine WP.out (?_:WP _ _ _ _);apply LD;apply Qd;refine zS rfl a_ (λe=>?_) (λp o r=>?_)
  · simp only at e
    subst e;have P:c=X:=by
      cases c with
      |true=>rfl|false=>obtain⟨p,r,_⟩:=L rfl;cases r
    have Q:κ=a.foldl Cl s.k7.d5:=J [] (List.Perm.refl _);apply st 1;exact rfl;exact λ_ k=>k;apply N9;exact w_;intro C;apply LD;apply SW;exact rfl;exact rfl;apply kC;exact w_;show(if(0:Nat)=0 then z [(1,.bx (Dv (Ot s κ)))]else x 0 [(1,.bx (Dv (Ot s κ)))]);rw[Ne rfl,Q];exact g P
  · apply st 1;exact rfl;exact λ_ k=>k
    apply N9;exact w_;intro C;apply LD;apply SX;exact rfl;exact rfl;apply bA;exact w_;intro O;have D:p∈u:=r.mem_iff.2 V;obtain⟨b,H,E⟩:=m1 p (K p D);obtain⟨S,θ⟩:=ia H I;cases b with
    |true=>
      refine ⟨PC.gt _ _ _ _ (ZL t s κ p o _ (S rfl)).out _ (λe he=>?_) (λ_ _ h=>h.elim) (λe he=>?_)⟩
      · obtain⟨ε,y,F⟩:=he
        cases y;refine⟨(Cl κ p,Y p,o),F.out,⟨(ZK κ p).trans I,λl A=>?_,λq B=>K q (r.mem_iff.2 (by simp[B])),λN=>?_⟩,?_⟩
        .exact J (p::l) (r.trans (A.cons p))
        · obtain⟨q,B,w⟩:=L N
          rcases List.mem_cons.1 (r.mem_iff.1 B)with rfl|G
          .rw[H]at w;cases w
          .exact⟨q,G,w⟩
        · have:=r.length_eq
          simp only[a5]at this;show o.length<u.length;omega
      · obtain⟨v,y,_⟩:=he
        cases y
    |false=>
      refine ⟨PC.gt _ _ _ _ (ZL t s κ p o _ (θ rfl)).out _ (λe he=>?_) (λ_ _ h=>h.elim) (λe he=>?_)⟩
      · obtain⟨ε,y,_⟩:=he
        cases y
      · obtain⟨v,_,F⟩:=he
        rw [F.out];exact m (by cases c with|false=>rfl|true=>exact absurd (E rfl) V) κ
instance ABB(t:AC)(s:BG):Ct Go.Proofs.Tryz.prog (L8 t s) 115 [AN t,.undef] (λr=>.bo (Dv s) (if(!decide (r.1=0))=X then(Dv r.2).set 33 ⟨T,.undef⟩else Dv r.2) 1 [eI r.1]):=AAB yA yc λr h v l=>by
  unfold aZ;unfold L8 at h;obtain⟨a,q,h⟩:=bind_some h;have d:=(inferInstance:Ct Go.Proofs.Tryz.prog (Il s) 184 [fN s] OT).snd a q;apply LD;apply Qd;apply st 1;exact rfl;exact λ_ k=>k;apply st 1;exact rfl;exact λ_ k=>k;apply N9;exact w_;intro m;apply LD;apply Qd;apply st 1;exact rfl;exact λ_ k=>k;apply st 1;exact rfl;exact λ_ k=>k;apply st 2;exact rfl;exact λ_ k=>⟨Nat.le_of_ble_eq_true rfl,k⟩;by_cases he:a.2=0
  · have e:OT a=.mpr a.1 [.int .i64 a.2]:=Ne he
    rw [e]at d;rw[QQ (by simp[he])]at h;split at h
    · rename_i hd
      have hd:BW.Dis a.1:=(show List.Pairwise (λx y:(Int×Int)×Int=>x.1≠y.1) a.1 from of_decide_eq_true hd);obtain⟨c,u,h⟩:=bind_some h;refine o5 rfl d (λb=>?_);apply st 1;exact rfl;exact λ_ k=>k;apply st 1;exact rfl;exact λ_ k=>k;apply st 1;exact rfl;exact λ_ k=>k;apply st 1;exact rfl;exact λ_ k=>k;apply st 1;exact rfl;exact λ_ k=>k;apply N9;exact w_;intro g;apply LD;apply LD;apply Qd;apply st 1;exact rfl;exact λ_ k=>k;apply st 1;exact rfl;exact λ_ k=>k;apply N9;exact w_;intro i;apply SW;exact rfl;simp[he];apply bA;exact w_;intro j;apply LD;apply LD;apply Qd;apply st 1;exact rfl;exact λ_ k=>k;apply st 2;exact rfl;exact λ_ k=>⟨⟨a_,rfl⟩,k⟩;apply N9;exact w_;intro n;apply fA;refine kS hd u (λf=>?_) (λf κ=>?_)
      · intro o
        apply LD;apply Qd;apply st 1;exact rfl;exact λ_ k=>k;apply N9;exact w_;intro p;apply iL;rw[Ne f]at h;cases h;exact⟨_,Wk.refl _,rfl,rfl⟩
      · rw[QQ (by simp[f])]at h
        cases h;refine⟨_,?_,rfl,rfl⟩;exact Wk.set (Dv (Ot s κ)) 33
    .cases h
  · have e:OT a=.tp [.undef,.int .i64 a.2]:=QQ he
    rw [e]at d;rw[Ne (by simp[he])]at h;refine o0 rfl d ?_;apply st 1;exact rfl;exact λ_ k=>k;apply st 1;exact rfl;exact λ_ k=>k;apply st 1;exact rfl;exact λ_ k=>k;apply st 1;exact rfl;exact λ_ k=>k;apply st 1;exact rfl;exact λ_ k=>k;apply N9;exact w_;intro g;apply LD;apply LD;apply Qd;apply st 1;exact rfl;exact λ_ k=>k;apply st 1;exact rfl;exact λ_ k=>k;apply N9;exact w_;intro i;apply SX;exact rfl;simp[he];apply LD;apply Qd;apply st 1;exact rfl;exact λ_ k=>k;apply st 1;exact rfl;exact λ_ k=>k;apply N9;exact w_;intro j;apply iL;cases h;simp only[he,decide_false,Bool.not_false,if_true];exact⟨_,Wk.set (Dv s) 33,rfl,rfl⟩
end Go.Sf.Sc
