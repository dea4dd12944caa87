/- Contracts of the functions. -/
import Derived.Test.YtbmogdodchhhlaaGreatCon0
import Derived.Test.YtbmogdodchhhlaaGreatCon1
import Derived.Test.YtbmogdodchhhlaaGreatTryzShelf
import Derived.Test.YtbmogdodchhhlaaGreatTw
set_option linter.all false
set_option maxRecDepth 100000
set_option maxHeartbeats 4000000
namespace Go.Sf.Sc
open Go Go.Sf Go.Proofs.Tryz
instance ll(t:AB)(p:j0)(c:hV)(b:AF)(m:AM)(a:Bool):Ct prog (C7 t p c b m a) 165 [AO t,BI p,AL c,BH b,BC m,eB a] (fun r=>.tp [eB r.1,eI r.2]):=Fj f165 0x8c55d98165b40d4972016262a89f3630935f5f0501 [] [.tmp 12,.tmp 13] (h:=fun r h d e=>by
  unfold C7 at h;exact nz)
instance lm(m:AM):Ct prog (KD m) 166 [BC m] (fun r=>.sh (BC r)):=Fj f166 0xb13ba20f460ea60d460ef20ecc16c9ba [] [.cell 2 (some 3)] (h:=fun r h a b=>by
  unfold KD at h;exact nz)
instance ln(a:AF):Ct prog (Kx a) 167 [BH a] (fun r=>.sh (BH r)):=Fj f167 0xa2625d02d3115d05b6014a0276de0148304704b5825c5d0261d3115d05d0b503500ec93f3f0ef20ecc0ec9ba [.sZ [.w 9,.w 13],.sZ [.g 14 0 2,.g 14 1 2,.z ⟨true,.list 1 []⟩]] [.cell 2 (some 3)] (h:=fun r h d e=>by
  unfold Kx at h;have:HA 0 19 18 0 fun(c:Int)(b:AF)=>[(3,.bx [⟨true,lI b.fq.ff⟩,⟨true,lE b.fq.gt⟩,⟨true,(eL 1 lI) b.ne⟩]),(19,.tv (eI c))]:=⟨⟩;exact nz)
instance lq(n:Int)(l:Fp):Ct prog (LN n l) 168 [eI n,lI l] (fun r=>.own (lI r)):=Fj f168 0x82180501b305fbb601f53014b3fe0106b3fe0106f4885b8172308155dbb305fb819514993f30405e02 [.uv 1 [.int .i64 0] (.s 9)] [.tmp 4] (h:=fun r h c d=>by
  unfold LN at h;have:HA 0 13 12 0 fun(b:Int)(a:Fp)=>[(5,.xo 1 (List.map eI a)),(13,.tv (eI b))]:=⟨⟩;exact nz)
instance lr(c:Int)(d:Fp)(e:Fp)(a:Fp)(b:Fp)(n:Int):Ct prog (Ju c d e a b n) 169 [eI c,lI d,lI e,lI a,lI b,eI n] (fun r=>.own (lI r)):=Fj f169 0x82180d012b2a0d70b62b2a0d702b2a0d706030f530148517d4f8cd0ddb2b2a0d708195140d05021615140d703108b601f55c5c5c7730148c8d0d0502611615140d7031087f81991a30470140705d5e06 [] [.tmp 12] (h:=fun r h k l=>by
  unfold Ju at h;have:HA 0 22 21 0 fun(j:Int)(g:Fp)=>[(13,.xo 1 (List.map eI g)),(22,.tv (eI j))]:=⟨⟩;have:HA 2 43 42 0 fun(i:Int)(f:Int×Fp)=>[(5,.tv (eI f.1)),(13,.xo 1 (List.map eI f.2)),(43,.tv (eI i))]:=⟨⟩;exact nz)
instance mo(t:AB)(a:Int):Ct prog (IR t a) 222 [AO t,eI a] (fun r=>.own (lI r)):=Fj f222 0x82020701d3110704b6b1de5a02044b07c9fa4307dbd31107047fe9aa01da01b240dc [] [.tmp 4] (h:=fun r h d e=>by
  unfold IR at h;have:HA 0 19 18 0 fun(c:Int)(b:Fp)=>[(7,.ow (lI b)),(19,.tv (eI c))]:=⟨⟩;exact nz)
noncomputable def R6:PC:=PC.of OM f170.body (xq bT 0x30b0afaefbb6b0afaefbb0afaefbf44a01711f71034803470c465ca66c24975c5a6c2497590401711f9732c131711f978d7d2497a281fc437761b0afaefbd0cf07d77b7a79073106b67b7a790731067b7a790731063c1f02411f7121221aeb2302411f9732014a38381f7101defb38381f9732c16c381f978d6c24978c8d07d7617b7a79073106d0320731a24a4907063107b6014a01711f71034803470c465ca66c22975c5a6c2297590401711f9732a2fc9bf2815c073103614b4a4907063107d0cffe31051e1d1cfe3108b61f02411f712122014f8ded562302411f9732014a38381f7101de8dcc0438381f9732815cfe3105611e1d1cfe3108d0327ea203c90ec9f106713832621c975f30) []
theorem fO:CK f170 R6 []:=by decide +kernel
theorem ft:PC.sz R6=true/\PC.sB 1 R6=true:=by decide +kernel
instance ls(t:AB)(a:AT)(d:At):Ct prog (IQ t a d) 170 [AO t,.undef,Dw d] (fun r=>.bo (Cd a) (Cd r) 1 []):=Th fO ft fun r h m l n=>by
  unfold R6;unfold f170;unfold IQ at h;have:HA 0 30 29 0 fun(j:Int)(e:AT)=>[(1,.bx (Cd e)),(30,.tv (eI j))]:=⟨⟩;have:HA 2 75 74 0 fun(i:Int)(k:AT)=>[(1,.bx (Cd k)),(75,.tv (eI i))]:=⟨⟩;have:HA 4 123 122 0 fun(g:Int)(b:AT)=>[(1,.bx (Cd b)),(123,.tv (eI g))]:=⟨⟩;have:HA 6 176 175 0 fun(f:Int)(c:AT)=>[(1,.bx (Cd c)),(176,.tv (eI f))]:=⟨⟩;exact nz
theorem fR:CK f223 (.seq (.region [⟨some 1,.uw (.s 0),none⟩,
    ⟨some 2,.mv (.c .undef),none⟩,
    ⟨some 3,.mv (.c (.int .i64 0)),none⟩] [1])
 (.seq (.region [⟨some 12,.uT,none⟩,
    ⟨some 4,.vh 12,none⟩] [1,4,12])
 (.seq (.seq (.region [⟨some 13,.bad 1 0,none⟩,
    ⟨some 14,.td (.s 13) 6,none⟩,
    ⟨some 15,.td (.s 14) 2,none⟩,
    ⟨some 16,.ld (.s 15),none⟩,
    ⟨some 17,.len (.s 16),none⟩,
    ⟨some 18,.mv (.c (.int .i64 0)),none⟩] [1,4,12,16,17,18])
 (.block 0 (.loop [1,4,12,16,17,18] (.seq (.region [⟨some 19,.bin (.i) .lss (.s 18) (.s 17),none⟩] [1,4,12,16,17,18,19])
 (.seq (.cond (.s 19) (.skip [1,4,12,16,17,18])
 (.exit 0 [4,12]))
 (.seq (.block 1 (.seq (.region [⟨some 20,.ur (.s 16) (.s 18) 4,none⟩,
    ⟨some 21,.uC (.s 20) 4,none⟩,
    ⟨some 6,.uV [⟨false,.int .i64 0⟩,⟨false,.int .i64 0⟩,⟨false,.int .i64 0⟩,⟨false,.int .i64 0⟩],none⟩,
    ⟨none,.uz 4 6 (.s 21),none⟩] [1,4,6,12,16,17,18])
 (.seq (.region [⟨some 23,.bad 6 2,none⟩,
    ⟨some 24,.uC (.s 23) 2,none⟩,
    ⟨some 25,.bad 1 25,none⟩,
    ⟨some 26,.td (.s 25) 2,none⟩,
    ⟨some 27,.ld (.s 26),none⟩,
    ⟨some 28,.call 287 [.s 24,.s 27],none⟩,
    ⟨some 22,.mv (.s 28),none⟩,
    ⟨some 29,.ext (.s 22) 0,none⟩,
    ⟨some 30,.ext (.s 22) 1,none⟩,
    ⟨some 7,.mv (.s 29),none⟩,
    ⟨some 8,.mv (.s 30),none⟩] [1,4,6,7,8,12,16,17,18])
 (.seq (.seq (.region [⟨some 31,.mv (.s 8),none⟩,
    ⟨some 32,.bin (.i) .neq (.s 31) (.c (.int .i64 0)),none⟩] [1,4,6,7,8,12,16,17,18,32])
 (.cond (.s 32) (.seq (.region [⟨some 33,.mv (.s 8),none⟩,
    ⟨some 2,.mv (.c .undef),none⟩,
    ⟨some 3,.mv (.s 33),none⟩] [2,3,12])
 .ret)
 (.skip [1,4,6,7,12,16,17,18])))
 (.seq (.draw [9,34,35,36,37,38,39,40,41,42,43] [⟨some 34,.bad 1 36,none⟩,
    ⟨some 35,.td (.s 34) 0,none⟩,
    ⟨some 36,.ld (.s 35),none⟩,
    ⟨some 37,.bad 6 0,none⟩,
    ⟨some 38,.ld (.s 37),none⟩,
    ⟨some 39,.ur (.s 36) (.s 38) 1,none⟩,
    ⟨some 40,.ld (.s 39),none⟩,
    ⟨some 41,.bad 6 1,none⟩,
    ⟨some 42,.ld (.s 41),none⟩,
    ⟨some 43,.uy [.int .i64 0,.int .i64 0] [(0,1,.s 40),(1,1,.s 42)],none⟩,
    ⟨some 9,.uV [⟨false,.int .i64 0⟩,⟨false,.int .i64 0⟩],none⟩,
    ⟨none,.uz 2 9 (.s 43),none⟩] [1,4,7,9,12,16,17,18])
 (.seq (.seq (.region [⟨some 45,.mv (.s 4),none⟩,
    ⟨some 46,.uC (.s 9) 2,none⟩,
    ⟨some 47,.vI 12 (.s 45) (.s 46),none⟩,
    ⟨some 44,.mv (.s 47),none⟩,
    ⟨some 48,.ext (.s 44) 0,none⟩,
    ⟨some 49,.ext (.s 44) 1,none⟩,
    ⟨some 10,.mv (.s 48),none⟩,
    ⟨some 11,.mv (.s 49),none⟩] [1,4,7,9,10,11,12,16,17,18])
 (.seq (.region [⟨some 50,.mv (.s 11),none⟩,
    ⟨some 51,.mv (.s 50),none⟩,
    ⟨some 52,.mv (.s 10),some (51,true)⟩,
    ⟨some 53,.mv (.s 7),some (51,true)⟩,
    ⟨some 54,.bin (.i) .neq (.s 52) (.s 53),some (51,true)⟩,
    ⟨some 55,.pick (.s 51) (.s 54) (.c (.bool false)),none⟩] [1,4,7,9,12,16,17,18,55])
 (.cond (.s 55) (.seq (.region [⟨some 2,.mv (.c .undef),none⟩,
    ⟨some 3,.mv (.c (.int .i64 11)),none⟩] [2,3,12])
 .ret)
 (.skip [1,4,7,9,12,16,17,18]))))
 (.region [⟨some 56,.mv (.s 4),none⟩,
    ⟨some 57,.uC (.s 9) 2,none⟩,
    ⟨some 58,.mv (.s 7),none⟩,
    ⟨none,.vf 12 (.s 56) (.s 57) (.s 58),none⟩] [1,4,12,16,17,18])))))))
 (.region [⟨some 59,.bin (.i) .add (.s 18) (.c (.int .i64 1)),none⟩,
    ⟨some 18,.mv (.s 59),none⟩] [1,4,12,16,17,18])))))))
 (.seq (.region [⟨some 60,.mv (.s 4),none⟩,
    ⟨some 2,.mv (.s 60),none⟩,
    ⟨some 3,.mv (.c (.int .i64 0)),none⟩] [2,3,12])
 .ret)))) [.tmp 2,.tmp 3]:=by decide +kernel
instance pT(s:AT):Ct Go.Proofs.Tryz.prog (Iy s) 223 [Tr s] JZ:=jr fR fun r h d e=>by
  unfold Iy at h;have K:∀b:Nat,HA 0 18 17 0 fun(c:Int)(a:Bi)=>[(12,.mx (.mp b a)),(18,.tv (eI c))]:=fun _=>⟨⟩;have:iU 12:=⟨⟩;exact au
theorem RK(t:AB)(s:AT)(V:List Fp)(p:(Int×Int)×Int)(a:Bi)(r:C9 (List Fp) Unit)(h:KL t s V p=some r):WP (AJ Go.Proofs.Tryz.prog) (.block 1 (.seq (.region [⟨some 25,.vu 22,none⟩,
    ⟨some 26,.ext (.s 25) 0,none⟩,
    ⟨some 27,.ext (.s 25) 1,none⟩,
    ⟨some 7,.uV [⟨false,.int .i64 0⟩,⟨false,.int .i64 0⟩],none⟩,
    ⟨none,.uz 2 7 (.s 26),none⟩,
    ⟨some 8,.mv (.s 27),none⟩] [1,2,7,8,22])
 (.seq (.draw [9,10,28,29,30,31,32,33,34,35,36,37,38,39,40,41,42] [⟨some 29,.uC (.s 2) 2,none⟩,
    ⟨some 30,.bad 1 0,none⟩,
    ⟨some 31,.td (.s 30) 0,none⟩,
    ⟨some 32,.td (.s 31) 31,none⟩,
    ⟨some 33,.td (.s 32) 0,none⟩,
    ⟨some 34,.td (.s 33) 0,none⟩,
    ⟨some 35,.ld (.s 34),none⟩,
    ⟨some 36,.bad 7 0,none⟩,
    ⟨some 37,.ld (.s 36),none⟩,
    ⟨some 38,.ur (.s 35) (.s 37) 1,none⟩,
    ⟨some 39,.ld (.s 38),none⟩,
    ⟨some 40,.call 224 [.s 29,.s 39],none⟩,
    ⟨some 28,.mv (.s 40),none⟩,
    ⟨some 41,.ext (.s 28) 0,none⟩,
    ⟨some 42,.ext (.s 28) 1,none⟩,
    ⟨some 9,.mv (.s 41),none⟩,
    ⟨some 10,.mv (.s 42),none⟩] [1,2,7,8,9,22])
 (.seq (.seq (.region [⟨some 43,.mv (.s 8),none⟩,
    ⟨some 44,.mv (.s 9),none⟩,
    ⟨some 45,.bad 7 1,none⟩,
    ⟨some 46,.ld (.s 45),none⟩,
    ⟨some 47,.ur (.s 44) (.s 46) 4,none⟩,
    ⟨some 48,.td (.s 47) 1,none⟩,
    ⟨some 49,.ld (.s 48),none⟩,
    ⟨some 50,.bin (.i) .lss (.s 43) (.s 49),none⟩,
    ⟨some 51,.mv (.s 50),none⟩,
    ⟨some 52,.mv (.s 8),some (51,false)⟩,
    ⟨some 53,.mv (.s 9),some (51,false)⟩,
    ⟨some 54,.bad 7 1,some (51,false)⟩,
    ⟨some 55,.ld (.s 54),some (51,false)⟩,
    ⟨some 56,.ur (.s 53) (.s 55) 4,some (51,false)⟩,
    ⟨some 57,.td (.s 56) 2,some (51,false)⟩,
    ⟨some 58,.ld (.s 57),some (51,false)⟩,
    ⟨some 59,.bin (.i) .gtr (.s 52) (.s 58),some (51,false)⟩,
    ⟨some 60,.pick (.s 51) (.c (.bool true)) (.s 59),none⟩] [1,2,7,8,22,60])
 (.cond (.s 60) (.seq (.region [⟨some 4,.mv (.c (.int .i64 6)),none⟩] [1,4])
 .ret)
 (.skip [1,2,7,8,22])))
 (.draw [61,62,63,64,65,66,67,68,69,70,71,72,73] [⟨some 61,.bad 1 0,none⟩,
    ⟨some 62,.td (.s 61) 0,none⟩,
    ⟨some 63,.td (.s 62) 31,none⟩,
    ⟨some 64,.td (.s 63) 2,none⟩,
    ⟨some 65,.vq (.s 64),none⟩,
    ⟨some 66,.bad 7 0,none⟩,
    ⟨some 67,.ld (.s 66),none⟩,
    ⟨some 68,.uQ (.s 65) (.s 67),none⟩,
    ⟨some 69,.vw (.s 68),none⟩,
    ⟨some 70,.bad 7 1,none⟩,
    ⟨some 71,.ld (.s 70),none⟩,
    ⟨some 72,.mv (.s 8),none⟩,
    ⟨some 73,.uQ (.s 69) (.s 71),none⟩,
    ⟨none,.uU (.s 73) (.s 72),none⟩] [1,2,22]))))) ⟨fun e=>∃b,r=.next b/\Rn (e.po [1,2,22]) [(1,.bx (Cd (Ka s b))),(2,.tv (.pt (AO t).cells)),(22,.mx (.mi (some p) a))],fun _ _=>False,fun e=>∃v,r=.ret v/\Rn e [(1,.bx (Cd (Ka s V))),(4,.tv (eI 6))]⟩ [(1,.bx (Cd (Ka s V))),(2,.tv (.pt (AO t).cells)),(22,.mx (.mi (some p) a))]:=by
  unfold KL at h;exact au
noncomputable def R7:PC:=(.seq (.region [⟨some 2,.uw (.s 0),none⟩,
    ⟨some 4,.mv (.c (.int .i64 0)),none⟩] [1,2])
 (.seq (.region [⟨some 12,.bad 1 0,none⟩,
    ⟨some 13,.td (.s 12) 0,none⟩,
    ⟨some 14,.uC (.s 13) 38,none⟩,
    ⟨some 15,.tB 223 [.s 14],none⟩,
    ⟨some 11,.vh 15,none⟩,
    ⟨some 16,.ext (.s 11) 0,none⟩,
    ⟨some 17,.ext (.s 11) 1,none⟩,
    ⟨some 5,.mv (.s 16),none⟩,
    ⟨some 6,.mv (.s 17),none⟩] [1,2,5,6,15])
 (.seq (.seq (.region [⟨some 18,.mv (.s 6),none⟩,
    ⟨some 19,.bin (.i) .neq (.s 18) (.c (.int .i64 0)),none⟩] [1,2,5,6,15,19])
 (.cond (.s 19) (.seq (.region [⟨some 20,.mv (.s 6),none⟩,
    ⟨some 4,.mv (.s 20),none⟩] [1,4])
 .ret)
 (.skip [1,2,5,15])))
 (.seq (.seq (.region [⟨some 21,.mv (.s 5),none⟩,
    ⟨some 22,.su 15 (.s 21),none⟩] [1,2,22])
 (.block 0 (.loop [1,2,22] (.seq (.region [⟨some 23,.vB 22,none⟩,
    ⟨some 24,.ext (.s 23) 0,none⟩] [1,2,22,24])
 (.seq (.cond (.s 24) (.skip [1,2,22])
 (.exit 0 [1]))
 (.block 1 (.seq (.region [⟨some 25,.vu 22,none⟩,
    ⟨some 26,.ext (.s 25) 0,none⟩,
    ⟨some 27,.ext (.s 25) 1,none⟩,
    ⟨some 7,.uV [⟨false,.int .i64 0⟩,⟨false,.int .i64 0⟩],none⟩,
    ⟨none,.uz 2 7 (.s 26),none⟩,
    ⟨some 8,.mv (.s 27),none⟩] [1,2,7,8,22])
 (.seq (.draw [9,10,28,29,30,31,32,33,34,35,36,37,38,39,40,41,42] [⟨some 29,.uC (.s 2) 2,none⟩,
    ⟨some 30,.bad 1 0,none⟩,
    ⟨some 31,.td (.s 30) 0,none⟩,
    ⟨some 32,.td (.s 31) 31,none⟩,
    ⟨some 33,.td (.s 32) 0,none⟩,
    ⟨some 34,.td (.s 33) 0,none⟩,
    ⟨some 35,.ld (.s 34),none⟩,
    ⟨some 36,.bad 7 0,none⟩,
    ⟨some 37,.ld (.s 36),none⟩,
    ⟨some 38,.ur (.s 35) (.s 37) 1,none⟩,
    ⟨some 39,.ld (.s 38),none⟩,
    ⟨some 40,.call 224 [.s 29,.s 39],none⟩,
    ⟨some 28,.mv (.s 40),none⟩,
    ⟨some 41,.ext (.s 28) 0,none⟩,
    ⟨some 42,.ext (.s 28) 1,none⟩,
    ⟨some 9,.mv (.s 41),none⟩,
    ⟨some 10,.mv (.s 42),none⟩] [1,2,7,8,9,22])
 (.seq (.seq (.region [⟨some 43,.mv (.s 8),none⟩,
    ⟨some 44,.mv (.s 9),none⟩,
    ⟨some 45,.bad 7 1,none⟩,
    ⟨some 46,.ld (.s 45),none⟩,
    ⟨some 47,.ur (.s 44) (.s 46) 4,none⟩,
    ⟨some 48,.td (.s 47) 1,none⟩,
    ⟨some 49,.ld (.s 48),none⟩,
    ⟨some 50,.bin (.i) .lss (.s 43) (.s 49),none⟩,
    ⟨some 51,.mv (.s 50),none⟩,
    ⟨some 52,.mv (.s 8),some (51,false)⟩,
    ⟨some 53,.mv (.s 9),some (51,false)⟩,
    ⟨some 54,.bad 7 1,some (51,false)⟩,
    ⟨some 55,.ld (.s 54),some (51,false)⟩,
    ⟨some 56,.ur (.s 53) (.s 55) 4,some (51,false)⟩,
    ⟨some 57,.td (.s 56) 2,some (51,false)⟩,
    ⟨some 58,.ld (.s 57),some (51,false)⟩,
    ⟨some 59,.bin (.i) .gtr (.s 52) (.s 58),some (51,false)⟩,
    ⟨some 60,.pick (.s 51) (.c (.bool true)) (.s 59),none⟩] [1,2,7,8,22,60])
 (.cond (.s 60) (.seq (.region [⟨some 4,.mv (.c (.int .i64 6)),none⟩] [1,4])
 .ret)
 (.skip [1,2,7,8,22])))
 (.draw [61,62,63,64,65,66,67,68,69,70,71,72,73] [⟨some 61,.bad 1 0,none⟩,
    ⟨some 62,.td (.s 61) 0,none⟩,
    ⟨some 63,.td (.s 62) 31,none⟩,
    ⟨some 64,.td (.s 63) 2,none⟩,
    ⟨some 65,.vq (.s 64),none⟩,
    ⟨some 66,.bad 7 0,none⟩,
    ⟨some 67,.ld (.s 66),none⟩,
    ⟨some 68,.uQ (.s 65) (.s 67),none⟩,
    ⟨some 69,.vw (.s 68),none⟩,
    ⟨some 70,.bad 7 1,none⟩,
    ⟨some 71,.ld (.s 70),none⟩,
    ⟨some 72,.mv (.s 8),none⟩,
    ⟨some 73,.uQ (.s 69) (.s 71),none⟩,
    ⟨none,.uU (.s 73) (.s 72),none⟩] [1,2,22]))))))))))
 (.seq (.region [⟨some 4,.mv (.c (.int .i64 0)),none⟩] [1,4])
 .ret)))))
theorem fP:CK f171 R7 [.tmp 4]:=by decide +kernel
theorem fu:PC.sz R7=true/\PC.sB 1 R7=true:=by decide +kernel
variable{t:AB}{s:AT}
theorem Uc{p:(Int×Int)×Int}{b:Bool}(h:L7 t s p=some b){V:List Fp}(a:LQ V s.r6.ne):
    (b=true->KL t s V p=some (.next (D9 V p)))/\(b=false->KL t s V p=some (.ret ())):=by
  unfold L7 KL at h;unfold KL;obtain⟨c,d,h⟩:=bind_some h;obtain⟨q,f,d⟩:=bind_some d;obtain⟨r,g,d⟩:=bind_some d;obtain⟨u,i,d⟩:=bind_some d;obtain⟨j,k,d⟩:=bind_some d;simp only[f,g,i,Option.bind_some]at *;rw[k,Option.bind_some];cases j with
  |true=>
    simp only[if_true,se]at d|-;subst d;simp only[se]at h;subst h;exact⟨fun e=>(by cases e),fun _=>trivial⟩
  |false=>
    simp only[Bool.false_eq_true,if_false]at d|-;obtain⟨v,l,d⟩:=bind_some d;obtain⟨w,m,d⟩:=bind_some d;cases d;simp only[se]at h;subst h;obtain⟨x,x',n,o⟩:=a.idx l m;refine⟨fun _=>?_,fun e=>(by cases e)⟩;rw[n,Option.bind_some,o,Option.bind_some,XP n o]
theorem Vq{a:Bi}{c:Bool}(f:a.Dis)(k:tU (L7 t s) a=some c){L y:AA->Prop}{x:Nat->AA->Prop}{d:AA->Prop}
    (m:c=true->y [(1,.bx (Cd (Ka s (a.foldl D9 s.r6.ne))))])(g:c=false->∀V,d [(1,.bx (Cd (Ka s V))),(4,.tv (eI 6))]):
    WP (AJ Go.Proofs.Tryz.prog) (.loop [1,2,22] (.seq (.region [⟨some 23,.vB 22,none⟩,
    ⟨some 24,.ext (.s 23) 0,none⟩] [1,2,22,24])
 (.seq (.cond (.s 24) (.skip [1,2,22])
 (.exit 0 [1]))
 (.block 1 (.seq (.region [⟨some 25,.vu 22,none⟩,
    ⟨some 26,.ext (.s 25) 0,none⟩,
    ⟨some 27,.ext (.s 25) 1,none⟩,
    ⟨some 7,.uV [⟨false,.int .i64 0⟩,⟨false,.int .i64 0⟩],none⟩,
    ⟨none,.uz 2 7 (.s 26),none⟩,
    ⟨some 8,.mv (.s 27),none⟩] [1,2,7,8,22])
 (.seq (.draw [9,10,28,29,30,31,32,33,34,35,36,37,38,39,40,41,42] [⟨some 29,.uC (.s 2) 2,none⟩,
    ⟨some 30,.bad 1 0,none⟩,
    ⟨some 31,.td (.s 30) 0,none⟩,
    ⟨some 32,.td (.s 31) 31,none⟩,
    ⟨some 33,.td (.s 32) 0,none⟩,
    ⟨some 34,.td (.s 33) 0,none⟩,
    ⟨some 35,.ld (.s 34),none⟩,
    ⟨some 36,.bad 7 0,none⟩,
    ⟨some 37,.ld (.s 36),none⟩,
    ⟨some 38,.ur (.s 35) (.s 37) 1,none⟩,
    ⟨some 39,.ld (.s 38),none⟩,
    ⟨some 40,.call 224 [.s 29,.s 39],none⟩,
    ⟨some 28,.mv (.s 40),none⟩,
    ⟨some 41,.ext (.s 28) 0,none⟩,
    ⟨some 42,.ext (.s 28) 1,none⟩,
    ⟨some 9,.mv (.s 41),none⟩,
    ⟨some 10,.mv (.s 42),none⟩] [1,2,7,8,9,22])
 (.seq (.seq (.region [⟨some 43,.mv (.s 8),none⟩,
    ⟨some 44,.mv (.s 9),none⟩,
    ⟨some 45,.bad 7 1,none⟩,
    ⟨some 46,.ld (.s 45),none⟩,
    ⟨some 47,.ur (.s 44) (.s 46) 4,none⟩,
    ⟨some 48,.td (.s 47) 1,none⟩,
    ⟨some 49,.ld (.s 48),none⟩,
    ⟨some 50,.bin (.i) .lss (.s 43) (.s 49),none⟩,
    ⟨some 51,.mv (.s 50),none⟩,
    ⟨some 52,.mv (.s 8),some (51,false)⟩,
    ⟨some 53,.mv (.s 9),some (51,false)⟩,
    ⟨some 54,.bad 7 1,some (51,false)⟩,
    ⟨some 55,.ld (.s 54),some (51,false)⟩,
    ⟨some 56,.ur (.s 53) (.s 55) 4,some (51,false)⟩,
    ⟨some 57,.td (.s 56) 2,some (51,false)⟩,
    ⟨some 58,.ld (.s 57),some (51,false)⟩,
    ⟨some 59,.bin (.i) .gtr (.s 52) (.s 58),some (51,false)⟩,
    ⟨some 60,.pick (.s 51) (.c (.bool true)) (.s 59),none⟩] [1,2,7,8,22,60])
 (.cond (.s 60) (.seq (.region [⟨some 4,.mv (.c (.int .i64 6)),none⟩] [1,4])
 .ret)
 (.skip [1,2,7,8,22])))
 (.draw [61,62,63,64,65,66,67,68,69,70,71,72,73] [⟨some 61,.bad 1 0,none⟩,
    ⟨some 62,.td (.s 61) 0,none⟩,
    ⟨some 63,.td (.s 62) 31,none⟩,
    ⟨some 64,.td (.s 63) 2,none⟩,
    ⟨some 65,.vq (.s 64),none⟩,
    ⟨some 66,.bad 7 0,none⟩,
    ⟨some 67,.ld (.s 66),none⟩,
    ⟨some 68,.uQ (.s 65) (.s 67),none⟩,
    ⟨some 69,.vw (.s 68),none⟩,
    ⟨some 70,.bad 7 1,none⟩,
    ⟨some 71,.ld (.s 70),none⟩,
    ⟨some 72,.mv (.s 8),none⟩,
    ⟨some 73,.uQ (.s 69) (.s 71),none⟩,
    ⟨none,.uU (.s 73) (.s 72),none⟩] [1,2,22])))))))) ⟨L,fun j e=>if j=0 then y e else x j e,d⟩ [(1,.bx (Cd s)),(2,.tv (.pt (AO t).cells)),(22,.mx (.mi none a))]:=by
  obtain ⟨m1,Q⟩:=QF k;refine⟨ai _ (σ:=List Fp×Option ((Int×Int)×Int)×Bi) (fun σ=>[(1,.bx (Cd (Ka s σ.1))),(2,.tv (.pt (AO t).cells)),(22,.mx (.mi σ.2.1 σ.2.2))])
    (fun σ=>LQ σ.1 s.r6.ne/\(∀l,σ.2.2.Perm l->l.foldl D9 σ.1=a.foldl D9 s.r6.ne)/\(∀p∈σ.2.2,p∈a)/\(c=false->∃p∈σ.2.2,L7 t s p=some false))
    (fun σ=>σ.2.2.length) (s.r6.ne,none,a) rfl ⟨rfl,fun l z=>Ue f z _,fun p o=>o,Q⟩ ?_⟩
  rintro ⟨V,last,r⟩ ⟨H,I,J,K⟩ U;refine WP.out (?_:WP _ _ _ _);apply HT;apply K5;refine gw rfl (by decide) (fun e=>?_) (fun p n o=>?_)
  · simp only at e
    subst e;have O:c=true:=by
      cases c with
      |true=>rfl|false=>obtain⟨p,o,_⟩:=K rfl;cases o
    have P:V=a.foldl D9 s.r6.ne:=I [] (List.Perm.refl _);apply NW;exact rfl;exact rfl;apply JS;(focus (repeat(first|exact FY|(apply He;exact rfl)|(apply Hb;exact rfl)|(apply Hc;exact rfl)|(apply Hf;exact rfl)|(apply Hd;exact rfl))));intro B;apply HT;apply Mf;exact rfl;exact rfl;apply Vc;(focus (repeat(first|exact FY|(apply He;exact rfl)|(apply Hb;exact rfl)|(apply Hc;exact rfl)|(apply Hf;exact rfl)|(apply Hd;exact rfl))));show(if(0:Nat)=0 then y [(1,.bx (Cd (Ka s V)))]else x 0 [(1,.bx (Cd (Ka s V)))]);rw[ae rfl,P];exact m O
  · apply NW;exact rfl;exact rfl
    apply JS;(focus (repeat(first|exact FY|(apply He;exact rfl)|(apply Hb;exact rfl)|(apply Hc;exact rfl)|(apply Hf;exact rfl)|(apply Hd;exact rfl))));intro B;apply HT;apply Mg;exact rfl;exact rfl;apply SN;(focus (repeat(first|exact FY|(apply He;exact rfl)|(apply Hb;exact rfl)|(apply Hc;exact rfl)|(apply Hf;exact rfl)|(apply Hd;exact rfl))));intro N;have C:p∈r:=o.mem_iff.2 (by simp);obtain⟨b,G,D⟩:=m1 p (J p C);obtain⟨R,S⟩:=Uc G H;cases b with
    |true=>
      refine ⟨PC.rl _ _ _ _ (RK t s V p n _ (R rfl)).out _ (fun e he=>?_) (fun _ _ h=>h.elim) (fun e he=>?_)⟩
      · obtain⟨T,w,E⟩:=he
        cases w;refine⟨(D9 V p,some p,n),E.out,⟨(Vp V p).trans H,fun l z=>?_,fun q A=>J q (o.mem_iff.2 (by simp[A])),fun M=>?_⟩,?_⟩
        .exact I (p::l) (o.trans (z.cons p))
        · obtain⟨q,A,u⟩:=K M
          rcases List.mem_cons.1 (o.mem_iff.1 A)with rfl|F
          .rw[G]at u;cases u
          .exact⟨q,F,u⟩
        · have:=o.length_eq
          simp only[ec]at this;show n.length<r.length;omega
      · obtain⟨v,w,_⟩:=he
        cases w
    |false=>
      refine ⟨PC.rl _ _ _ _ (RK t s V p n _ (S rfl)).out _ (fun e he=>?_) (fun _ _ h=>h.elim) (fun e he=>?_)⟩
      · obtain⟨T,w,_⟩:=he
        cases w
      · obtain⟨v,_,E⟩:=he
        rw [E.out];exact g (by cases c with|false=>rfl|true=>exact absurd (D rfl) (by simp)) V
instance pR(t:AB)(s:AT):Ct Go.Proofs.Tryz.prog (JM t s) 171 [AO t,.undef] (fun r=>.bo (Cd s) (if(!decide (r.1=0))=true then(Cd r.2).set 33 ⟨false,.undef⟩else Cd r.2) 1 [eI r.1]):=ir fP fu fun r h u k=>by
  unfold R7;unfold JM at h;obtain⟨a,p,h⟩:=bind_some h;have d:=(inferInstance:Ct Go.Proofs.Tryz.prog (Iy s) 223 [Tr s] JZ).snd a p;apply HT;apply K5;apply WL;exact rfl;exact rfl;apply Kv;exact rfl;apply JS;(focus (repeat(first|exact FY|(apply He;exact rfl)|(apply Hb;exact rfl)|(apply Hc;exact rfl)|(apply Hf;exact rfl)|(apply Hd;exact rfl))));intro l;apply HT;apply K5
  first|(apply ZD;exact rfl)|(apply WK;exact rfl)
  first|(apply ZE;exact rfl)|(apply WN;exact rfl;exact rfl)
  apply SB;exact rfl;exact rfl;exact rfl;by_cases he:a.2=0
  · have e:JZ a=.mpr a.1 [.int .i64 a.2]:=ae he
    rw [e]at d;rw[az (by simp[he])]at h;split at h
    · rename_i hd
      have hd:Bi.Dis a.1:=(show List.Pairwise (fun x y:(Int×Int)×Int=>x.1≠y.1) a.1 from of_decide_eq_true hd);obtain⟨c,q,h⟩:=bind_some h;refine Xy rfl d (fun b=>?_);apply WR;exact rfl;apply NW;exact rfl;exact rfl;apply NW;exact rfl;exact rfl;apply Kv;exact rfl;apply Kv;exact rfl;apply JS;(focus (repeat(first|exact FY|(apply He;exact rfl)|(apply Hb;exact rfl)|(apply Hc;exact rfl)|(apply Hf;exact rfl)|(apply Hd;exact rfl))));intro g;apply HT;apply HT;apply K5;apply Kv;exact rfl;apply VD;exact rfl;exact rfl;apply JS;(focus (repeat(first|exact FY|(apply He;exact rfl)|(apply Hb;exact rfl)|(apply Hc;exact rfl)|(apply Hf;exact rfl)|(apply Hd;exact rfl))));intro i;apply Mf;exact rfl;simp[he];apply SN;(focus (repeat(first|exact FY|(apply He;exact rfl)|(apply Hb;exact rfl)|(apply Hc;exact rfl)|(apply Hf;exact rfl)|(apply Hd;exact rfl))));intro j;apply HT;apply HT;apply K5;apply Kv;exact rfl;apply ZJ;exact rfl;exact rfl;decide;apply JS;(focus (repeat(first|exact FY|(apply He;exact rfl)|(apply Hb;exact rfl)|(apply Hc;exact rfl)|(apply Hf;exact rfl)|(apply Hd;exact rfl))));intro m;apply Tl;refine Vq hd q (fun f=>?_) (fun f V=>?_)
      · intro n
        apply HT;apply K5;apply Kv;exact rfl;apply JS;(focus (repeat(first|exact FY|(apply He;exact rfl)|(apply Hb;exact rfl)|(apply Hc;exact rfl)|(apply Hf;exact rfl)|(apply Hd;exact rfl))));intro o;apply UO;rw[ae f]at h;cases h;exact⟨_,Wk.refl _,rfl,rfl⟩
      · rw[az (by simp[f])]at h
        cases h;refine⟨_,?_,rfl,rfl⟩;exact Wk.set (Cd (Ka s V)) 33
    .cases h
  · have e:JZ a=.tp [.undef,.int .i64 a.2]:=az he
    rw [e]at d;rw[ae (by simp[he])]at h;refine Xx rfl d ?_;apply WQ;exact rfl;apply NW;exact rfl;exact rfl;apply NW;exact rfl;exact rfl;apply Kv;exact rfl;apply Kv;exact rfl;apply JS;(focus (repeat(first|exact FY|(apply He;exact rfl)|(apply Hb;exact rfl)|(apply Hc;exact rfl)|(apply Hf;exact rfl)|(apply Hd;exact rfl))));intro g;apply HT;apply HT;apply K5;apply Kv;exact rfl;apply VD;exact rfl;exact rfl;apply JS;(focus (repeat(first|exact FY|(apply He;exact rfl)|(apply Hb;exact rfl)|(apply Hc;exact rfl)|(apply Hf;exact rfl)|(apply Hd;exact rfl))));intro i;apply Mg;exact rfl;simp[he];apply HT;apply K5;apply Kv;exact rfl;apply Kv;exact rfl;apply JS;(focus (repeat(first|exact FY|(apply He;exact rfl)|(apply Hb;exact rfl)|(apply Hc;exact rfl)|(apply Hf;exact rfl)|(apply Hd;exact rfl))));intro j;apply UO;cases h;simp only[he,decide_false,Bool.not_false,if_true];exact⟨_,Wk.set (Cd s) 33,rfl,rfl⟩
instance kc(t:AB)(a:o4)(b:AF)(m:AM):Ct prog (Gp t a b m) 121 [AO t,CH a,BH b,BC m] (fun r=>.tp [Bp r.1,eI r.2]):=Fj f121 0x81264be00f3e37264b1446ca31711f42550b6c381f4237264bf8ee0152b252a5024a24420d460e0b5a7d2242f27d0d427d0b420b3171d80ef76c2242cc6c0d426c0b420b6c38d8024a22420d460e5a0bf20e590bcc3f17c91b460e620e62e137264b144688d9264bf84685308172030f426262a810429fcf84264bf8468530e3f0b7360b42b784264bf8ee7e03f0b7b7f1cf84264bf8ee0e6262e1b210c95f96 [.vj 38 [none,none,none,none,none,none,none,none,none,none,none,none,none,none,none,none,none,none,none,none,none,none,none,none,none,none,none,none,none,none,none,some ⟨true,.list 1 []⟩,some ⟨true,.list 3 []⟩,some ⟨true,.xn []⟩,none,none,none,none] (.s 15) (.s 82)] [.cell 8 (some 38),.tmp 9] (h:=fun r h c d=>by
  unfold Gp at h;exact nz)
instance rG(t:AB)(a:o4)(b:AF)(m:AM):Ct prog (Fc t a b m) 78 [AO t,CH a,BH b,BC m] (fun r=>.tp [Bp r.1,eI r.2]):=Fj f78 0x81264b6b0e6262e184264bf8ee0e62e1b210c95f96 [] [.cell 8 (some 38),.tmp 9] (h:=fun r h c d=>by
  unfold Fc at h;exact nz)
instance rO(t:AB)(a:List o4)(b:AF)(m:JO):Ct prog (Dz t a b m) 86 [AO t,(eL 25 CH) a,BH b,H3 m] (fun r=>.tp [Bp r.1,eI r.2]):=Fj f86 0x8013b81264b6b0e62cf62e119439d84264b1446ca0159559d10c9935f30 [] [.cell 8 (some 38),.tmp 9] (h:=fun r h c d=>by
  unfold Dz at h;exact nz)
instance qV(t:AB)(a:List o4)(d:B8):Ct prog (C5 t a d) 46 [AO t,(eL 25 CH) a,Oq d] (fun r=>.tp [(eL 38 Bp) r.1,eI r.2.1,eI r.2.2]):=Fj f46 0x8c820bd70a0121201fc63107b60b013ba202621f4226482647e002378126c03065264b10f0e462eb044b8118c9fa9b0adb21201fc63107d00342a20ec9623226c0378126c0c1d5378126c0896232eb3026405f30 [] [.tmp 6,.tmp 7,.tmp 8] (h:=fun r h e f=>by
  unfold C5 at h;have:HA 0 33 32 0 fun(c:Int)(b:List AT×AF)=>[(10,.ow ((eL 38 Bp) b.1)),(11,.bx [⟨false,lI b.2.fq.ff⟩,⟨false,lE b.2.fq.gt⟩,⟨false,(eL 1 lI) b.2.ne⟩]),(33,.tv (eI c))]:=⟨⟩;exact nz)
instance kp(a:hT)(b:hT):Ct prog (EY a b) 132 [An a,An b] (fun r=>.sh (eB r)):=Fj f132 0x81b85a5a6a599d96 [] [.tmp 4] (h:=fun r h c d=>by
  unfold EY at h;exact nz)
instance nS(a:fq)(b:fq):Ct prog (M8 a b) 254 [Am a,Am b] (fun r=>.sh (eB r)):=Fj f254 0x81b85a5a6a599d96 [] [.tmp 4] (h:=fun r h c d=>by
  unfold M8 at h;exact nz)
instance mA(a:j0)(b:j0):Ct prog (Gk a b) 185 [BI a,BI b] (fun r=>.sh (eB r)):=Fj f185 0x81b803d1030476b8a6ed80d5d56ab7b70196 [] [.tmp 4] (h:=fun r h c d=>by
  unfold Gk at h;exact nz)
abbrev Q_186(n:Nat):Prop:=∀(a:hV)(b:hV),Ct prog (Ck n a b) 186 [AL a,AL b] (fun r=>.sh (eB r))
theorem ek(n:Nat)(_ih_186:Q_186 n)(a:hV)(b:hV):Ct prog (Ck (n+1) a b) 186 [AL a,AL b] (fun r=>.sh (eB r)):=Fj f186 0xf93f5abcb803d103d16aa6a6378aa1f2f2010aa1cccc0180d590760aa136b536b555eab4b40ac90ac99fd19f047696 [.call 257 [.s 65,.s 67,.c (.sR 186 [])]] [.tmp 4] (h:=fun r h d e=>by
  unfold Ck at h;exact nz)
theorem ej:∀n:Nat,Q_186 n:=by
  intro n
  induction n with
  |zero=>exact(fun a b=>⟨fun _ h=>by cases h⟩)
  |succ n c=>exact ek n c
instance mB(a:hV)(b:hV):Ct prog (H1 a b) 186 [AL a,AL b] (fun r=>.sh (eB r)):=⟨fun r h=>by
  obtain ⟨N,c⟩:=CO h;exact((ej N) a b).snd r (c N (bk _))⟩
instance km(a:o4)(b:o4):Ct prog (JH a b) 130 [CH a,CH b] (fun r=>.sh (eB r)):=Fj f130 0x81b8a81042a81076b8360d42360d76b87d0b427d0b76b86c0b426c0b76b89fd89f0676b89fcf9f01760a07030f42030f7606599d96 [] [.tmp 4] (h:=fun r h c d=>by
  unfold JH at h;exact nz)
instance ko(a:AM)(b:AM):Ct prog (KE a b) 131 [BC a,BC b] (fun r=>.sh (eB r)):=Fj f131 0x81b8a6a66ab7b70196 [] [.tmp 4] (h:=fun r h c d=>by
  unfold KE at h;exact nz)
instance rP(a:AT)(b:AT):Ct prog (JL a b) 87 [Bp a,Bp b] (fun r=>.sh (eB r)):=Fj f87 0x81b8362442362476b8362242362276b8621f42621f76b8621c42621c76b86219426219426ae132e1320196 [] [.tmp 4] (h:=fun r h c d=>by
  unfold JL at h;exact nz)
instance qW(t:AB)(a:AT):Ct prog (Gn t a) 47 [AO t,Bp a] (fun r=>.sh (eB r)):=Fj f47 0x81b8e0e0555b264b10f0621942621c42e132b296 [] [.tmp 4] (h:=fun r h b c=>by
  unfold Gn at h;exact nz)
instance p7(t:AB)(c:List o4)(a:AT)(b:AT):Ct prog (Gc t c a b) 23 [AO t,(eL 25 CH) c,Bp a,Bp b] (fun r=>.sh (eI r)):=Fj f23 0xacbe621c42621c42378aa1e0b2a1e08474d711721c4601b2935f30 [] [.tmp 8] (h:=fun r h d e=>by
  unfold Gc at h;exact nz)
instance qB(l:Fp)(a:Fp):Ct prog (DJ l a) 27 [lI l,lI a] (fun r=>.own (lI r)):=Fj f27 0x82020501e5080555b6b1ded7e575050106e575050106f4b9655c05dbe50805557fcdc001405e02 [] [.tmp 4] (h:=fun r h d e=>by
  unfold DJ at h;have:HA 0 10 9 0 fun(c:Int)(b:Fp)=>[(5,.ow (lI b)),(10,.tv (eI c))]:=⟨⟩;exact nz)
instance qj(a:AF):Ct prog (MP a) 56 [BH a] (fun r=>.sh (BH r)):=Fj f56 0xa2625d02d3115d05b6014a0276de0efbb5825c5d0261d3115d05d0b503500ec93f3f0ef20ecc0ec9ba [.sZ [.w 9,.w 13],.sZ [.g 14 0 2,.g 14 1 2,.z ⟨true,.list 1 []⟩]] [.cell 2 (some 3)] (h:=fun r h d e=>by
  unfold MP at h;have:HA 0 19 18 0 fun(c:Int)(b:AF)=>[(3,.bx [⟨true,lI b.fq.ff⟩,⟨true,lE b.fq.gt⟩,⟨true,(eL 1 lI) b.ne⟩]),(19,.tv (eI c))]:=⟨⟩;exact nz)
instance qA(b:AT)(a:At):Ct prog (IA b a) 26 [Bp b,Dw a] (fun r=>.sh (Bc r)):=Fj f26 0x4013b094b1e460d460e7d22425a0e6c224259621f421d460e621f4219c996 [] [.cell 4 (some 9)] (h:=fun r h c d=>by
  unfold IA at h;exact nz)
instance lf(t:AB)(p:fq)(g:fq)(a:Bool):Ct prog (IP t p g a) 160 [AO t,Am p,Am g,eB a] (fun r=>.tp [(eL 2 An) r.1,eI r.2]):=Fj f160 0xe96b0e011f46a58402c08936a5d740935f31 [] [.tmp 8,.tmp 9] (h:=fun r h b c=>by
  unfold IP at h;exact nz)
instance kZ(t:AB)(p:j0)(b:AF)(a:Bool):Ct prog (Dl t p b a) 120 [AO t,BI p,BH b,eB a] (fun r=>.tp [(eL 3 BC) r.1,eI r.2]):=Fj f120 0xe9020d012827260d9206b62827260d92062827260d92063c02034803470f46eb0265da36629fe3c93602430ddb2827260d92067f8103c03703c074da01b7b78403c089629fb20340935f31 [] [.tmp 8,.tmp 9] (h:=fun r h e f=>by
  unfold Dl at h;have:HA 0 40 39 0 fun(d:Int)(c:List AM)=>[(13,.ow ((eL 3 BC) c)),(40,.tv (eI d))]:=⟨⟩;exact nz)
instance rF(t:AB)(a:o4)(b:AF):Ct prog (ET t a b) 77 [AO t,CH a,BH b] (fun r=>.tp [(eL 3 BC) r.1,eI r.2]):=Fj f77 0xe9020b012625240bc407b62625240bc4072625240bc4073c0203480347620265264b1049726262e136a216c9bd430bdb2625240bc4077f8103c03703c074da030f42629fcf8403c08962e1b20340fd [] [.tmp 6,.tmp 7] (h:=fun r h e f=>by
  unfold ET at h;have:HA 0 38 37 0 fun(d:Int)(c:List AM)=>[(11,.ow ((eL 3 BC) c)),(38,.tv (eI d))]:=⟨⟩;exact nz)
instance rH(b:AU)(a:Int)(c:AT):Ct prog (HN b a c) 79 [Bc b,eI a,Bp c] (fun r=>.sh (Bc r)):=Fj f79 0x6013b094b1e460d460e7d22427d07420e6c22426c0742621f42214601623832820448044720466219426a90413219c95f30 [] [.cell 6 (some 9)] (h:=fun r h d e=>by
  unfold HN at h;exact nz)
instance rL(n:Int)(a:Fp)(b:Fp):Ct prog (LA n a b) 83 [eI n,lI a,lI b] (fun r=>.tp [lI r.1,eB r.2]):=Fj f83 0xe9180801100f0e08020560100f0e080205100f0e080205f4f55c77143701c0c3b917d4f85517d4f8ff100f0e08020585d901c087055ca95b818d08db100f0e0802057f81991a3047304002bb [] [.tmp 6,.tmp 7] (h:=fun r h e f=>by
  unfold LA at h;have:HA 0 16 15 0 fun(d:Int)(c:Fp)=>[(8,.xo 1 (List.map eI c)),(16,.tv (eI d))]:=⟨⟩;exact nz)
noncomputable def R4:PC:=PC.of OM f125.body (xq bT 0x9e013c3b3a05ec06603c3b3a05ec063c3b3a05ec063c1f014108710151011e01410897323700d2321f01410871014faa011e0141089732ff3c3b3a05ec068a20011d01410897010a3f62620180018d030797558d030797a281fc435edb3c3b3a05ec06d001710397a2e60c4617d4a61d38089717d45a1d38089759a2fc9b317138383237c131713838325b151d014108975e01) [.bin (.a [0,0,0]) .neq (.s 85) (.s 86)]
theorem fM:CK f125 R4 [.tmp 2]:=by decide +kernel
theorem fm:PC.sz R4=true/\PC.sB 0 R4=true:=by decide +kernel
abbrev Q_125(n:Nat):Prop:=∀(a:A6),Ct prog (B9 n a) 125 [.undef] (fun r=>.bo (Br a) (Br r.2) 0 [eB r.1])
theorem eb(n:Nat)(_ih_125:Q_125 n)(a:A6):Ct prog (B9 (n+1) a) 125 [.undef] (fun r=>.bo (Br a) (Br r.2) 0 [eB r.1]):=Th fM fm fun r h e d f=>by
  unfold R4;unfold f125;unfold B9 at h;have:HA 0 60 59 0 fun(c:Int)(b:A6)=>[(0,.bx (Br b)),(60,.tv (eI c))]:=⟨⟩;exact nz
theorem ea:∀n:Nat,Q_125 n:=by
  intro n
  induction n with
  |zero=>exact(fun a=>⟨fun _ h=>by cases h⟩)
  |succ n b=>exact eb n b
instance kg(a:A6):Ct prog (Ft a) 125 [.undef] (fun r=>.bo (Br a) (Br r.2) 0 [eB r.1]):=⟨fun r h=>by
  obtain ⟨N,b⟩:=CO h;exact((ea N) a).snd r (b N (bk _))⟩
instance lu(g:fq)(a:Int)(b:Int):Ct prog (IB g a b) 173 [Am g,eI a,eI b] (fun r=>.sh (eI r)):=Fj f173 0xcd0701b30b07b106b6b30b07b106b30b07b1067cc301a655015aa2fc4307dbb30b07b106d0cfcd93b102 [] [.tmp 6] (h:=fun r h e f=>by
  unfold IB at h;have:HA 0 13 12 0 fun(d:Int)(c:Int)=>[(7,.tv (eI c)),(13,.tv (eI d))]:=⟨⟩;exact nz)
instance kh(a:A6):Ct prog (HM a) 126 [.pt (Ub a).cells] (fun r=>.sh (eB r)):=Fj f126 0x9ed311ec05c5c30e018d6c0871eb3803716a30f13838a90e8d6c087130f103716a30f138385b815cefd311ec05d03808715b786c087130e2 [] [.tmp 2] (h:=fun r h c d=>by
  unfold HM at h;have:HA 0 19 18 0 fun(b:Int)(_:Unit)=>[(19,.tv (eI b))]:=⟨⟩;exact nz)
noncomputable def U6:PC:=PC.of OM f84.body (xq bT 0x9e011e1d1cec05601e1d1cec051e1d1cec053c1f3808710151011e38089732378a0052320120321f380871014faa011e38089732ff1e1d1cec058aa18d5d4103978d5d713832010a20011d38089701808d6c383838323080018d030697558d0306978c5c5edb1e1d1cec05d03838039737005232c16c383838325b151d3808975e01) []
theorem jM:CK f84 U6 [.tmp 2]:=by decide +kernel
theorem jV:PC.sz U6=true/\PC.sB 0 U6=true:=by decide +kernel
abbrev Q_84(n:Nat):Prop:=∀(a:A6),Ct prog (CA n a) 84 [.undef] (fun r=>.bo (Br a) (Br r.2) 0 [eB r.1])
theorem jH(n:Nat)(_ih_84:Q_84 n)(a:A6):Ct prog (CA (n+1) a) 84 [.undef] (fun r=>.bo (Br a) (Br r.2) 0 [eB r.1]):=Th jM jV fun r h e d f=>by
  unfold U6;unfold f84;unfold CA at h;have:HA 0 30 29 0 fun(c:Int)(b:A6)=>[(0,.bx (Br b)),(30,.tv (eI c))]:=⟨⟩;exact nz
theorem jG:∀n:Nat,Q_84 n:=by
  intro n
  induction n with
  |zero=>exact(fun a=>⟨fun _ h=>by cases h⟩)
  |succ n b=>exact jH n b
instance rM(a:A6):Ct prog (Fu a) 84 [.undef] (fun r=>.bo (Br a) (Br r.2) 0 [eB r.1]):=⟨fun r h=>by
  obtain ⟨N,b⟩:=CO h;exact((jG N) a).snd r (b N (bk _))⟩
instance qU(a:AF)(b:AF)(c:hT)(d:hT):Ct prog (Ei a b c d) 45 [BH a,BH b,An c,An d] (fun r=>.tp [An r.1,eB r.2]):=Fj f45 0x817eeb087138483e5e523800c2bf224630626237e3468a0830085bda5a5a0bf281daea0bcc37e346caf20bf2550bcc0bcc5ec95f96 [.uc [none,none,none,none,none,none,none,none,some ⟨true,.xl 1 []⟩,some ⟨true,.xl 1 []⟩] (.s 71)] [.cell 8 (some 2),.tmp 9] (h:=fun r h e f=>by
  unfold Ei at h;exact nz)
instance rK(a:AU)(y:AU):Ct prog (H9 a y) 82 [Bc a,Bc y] (fun r=>.sh (eB r)):=Fj f82 0x815be3497236074236074262d162047696 [] [.tmp 4] (h:=fun r h b c=>by
  unfold H9 at h;exact nz)
instance rJ(y:AU)(a:AU):Ct prog (Gy y a) 81 [Bc y,.pt (Bc a).cells] (fun r=>.sh (eB r)):=Fj f81 0x810ea8a801dc [] [.tmp 3] (h:=fun r h b c=>by
  unfold Gy at h;exact nz)
instance qS(t:AB)(a:List o4)(b:AU)(c:Int):Ct prog (Hs t a b c) 43 [AO t,(eL 25 CH) a,Bc b,eI c] (fun r=>.tp [(eL 9 Bc) r.1,eI r.2]):=Fj f43 0xe9020a01c60431057cc60431780a043105282726c6043108b6282726c60431083d3c3b282726b3c604310d603d3c3b282726b3c604310d3d3c3b282726b3c604310d3c0209480947a8023709c0c101ff3d3c3b282726b3c604310d8e10f83d094b19c90ee001a809cb3709c0c16c381f423709c074264b10f06262044109cbe136a216c9bd43282726c6043108613d3c3b282726b3c604310d7fac09c074da62044109cbe136194b8102c9e1199bc604310561282726c60431087f81ffc604310585f3907109cb0a019130c6043105e90947a80109405f3102 [] [.tmp 8,.tmp 9] (h:=fun r h j k=>by
  unfold Hs at h;have:HW 0 fun(d:List AU×Int)=>[(10,.ow ((eL 9 Bc) d.1)),(11,.tv (eI d.2))]:=⟨⟩;have:HA 2 40 39 0 fun(g:Int)(i:List AU)=>[(10,.ow ((eL 9 Bc) i)),(40,.tv (eI g))]:=⟨⟩;have:HA 4 61 60 0 fun(f:Int)(e:List AU)=>[(10,.ow ((eL 9 Bc) e)),(61,.tv (eI f))]:=⟨⟩;exact nz)
instance qT(a:AU):Ct prog (FB a) 44 [Bc a] (fun r=>.sh (eB r)):=Fj f44 0x81b87d07426a6c0776ba [] [.tmp 2] (h:=fun r h b c=>by
  unfold FB at h;exact nz)
instance p6(t:AB)(d:List o4)(a:AT)(b:AT)(e:Int)(c:Bool):Ct prog (I9 t d a b e c) 22 [AO t,(eL 25 CH) d,Bp a,Bp b,eI e,eB c] (fun r=>.tp [UZ r.1,eI r.2]):=Fj f22 0xf94b23460c01646312110c0506b6646312110c05066968676463d3110c050ab66968676463d3110c050a6f6e6d696867646315d3110c050e606f6e6d696867646315d3110c050e6f6e6d696867646315d3110c050ef94b244636e432e4328ce3f0a562d162d16f6e6d696867646319181715d3110c05111918023b6f6e6d696867646319181715d3110c05113c7e7e360742360742817ee3c900c900460046ff6f6e6d696867646315d3110c050e8a0ab8a86aa87705550b9041320b904132094b19c9a809436968676463d3110c050a616f6e6d696867646315d3110c050e7f81094b19c9a80943646312110c0506616968676463d3110c050a7f8c010cdb646312110c0506818505d90a4b0123468530da6a36e001840a4b0123468530da6a36e001840a4b0123eee3f0e0e0370a4b2346ca6c381f42550b6c381f42370a4b2346c3a9d90a4b0123ee0ee0e001b21ac9935f700103 [] [.cell 12 (some 10),.tmp 13] (h:=fun r h m n=>by
  unfold I9 at h;have:HA 0 100 99 0 fun(l:Int)(g:s8)=>[(12,.bx [⟨true,lI g.rh.sa.fq.ff⟩,⟨true,lE g.rh.sa.fq.gt⟩,⟨true,(eL 1 lI) g.rh.sa.ne⟩,⟨true,(eL 4 H3) g.rh.sK⟩,⟨true,lI g.o3.sa.fq.ff⟩,⟨true,lE g.o3.sa.fq.gt⟩,⟨true,(eL 1 lI) g.o3.sa.ne⟩,⟨true,(eL 4 H3) g.o3.sK⟩,⟨true,lI g.vr.ff⟩,⟨true,lI g.vr.gt⟩]),(100,.tv (eI l))]:=⟨⟩;have:HA 2 105 104 0 fun(k:Int)(i:s8)=>[(12,.bx [⟨true,lI i.rh.sa.fq.ff⟩,⟨true,lE i.rh.sa.fq.gt⟩,⟨true,(eL 1 lI) i.rh.sa.ne⟩,⟨true,(eL 4 H3) i.rh.sK⟩,⟨true,lI i.o3.sa.fq.ff⟩,⟨true,lE i.o3.sa.fq.gt⟩,⟨true,(eL 1 lI) i.o3.sa.ne⟩,⟨true,(eL 4 H3) i.o3.sK⟩,⟨true,lI i.vr.ff⟩,⟨true,lI i.vr.gt⟩]),(105,.tv (eI k))]:=⟨⟩;have:HA 4 111 110 0 fun(j:Int)(f:s8)=>[(12,.bx [⟨true,lI f.rh.sa.fq.ff⟩,⟨true,lE f.rh.sa.fq.gt⟩,⟨true,(eL 1 lI) f.rh.sa.ne⟩,⟨true,(eL 4 H3) f.rh.sK⟩,⟨true,lI f.o3.sa.fq.ff⟩,⟨true,lE f.o3.sa.fq.gt⟩,⟨true,(eL 1 lI) f.o3.sa.ne⟩,⟨true,(eL 4 H3) f.o3.sK⟩,⟨true,lI f.vr.ff⟩,⟨true,lI f.vr.gt⟩]),(111,.tv (eI j))]:=⟨⟩;exact nz)
instance pk(t:AB)(c:List o4)(a:AT)(b:AT)(d:Int):Ct prog (Gx t c a b d) 13 [AO t,(eL 25 CH) c,Bp a,Bp b,eI d] (fun r=>.tp [UZ r.1,eI r.2]):=Fj f13 0xf94b6b0e01e0e001b21ac9935f04d7 [] [.cell 10 (some 10),.tmp 11] (h:=fun r h e f=>by
  unfold Gx at h;exact nz)
instance kv(n:Int):Ct prog (Ge n) 134 [eI n] (fun r=>.own (lI r)):=Fj f134 0x821831090890b601f53014cd3161090890819514993f3040e2 [.uv 1 [.int .i64 0] (.s 5)] [.tmp 2] (h:=fun r h c d=>by
  unfold Ge at h;have:HA 0 9 8 0 fun(b:Int)(a:Fp)=>[(3,.xo 1 (List.map eI a)),(9,.tv (eI b))]:=⟨⟩;exact nz)
instance rQ(g:fq):Ct prog (Do g) 88 [Am g] (fun r=>.tp [An r.1,eI r.2]):=Fj f88 0xb13b817e0d460e0b5a0ef7377e5eee0e365ec9ba [] [.cell 2 (some 2),.tmp 3] (h:=fun r h a b=>by
  unfold Do at h;exact nz)
instance qX(g:fq):Ct prog (C8 g) 48 [Am g] (fun r=>.sh (An r)):=Fj f48 0x7eb2e3f03600c9ba [] [.cell 2 (some 2)] (h:=fun r h a b=>by
  unfold C8 at h;exact nz)
instance qY(l:Fp)(a:Fp):Ct prog (GY l a) 49 [lI l,lI a] (fun r=>.own (lI r)):=Fj f49 0x821805010c0b8055b60c0b80550c0b8055f4f55c7714658117d455db0c0b8055819594991a30405e02 [] [.tmp 4] (h:=fun r h d e=>by
  unfold GY at h;have:HA 0 12 11 0 fun(c:Int)(b:Fp)=>[(5,.xo 1 (List.map eI b)),(12,.tv (eI c))]:=⟨⟩;exact nz)
instance qZ(a:AF):Ct prog (Ic a) 50 [BH a] (fun r=>.sh (BH r)):=Fj f50 0xa2625d02d3115d05b6014a0276de0efbb5825c5d0261d3115d05d0b503500ec93f3f0ef20ecc0ec9ba [.sZ [.w 9,.w 13],.sZ [.g 14 0 2,.g 14 1 2,.z ⟨true,.list 1 []⟩]] [.cell 2 (some 3)] (h:=fun r h d e=>by
  unfold Ic at h;have:HA 0 19 18 0 fun(c:Int)(b:AF)=>[(3,.bx [⟨true,lI b.fq.ff⟩,⟨true,lE b.fq.gt⟩,⟨true,(eL 1 lI) b.ne⟩]),(19,.tv (eI c))]:=⟨⟩;exact nz)
instance p8(t:AB)(a:List o4)(d:B8):Ct prog (DL t a d) 24 [AO t,(eL 25 CH) a,Oq d] (fun r=>.tp [BH r.1,An r.2.1,eI r.2.2]):=Fj f24 0x706023b817ea2360e62b3070604252423b3070607b60c013b7ea20d460e7d22425a0e6c224259621f42264b10c9e02643b307060461252423b30706077f817ea200c90ec90ef1326232377ea25e4613ee01821172e4eb5ec90ec95f30 [] [.cell 6 (some 3),.cell 7 (some 2),.tmp 8] (h:=fun r h e f=>by
  unfold DL at h;have:HA 0 37 36 0 fun(c:Int)(b:AF×hT)=>[(12,.bx [⟨false,lI b.1.fq.ff⟩,⟨false,lE b.1.fq.gt⟩,⟨false,(eL 1 lI) b.1.ne⟩]),(13,.bx [⟨false,lI b.2.ff⟩,⟨false,lI b.2.gt⟩]),(37,.tv (eI c))]:=⟨⟩;exact nz)
instance qe(k:Int)(a:AF):Ct prog (Hq k a) 53 [eI k,.pt (BH a).cells] (fun r=>.sh (eB r)):=Fj f53 0x8178ccdf [] [.tmp 3] (h:=fun r h b c=>by
  unfold Hq at h;exact nz)
instance qf(k:Int)(a:AF):Ct prog (Hr k a) 54 [eI k,.pt (BH a).cells] (fun r=>.sh (eB r)):=Fj f54 0x8178f2df [] [.tmp 3] (h:=fun r h b c=>by
  unfold Hr at h;exact nz)
instance qh(n:Int):Ct prog (JX n) 55 [eI n] (fun r=>.own (lI r)):=Fj f55 0x8202319290b6b1ded7cd316192908c01c00140e2 [] [.tmp 2] (h:=fun r h c d=>by
  unfold JX at h;have:HA 0 6 5 0 fun(b:Int)(a:Fp)=>[(3,.ow (lI a)),(6,.tv (eI b))]:=⟨⟩;exact nz)
instance p9(a:AF)(b:AF)(m:hT):Ct prog (D2 a b m) 25 [BH a,BH b,An m] (fun r=>.sh (eB r)):=Fj f25 0x81b85abcb8ea3081e3f0360d460e0b5a0ef76262378a0e105a6a105937c30e01de0eaa5a9d0a78f20b5a550bcc0b9dfd [] [.tmp 6] (h:=fun r h c d=>by
  unfold D2 at h;exact nz)
instance pu(t:AB)(c:List o4)(a:AT)(b:AT)(j:s8):Ct prog (H8 t c a b j) 14 [AO t,(eL 25 CH) c,Bp a,Bp b,UZ j] (fun r=>.tp [eB r.1,eB r.2]):=Fj f14 0x8cb85a0e7d08425a6a590e6c08425937818e0eaa5a595a597e0d460e5a5a0eea7e0d460e5a5a0eea7ee3c900c93f0e36e03f0e36e001e3f0e0e037818aa136084262620180a95b7ea200c90ec91172fa7636817ea200c90ec91172e4320184818aa1621f42623804760aa1621f42623832550ee0e0eb305f5f30 [.ux (.s 86) 7 2 true,.ux (.s 90) 7 2 true] [.tmp 10,.tmp 11] (h:=fun r h d e=>by
  unfold H8 at h;exact nz)
end Go.Sf.Sc
