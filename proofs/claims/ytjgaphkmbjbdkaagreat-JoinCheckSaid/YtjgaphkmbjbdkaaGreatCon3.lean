/- Contracts of the functions. -/
import Derived.Test.YtjgaphkmbjbdkaaGreatCon0
import Derived.Test.YtjgaphkmbjbdkaaGreatCon1
import Derived.Test.YtjgaphkmbjbdkaaGreatCon2
import Derived.Test.YtjgaphkmbjbdkaaGreatTryzShelf
import Derived.Test.YtjgaphkmbjbdkaaGreatTw
set_option linter.all false
set_option maxRecDepth 100000
set_option maxHeartbeats 4000000
namespace Go.Sf.Sc
open Go Go.Sf Go.Proofs.Tryz
instance AA9(t:AC)(a:Int):CT (KN t a) 286 [AM t,eI a] (fun r=>.own (lI r)):=Fj f286 0xf20701dd11070491b2d95a02044b03c9d4044307f9dd110704978182aa01e3ac01fe30 [] fun h=>by
  unfold KN at h;have:HA 0 19 18 0 fun(c:Int)(b:Fp)=>[(7,.ow (lI b)),(19,.tv (eI c))]:=⟨⟩;exact nz
noncomputable def ZH:PC:=PC.of Rz f220.body (xq bT 0x30b0afaef691b0afaef6b0afaef63c014a01741f740348034707465e7e6c24a85e5a6c24a8590401741fa832850b31741fa89e7d24a8a581f0cd437861b0afaef6dbb307cb7b7a79073106917b7a790731067b7a790731063c1f02411f7421221aac2302411fa832014a38381f7401d9f638381fa832850b6c381fa89e6c24a89d9e07cb617b7a79073106db320731a54a49eb310791014a01741f740348034707465e7e6c22a85e5a6c22a8590401741fa832a5f0cd92e4815e073103614b4a49eb3107dbb3eb0531051e1d1ceb053108911f02411f742122014f9e7e01562302411fa832014a38381f7401d99ec10438381fa832815eeb053105611e1d1ceb053108db3280a507c910c9363806743832621ca85c30) []
theorem uS:CK f220 ZH []:=by decide +kernel
theorem uu:PC.t1 ZH=true/\PC.t5 1 ZH=true:=by decide +kernel
instance z7(t:AC)(a:AP)(d:At):CT (Is t a d) 220 [AM t,.undef,Ej d] (fun r=>.bo (Di a) (Di r) 1 []):=cR uS uu fun r h m l n=>by
  unfold ZH;unfold f220;unfold Is at h;have:HA 0 30 29 0 fun(c:Int)(e:AP)=>[(1,.bx (Di e)),(30,.tv (eI c))]:=⟨⟩;have:HA 2 75 74 0 fun(k:Int)(j:AP)=>[(1,.bx (Di j)),(75,.tv (eI k))]:=⟨⟩;have:HA 4 123 122 0 fun(i:Int)(f:AP)=>[(1,.bx (Di f)),(123,.tv (eI i))]:=⟨⟩;have:HA 6 176 175 0 fun(g:Int)(b:AP)=>[(1,.bx (Di b)),(176,.tv (eI g))]:=⟨⟩;exact nz
theorem uV:CK f287 (.seq (.region [⟨some 1,.Abe (.s 0),none⟩,
    ⟨some 2,.mv (.c .undef),none⟩,
    ⟨some 3,.mv (.c (.int .i64 0)),none⟩] [1])
 (.seq (.region [⟨some 12,.mkm,none⟩,
    ⟨some 4,.mvm 12,none⟩] [1,4,12])
 (.seq (.seq (.region [⟨some 13,.bad 1 0,none⟩,
    ⟨some 14,.fad (.s 13) 6,none⟩,
    ⟨some 15,.fad (.s 14) 2,none⟩,
    ⟨some 16,.ld (.s 15),none⟩,
    ⟨some 17,.len (.s 16),none⟩,
    ⟨some 18,.mv (.c (.int .i64 0)),none⟩] [1,4,12,16,17,18])
 (.block 0 (.loop [1,4,12,16,17,18] (.seq (.region [⟨some 19,.bin (.i) .lss (.s 18) (.s 17),none⟩] [1,4,12,16,17,18,19])
 (.seq (.cond (.s 19) (.skip [1,4,12,16,17,18])
 (.exit 0 [4,12]))
 (.seq (.block 1 (.seq (.region [⟨some 20,.iad (.s 16) (.s 18) 4,none⟩,
    ⟨some 21,.lda (.s 20) 4,none⟩,
    ⟨some 6,.alc [⟨false,.int .i64 0⟩,⟨false,.int .i64 0⟩,⟨false,.int .i64 0⟩,⟨false,.int .i64 0⟩],none⟩,
    ⟨none,.stb 4 6 (.s 21),none⟩] [1,4,6,12,16,17,18])
 (.seq (.region [⟨some 23,.bad 6 2,none⟩,
    ⟨some 24,.lda (.s 23) 2,none⟩,
    ⟨some 25,.bad 1 25,none⟩,
    ⟨some 26,.fad (.s 25) 2,none⟩,
    ⟨some 27,.ld (.s 26),none⟩,
    ⟨some 28,.call 342 [.s 24,.s 27],none⟩,
    ⟨some 22,.mv (.s 28),none⟩,
    ⟨some 29,.ext (.s 22) 0,none⟩,
    ⟨some 30,.ext (.s 22) 1,none⟩,
    ⟨some 7,.mv (.s 29),none⟩,
    ⟨some 8,.mv (.s 30),none⟩] [1,4,6,7,8,12,16,17,18])
 (.seq (.seq (.region [⟨some 31,.mv (.s 8),none⟩,
    ⟨some 32,.bin (.i) .neq (.s 31) (.c (.int .i64 0)),none⟩] [1,4,6,7,8,12,16,17,18,32])
 (.cond (.s 32) (.seq (.region [⟨some 33,.mv (.s 8),none⟩,
    ⟨some 2,.mv (.c .undef),none⟩,
    ⟨some 3,.mv (.s 33),none⟩] [2,3,12])
 .ret)
 (.skip [1,4,6,7,12,16,17,18])))
 (.seq (.draw [9,34,35,36,37,38,39,40,41,42,43] [⟨some 34,.bad 1 36,none⟩,
    ⟨some 35,.fad (.s 34) 0,none⟩,
    ⟨some 36,.ld (.s 35),none⟩,
    ⟨some 37,.bad 6 0,none⟩,
    ⟨some 38,.ld (.s 37),none⟩,
    ⟨some 39,.iad (.s 36) (.s 38) 1,none⟩,
    ⟨some 40,.ld (.s 39),none⟩,
    ⟨some 41,.bad 6 1,none⟩,
    ⟨some 42,.ld (.s 41),none⟩,
    ⟨some 43,.bld [.int .i64 0,.int .i64 0] [(0,1,.s 40),(1,1,.s 42)],none⟩,
    ⟨some 9,.alc [⟨false,.int .i64 0⟩,⟨false,.int .i64 0⟩],none⟩,
    ⟨none,.stb 2 9 (.s 43),none⟩] [1,4,7,9,12,16,17,18])
 (.seq (.seq (.region [⟨some 45,.mv (.s 4),none⟩,
    ⟨some 46,.lda (.s 9) 2,none⟩,
    ⟨some 47,.mlk 12 (.s 45) (.s 46),none⟩,
    ⟨some 44,.mv (.s 47),none⟩,
    ⟨some 48,.ext (.s 44) 0,none⟩,
    ⟨some 49,.ext (.s 44) 1,none⟩,
    ⟨some 10,.mv (.s 48),none⟩,
    ⟨some 11,.mv (.s 49),none⟩] [1,4,7,9,10,11,12,16,17,18])
 (.seq (.region [⟨some 50,.mv (.s 11),none⟩,
    ⟨some 51,.mv (.s 50),none⟩,
    ⟨some 52,.mv (.s 10),some (51,true)⟩,
    ⟨some 53,.mv (.s 7),some (51,true)⟩,
    ⟨some 54,.bin (.i) .neq (.s 52) (.s 53),some (51,true)⟩,
    ⟨some 55,.pick (.s 51) (.s 54) (.c (.bool false)),none⟩] [1,4,7,9,12,16,17,18,55])
 (.cond (.s 55) (.seq (.region [⟨some 2,.mv (.c .undef),none⟩,
    ⟨some 3,.mv (.c (.int .i64 11)),none⟩] [2,3,12])
 .ret)
 (.skip [1,4,7,9,12,16,17,18]))))
 (.region [⟨some 56,.mv (.s 4),none⟩,
    ⟨some 57,.lda (.s 9) 2,none⟩,
    ⟨some 58,.mv (.s 7),none⟩,
    ⟨none,.mup 12 (.s 56) (.s 57) (.s 58),none⟩] [1,4,12,16,17,18])))))))
 (.region [⟨some 59,.bin (.i) .add (.s 18) (.c (.int .i64 1)),none⟩,
    ⟨some 18,.mv (.s 59),none⟩] [1,4,12,16,17,18])))))))
 (.seq (.region [⟨some 60,.mv (.s 4),none⟩,
    ⟨some 2,.mv (.s 60),none⟩,
    ⟨some 3,.mv (.c (.int .i64 0)),none⟩] [2,3,12])
 .ret)))) [.tmp 2,.tmp 3]:=by decide +kernel
instance ACm(s:AP):Ct Go.Proofs.Tryz.prog (IL s) 287 [ce s] N2:=xR uV fun r h d e=>by
  unfold IL at h;have K:∀b:Nat,HA 0 18 17 0 fun(c:Int)(a:BX)=>[(12,.mx (.mp b a)),(18,.tv (eI c))]:=fun _=>⟨⟩;have:v8 12:=⟨⟩;exact au
theorem Xd(t:AC)(s:AP)(V:List Fp)(p:(Int×Int)×Int)(a:BX)(r:CC (List Fp) Unit)(h:Ox t s V p=some r):WP (AU Go.Proofs.Tryz.prog) (.block 1 (.seq (.region [⟨some 25,.men 22,none⟩,
    ⟨some 26,.ext (.s 25) 0,none⟩,
    ⟨some 27,.ext (.s 25) 1,none⟩,
    ⟨some 7,.alc [⟨false,.int .i64 0⟩,⟨false,.int .i64 0⟩],none⟩,
    ⟨none,.stb 2 7 (.s 26),none⟩,
    ⟨some 8,.mv (.s 27),none⟩] [1,2,7,8,22])
 (.seq (.draw [9,10,28,29,30,31,32,33,34,35,36,37,38,39,40,41,42] [⟨some 29,.lda (.s 2) 2,none⟩,
    ⟨some 30,.bad 1 0,none⟩,
    ⟨some 31,.fad (.s 30) 0,none⟩,
    ⟨some 32,.fad (.s 31) 31,none⟩,
    ⟨some 33,.fad (.s 32) 0,none⟩,
    ⟨some 34,.fad (.s 33) 0,none⟩,
    ⟨some 35,.ld (.s 34),none⟩,
    ⟨some 36,.bad 7 0,none⟩,
    ⟨some 37,.ld (.s 36),none⟩,
    ⟨some 38,.iad (.s 35) (.s 37) 1,none⟩,
    ⟨some 39,.ld (.s 38),none⟩,
    ⟨some 40,.call 273 [.s 29,.s 39],none⟩,
    ⟨some 28,.mv (.s 40),none⟩,
    ⟨some 41,.ext (.s 28) 0,none⟩,
    ⟨some 42,.ext (.s 28) 1,none⟩,
    ⟨some 9,.mv (.s 41),none⟩,
    ⟨some 10,.mv (.s 42),none⟩] [1,2,7,8,9,22])
 (.seq (.seq (.region [⟨some 43,.mv (.s 8),none⟩,
    ⟨some 44,.mv (.s 9),none⟩,
    ⟨some 45,.bad 7 1,none⟩,
    ⟨some 46,.ld (.s 45),none⟩,
    ⟨some 47,.iad (.s 44) (.s 46) 4,none⟩,
    ⟨some 48,.fad (.s 47) 1,none⟩,
    ⟨some 49,.ld (.s 48),none⟩,
    ⟨some 50,.bin (.i) .lss (.s 43) (.s 49),none⟩,
    ⟨some 51,.mv (.s 50),none⟩,
    ⟨some 52,.mv (.s 8),some (51,false)⟩,
    ⟨some 53,.mv (.s 9),some (51,false)⟩,
    ⟨some 54,.bad 7 1,some (51,false)⟩,
    ⟨some 55,.ld (.s 54),some (51,false)⟩,
    ⟨some 56,.iad (.s 53) (.s 55) 4,some (51,false)⟩,
    ⟨some 57,.fad (.s 56) 2,some (51,false)⟩,
    ⟨some 58,.ld (.s 57),some (51,false)⟩,
    ⟨some 59,.bin (.i) .gtr (.s 52) (.s 58),some (51,false)⟩,
    ⟨some 60,.pick (.s 51) (.c (.bool true)) (.s 59),none⟩] [1,2,7,8,22,60])
 (.cond (.s 60) (.seq (.region [⟨some 4,.mv (.c (.int .i64 6)),none⟩] [1,4])
 .ret)
 (.skip [1,2,7,8,22])))
 (.draw [61,62,63,64,65,66,67,68,69,70,71,72,73] [⟨some 61,.bad 1 0,none⟩,
    ⟨some 62,.fad (.s 61) 0,none⟩,
    ⟨some 63,.fad (.s 62) 31,none⟩,
    ⟨some 64,.fad (.s 63) 2,none⟩,
    ⟨some 65,.lan (.s 64),none⟩,
    ⟨some 66,.bad 7 0,none⟩,
    ⟨some 67,.ld (.s 66),none⟩,
    ⟨some 68,.nia (.s 65) (.s 67),none⟩,
    ⟨some 69,.nld (.s 68),none⟩,
    ⟨some 70,.bad 7 1,none⟩,
    ⟨some 71,.ld (.s 70),none⟩,
    ⟨some 72,.mv (.s 8),none⟩,
    ⟨some 73,.nia (.s 69) (.s 71),none⟩,
    ⟨none,.nst (.s 73) (.s 72),none⟩] [1,2,22]))))) ⟨fun e=>∃b,r=.next b/\Rn (e.ff [1,2,22]) [(1,.bx (Di (OL s b))),(2,.tv (.pt (AM t).cells)),(22,.mx (.mi (some p) a))],fun _ _=>False,fun e=>∃v,r=.ret v/\Rn e [(1,.bx (Di (OL s V))),(4,.tv (eI 6))]⟩ [(1,.bx (Di (OL s V))),(2,.tv (.pt (AM t).cells)),(22,.mx (.mi (some p) a))]:=by
  unfold Ox at h;exact au
noncomputable def ZI:PC:=(.seq (.region [⟨some 2,.Abe (.s 0),none⟩,
    ⟨some 4,.mv (.c (.int .i64 0)),none⟩] [1,2])
 (.seq (.region [⟨some 12,.bad 1 0,none⟩,
    ⟨some 13,.fad (.s 12) 0,none⟩,
    ⟨some 14,.lda (.s 13) 38,none⟩,
    ⟨some 15,.Aau 287 [.s 14],none⟩,
    ⟨some 11,.mvm 15,none⟩,
    ⟨some 16,.ext (.s 11) 0,none⟩,
    ⟨some 17,.ext (.s 11) 1,none⟩,
    ⟨some 5,.mv (.s 16),none⟩,
    ⟨some 6,.mv (.s 17),none⟩] [1,2,5,6,15])
 (.seq (.seq (.region [⟨some 18,.mv (.s 6),none⟩,
    ⟨some 19,.bin (.i) .neq (.s 18) (.c (.int .i64 0)),none⟩] [1,2,5,6,15,19])
 (.cond (.s 19) (.seq (.region [⟨some 20,.mv (.s 6),none⟩,
    ⟨some 4,.mv (.s 20),none⟩] [1,4])
 .ret)
 (.skip [1,2,5,15])))
 (.seq (.seq (.region [⟨some 21,.mv (.s 5),none⟩,
    ⟨some 22,.ta 15 (.s 21),none⟩] [1,2,22])
 (.block 0 (.loop [1,2,22] (.seq (.region [⟨some 23,.mnx 22,none⟩,
    ⟨some 24,.ext (.s 23) 0,none⟩] [1,2,22,24])
 (.seq (.cond (.s 24) (.skip [1,2,22])
 (.exit 0 [1]))
 (.block 1 (.seq (.region [⟨some 25,.men 22,none⟩,
    ⟨some 26,.ext (.s 25) 0,none⟩,
    ⟨some 27,.ext (.s 25) 1,none⟩,
    ⟨some 7,.alc [⟨false,.int .i64 0⟩,⟨false,.int .i64 0⟩],none⟩,
    ⟨none,.stb 2 7 (.s 26),none⟩,
    ⟨some 8,.mv (.s 27),none⟩] [1,2,7,8,22])
 (.seq (.draw [9,10,28,29,30,31,32,33,34,35,36,37,38,39,40,41,42] [⟨some 29,.lda (.s 2) 2,none⟩,
    ⟨some 30,.bad 1 0,none⟩,
    ⟨some 31,.fad (.s 30) 0,none⟩,
    ⟨some 32,.fad (.s 31) 31,none⟩,
    ⟨some 33,.fad (.s 32) 0,none⟩,
    ⟨some 34,.fad (.s 33) 0,none⟩,
    ⟨some 35,.ld (.s 34),none⟩,
    ⟨some 36,.bad 7 0,none⟩,
    ⟨some 37,.ld (.s 36),none⟩,
    ⟨some 38,.iad (.s 35) (.s 37) 1,none⟩,
    ⟨some 39,.ld (.s 38),none⟩,
    ⟨some 40,.call 273 [.s 29,.s 39],none⟩,
    ⟨some 28,.mv (.s 40),none⟩,
    ⟨some 41,.ext (.s 28) 0,none⟩,
    ⟨some 42,.ext (.s 28) 1,none⟩,
    ⟨some 9,.mv (.s 41),none⟩,
    ⟨some 10,.mv (.s 42),none⟩] [1,2,7,8,9,22])
 (.seq (.seq (.region [⟨some 43,.mv (.s 8),none⟩,
    ⟨some 44,.mv (.s 9),none⟩,
    ⟨some 45,.bad 7 1,none⟩,
    ⟨some 46,.ld (.s 45),none⟩,
    ⟨some 47,.iad (.s 44) (.s 46) 4,none⟩,
    ⟨some 48,.fad (.s 47) 1,none⟩,
    ⟨some 49,.ld (.s 48),none⟩,
    ⟨some 50,.bin (.i) .lss (.s 43) (.s 49),none⟩,
    ⟨some 51,.mv (.s 50),none⟩,
    ⟨some 52,.mv (.s 8),some (51,false)⟩,
    ⟨some 53,.mv (.s 9),some (51,false)⟩,
    ⟨some 54,.bad 7 1,some (51,false)⟩,
    ⟨some 55,.ld (.s 54),some (51,false)⟩,
    ⟨some 56,.iad (.s 53) (.s 55) 4,some (51,false)⟩,
    ⟨some 57,.fad (.s 56) 2,some (51,false)⟩,
    ⟨some 58,.ld (.s 57),some (51,false)⟩,
    ⟨some 59,.bin (.i) .gtr (.s 52) (.s 58),some (51,false)⟩,
    ⟨some 60,.pick (.s 51) (.c (.bool true)) (.s 59),none⟩] [1,2,7,8,22,60])
 (.cond (.s 60) (.seq (.region [⟨some 4,.mv (.c (.int .i64 6)),none⟩] [1,4])
 .ret)
 (.skip [1,2,7,8,22])))
 (.draw [61,62,63,64,65,66,67,68,69,70,71,72,73] [⟨some 61,.bad 1 0,none⟩,
    ⟨some 62,.fad (.s 61) 0,none⟩,
    ⟨some 63,.fad (.s 62) 31,none⟩,
    ⟨some 64,.fad (.s 63) 2,none⟩,
    ⟨some 65,.lan (.s 64),none⟩,
    ⟨some 66,.bad 7 0,none⟩,
    ⟨some 67,.ld (.s 66),none⟩,
    ⟨some 68,.nia (.s 65) (.s 67),none⟩,
    ⟨some 69,.nld (.s 68),none⟩,
    ⟨some 70,.bad 7 1,none⟩,
    ⟨some 71,.ld (.s 70),none⟩,
    ⟨some 72,.mv (.s 8),none⟩,
    ⟨some 73,.nia (.s 69) (.s 71),none⟩,
    ⟨none,.nst (.s 73) (.s 72),none⟩] [1,2,22]))))))))))
 (.seq (.region [⟨some 4,.mv (.c (.int .i64 0)),none⟩] [1,4])
 .ret)))))
theorem uT:CK f221 ZI [.tmp 4]:=by decide +kernel
theorem uv:PC.t1 ZI=true/\PC.t5 1 ZI=true:=by decide +kernel
variable{t:AC}{s:AP}
theorem eh{p:(Int×Int)×Int}{b:Bool}(h:Oy t s p=some b){V:List Fp}(a:Lz V s.ia.ed):
    (b=true->Ox t s V p=some (.next (CR V p)))/\(b=false->Ox t s V p=some (.ret ())):=by
  unfold Oy Ox at h;unfold Ox;obtain⟨c,d,h⟩:=bind_some h;obtain⟨q,f,d⟩:=bind_some d;obtain⟨r,g,d⟩:=bind_some d;obtain⟨u,i,d⟩:=bind_some d;obtain⟨j,k,d⟩:=bind_some d;simp only[f,g,i,Option.bind_some]at *;rw[k,Option.bind_some];cases j with
  |true=>
    simp only[if_true,sr]at d|-;subst d;simp only[sr]at h;subst h;exact⟨fun e=>(by cases e),fun _=>trivial⟩
  |false=>
    simp only[Bool.false_eq_true,if_false]at d|-;obtain⟨v,l,d⟩:=bind_some d;obtain⟨w,m,d⟩:=bind_some d;cases d;simp only[sr]at h;subst h;obtain⟨x,x',n,o⟩:=a.idx l m;refine⟨fun _=>?_,fun e=>(by cases e)⟩;rw[n,Option.bind_some,o,Option.bind_some,Zt n o]
theorem gk{a:BX}{c:Bool}(f:a.Dis)(n:Aaq (Oy t s) a=some c){M z:AB->Prop}{x:Nat->AB->Prop}{d:AB->Prop}
    (m:c=true->z [(1,.bx (Di (OL s (a.foldl CR s.ia.ed))))])(g:c=false->∀V,d [(1,.bx (Di (OL s V))),(4,.tv (eI 6))]):
    WP (AU Go.Proofs.Tryz.prog) (.loop [1,2,22] (.seq (.region [⟨some 23,.mnx 22,none⟩,
    ⟨some 24,.ext (.s 23) 0,none⟩] [1,2,22,24])
 (.seq (.cond (.s 24) (.skip [1,2,22])
 (.exit 0 [1]))
 (.block 1 (.seq (.region [⟨some 25,.men 22,none⟩,
    ⟨some 26,.ext (.s 25) 0,none⟩,
    ⟨some 27,.ext (.s 25) 1,none⟩,
    ⟨some 7,.alc [⟨false,.int .i64 0⟩,⟨false,.int .i64 0⟩],none⟩,
    ⟨none,.stb 2 7 (.s 26),none⟩,
    ⟨some 8,.mv (.s 27),none⟩] [1,2,7,8,22])
 (.seq (.draw [9,10,28,29,30,31,32,33,34,35,36,37,38,39,40,41,42] [⟨some 29,.lda (.s 2) 2,none⟩,
    ⟨some 30,.bad 1 0,none⟩,
    ⟨some 31,.fad (.s 30) 0,none⟩,
    ⟨some 32,.fad (.s 31) 31,none⟩,
    ⟨some 33,.fad (.s 32) 0,none⟩,
    ⟨some 34,.fad (.s 33) 0,none⟩,
    ⟨some 35,.ld (.s 34),none⟩,
    ⟨some 36,.bad 7 0,none⟩,
    ⟨some 37,.ld (.s 36),none⟩,
    ⟨some 38,.iad (.s 35) (.s 37) 1,none⟩,
    ⟨some 39,.ld (.s 38),none⟩,
    ⟨some 40,.call 273 [.s 29,.s 39],none⟩,
    ⟨some 28,.mv (.s 40),none⟩,
    ⟨some 41,.ext (.s 28) 0,none⟩,
    ⟨some 42,.ext (.s 28) 1,none⟩,
    ⟨some 9,.mv (.s 41),none⟩,
    ⟨some 10,.mv (.s 42),none⟩] [1,2,7,8,9,22])
 (.seq (.seq (.region [⟨some 43,.mv (.s 8),none⟩,
    ⟨some 44,.mv (.s 9),none⟩,
    ⟨some 45,.bad 7 1,none⟩,
    ⟨some 46,.ld (.s 45),none⟩,
    ⟨some 47,.iad (.s 44) (.s 46) 4,none⟩,
    ⟨some 48,.fad (.s 47) 1,none⟩,
    ⟨some 49,.ld (.s 48),none⟩,
    ⟨some 50,.bin (.i) .lss (.s 43) (.s 49),none⟩,
    ⟨some 51,.mv (.s 50),none⟩,
    ⟨some 52,.mv (.s 8),some (51,false)⟩,
    ⟨some 53,.mv (.s 9),some (51,false)⟩,
    ⟨some 54,.bad 7 1,some (51,false)⟩,
    ⟨some 55,.ld (.s 54),some (51,false)⟩,
    ⟨some 56,.iad (.s 53) (.s 55) 4,some (51,false)⟩,
    ⟨some 57,.fad (.s 56) 2,some (51,false)⟩,
    ⟨some 58,.ld (.s 57),some (51,false)⟩,
    ⟨some 59,.bin (.i) .gtr (.s 52) (.s 58),some (51,false)⟩,
    ⟨some 60,.pick (.s 51) (.c (.bool true)) (.s 59),none⟩] [1,2,7,8,22,60])
 (.cond (.s 60) (.seq (.region [⟨some 4,.mv (.c (.int .i64 6)),none⟩] [1,4])
 .ret)
 (.skip [1,2,7,8,22])))
 (.draw [61,62,63,64,65,66,67,68,69,70,71,72,73] [⟨some 61,.bad 1 0,none⟩,
    ⟨some 62,.fad (.s 61) 0,none⟩,
    ⟨some 63,.fad (.s 62) 31,none⟩,
    ⟨some 64,.fad (.s 63) 2,none⟩,
    ⟨some 65,.lan (.s 64),none⟩,
    ⟨some 66,.bad 7 0,none⟩,
    ⟨some 67,.ld (.s 66),none⟩,
    ⟨some 68,.nia (.s 65) (.s 67),none⟩,
    ⟨some 69,.nld (.s 68),none⟩,
    ⟨some 70,.bad 7 1,none⟩,
    ⟨some 71,.ld (.s 70),none⟩,
    ⟨some 72,.mv (.s 8),none⟩,
    ⟨some 73,.nia (.s 69) (.s 71),none⟩,
    ⟨none,.nst (.s 73) (.s 72),none⟩] [1,2,22])))))))) ⟨M,fun j e=>if j=0 then z e else x j e,d⟩ [(1,.bx (Di s)),(2,.tv (.pt (AM t).cells)),(22,.mx (.mi none a))]:=by
  obtain ⟨m1,R⟩:=WB n;refine⟨pY _ (σ:=List Fp×Option ((Int×Int)×Int)×BX) (fun σ=>[(1,.bx (Di (OL s σ.1))),(2,.tv (.pt (AM t).cells)),(22,.mx (.mi σ.2.1 σ.2.2))])
    (fun σ=>Lz σ.1 s.ia.ed/\(∀l,σ.2.2.Perm l->l.foldl CR σ.1=a.foldl CR s.ia.ed)/\(∀p∈σ.2.2,p∈a)/\(c=false->∃p∈σ.2.2,Oy t s p=some false))
    (fun σ=>σ.2.2.length) (s.ia.ed,none,a) rfl ⟨rfl,fun l A=>Vk f A _,fun p r=>r,R⟩ ?_⟩
  rintro ⟨V,last,u⟩ ⟨I,J,K,L⟩ W;refine WP.out (?_:WP _ _ _ _);apply K5;apply Pt;refine vj rfl (by decide) (fun e=>?_) (fun p o r=>?_)
  · simp only at e
    subst e;have P:c=true:=by
      cases c with
      |true=>rfl|false=>obtain⟨p,r,_⟩:=L rfl;cases r
    have Q:V=a.foldl CR s.ia.ed:=J [] (List.Perm.refl _);apply st 1;exact rfl;exact fun _ k=>k;apply Nf;(focus (repeat(first|exact If|(apply LB;exact rfl)|(apply K8;exact rfl)|(apply K9;exact rfl)|(apply LC;exact rfl)|(apply LA;exact rfl))));intro C;apply K5;apply Rf;exact rfl;exact rfl;apply gM;(focus (repeat(first|exact If|(apply LB;exact rfl)|(apply K8;exact rfl)|(apply K9;exact rfl)|(apply LC;exact rfl)|(apply LA;exact rfl))));show(if(0:Nat)=0 then z [(1,.bx (Di (OL s V)))]else x 0 [(1,.bx (Di (OL s V)))]);rw[a6 rfl,Q];exact m P
  · apply st 1;exact rfl;exact fun _ k=>k
    apply Nf;(focus (repeat(first|exact If|(apply LB;exact rfl)|(apply K8;exact rfl)|(apply K9;exact rfl)|(apply LC;exact rfl)|(apply LA;exact rfl))));intro C;apply K5;apply Rg;exact rfl;exact rfl;apply ZU;(focus (repeat(first|exact If|(apply LB;exact rfl)|(apply K8;exact rfl)|(apply K9;exact rfl)|(apply LC;exact rfl)|(apply LA;exact rfl))));intro O;have D:p∈u:=r.mem_iff.2 (by simp);obtain⟨b,H,E⟩:=m1 p (K p D);obtain⟨S,T⟩:=eh H I;cases b with
    |true=>
      refine ⟨PC.ns _ _ _ _ (Xd t s V p o _ (S rfl)).out _ (fun e he=>?_) (fun _ _ h=>h.elim) (fun e he=>?_)⟩
      · obtain⟨U,y,F⟩:=he
        cases y;refine⟨(CR V p,some p,o),F.out,⟨(Xc V p).trans I,fun l A=>?_,fun q B=>K q (r.mem_iff.2 (by simp[B])),fun N=>?_⟩,?_⟩
        .exact J (p::l) (r.trans (A.cons p))
        · obtain⟨q,B,w⟩:=L N
          rcases List.mem_cons.1 (r.mem_iff.1 B)with rfl|G
          .rw[H]at w;cases w
          .exact⟨q,G,w⟩
        · have:=r.length_eq
          simp only[cE]at this;show o.length<u.length;omega
      · obtain⟨v,y,_⟩:=he
        cases y
    |false=>
      refine ⟨PC.ns _ _ _ _ (Xd t s V p o _ (T rfl)).out _ (fun e he=>?_) (fun _ _ h=>h.elim) (fun e he=>?_)⟩
      · obtain⟨U,y,_⟩:=he
        cases y
      · obtain⟨v,_,F⟩:=he
        rw [F.out];exact g (by cases c with|false=>rfl|true=>exact absurd (E rfl) (by simp)) V
instance ACk(t:AC)(s:AP):Ct Go.Proofs.Tryz.prog (Lv t s) 221 [AM t,.undef] (fun r=>.bo (Di s) (if(!decide (r.1=0))=true then(Di r.2).set 33 ⟨false,.undef⟩else Di r.2) 1 [eI r.1]):=wP uT uv fun r h v l=>by
  unfold ZI;unfold Lv at h;obtain⟨a,q,h⟩:=bind_some h;have d:=(inferInstance:Ct Go.Proofs.Tryz.prog (IL s) 287 [ce s] N2).snd a q;apply K5;apply Pt;apply st 1;exact rfl;exact fun _ k=>k;apply st 1;exact rfl;exact fun _ k=>k;apply Nf;(focus (repeat(first|exact If|(apply LB;exact rfl)|(apply K8;exact rfl)|(apply K9;exact rfl)|(apply LC;exact rfl)|(apply LA;exact rfl))));intro m;apply K5;apply Pt;apply st 1;exact rfl;exact fun _ k=>k;apply st 1;exact rfl;exact fun _ k=>k;apply st 2;exact rfl;exact fun _ k=>⟨Nat.le_of_ble_eq_true rfl,k⟩;by_cases he:a.2=0
  · have e:N2 a=.mpr a.1 [.int .i64 a.2]:=a6 he
    rw [e]at d;rw[ae (by simp[he])]at h;split at h
    · rename_i hd
      have hd:BX.Dis a.1:=(show List.Pairwise (fun x y:(Int×Int)×Int=>x.1≠y.1) a.1 from of_decide_eq_true hd);obtain⟨c,u,h⟩:=bind_some h;refine lm rfl d (fun b=>?_);apply st 1;exact rfl;exact fun _ k=>k;apply st 1;exact rfl;exact fun _ k=>k;apply st 1;exact rfl;exact fun _ k=>k;apply st 1;exact rfl;exact fun _ k=>k;apply st 1;exact rfl;exact fun _ k=>k;apply Nf;(focus (repeat(first|exact If|(apply LB;exact rfl)|(apply K8;exact rfl)|(apply K9;exact rfl)|(apply LC;exact rfl)|(apply LA;exact rfl))));intro g;apply K5;apply K5;apply Pt;apply st 1;exact rfl;exact fun _ k=>k;apply st 1;exact rfl;exact fun _ k=>k;apply Nf;(focus (repeat(first|exact If|(apply LB;exact rfl)|(apply K8;exact rfl)|(apply K9;exact rfl)|(apply LC;exact rfl)|(apply LA;exact rfl))));intro i;apply Rf;exact rfl;simp[he];apply ZU;(focus (repeat(first|exact If|(apply LB;exact rfl)|(apply K8;exact rfl)|(apply K9;exact rfl)|(apply LC;exact rfl)|(apply LA;exact rfl))));intro j;apply K5;apply K5;apply Pt;apply st 1;exact rfl;exact fun _ k=>k;apply st 2;exact rfl;exact fun _ k=>⟨⟨by decide,rfl⟩,k⟩;apply Nf;(focus (repeat(first|exact If|(apply LB;exact rfl)|(apply K8;exact rfl)|(apply K9;exact rfl)|(apply LC;exact rfl)|(apply LA;exact rfl))));intro n;apply cU;refine gk hd u (fun f=>?_) (fun f V=>?_)
      · intro o
        apply K5;apply Pt;apply st 1;exact rfl;exact fun _ k=>k;apply Nf;(focus (repeat(first|exact If|(apply LB;exact rfl)|(apply K8;exact rfl)|(apply K9;exact rfl)|(apply LC;exact rfl)|(apply LA;exact rfl))));intro p;apply eQ;rw[a6 f]at h;cases h;exact⟨_,Wk.refl _,rfl,rfl⟩
      · rw[ae (by simp[f])]at h
        cases h;refine⟨_,?_,rfl,rfl⟩;exact Wk.set (Di (OL s V)) 33
    .cases h
  · have e:N2 a=.tp [.undef,.int .i64 a.2]:=ae he
    rw [e]at d;rw[a6 (by simp[he])]at h;refine lj rfl d ?_;apply st 1;exact rfl;exact fun _ k=>k;apply st 1;exact rfl;exact fun _ k=>k;apply st 1;exact rfl;exact fun _ k=>k;apply st 1;exact rfl;exact fun _ k=>k;apply st 1;exact rfl;exact fun _ k=>k;apply Nf;(focus (repeat(first|exact If|(apply LB;exact rfl)|(apply K8;exact rfl)|(apply K9;exact rfl)|(apply LC;exact rfl)|(apply LA;exact rfl))));intro g;apply K5;apply K5;apply Pt;apply st 1;exact rfl;exact fun _ k=>k;apply st 1;exact rfl;exact fun _ k=>k;apply Nf;(focus (repeat(first|exact If|(apply LB;exact rfl)|(apply K8;exact rfl)|(apply K9;exact rfl)|(apply LC;exact rfl)|(apply LA;exact rfl))));intro i;apply Rg;exact rfl;simp[he];apply K5;apply Pt;apply st 1;exact rfl;exact fun _ k=>k;apply st 1;exact rfl;exact fun _ k=>k;apply Nf;(focus (repeat(first|exact If|(apply LB;exact rfl)|(apply K8;exact rfl)|(apply K9;exact rfl)|(apply LC;exact rfl)|(apply LA;exact rfl))));intro j;apply eQ;cases h;simp only[he,decide_false,Bool.not_false,if_true];exact⟨_,Wk.set (Di s) 33,rfl,rfl⟩
end Go.Sf.Sc
