/- Contracts of the functions. -/
import Derived.Test.YthhobbgaejimgaaGreatDoorCon0
import Derived.Test.YthhobbgaejimgaaGreatDoorCon1
import Derived.Test.YthhobbgaejimgaaGreatDoorTryzShelf
import Derived.Test.YthhobbgaejimgaaGreatDoorFo
set_option linter.all false
set_option maxRecDepth 100000
set_option maxHeartbeats 4000000
namespace Go.Sf.Sc
open Go Go.Sf Go.Proofs.Tryz
instance oY(a:An)(c:j0)(m:AP):Ct prog (Bq a c m) 286 [Bl a,Ae c,Bk m] (fun r=>.tp [(eL 3 Bk) r.1,eI r.2]):=Fj f286 0xef020c013b3a390cdf076f3b3a390cdf073b3a390cdf073c020348034708469e026be88038a8f10644b20ac93802430cb43b3a390cdf07e0f436f472e8030542a937a5a932b20ac904460e923292a5e90ed46da5b1b209c93837f1d14093aa [] [.tmp 6,.tmp 7] (h:=fun r h e f=>by
  unfold Bq at h;have:HA 0 59 58 0 fun(d:Int)(b:List AP)=>[(12,.ow ((eL 3 Bk) b)),(59,.tv (eI d))]:=⟨⟩;exact nz)
abbrev u0(n:Nat):Prop:=∀(a:An)(c:j0)(m:AP),Ct prog (Al n a c m) 252 [Bl a,Ae c,Bk m] (fun r=>.tp [EB r.1,eI r.2])
abbrev uS(n:Nat):Prop:=∀(a:An)(c:j0)(m:AP),Ct prog (A9 n a c m) 269 [Bl a,Ae c,Bk m] (fun r=>.tp [EB r.1,eI r.2])
theorem gO(n:Nat)(_ih_252:u0 n)(_ih_269:uS n)(b:An)(c:j0)(m:AP):Ct prog (Al (n+1) b c m) 252 [Bl b,Ae c,Bk m] (fun r=>.tp [EB r.1,eI r.2]):=Fj f252 0x9f4b0b46ff36e263fcba06449f9f4b0b4606014b4a497103066f36e2de4685cbe20c460547a872e210c96c65ba0644094b810cc9ba097c06b44b4a49710306adb39f9f4ba80a06022f2e2d0a7103076fa7f105480547a804f136e2decde210c96c65ba0644094b0cc9ba09430a06025e2f2e2d0a710307adb310c99f9f4bde46ff36e20b469f9f4b0b469f6be210496c65ba09435c06449f83320110c993aa [] [.cell 6 (some 5),.tmp 7] (h:=fun r h g i=>by
  unfold Al at h;have:HA 2 47 46 0 fun(f:Int)(a:Be×Be)=>[(6,.bx [⟨false,eI a.1.tc⟩,⟨true,lI a.1.kx.gt.fq⟩,⟨true,lI a.1.kx.gt.jj⟩,⟨true,lI a.1.kx.qy⟩,⟨true,ID a.1.rm⟩]),(10,.bx [⟨false,eI a.2.tc⟩,⟨true,lI a.2.kx.gt.fq⟩,⟨true,lI a.2.kx.gt.jj⟩,⟨true,lI a.2.kx.qy⟩,⟨true,ID a.2.rm⟩]),(47,.tv (eI f))]:=⟨⟩;have:HA 4 75 74 0 fun(e:Int)(d:Be)=>[(6,.bx [⟨false,eI d.tc⟩,⟨true,lI d.kx.gt.fq⟩,⟨true,lI d.kx.gt.jj⟩,⟨true,lI d.kx.qy⟩,⟨true,ID d.rm⟩]),(75,.tv (eI e))]:=⟨⟩;exact nz)
theorem gR(n:Nat)(_ih_252:u0 n)(_ih_269:uS n)(b:An)(c:j0)(m:AP):Ct prog (A9 (n+1) b c m) 269 [Bl b,Ae c,Bk m] (fun r=>.tp [EB r.1,eI r.2]):=Fj f269 0x9f4b0b4606011b1a1906f2066f36e2de4685cbe20d460547a86561e210c96c65ba09435c06449711c9d74306b41b1a1906f206e036e2decde865ba06440110c993aa [] [.cell 6 (some 5),.tmp 7] (h:=fun r h e f=>by
  unfold A9 at h;have:HA 0 27 26 0 fun(d:Int)(a:Be)=>[(6,.bx [⟨false,eI a.tc⟩,⟨true,lI a.kx.gt.fq⟩,⟨true,lI a.kx.gt.jj⟩,⟨true,lI a.kx.qy⟩,⟨true,ID a.rm⟩]),(27,.tv (eI d))]:=⟨⟩;exact nz)
theorem Za:∀n:Nat,u0 n/\uS n:=by
  intro n
  induction n with
  |zero=>exact⟨(fun b c m=>⟨fun _ h=>by cases h⟩),(fun b c m=>⟨fun _ h=>by cases h⟩)⟩
  |succ n a=>exact⟨gO n a.1 a.2,gR n a.1 a.2⟩
instance oH(a:An)(c:j0)(m:AP):Ct prog (DL a c m) 252 [Bl a,Ae c,Bk m] (fun r=>.tp [EB r.1,eI r.2]):=⟨fun r h=>by
  obtain ⟨N,b⟩:=EU h;exact((Za N).1 a c m).snd r (b N (ca _))⟩
instance oU(a:An)(c:j0)(m:AP):Ct prog (Jl a c m) 269 [Bl a,Ae c,Bk m] (fun r=>.tp [EB r.1,eI r.2]):=⟨fun r h=>by
  obtain ⟨N,b⟩:=EU h;exact((Za N).2 a c m).snd r (b N (ca _))⟩
instance ni(t:AB)(p:j4)(c:j0)(b:AM)(m:AP)(a:Bool):Ct prog (Df t p c b m a) 223 [AU t,C2 p,Ae c,CM b,Bk m,eB a] (fun r=>.tp [EB r.1,eI r.2]):=Fj f223 0x9f4b63fcba0e4601653836e2decd0e016565baa8380110c99364640501 [] [.cell 12 (some 5),.tmp 13] (h:=fun r h d e=>by
  unfold Df at h;exact nz)
instance nA(t:AB)(p:j4)(c:j0)(b:AM)(m:AP)(a:Bool):Ct prog (C4 t p c b m a) 183 [AU t,C2 p,Ae c,CM b,Bk m,eB a] (fun r=>.tp [eB r.1,eI r.2]):=Fj f183 0x6b53017661e210496c016565baa838309364640501 [] [.tmp 12,.tmp 13] (h:=fun r h d e=>by
  unfold C4 at h;exact nz)
instance nB(m:AP):Ct prog (I9 m) 184 [Bk m] (fun r=>.sh (Bk r)):=Fj f184 0x2013b9708460e8004460e92320ed411c9d9 [] [.cell 2 (some 3)] (h:=fun r h a b=>by
  unfold I9 at h;exact nz)
instance nC(a:AM):Ct prog (Ju a) 185 [CM a] (fun r=>.sh (CM r)):=Fj f185 0x97655b02cf115b056fa7a5f6c4304704a582605b025ecf115b05ada5035001c93f3f0e92320ed401c9d9 [.sF [.w 9,.w 13],.sF [.g 14 0 2,.g 14 1 2,.z ⟨true,.list 1 []⟩]] [.cell 2 (some 3)] (h:=fun r h d e=>by
  unfold Ju at h;have:HA 0 19 18 0 fun(c:Int)(b:AM)=>[(3,.bx [⟨true,lI b.hT.fq⟩,⟨true,lE b.hT.jj⟩,⟨true,(eL 1 lI) b.og⟩]),(19,.tv (eI c))]:=⟨⟩;exact nz)
instance nD(n:Int)(l:Fp):Ct prog (KD n l) 186 [eI n,lI l] (fun r=>.own (lI r)):=Fj f186 0x82180501ca05a66f014de13014cab80106cab80106d888e56c308153b4ca05a6819514993f30405f02 [.ui 1 [.int .i64 0] (.s 9)] [.tmp 4] (h:=fun r h c d=>by
  unfold KD at h;have:HA 0 13 12 0 fun(b:Int)(a:Fp)=>[(5,.xo 1 (List.map eI a)),(13,.tv (eI b))]:=⟨⟩;exact nz)
instance nE(b:Int)(d:Fp)(e:Fp)(a:Fp)(c:Fp)(n:Int):Ct prog (Io b d e a c n) 187 [eI b,lI d,lI e,lI a,lI c,eI n] (fun r=>.own (lI r)):=Fj f187 0x82180d012b2a0d7e6f2b2a0d7e2b2a0d7e5d304de130148517e1011481010db42b2a0d7e8195140d05021615140d7e31086f014de16060606a30146bb60d05025e1615140d7e3108e0991a304701407e5b5f06 [] [.tmp 12] (h:=fun r h k l=>by
  unfold Io at h;have:HA 0 22 21 0 fun(j:Int)(g:Fp)=>[(13,.xo 1 (List.map eI g)),(22,.tv (eI j))]:=⟨⟩;have:HA 2 43 42 0 fun(i:Int)(f:Int×Fp)=>[(5,.tv (eI f.1)),(13,.xo 1 (List.map eI f.2)),(43,.tv (eI i))]:=⟨⟩;exact nz)
instance nj(t:AB)(a:Int):Ct prog (Hd t a) 225 [AU t,eI a] (fun r=>.own (lI r)):=Fj f225 0x82020701cf1107046f02f65c029b04c99dbc07b4cf110704e082ac01e89e01409330 [] [.tmp 4] (h:=fun r h d e=>by
  unfold Hd at h;have:HA 0 19 18 0 fun(c:Int)(b:Fp)=>[(7,.ow (lI b)),(19,.tv (eI c))]:=⟨⟩;exact nz)
noncomputable def Rb:PC:=PC.of NI f188.body (xq bT 0x30b0afaea66fb0afaea6b0afaea63ca701621f6203480347054660806d2489605c6d2489570401621f8932850b31621f89b6922489979fc9d7436a5eb0afaea6adb307917b7a790731066f7b7a790731067b7a790731063c1f02411f6221221a9e2302411f8932a737371f62f6a637371f8932850bd31f89b66d24896bb607915e7b7a79073106ad320731974a49070631076fa701621f6203480347054660806d2289605c6d2289570401621f89329705c9d77c923281600731035e4b4a4907063107adb3b831051e1d1cb831086f1f02411f622122014fb68001562302411f8932a737371f62f6b6d40437371f89328160b831055e1e1d1cb83108ad32b29709c901c9383706623732651c896430) []
theorem gV:CK f188 Rb []:=by decide +kernel
theorem g8:PC.rQ Rb=true/\PC.rM 1 Rb=true:=by decide +kernel
instance nF(t:AB)(a:BB)(d:Bw):Ct prog (Hc t a d) 188 [AU t,.undef,ON d] (fun r=>.bo (CW a) (CW r) 1 []):=PI gV g8 fun r h m l n=>by
  unfold Rb;unfold f188;unfold Hc at h;have:HA 0 30 29 0 fun(k:Int)(b:BB)=>[(1,.bx (CW b)),(30,.tv (eI k))]:=⟨⟩;have:HA 2 75 74 0 fun(e:Int)(i:BB)=>[(1,.bx (CW i)),(75,.tv (eI e))]:=⟨⟩;have:HA 4 123 122 0 fun(c:Int)(j:BB)=>[(1,.bx (CW j)),(123,.tv (eI c))]:=⟨⟩;have:HA 6 176 175 0 fun(f:Int)(g:BB)=>[(1,.bx (CW g)),(176,.tv (eI f))]:=⟨⟩;exact nz
theorem gX:CK f226 (.seq (.region [⟨some 1,.tS (.s 0),none⟩,
    ⟨some 2,.mv (.c .undef),none⟩,
    ⟨some 3,.mv (.c (.int .i64 0)),none⟩] [1])
 (.seq (.region [⟨some 12,.ur,none⟩,
    ⟨some 4,.uH 12,none⟩] [1,4,12])
 (.seq (.seq (.region [⟨some 13,.bad 1 0,none⟩,
    ⟨some 14,.sG (.s 13) 6,none⟩,
    ⟨some 15,.sG (.s 14) 2,none⟩,
    ⟨some 16,.ld (.s 15),none⟩,
    ⟨some 17,.len (.s 16),none⟩,
    ⟨some 18,.mv (.c (.int .i64 0)),none⟩] [1,4,12,16,17,18])
 (.block 0 (.loop [1,4,12,16,17,18] (.seq (.region [⟨some 19,.bin (.i) .lss (.s 18) (.s 17),none⟩] [1,4,12,16,17,18,19])
 (.seq (.cond (.s 19) (.skip [1,4,12,16,17,18])
 (.exit 0 [4,12]))
 (.seq (.block 1 (.seq (.region [⟨some 20,.tY (.s 16) (.s 18) 4,none⟩,
    ⟨some 21,.tX (.s 20) 4,none⟩,
    ⟨some 6,.uv [⟨false,.int .i64 0⟩,⟨false,.int .i64 0⟩,⟨false,.int .i64 0⟩,⟨false,.int .i64 0⟩],none⟩,
    ⟨none,.tV 4 6 (.s 21),none⟩] [1,4,6,12,16,17,18])
 (.seq (.region [⟨some 23,.bad 6 2,none⟩,
    ⟨some 24,.tX (.s 23) 2,none⟩,
    ⟨some 25,.bad 1 25,none⟩,
    ⟨some 26,.sG (.s 25) 2,none⟩,
    ⟨some 27,.ld (.s 26),none⟩,
    ⟨some 28,.call 254 [.s 24,.s 27],none⟩,
    ⟨some 22,.mv (.s 28),none⟩,
    ⟨some 29,.ext (.s 22) 0,none⟩,
    ⟨some 30,.ext (.s 22) 1,none⟩,
    ⟨some 7,.mv (.s 29),none⟩,
    ⟨some 8,.mv (.s 30),none⟩] [1,4,6,7,8,12,16,17,18])
 (.seq (.seq (.region [⟨some 31,.mv (.s 8),none⟩,
    ⟨some 32,.bin (.i) .neq (.s 31) (.c (.int .i64 0)),none⟩] [1,4,6,7,8,12,16,17,18,32])
 (.cond (.s 32) (.seq (.region [⟨some 33,.mv (.s 8),none⟩,
    ⟨some 2,.mv (.c .undef),none⟩,
    ⟨some 3,.mv (.s 33),none⟩] [2,3,12])
 .ret)
 (.skip [1,4,6,7,12,16,17,18])))
 (.seq (.draw [9,34,35,36,37,38,39,40,41,42,43] [⟨some 34,.bad 1 36,none⟩,
    ⟨some 35,.sG (.s 34) 0,none⟩,
    ⟨some 36,.ld (.s 35),none⟩,
    ⟨some 37,.bad 6 0,none⟩,
    ⟨some 38,.ld (.s 37),none⟩,
    ⟨some 39,.tY (.s 36) (.s 38) 1,none⟩,
    ⟨some 40,.ld (.s 39),none⟩,
    ⟨some 41,.bad 6 1,none⟩,
    ⟨some 42,.ld (.s 41),none⟩,
    ⟨some 43,.tQ [.int .i64 0,.int .i64 0] [(0,1,.s 40),(1,1,.s 42)],none⟩,
    ⟨some 9,.uv [⟨false,.int .i64 0⟩,⟨false,.int .i64 0⟩],none⟩,
    ⟨none,.tV 2 9 (.s 43),none⟩] [1,4,7,9,12,16,17,18])
 (.seq (.seq (.region [⟨some 45,.mv (.s 4),none⟩,
    ⟨some 46,.tX (.s 9) 2,none⟩,
    ⟨some 47,.vb 12 (.s 45) (.s 46),none⟩,
    ⟨some 44,.mv (.s 47),none⟩,
    ⟨some 48,.ext (.s 44) 0,none⟩,
    ⟨some 49,.ext (.s 44) 1,none⟩,
    ⟨some 10,.mv (.s 48),none⟩,
    ⟨some 11,.mv (.s 49),none⟩] [1,4,7,9,10,11,12,16,17,18])
 (.seq (.region [⟨some 50,.mv (.s 11),none⟩,
    ⟨some 51,.mv (.s 50),none⟩,
    ⟨some 52,.mv (.s 10),some (51,true)⟩,
    ⟨some 53,.mv (.s 7),some (51,true)⟩,
    ⟨some 54,.bin (.i) .neq (.s 52) (.s 53),some (51,true)⟩,
    ⟨some 55,.pick (.s 51) (.s 54) (.c (.bool false)),none⟩] [1,4,7,9,12,16,17,18,55])
 (.cond (.s 55) (.seq (.region [⟨some 2,.mv (.c .undef),none⟩,
    ⟨some 3,.mv (.c (.int .i64 11)),none⟩] [2,3,12])
 .ret)
 (.skip [1,4,7,9,12,16,17,18]))))
 (.region [⟨some 56,.mv (.s 4),none⟩,
    ⟨some 57,.tX (.s 9) 2,none⟩,
    ⟨some 58,.mv (.s 7),none⟩,
    ⟨none,.uK 12 (.s 56) (.s 57) (.s 58),none⟩] [1,4,12,16,17,18])))))))
 (.region [⟨some 59,.bin (.i) .add (.s 18) (.c (.int .i64 1)),none⟩,
    ⟨some 18,.mv (.s 59),none⟩] [1,4,12,16,17,18])))))))
 (.seq (.region [⟨some 60,.mv (.s 4),none⟩,
    ⟨some 2,.mv (.s 60),none⟩,
    ⟨some 3,.mv (.c (.int .i64 0)),none⟩] [2,3,12])
 .ret)))) [.tmp 2,.tmp 3]:=by decide +kernel
instance ox(s:BB):Ct Go.Proofs.Tryz.prog (H4 s) 226 [Tu s] Ib:=k9 gX fun r h d e=>by
  unfold H4 at h;have K:∀b:Nat,HA 0 18 17 0 fun(c:Int)(a:Bb)=>[(12,.mx (.mp b a)),(18,.tv (eI c))]:=fun _=>⟨⟩;have:jZ 12:=⟨⟩;exact au
theorem Ql(t:AB)(s:BB)(V:List Fp)(p:(Int×Int)×Int)(a:Bb)(r:B2 (List Fp) Unit)(h:JI t s V p=some r):WP (AH Go.Proofs.Tryz.prog) (.block 1 (.seq (.region [⟨some 25,.uR 22,none⟩,
    ⟨some 26,.ext (.s 25) 0,none⟩,
    ⟨some 27,.ext (.s 25) 1,none⟩,
    ⟨some 7,.uv [⟨false,.int .i64 0⟩,⟨false,.int .i64 0⟩],none⟩,
    ⟨none,.tV 2 7 (.s 26),none⟩,
    ⟨some 8,.mv (.s 27),none⟩] [1,2,7,8,22])
 (.seq (.draw [9,10,28,29,30,31,32,33,34,35,36,37,38,39,40,41,42] [⟨some 29,.tX (.s 2) 2,none⟩,
    ⟨some 30,.bad 1 0,none⟩,
    ⟨some 31,.sG (.s 30) 0,none⟩,
    ⟨some 32,.sG (.s 31) 31,none⟩,
    ⟨some 33,.sG (.s 32) 0,none⟩,
    ⟨some 34,.sG (.s 33) 0,none⟩,
    ⟨some 35,.ld (.s 34),none⟩,
    ⟨some 36,.bad 7 0,none⟩,
    ⟨some 37,.ld (.s 36),none⟩,
    ⟨some 38,.tY (.s 35) (.s 37) 1,none⟩,
    ⟨some 39,.ld (.s 38),none⟩,
    ⟨some 40,.call 112 [.s 29,.s 39],none⟩,
    ⟨some 28,.mv (.s 40),none⟩,
    ⟨some 41,.ext (.s 28) 0,none⟩,
    ⟨some 42,.ext (.s 28) 1,none⟩,
    ⟨some 9,.mv (.s 41),none⟩,
    ⟨some 10,.mv (.s 42),none⟩] [1,2,7,8,9,22])
 (.seq (.seq (.region [⟨some 43,.mv (.s 8),none⟩,
    ⟨some 44,.mv (.s 9),none⟩,
    ⟨some 45,.bad 7 1,none⟩,
    ⟨some 46,.ld (.s 45),none⟩,
    ⟨some 47,.tY (.s 44) (.s 46) 4,none⟩,
    ⟨some 48,.sG (.s 47) 1,none⟩,
    ⟨some 49,.ld (.s 48),none⟩,
    ⟨some 50,.bin (.i) .lss (.s 43) (.s 49),none⟩,
    ⟨some 51,.mv (.s 50),none⟩,
    ⟨some 52,.mv (.s 8),some (51,false)⟩,
    ⟨some 53,.mv (.s 9),some (51,false)⟩,
    ⟨some 54,.bad 7 1,some (51,false)⟩,
    ⟨some 55,.ld (.s 54),some (51,false)⟩,
    ⟨some 56,.tY (.s 53) (.s 55) 4,some (51,false)⟩,
    ⟨some 57,.sG (.s 56) 2,some (51,false)⟩,
    ⟨some 58,.ld (.s 57),some (51,false)⟩,
    ⟨some 59,.bin (.i) .gtr (.s 52) (.s 58),some (51,false)⟩,
    ⟨some 60,.pick (.s 51) (.c (.bool true)) (.s 59),none⟩] [1,2,7,8,22,60])
 (.cond (.s 60) (.seq (.region [⟨some 4,.mv (.c (.int .i64 6)),none⟩] [1,4])
 .ret)
 (.skip [1,2,7,8,22])))
 (.draw [61,62,63,64,65,66,67,68,69,70,71,72,73] [⟨some 61,.bad 1 0,none⟩,
    ⟨some 62,.sG (.s 61) 0,none⟩,
    ⟨some 63,.sG (.s 62) 31,none⟩,
    ⟨some 64,.sG (.s 63) 2,none⟩,
    ⟨some 65,.uO (.s 64),none⟩,
    ⟨some 66,.bad 7 0,none⟩,
    ⟨some 67,.ld (.s 66),none⟩,
    ⟨some 68,.uo (.s 65) (.s 67),none⟩,
    ⟨some 69,.uQ (.s 68),none⟩,
    ⟨some 70,.bad 7 1,none⟩,
    ⟨some 71,.ld (.s 70),none⟩,
    ⟨some 72,.mv (.s 8),none⟩,
    ⟨some 73,.uo (.s 69) (.s 71),none⟩,
    ⟨none,.up (.s 73) (.s 72),none⟩] [1,2,22]))))) ⟨fun e=>∃b,r=.next b/\Rn (e.pr [1,2,22]) [(1,.bx (CW (JX s b))),(2,.tv (.pt (AU t).cells)),(22,.mx (.mi (some p) a))],fun _ _=>False,fun e=>∃v,r=.ret v/\Rn e [(1,.bx (CW (JX s V))),(4,.tv (eI 6))]⟩ [(1,.bx (CW (JX s V))),(2,.tv (.pt (AU t).cells)),(22,.mx (.mi (some p) a))]:=by
  unfold JI at h;exact au
noncomputable def Rc:PC:=(.seq (.region [⟨some 2,.tS (.s 0),none⟩,
    ⟨some 4,.mv (.c (.int .i64 0)),none⟩] [1,2])
 (.seq (.region [⟨some 12,.bad 1 0,none⟩,
    ⟨some 13,.sG (.s 12) 0,none⟩,
    ⟨some 14,.tX (.s 13) 38,none⟩,
    ⟨some 15,.sV 226 [.s 14],none⟩,
    ⟨some 11,.uH 15,none⟩,
    ⟨some 16,.ext (.s 11) 0,none⟩,
    ⟨some 17,.ext (.s 11) 1,none⟩,
    ⟨some 5,.mv (.s 16),none⟩,
    ⟨some 6,.mv (.s 17),none⟩] [1,2,5,6,15])
 (.seq (.seq (.region [⟨some 18,.mv (.s 6),none⟩,
    ⟨some 19,.bin (.i) .neq (.s 18) (.c (.int .i64 0)),none⟩] [1,2,5,6,15,19])
 (.cond (.s 19) (.seq (.region [⟨some 20,.mv (.s 6),none⟩,
    ⟨some 4,.mv (.s 20),none⟩] [1,4])
 .ret)
 (.skip [1,2,5,15])))
 (.seq (.seq (.region [⟨some 21,.mv (.s 5),none⟩,
    ⟨some 22,.rK 15 (.s 21),none⟩] [1,2,22])
 (.block 0 (.loop [1,2,22] (.seq (.region [⟨some 23,.u9 22,none⟩,
    ⟨some 24,.ext (.s 23) 0,none⟩] [1,2,22,24])
 (.seq (.cond (.s 24) (.skip [1,2,22])
 (.exit 0 [1]))
 (.block 1 (.seq (.region [⟨some 25,.uR 22,none⟩,
    ⟨some 26,.ext (.s 25) 0,none⟩,
    ⟨some 27,.ext (.s 25) 1,none⟩,
    ⟨some 7,.uv [⟨false,.int .i64 0⟩,⟨false,.int .i64 0⟩],none⟩,
    ⟨none,.tV 2 7 (.s 26),none⟩,
    ⟨some 8,.mv (.s 27),none⟩] [1,2,7,8,22])
 (.seq (.draw [9,10,28,29,30,31,32,33,34,35,36,37,38,39,40,41,42] [⟨some 29,.tX (.s 2) 2,none⟩,
    ⟨some 30,.bad 1 0,none⟩,
    ⟨some 31,.sG (.s 30) 0,none⟩,
    ⟨some 32,.sG (.s 31) 31,none⟩,
    ⟨some 33,.sG (.s 32) 0,none⟩,
    ⟨some 34,.sG (.s 33) 0,none⟩,
    ⟨some 35,.ld (.s 34),none⟩,
    ⟨some 36,.bad 7 0,none⟩,
    ⟨some 37,.ld (.s 36),none⟩,
    ⟨some 38,.tY (.s 35) (.s 37) 1,none⟩,
    ⟨some 39,.ld (.s 38),none⟩,
    ⟨some 40,.call 112 [.s 29,.s 39],none⟩,
    ⟨some 28,.mv (.s 40),none⟩,
    ⟨some 41,.ext (.s 28) 0,none⟩,
    ⟨some 42,.ext (.s 28) 1,none⟩,
    ⟨some 9,.mv (.s 41),none⟩,
    ⟨some 10,.mv (.s 42),none⟩] [1,2,7,8,9,22])
 (.seq (.seq (.region [⟨some 43,.mv (.s 8),none⟩,
    ⟨some 44,.mv (.s 9),none⟩,
    ⟨some 45,.bad 7 1,none⟩,
    ⟨some 46,.ld (.s 45),none⟩,
    ⟨some 47,.tY (.s 44) (.s 46) 4,none⟩,
    ⟨some 48,.sG (.s 47) 1,none⟩,
    ⟨some 49,.ld (.s 48),none⟩,
    ⟨some 50,.bin (.i) .lss (.s 43) (.s 49),none⟩,
    ⟨some 51,.mv (.s 50),none⟩,
    ⟨some 52,.mv (.s 8),some (51,false)⟩,
    ⟨some 53,.mv (.s 9),some (51,false)⟩,
    ⟨some 54,.bad 7 1,some (51,false)⟩,
    ⟨some 55,.ld (.s 54),some (51,false)⟩,
    ⟨some 56,.tY (.s 53) (.s 55) 4,some (51,false)⟩,
    ⟨some 57,.sG (.s 56) 2,some (51,false)⟩,
    ⟨some 58,.ld (.s 57),some (51,false)⟩,
    ⟨some 59,.bin (.i) .gtr (.s 52) (.s 58),some (51,false)⟩,
    ⟨some 60,.pick (.s 51) (.c (.bool true)) (.s 59),none⟩] [1,2,7,8,22,60])
 (.cond (.s 60) (.seq (.region [⟨some 4,.mv (.c (.int .i64 6)),none⟩] [1,4])
 .ret)
 (.skip [1,2,7,8,22])))
 (.draw [61,62,63,64,65,66,67,68,69,70,71,72,73] [⟨some 61,.bad 1 0,none⟩,
    ⟨some 62,.sG (.s 61) 0,none⟩,
    ⟨some 63,.sG (.s 62) 31,none⟩,
    ⟨some 64,.sG (.s 63) 2,none⟩,
    ⟨some 65,.uO (.s 64),none⟩,
    ⟨some 66,.bad 7 0,none⟩,
    ⟨some 67,.ld (.s 66),none⟩,
    ⟨some 68,.uo (.s 65) (.s 67),none⟩,
    ⟨some 69,.uQ (.s 68),none⟩,
    ⟨some 70,.bad 7 1,none⟩,
    ⟨some 71,.ld (.s 70),none⟩,
    ⟨some 72,.mv (.s 8),none⟩,
    ⟨some 73,.uo (.s 69) (.s 71),none⟩,
    ⟨none,.up (.s 73) (.s 72),none⟩] [1,2,22]))))))))))
 (.seq (.region [⟨some 4,.mv (.c (.int .i64 0)),none⟩] [1,4])
 .ret)))))
theorem gW:CK f189 Rc [.tmp 4]:=by decide +kernel
theorem g9:PC.rQ Rc=true/\PC.rM 1 Rc=true:=by decide +kernel
variable{t:AB}{s:BB}
theorem Up{p:(Int×Int)×Int}{b:Bool}(h:Kv t s p=some b){V:List Fp}(a:KG V s.rr.og):
    (b=true->JI t s V p=some (.next (D6 V p)))/\(b=false->JI t s V p=some (.ret ())):=by
  unfold Kv JI at h;unfold JI;obtain⟨c,d,h⟩:=bind_some h;obtain⟨q,f,d⟩:=bind_some d;obtain⟨r,g,d⟩:=bind_some d;obtain⟨u,i,d⟩:=bind_some d;obtain⟨j,k,d⟩:=bind_some d;simp only[f,g,i,Option.bind_some]at *;rw[k,Option.bind_some];cases j with
  |true=>
    simp only[if_true,rC]at d|-;subst d;simp only[rC]at h;subst h;exact⟨fun e=>(by cases e),fun _=>trivial⟩
  |false=>
    simp only[Bool.false_eq_true,if_false]at d|-;obtain⟨v,l,d⟩:=bind_some d;obtain⟨w,m,d⟩:=bind_some d;cases d;simp only[rC]at h;subst h;obtain⟨x,x',n,o⟩:=a.idx l m;refine⟨fun _=>?_,fun e=>(by cases e)⟩;rw[n,Option.bind_some,o,Option.bind_some,Xv n o]
theorem WB{a:Bb}{c:Bool}(f:a.Dis)(m:tq (Kv t s) a=some c){L y:AA->Prop}{x:Nat->AA->Prop}{d:AA->Prop}
    (k:c=true->y [(1,.bx (CW (JX s (a.foldl D6 s.rr.og))))])(g:c=false->∀V,d [(1,.bx (CW (JX s V))),(4,.tv (eI 6))]):
    WP (AH Go.Proofs.Tryz.prog) (.loop [1,2,22] (.seq (.region [⟨some 23,.u9 22,none⟩,
    ⟨some 24,.ext (.s 23) 0,none⟩] [1,2,22,24])
 (.seq (.cond (.s 24) (.skip [1,2,22])
 (.exit 0 [1]))
 (.block 1 (.seq (.region [⟨some 25,.uR 22,none⟩,
    ⟨some 26,.ext (.s 25) 0,none⟩,
    ⟨some 27,.ext (.s 25) 1,none⟩,
    ⟨some 7,.uv [⟨false,.int .i64 0⟩,⟨false,.int .i64 0⟩],none⟩,
    ⟨none,.tV 2 7 (.s 26),none⟩,
    ⟨some 8,.mv (.s 27),none⟩] [1,2,7,8,22])
 (.seq (.draw [9,10,28,29,30,31,32,33,34,35,36,37,38,39,40,41,42] [⟨some 29,.tX (.s 2) 2,none⟩,
    ⟨some 30,.bad 1 0,none⟩,
    ⟨some 31,.sG (.s 30) 0,none⟩,
    ⟨some 32,.sG (.s 31) 31,none⟩,
    ⟨some 33,.sG (.s 32) 0,none⟩,
    ⟨some 34,.sG (.s 33) 0,none⟩,
    ⟨some 35,.ld (.s 34),none⟩,
    ⟨some 36,.bad 7 0,none⟩,
    ⟨some 37,.ld (.s 36),none⟩,
    ⟨some 38,.tY (.s 35) (.s 37) 1,none⟩,
    ⟨some 39,.ld (.s 38),none⟩,
    ⟨some 40,.call 112 [.s 29,.s 39],none⟩,
    ⟨some 28,.mv (.s 40),none⟩,
    ⟨some 41,.ext (.s 28) 0,none⟩,
    ⟨some 42,.ext (.s 28) 1,none⟩,
    ⟨some 9,.mv (.s 41),none⟩,
    ⟨some 10,.mv (.s 42),none⟩] [1,2,7,8,9,22])
 (.seq (.seq (.region [⟨some 43,.mv (.s 8),none⟩,
    ⟨some 44,.mv (.s 9),none⟩,
    ⟨some 45,.bad 7 1,none⟩,
    ⟨some 46,.ld (.s 45),none⟩,
    ⟨some 47,.tY (.s 44) (.s 46) 4,none⟩,
    ⟨some 48,.sG (.s 47) 1,none⟩,
    ⟨some 49,.ld (.s 48),none⟩,
    ⟨some 50,.bin (.i) .lss (.s 43) (.s 49),none⟩,
    ⟨some 51,.mv (.s 50),none⟩,
    ⟨some 52,.mv (.s 8),some (51,false)⟩,
    ⟨some 53,.mv (.s 9),some (51,false)⟩,
    ⟨some 54,.bad 7 1,some (51,false)⟩,
    ⟨some 55,.ld (.s 54),some (51,false)⟩,
    ⟨some 56,.tY (.s 53) (.s 55) 4,some (51,false)⟩,
    ⟨some 57,.sG (.s 56) 2,some (51,false)⟩,
    ⟨some 58,.ld (.s 57),some (51,false)⟩,
    ⟨some 59,.bin (.i) .gtr (.s 52) (.s 58),some (51,false)⟩,
    ⟨some 60,.pick (.s 51) (.c (.bool true)) (.s 59),none⟩] [1,2,7,8,22,60])
 (.cond (.s 60) (.seq (.region [⟨some 4,.mv (.c (.int .i64 6)),none⟩] [1,4])
 .ret)
 (.skip [1,2,7,8,22])))
 (.draw [61,62,63,64,65,66,67,68,69,70,71,72,73] [⟨some 61,.bad 1 0,none⟩,
    ⟨some 62,.sG (.s 61) 0,none⟩,
    ⟨some 63,.sG (.s 62) 31,none⟩,
    ⟨some 64,.sG (.s 63) 2,none⟩,
    ⟨some 65,.uO (.s 64),none⟩,
    ⟨some 66,.bad 7 0,none⟩,
    ⟨some 67,.ld (.s 66),none⟩,
    ⟨some 68,.uo (.s 65) (.s 67),none⟩,
    ⟨some 69,.uQ (.s 68),none⟩,
    ⟨some 70,.bad 7 1,none⟩,
    ⟨some 71,.ld (.s 70),none⟩,
    ⟨some 72,.mv (.s 8),none⟩,
    ⟨some 73,.uo (.s 69) (.s 71),none⟩,
    ⟨none,.up (.s 73) (.s 72),none⟩] [1,2,22])))))))) ⟨L,fun j e=>if j=0 then y e else x j e,d⟩ [(1,.bx (CW s)),(2,.tv (.pt (AU t).cells)),(22,.mx (.mi none a))]:=by
  obtain ⟨m1,Q⟩:=P2 m;refine⟨b9 _ (σ:=List Fp×Option ((Int×Int)×Int)×Bb) (fun σ=>[(1,.bx (CW (JX s σ.1))),(2,.tv (.pt (AU t).cells)),(22,.mx (.mi σ.2.1 σ.2.2))])
    (fun σ=>KG σ.1 s.rr.og/\(∀l,σ.2.2.Perm l->l.foldl D6 σ.1=a.foldl D6 s.rr.og)/\(∀p∈σ.2.2,p∈a)/\(c=false->∃p∈σ.2.2,Kv t s p=some false))
    (fun σ=>σ.2.2.length) (s.rr.og,none,a) rfl ⟨rfl,fun l z=>Ur f z _,fun p o=>o,Q⟩ ?_⟩
  rintro ⟨V,last,r⟩ ⟨H,I,J,K⟩ U;refine WP.out (?_:WP _ _ _ _);apply Gs;apply Jz;refine iv rfl (by decide) (fun e=>?_) (fun p n o=>?_)
  · simp only at e
    subst e;have O:c=true:=by
      cases c with
      |true=>rfl|false=>obtain⟨p,o,_⟩:=K rfl;cases o
    have P:V=a.foldl D6 s.rr.og:=I [] (List.Perm.refl _);apply M9;exact rfl;exact rfl;apply IV;(focus (repeat(first|exact FQ|(apply G0;exact rfl)|(apply Gx;exact rfl)|(apply Gy;exact rfl)|(apply G2;exact rfl)|(apply Gz;exact rfl))));intro B;apply Gs;apply Lb;exact rfl;exact rfl;apply Vv;(focus (repeat(first|exact FQ|(apply G0;exact rfl)|(apply Gx;exact rfl)|(apply Gy;exact rfl)|(apply G2;exact rfl)|(apply Gz;exact rfl))));show(if(0:Nat)=0 then y [(1,.bx (CW (JX s V)))]else x 0 [(1,.bx (CW (JX s V)))]);rw[az rfl,P];exact k O
  · apply M9;exact rfl;exact rfl
    apply IV;(focus (repeat(first|exact FQ|(apply G0;exact rfl)|(apply Gx;exact rfl)|(apply Gy;exact rfl)|(apply G2;exact rfl)|(apply Gz;exact rfl))));intro B;apply Gs;apply Lc;exact rfl;exact rfl;apply Rw;(focus (repeat(first|exact FQ|(apply G0;exact rfl)|(apply Gx;exact rfl)|(apply Gy;exact rfl)|(apply G2;exact rfl)|(apply Gz;exact rfl))));intro N;have C:p∈r:=o.mem_iff.2 (by simp);obtain⟨b,G,D⟩:=m1 p (J p C);obtain⟨R,S⟩:=Up G H;cases b with
    |true=>
      refine ⟨PC.q9 _ _ _ _ (Ql t s V p n _ (R rfl)).out _ (fun e he=>?_) (fun _ _ h=>h.elim) (fun e he=>?_)⟩
      · obtain⟨T,w,E⟩:=he
        cases w;refine⟨(D6 V p,some p,n),E.out,⟨(WA V p).trans H,fun l z=>?_,fun q A=>J q (o.mem_iff.2 (by simp[A])),fun M=>?_⟩,?_⟩
        .exact I (p::l) (o.trans (z.cons p))
        · obtain⟨q,A,u⟩:=K M
          rcases List.mem_cons.1 (o.mem_iff.1 A)with rfl|F
          .rw[G]at u;cases u
          .exact⟨q,F,u⟩
        · have:=o.length_eq
          simp only[ez]at this;show n.length<r.length;omega
      · obtain⟨v,w,_⟩:=he
        cases w
    |false=>
      refine ⟨PC.q9 _ _ _ _ (Ql t s V p n _ (S rfl)).out _ (fun e he=>?_) (fun _ _ h=>h.elim) (fun e he=>?_)⟩
      · obtain⟨T,w,_⟩:=he
        cases w
      · obtain⟨v,_,E⟩:=he
        rw [E.out];exact g (by cases c with|false=>rfl|true=>exact absurd (D rfl) (by simp)) V
instance oo(t:AB)(s:BB):Ct Go.Proofs.Tryz.prog (IR t s) 189 [AU t,.undef] (fun r=>.bo (CW s) (if(!decide (r.1=0))=true then(CW r.2).set 33 ⟨false,.undef⟩else CW r.2) 1 [eI r.1]):=jv gW g9 fun r h u k=>by
  unfold Rc;unfold IR at h;obtain⟨a,p,h⟩:=bind_some h;have d:=(inferInstance:Ct Go.Proofs.Tryz.prog (H4 s) 226 [Tu s] Ib).snd a p;apply Gs;apply Jz;apply Wp;exact rfl;exact rfl;apply Js;exact rfl;apply IV;(focus (repeat(first|exact FQ|(apply G0;exact rfl)|(apply Gx;exact rfl)|(apply Gy;exact rfl)|(apply G2;exact rfl)|(apply Gz;exact rfl))));intro l;apply Gs;apply Jz
  first|(apply Zs;exact rfl)|(apply Wo;exact rfl)
  first|(apply Zt;exact rfl)|(apply Wr;exact rfl;exact rfl)
  apply Rf;exact rfl;exact rfl;exact rfl;by_cases he:a.2=0
  · have e:Ib a=.mpr a.1 [.int .i64 a.2]:=az he
    rw [e]at d;rw[bk (by simp[he])]at h;split at h
    · rename_i hd
      have hd:Bb.Dis a.1:=(show List.Pairwise (fun x y:(Int×Int)×Int=>x.1≠y.1) a.1 from of_decide_eq_true hd);obtain⟨c,q,h⟩:=bind_some h;refine YX rfl d (fun b=>?_);apply Wt;exact rfl;apply M9;exact rfl;exact rfl;apply M9;exact rfl;exact rfl;apply Js;exact rfl;apply Js;exact rfl;apply IV;(focus (repeat(first|exact FQ|(apply G0;exact rfl)|(apply Gx;exact rfl)|(apply Gy;exact rfl)|(apply G2;exact rfl)|(apply Gz;exact rfl))));intro g;apply Gs;apply Gs;apply Jz;apply Js;exact rfl;apply VX;exact rfl;exact rfl;apply IV;(focus (repeat(first|exact FQ|(apply G0;exact rfl)|(apply Gx;exact rfl)|(apply Gy;exact rfl)|(apply G2;exact rfl)|(apply Gz;exact rfl))));intro i;apply Lb;exact rfl;simp[he];apply Rw;(focus (repeat(first|exact FQ|(apply G0;exact rfl)|(apply Gx;exact rfl)|(apply Gy;exact rfl)|(apply G2;exact rfl)|(apply Gz;exact rfl))));intro j;apply Gs;apply Gs;apply Jz;apply Js;exact rfl;apply Zx;exact rfl;exact rfl;decide;apply IV;(focus (repeat(first|exact FQ|(apply G0;exact rfl)|(apply Gx;exact rfl)|(apply Gy;exact rfl)|(apply G2;exact rfl)|(apply Gz;exact rfl))));intro m;apply Tj;refine WB hd q (fun f=>?_) (fun f V=>?_)
      · intro n
        apply Gs;apply Jz;apply Js;exact rfl;apply IV;(focus (repeat(first|exact FQ|(apply G0;exact rfl)|(apply Gx;exact rfl)|(apply Gy;exact rfl)|(apply G2;exact rfl)|(apply Gz;exact rfl))));intro o;apply Uc;rw[az f]at h;cases h;exact⟨_,Wk.refl _,rfl,rfl⟩
      · rw[bk (by simp[f])]at h
        cases h;refine⟨_,?_,rfl,rfl⟩;exact Wk.set (CW (JX s V)) 33
    .cases h
  · have e:Ib a=.tp [.undef,.int .i64 a.2]:=bk he
    rw [e]at d;rw[az (by simp[he])]at h;refine YW rfl d ?_;apply Ws;exact rfl;apply M9;exact rfl;exact rfl;apply M9;exact rfl;exact rfl;apply Js;exact rfl;apply Js;exact rfl;apply IV;(focus (repeat(first|exact FQ|(apply G0;exact rfl)|(apply Gx;exact rfl)|(apply Gy;exact rfl)|(apply G2;exact rfl)|(apply Gz;exact rfl))));intro g;apply Gs;apply Gs;apply Jz;apply Js;exact rfl;apply VX;exact rfl;exact rfl;apply IV;(focus (repeat(first|exact FQ|(apply G0;exact rfl)|(apply Gx;exact rfl)|(apply Gy;exact rfl)|(apply G2;exact rfl)|(apply Gz;exact rfl))));intro i;apply Lc;exact rfl;simp[he];apply Gs;apply Jz;apply Js;exact rfl;apply Js;exact rfl;apply IV;(focus (repeat(first|exact FQ|(apply G0;exact rfl)|(apply Gx;exact rfl)|(apply Gy;exact rfl)|(apply G2;exact rfl)|(apply Gz;exact rfl))));intro j;apply Uc;cases h;simp only[he,decide_false,Bool.not_false,if_true];exact⟨_,Wk.set (CW s) 33,rfl,rfl⟩
instance mL(t:AB)(b:ns)(a:AM)(m:AP):Ct prog (GW t b a m) 141 [AU t,Fd b,CM a,Bk m] (fun r=>.tp [Nf r.1,eI r.2]):=Fj f141 0x81fa26440f3e36fa0f468a7431621f42530bd31f4236fa010fcd0152380152a9024a244204460ee99222429232920d42920b420b3162c50eb16d2242d46d0d426d0b420bd3c5024a224204460e5c0b92320e570bd43f13c91046fcfcea36fa0f4688cbfa010f468530816c030f426565ba1042a8b33836fa010f468530b20ac96cc6380b42c63836fa010fcdb209c96cc6c63837b33836fa010fcdfc65ea380112c964aa [.uL 38 [none,none,none,none,none,none,none,none,none,none,none,none,none,none,none,none,none,none,none,none,none,none,none,none,none,none,none,none,none,none,none,some ⟨true,.list 1 []⟩,some ⟨true,.list 3 []⟩,some ⟨true,.xn []⟩,none,none,none,none] (.s 15) (.s 82)] [.cell 8 (some 38),.tmp 9] (h:=fun r h c d=>by
  unfold GW at h;exact nz)
instance qn(t:AB)(b:ns)(a:AM):Ct prog (ER t b a) 92 [AU t,Fd b,CM a] (fun r=>.tp [(eL 3 Bk) r.1,eI r.2]):=Fj f92 0xef020b012625240bdf076f2625240bdf072625240bdf073c0203480347650261fa12496c6565ea389711c9d7430bb42625240bdf07e0f436f472e8030f4265a8b33836f48d65ea38d14093aa [] [.tmp 6,.tmp 7] (h:=fun r h e f=>by
  unfold ER at h;have:HA 0 38 37 0 fun(d:Int)(c:List AP)=>[(11,.ow ((eL 3 Bk) c)),(38,.tv (eI d))]:=⟨⟩;exact nz)
instance p9(t:AB)(a:List ns)(b:AM):Ct prog (C6 t a b) 56 [AU t,(eL 25 Fd) a,CM b] (fun r=>.tp [(eL 4 Dp) r.1,eI r.2]):=Fj f56 0xef020801d00f080503066fd00f08050306222120d00f090805030a6f0204480447114665919711c9d743d00f080503065e222120d00f090805030ae03604c072e865ea38194b810ec9ea197c08b4d00f08050306e004c0a6406430 [] [.tmp 6,.tmp 7] (h:=fun r h g i=>by
  unfold C6 at h;have:HA 0 17 16 0 fun(f:Int)(c:List BW)=>[(8,.ow ((eL 4 Dp) c)),(17,.tv (eI f))]:=⟨⟩;have:HA 2 34 33 0 fun(d:Int)(e:List BW)=>[(8,.ow ((eL 4 Dp) e)),(34,.tv (eI d))]:=⟨⟩;exact nz)
instance qp(t:AB)(b:ns)(a:AM)(m:AP):Ct prog (Hb t b a m) 93 [AU t,Fd b,CM a,Bk m] (fun r=>.tp [Nf r.1,eI r.2]):=Fj f93 0x81fa63fc65ea3836fa010fcdfcea380112c964aa [] [.cell 8 (some 38),.tmp 9] (h:=fun r h c d=>by
  unfold Hb at h;exact nz)
instance qA(t:AB)(a:List ns)(b:AM)(m:BW):Ct prog (DE t a b m) 57 [AU t,(eL 25 Fd) a,CM b,Dp m] (fun r=>.tp [Nf r.1,eI r.2]):=Fj f57 0x8013b81fa63fcb365ea1943579e36fa0f468a74015753570112c9936430 [] [.cell 8 (some 38),.tmp 9] (h:=fun r h c d=>by
  unfold DE at h;exact nz)
instance pI(t:AB)(c:List ns)(d:AM)(a:Fp):Ct prog (Dh t c d a) 19 [AU t,(eL 25 Fd) c,CM d,lI a] (fun r=>.tp [BF r.1,eI r.2]):=Fj f19 0x819b9d0b08022423220b08060401086f1106023b97a7034203591f5a044804470458f242369b0112468501123d01fa12c96c9d659e9b15c99dbc0553536aff0b0802610bcb9b0112cde8659e81600b08025e2423220b0806040108e0045014c93ffc369b1246850bcb9b0112cdfc9e0114c9bf933102 [.tZ (.s 2),.sF [.v (.s 32) 0 3,.v (.s 32) 1 3,.v (.s 32) 2 3,.z ⟨true,.list 4 []⟩]] [.cell 8 (some 4),.tmp 9] (h:=fun r h f g=>by
  unfold Dh at h;have:HA 0 36 35 0 fun(e:Int)(b:AM×AL×AL)=>[(6,.bx [⟨false,lI b.1.hT.fq⟩,⟨false,lE b.1.hT.jj⟩,⟨false,(eL 1 lI) b.1.og⟩]),(8,.bx [⟨true,lI b.2.1.rn.hT.fq⟩,⟨true,lE b.2.1.rn.hT.jj⟩,⟨true,(eL 1 lI) b.2.1.rn.og⟩,⟨true,(eL 4 Dp) b.2.1.po⟩]),(11,.bx [⟨false,lI b.2.2.rn.hT.fq⟩,⟨false,lE b.2.2.rn.hT.jj⟩,⟨false,(eL 1 lI) b.2.2.rn.og⟩,⟨true,(eL 4 Dp) b.2.2.po⟩]),(36,.tv (eI e))]:=⟨⟩;exact nz)
instance qB(t:AB)(a:List ns)(d:AL):Ct prog (Di t a d) 58 [AU t,(eL 25 Fd) a,BF d] (fun r=>.tp [(eL 38 Nf) r.1,eI r.2.1,eI r.2.2]):=Fj f58 0x6b820b910a0121201f0b0a31076f0b013b9702651f42264826472644027626c03061fa12c96c9d659e9b8115c99dc10ab421201f0b0a3107ad03429701c9653226c07626c0850b847626c08d65329e3026406430 [] [.tmp 6,.tmp 7,.tmp 8] (h:=fun r h e f=>by
  unfold Di at h;have:HA 0 33 32 0 fun(c:Int)(b:List BB×AM)=>[(10,.ow ((eL 38 Nf) b.1)),(11,.bx [⟨false,lI b.2.hT.fq⟩,⟨false,lE b.2.hT.jj⟩,⟨false,(eL 1 lI) b.2.og⟩]),(33,.tv (eI c))]:=⟨⟩;exact nz)
instance mM(n:Int):Ct prog (GQ n) 142 [eI n] (fun r=>.own (lI r)):=Fj f142 0x8218310908736f014de130148101315e090873819514993f30409a [.ui 1 [.int .i64 0] (.s 5)] [.tmp 2] (h:=fun r h c d=>by
  unfold GQ at h;have:HA 0 9 8 0 fun(b:Int)(a:Fp)=>[(3,.xo 1 (List.map eI a)),(9,.tv (eI b))]:=⟨⟩;exact nz)
instance qr(g:hT):Ct prog (Dj g) 94 [BI g] (fun r=>.tp [Ba r.1,eI r.2]):=Fj f94 0x2013b81b204460ee90eb136b2d1cd0e38010ac9d9 [] [.cell 2 (some 2),.tmp 3] (h:=fun r h a b=>by
  unfold Dj at h;exact nz)
instance qC(g:hT):Ct prog (C5 g) 59 [BI g] (fun r=>.sh (Ba r)):=Fj f59 0xb238914b0ac96c380ac9d9 [] [.cell 2 (some 2)] (h:=fun r h a b=>by
  unfold C5 at h;exact nz)
instance qE(l:Fp)(a:Fp):Ct prog (GJ l a) 60 [lI l,lI a] (fun r=>.own (lI r)):=Fj f60 0x821805010c0b6e536f0c0b6e530c0b6e53d84de1606a14618117e153b40c0b6e53819594991a30405f02 [] [.tmp 4] (h:=fun r h d e=>by
  unfold GJ at h;have:HA 0 12 11 0 fun(c:Int)(b:Fp)=>[(5,.xo 1 (List.map eI b)),(12,.tv (eI c))]:=⟨⟩;exact nz)
instance pJ(t:AB)(a:List ns)(d:AL):Ct prog (Du t a d) 20 [AU t,(eL 25 Fd) a,BF d] (fun r=>.tp [CM r.1,Ba r.2.1,eI r.2.2]):=Fj f20 0x706023b81b29738fcca070604252423ca0706076f0c013bb29704460e9222425c0e6d224257651f42fa12c926442643ca0706045e252423ca070607e0b2970ac901c90e383732653236b297d14613cd0182116c9d9e010ac901c96430 [] [.cell 6 (some 3),.cell 7 (some 2),.tmp 8] (h:=fun r h e f=>by
  unfold Du at h;have:HA 0 37 36 0 fun(c:Int)(b:AM×gt)=>[(12,.bx [⟨false,lI b.1.hT.fq⟩,⟨false,lE b.1.hT.jj⟩,⟨false,(eL 1 lI) b.1.og⟩]),(13,.bx [⟨false,lI b.2.fq⟩,⟨false,lI b.2.jj⟩]),(37,.tv (eI c))]:=⟨⟩;exact nz)
instance qT(c:Int):Ct prog (F3 c) 77 [Ng c] (fun r=>.sh (eB r)):=Fj f77 0x9fee [] [.tmp 2] (h:=fun r h a b=>by
  unfold F3 at h;exact nz)
instance pW(a:ByteArray):Ct prog (Co a) 36 [eS a] (fun r=>.tp [(eL 3 Gc) r.1,eI r.2.1,eI r.2.2]):=Fj f36 0x6b82020501710003710003d80d30020348034718466a020b09087100060b0908710006d80d0530610d3076f401850b0176f430616b116c96ff7100310d3f309f017100310d556ef778017100310d785505551253b40c0171000381f476f4850c6a03409a [.call 76 [.s 44,.c (.sE 77 [])]] [.tmp 2,.tmp 3,.tmp 4] (h:=fun r h d e=>by
  unfold Co at h;have:HW 0 fun(b:ByteArray×List AY×Int)=>[(0,.tv (eS b.1)),(5,.ow ((eL 3 Gc) b.2.1)),(6,.tv (eI b.2.2))]:=⟨⟩;exact nz)
instance pY(d:AE)(a:Int)(b:ByteArray):Ct prog (Ah d a b) 38 [.pt (Nh d).cells,eI a,eS b] (fun r=>.sh (eB r)):=Fj f38 0xd60a0601920343316201d3303ff7016d0343316201d3f70bd3013162785b623002bb [.bin (.s) .eql (.s 40) (.c (.str ⟨#[]⟩))] [.tmp 6] (h:=fun r h e f=>by
  unfold Ah at h;exact nz)
noncomputable def VL:PC:=PC.of NI f39.body (xq bT 0x5f013ca70362a70262fd03432d74d3323189d332013232855b895f02) []
theorem kG:CK f39 VL []:=by decide +kernel
theorem kT:PC.rQ VL=true/\PC.rM 0 VL=true:=by decide +kernel
instance pZ(a:AE)(e:Int):Ct prog (A6 a e) 39 [.undef,eI e] (fun r=>.bo (BZ a) (BZ r) 0 []):=PI kG kT fun r h d c f=>by
  unfold VL;unfold f39;unfold A6 at h;have:HJ 8 fun(b:AE)=>[(0,.bx (BZ b))]:=⟨⟩;exact nz
noncomputable def VM:PC:=PC.of NI f40.body (xq bT 0x81920343053189d332a70162053189ffbff932882030323f02bb) [.mv (.c (.str ⟨#[]⟩)),.mv (.c (.str ⟨#[]⟩))]
theorem kH:CK f40 VM [.tmp 6]:=by decide +kernel
theorem kU:PC.rQ VM=true/\PC.rM 0 VM=true:=by decide +kernel
instance pf(c:AE)(a:Int)(b:ByteArray):Ct prog (Ai c a b) 40 [.undef,eI a,eS b] (fun r=>.bo (BZ c) (BZ r.2) 0 [eS r.1]):=PI kH kU fun r h e d f=>by
  unfold VM;unfold f40;unfold Ai at h;exact nz
instance qX(a:ByteArray):Ct prog (Dc a) 81 [eS a] (fun r=>.tp [eI r.1,eI r.2]):=Fj f81 0x6b010601121106be6f533f051278550106b4121106be818c55768855db00466a9a [.uF .i64 (.s 26)] [.tmp 2,.tmp 3] (h:=fun r h d e=>by
  unfold Dc at h;have:HA 0 18 17 0 fun(c:Int)(b:Int)=>[(6,.tv (eI b)),(18,.tv (eI c))]:=⟨⟩;exact nz)
noncomputable def VN:PC:=PC.of NI f41.body (xq bT 0x8130816c3f325f01) [.r7 40 [.s 6,.c (.int .i64 2),.c (.str ⟨#[]⟩)] 0]
theorem kI:CK f41 VN [.tmp 2]:=by decide +kernel
theorem kV:PC.rQ VN=true/\PC.rM 0 VN=true:=by decide +kernel
instance ph(a:AE):Ct prog (Ag a) 41 [.undef] (fun r=>.bo (BZ a) (BZ r.2) 0 [eI r.1]):=PI kI kV fun r h c b d=>by
  unfold VN;unfold f41;unfold Ag at h;exact nz
noncomputable def VO:PC:=PC.of NI f42.body (xq bT 0x82023f320775ffd2b53c02f605f932917702ed7702ed3cf9328a05de303f327702ed7702ed3c304a01620531898a3f3230810775ff8a083f32535b89d2b53f3201c0014002bb) [.r7 40 [.s 9,.c (.int .i64 4),.c (.str ⟨#[40]⟩)] 0,.r9 38 [.s 17,.c (.int .i64 4),.c (.str ⟨#[41]⟩)],.r9 38 [.s 23,.c (.int .i64 4),.c (.str ⟨#[45]⟩)],.r9 38 [.s 33,.c (.int .i64 2),.c (.str ⟨#[]⟩)],.r7 40 [.s 50,.c (.int .i64 4),.c (.str ⟨#[41]⟩)] 0]
theorem kJ:CK f42 VO [.tmp 6]:=by decide +kernel
theorem kW:PC.rQ VO=true/\PC.rM 0 VO=true:=by decide +kernel
instance pi(c:AE)(b:Int)(a:Bool):Ct prog (Aw c b a) 42 [.undef,eI b,eB a] (fun r=>.bo (BZ c) (BZ r.2) 0 [lI r.1]):=PI kJ kW fun r h f e g=>by
  unfold VO;unfold f42;unfold Aw at h;have:HW 0 fun(d:AE×Fp)=>[(0,.bx (BZ d.1)),(7,.ow (lI d.2))]:=⟨⟩;exact nz
instance o9(t:AB)(a:AM)(d:ByteArray):Ct prog (Dv t a d) 11 [AU t,CM a,eS d] (fun r=>.tp [BF r.1,eI r.2.1,eI r.2.2]):=Fj f11 0x6b9b9dff06013b6b9b5b62377362371246855b623733d00604ff33d00d713ca70342044804479df2423f37a70241b3f937a70162b3f937a73737b3f9379b15c91a46f9373f3733d00d7133d00d713cf9378a7484013f3733d00604ff8a055b6237530b0131623733d00d71045014c93ffc00c2bf194601769b3012cdef116c01769b0112cddb6538769b0112cddb383014c9640201 [.tD [none,none,none,none] (.s 50),.sF [.v (.s 53) 0 3,.v (.s 53) 1 3,.v (.s 53) 2 3,.z ⟨true,.list 4 []⟩],.r9 38 [.s 69,.c (.int .i64 1),.c (.str ⟨#[109,111,118,101]⟩)],.r7 40 [.s 79,.c (.int .i64 1),.c (.str ⟨#[109,111,118,101]⟩)] 0,.r7 40 [.s 98,.c (.int .i64 4),.c (.str ⟨#[59]⟩)] 0] [.cell 6 (some 4),.tmp 7,.tmp 8] (h:=fun r h e f=>by
  unfold Dv at h;have:HW 0 fun(b:AL×AE)=>[(17,.bx [⟨false,lI b.1.rn.hT.fq⟩,⟨false,lE b.1.rn.hT.jj⟩,⟨false,(eL 1 lI) b.1.rn.og⟩,⟨true,(eL 4 Dp) b.1.po⟩]),(51,.bx (BZ b.2))]:=⟨⟩;exact nz)
end Go.Sf.Sc
