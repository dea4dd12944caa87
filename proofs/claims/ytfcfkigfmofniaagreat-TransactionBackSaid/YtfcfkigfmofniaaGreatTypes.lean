/- The types of the program as Lean types. -/
import Derived.Test.YtfcfkigfmofniaaGreatSfK
import Derived.Test.YtfcfkigfmofniaaGreatSfStep
import Derived.Test.YtfcfkigfmofniaaGreatProg
set_option linter.all false
set_option maxRecDepth 100000
open Bool renaming false->T
namespace Go.Sf.Sc
open Go Go.Sf Go.Proofs.Tryz
def eI(n:Int):TV:=.int .i64 n
def HF(n:Int):TV:=.int .u8 n
def Ig(n:Int):TV:=.int .u64 n
def yR(n:Int):TV:=.int .i32 n
def yT(n:Int):TV:=.int .u32 n
def hU(n:Int):TV:=.int .i8 n
def yQ(n:Int):TV:=.int .i16 n
def yS(n:Int):TV:=.int .u16 n
def eB(b:Bool):TV:=.bool b
def eS(s:ByteArray):TV:=.str s
def eL{α:Type}(n:Nat)(e:α->TV)(l:List α):TV:=.list n (l.map e)
theorem Tryz_follows:Go.Proofs.Tryz.prog.follows .mixedOrders=true:=d_
structure Bo where
 kp:Int
 kq:Int
 To:Int
 deriving DecidableEq
def Bu(x:Bo):TV:=.agg [eI x.kp,eI x.kq,eI x.To]
structure d3 where
 ca:Fp
 ci:List Bo
 deriving DecidableEq
def Ah(x:d3):TV:=.agg [(eL 1 eI) x.ca,(eL 3 Bu) x.ci]
structure j4 where
 Var:Int
 Add:Int
 deriving DecidableEq
def Q7(x:j4):TV:=.agg [eI x.Var,eI x.Add]
structure Bw where
 po:Int
 mh:Int
 j4:j4
 deriving DecidableEq
def F7(x:Bw):TV:=.agg [eI x.po,eI x.mh,eI x.j4.Var,eI x.j4.Add]
structure Test where
 l3:Int
 kg:j4
 fq:j4
 deriving DecidableEq
def GP(x:Test):TV:=.agg [eI x.l3,eI x.kg.Var,eI x.kg.Add,eI x.fq.Var,eI x.fq.Add]
structure d7 where
 d3:d3
 ed:List Bw
 ff:Int
 mo:List Test
 deriving DecidableEq
def BB(x:d7):TV:=.agg [(eL 1 eI) x.d3.ca,(eL 3 Bu) x.d3.ci,(eL 4 F7) x.ed,eI x.ff,(eL 5 GP) x.mo]
structure BN where
 ca:Fp
 ci:Fp
 deriving DecidableEq
def Hk(x:BN):TV:=.agg [(eL 1 eI) x.ca,(eL 1 eI) x.ci]
structure d4 where
 ca:Fp
 ci:Fp
 deriving DecidableEq
def Ao(x:d4):TV:=.agg [(eL 1 eI) x.ca,(eL 1 eI) x.ci]
structure d5 where
 l3:Int
 gl:List d5
 Map:d4
 d7:d7
mutual
def VK:d5->TV
 |⟨y0,y1,y2,y3⟩=>.agg [eI y0,.list 9 (JA y1),(eL 1 eI) y2.ca,(eL 1 eI) y2.ci,(eL 1 eI) y3.d3.ca,(eL 3 Bu) y3.d3.ci,(eL 4 F7) y3.ed,eI y3.ff,(eL 5 GP) y3.mo]
def JA:List d5->Fq
 |[]=>[]|c::cs=>VK c::JA cs
end
def Ey(l:List d5):TV:=.list 9 (JA l)
def AI(x:d5):TV:=.agg [eI x.l3,Ey x.gl,(eL 1 eI) x.Map.ca,(eL 1 eI) x.Map.ci,(eL 1 eI) x.d7.d3.ca,(eL 3 Bu) x.d7.d3.ci,(eL 4 F7) x.d7.ed,eI x.d7.ff,(eL 5 GP) x.d7.mo]
theorem Xb(x:d5):VK x=AI x:=by
 cases x;rfl
theorem Lb:∀l:List d5,JA l=l.map AI
 |[]=>rfl|x::l=>by rw[JA,Xb,Lb l];rfl
theorem Q5(l:List d5):Ey l=.list 9 (l.map AI):=by rw[Ey,Lb]
structure gn where
 mt:ByteArray
 kg:d7
 fq:d7
 r0:BN
 pc:d4
 mr:Bool
 d5:d5
def BX(x:gn):TV:=.agg [eS x.mt,(eL 1 eI) x.kg.d3.ca,(eL 3 Bu) x.kg.d3.ci,(eL 4 F7) x.kg.ed,eI x.kg.ff,(eL 5 GP) x.kg.mo,(eL 1 eI) x.fq.d3.ca,(eL 3 Bu) x.fq.d3.ci,(eL 4 F7) x.fq.ed,eI x.fq.ff,(eL 5 GP) x.fq.mo,(eL 1 eI) x.r0.ca,(eL 1 eI) x.r0.ci,(eL 1 eI) x.pc.ca,(eL 1 eI) x.pc.ci,eB x.mr,eI x.d5.l3,Ey x.d5.gl,(eL 1 eI) x.d5.Map.ca,(eL 1 eI) x.d5.Map.ci,(eL 1 eI) x.d5.d7.d3.ca,(eL 3 Bu) x.d5.d7.d3.ci,(eL 4 F7) x.d5.d7.ed,eI x.d5.d7.ff,(eL 5 GP) x.d5.d7.mo]
structure AO where
 d4:d4
 ff:Fp
 deriving DecidableEq
def Bf(x:AO):TV:=.agg [(eL 1 eI) x.d4.ca,(eL 1 eI) x.d4.ci,(eL 1 eI) x.ff]
structure fl where
 d3:d3
 em:List Fp
 deriving DecidableEq
def Bk(x:fl):TV:=.agg [(eL 1 eI) x.d3.ca,(eL 3 Bu) x.d3.ci,(eL 1 (eL 1 eI)) x.em]
structure Ax where
 gn:gn
 n8:AO
 y5:fl
 sr:fl
 yv:d4
 yo:d4
def Na(x:Ax):TV:=.agg [eS x.gn.mt,(eL 1 eI) x.gn.kg.d3.ca,(eL 3 Bu) x.gn.kg.d3.ci,(eL 4 F7) x.gn.kg.ed,eI x.gn.kg.ff,(eL 5 GP) x.gn.kg.mo,(eL 1 eI) x.gn.fq.d3.ca,(eL 3 Bu) x.gn.fq.d3.ci,(eL 4 F7) x.gn.fq.ed,eI x.gn.fq.ff,(eL 5 GP) x.gn.fq.mo,(eL 1 eI) x.gn.r0.ca,(eL 1 eI) x.gn.r0.ci,(eL 1 eI) x.gn.pc.ca,(eL 1 eI) x.gn.pc.ci,eB x.gn.mr,eI x.gn.d5.l3,Ey x.gn.d5.gl,(eL 1 eI) x.gn.d5.Map.ca,(eL 1 eI) x.gn.d5.Map.ci,(eL 1 eI) x.gn.d5.d7.d3.ca,(eL 3 Bu) x.gn.d5.d7.d3.ci,(eL 4 F7) x.gn.d5.d7.ed,eI x.gn.d5.d7.ff,(eL 5 GP) x.gn.d5.d7.mo,(eL 1 eI) x.n8.d4.ca,(eL 1 eI) x.n8.d4.ci,(eL 1 eI) x.n8.ff,(eL 1 eI) x.y5.d3.ca,(eL 3 Bu) x.y5.d3.ci,(eL 1 (eL 1 eI)) x.y5.em,(eL 1 eI) x.sr.d3.ca,(eL 3 Bu) x.sr.d3.ci,(eL 1 (eL 1 eI)) x.sr.em,(eL 1 eI) x.yv.ca,(eL 1 eI) x.yv.ci,(eL 1 eI) x.yo.ca,(eL 1 eI) x.yo.ci]
def DJ(x:Ax):List AR:=[⟨T,eS x.gn.mt⟩,⟨T,(eL 1 eI) x.gn.kg.d3.ca⟩,⟨T,(eL 3 Bu) x.gn.kg.d3.ci⟩,⟨T,(eL 4 F7) x.gn.kg.ed⟩,⟨T,eI x.gn.kg.ff⟩,⟨T,(eL 5 GP) x.gn.kg.mo⟩,⟨T,(eL 1 eI) x.gn.fq.d3.ca⟩,⟨T,(eL 3 Bu) x.gn.fq.d3.ci⟩,⟨T,(eL 4 F7) x.gn.fq.ed⟩,⟨T,eI x.gn.fq.ff⟩,⟨T,(eL 5 GP) x.gn.fq.mo⟩,⟨T,(eL 1 eI) x.gn.r0.ca⟩,⟨T,(eL 1 eI) x.gn.r0.ci⟩,⟨T,(eL 1 eI) x.gn.pc.ca⟩,⟨T,(eL 1 eI) x.gn.pc.ci⟩,⟨T,eB x.gn.mr⟩,⟨T,eI x.gn.d5.l3⟩,⟨T,Ey x.gn.d5.gl⟩,⟨T,(eL 1 eI) x.gn.d5.Map.ca⟩,⟨T,(eL 1 eI) x.gn.d5.Map.ci⟩,⟨T,(eL 1 eI) x.gn.d5.d7.d3.ca⟩,⟨T,(eL 3 Bu) x.gn.d5.d7.d3.ci⟩,⟨T,(eL 4 F7) x.gn.d5.d7.ed⟩,⟨T,eI x.gn.d5.d7.ff⟩,⟨T,(eL 5 GP) x.gn.d5.d7.mo⟩,⟨T,(eL 1 eI) x.n8.d4.ca⟩,⟨T,(eL 1 eI) x.n8.d4.ci⟩,⟨T,(eL 1 eI) x.n8.ff⟩,⟨T,(eL 1 eI) x.y5.d3.ca⟩,⟨T,(eL 3 Bu) x.y5.d3.ci⟩,⟨T,(eL 1 (eL 1 eI)) x.y5.em⟩,⟨true,(eL 1 eI) x.sr.d3.ca⟩,⟨true,(eL 3 Bu) x.sr.d3.ci⟩,⟨true,.xn (List.map (eL 1 eI) x.sr.em)⟩,⟨T,(eL 1 eI) x.yv.ca⟩,⟨T,(eL 1 eI) x.yv.ci⟩,⟨T,(eL 1 eI) x.yo.ca⟩,⟨T,(eL 1 eI) x.yo.ci⟩]
structure mh where
 mt:ByteArray
 zu:Int
 yr:Int
 sc:List ByteArray
 deriving DecidableEq
def IF(x:mh):TV:=.agg [eS x.mt,eI x.zu,eI x.yr,(eL 1 eS) x.sc]
structure BD where
 mt:ByteArray
 x6:Int
 tg:Bool
 qo:List mh
 deriving DecidableEq
def Gq(x:BD):TV:=.agg [eS x.mt,eI x.x6,eB x.tg,(eL 4 IF) x.qo]
structure CI where
 mt:ByteArray
 kq:Int
 To:Int
 zV:Int
 zx:Int
 Aao:Int
 zU:Int
 deriving DecidableEq
def IG(x:CI):TV:=.agg [eS x.mt,eI x.kq,eI x.To,eI x.zV,eI x.zx,eI x.Aao,eI x.zU]
structure eb where
 ca:List BD
 ci:List CI
 deriving DecidableEq
def AJ(x:eb):TV:=.agg [(eL 4 Gq) x.ca,(eL 7 IG) x.ci]
structure Ae where
 t:eb
 p:d3
 g:d3
 gp:d4
 f0:Bool
 tc:Int
 zc:List d4
 deriving DecidableEq
def TD(x:Ae):TV:=.agg [(eL 4 Gq) x.t.ca,(eL 7 IG) x.t.ci,(eL 1 eI) x.p.ca,(eL 3 Bu) x.p.ci,(eL 1 eI) x.g.ca,(eL 3 Bu) x.g.ci,(eL 1 eI) x.gp.ca,(eL 1 eI) x.gp.ci,eB x.f0,eI x.tc,(eL 2 Ao) x.zc]
def Bp(x:Ae):List AR:=[⟨T,(eL 4 Gq) x.t.ca⟩,⟨T,(eL 7 IG) x.t.ci⟩,⟨T,(eL 1 eI) x.p.ca⟩,⟨T,(eL 3 Bu) x.p.ci⟩,⟨T,(eL 1 eI) x.g.ca⟩,⟨T,(eL 3 Bu) x.g.ci⟩,⟨T,(eL 1 eI) x.gp.ca⟩,⟨T,(eL 1 eI) x.gp.ci⟩,⟨T,eB x.f0⟩,⟨T,eI x.tc⟩,⟨true,(eL 2 Ao) x.zc⟩]
structure AM where
 p:d3
 g:d3
 is:List a6
 gp:d4
 f0:Bool
 tc:Int
 ea:Fp
 ec:Fp
 out:List d4
 deriving DecidableEq
def Rv(x:AM):TV:=.agg [(eL 1 eI) x.p.ca,(eL 3 Bu) x.p.ci,(eL 1 eI) x.g.ca,(eL 3 Bu) x.g.ci,(eL 1 (eL 1 eB)) x.is,(eL 1 eI) x.gp.ca,(eL 1 eI) x.gp.ci,eB x.f0,eI x.tc,(eL 1 eI) x.ea,(eL 1 eI) x.ec,(eL 2 Ao) x.out]
def Cm(x:AM):List AR:=[⟨T,(eL 1 eI) x.p.ca⟩,⟨T,(eL 3 Bu) x.p.ci⟩,⟨T,(eL 1 eI) x.g.ca⟩,⟨T,(eL 3 Bu) x.g.ci⟩,⟨T,(eL 1 (eL 1 eB)) x.is⟩,⟨T,(eL 1 eI) x.gp.ca⟩,⟨T,(eL 1 eI) x.gp.ci⟩,⟨T,eB x.f0⟩,⟨T,eI x.tc⟩,⟨true,.xl 1 (List.map eI x.ea)⟩,⟨true,.xl 1 (List.map eI x.ec)⟩,⟨true,(eL 2 Ao) x.out⟩]
structure pq where
 gn:Int
 n8:AO
 deriving DecidableEq
def EK(x:pq):TV:=.agg [eI x.gn,(eL 1 eI) x.n8.d4.ca,(eL 1 eI) x.n8.d4.ci,(eL 1 eI) x.n8.ff]
structure AS where
 hV:fl
 gt:List pq
 deriving DecidableEq
def Du(x:AS):TV:=.agg [(eL 1 eI) x.hV.d3.ca,(eL 3 Bu) x.hV.d3.ci,(eL 1 (eL 1 eI)) x.hV.em,(eL 4 EK) x.gt]
structure AG where
 ei:AS
 fd:Fp
 deriving DecidableEq
def Ba(x:AG):TV:=.agg [(eL 1 eI) x.ei.hV.d3.ca,(eL 3 Bu) x.ei.hV.d3.ci,(eL 1 (eL 1 eI)) x.ei.hV.em,(eL 4 EK) x.ei.gt,(eL 1 eI) x.fd]
structure F6 where
 l3:Int
 AaW:ByteArray
 Line:Int
 deriving DecidableEq
def WT(x:F6):TV:=.agg [eI x.l3,eS x.AaW,eI x.Line]
structure Cb where
 l:d3
 g:d3
 fu:BN
 m:d4
 deriving DecidableEq
def IH(x:Cb):TV:=.agg [(eL 1 eI) x.l.ca,(eL 3 Bu) x.l.ci,(eL 1 eI) x.g.ca,(eL 3 Bu) x.g.ci,(eL 1 eI) x.fu.ca,(eL 1 eI) x.fu.ci,(eL 1 eI) x.m.ca,(eL 1 eI) x.m.ci]
structure Ie where
 A:Int
 B:Int
 deriving DecidableEq
def Q6(x:Ie):TV:=.agg [eI x.A,eI x.B]
structure BI where
 t:eb
 h:fl
 f0:Bool
 deriving DecidableEq
def CJ(x:BI):TV:=.agg [(eL 4 Gq) x.t.ca,(eL 7 IG) x.t.ci,(eL 1 eI) x.h.d3.ca,(eL 3 Bu) x.h.d3.ci,(eL 1 (eL 1 eI)) x.h.em,eB x.f0]
structure A1 where
 zg:Int
 n8:AO
 gl:List A1
mutual
def cv:A1->TV
 |⟨y0,y1,y2⟩=>.agg [eI y0,(eL 1 eI) y1.d4.ca,(eL 1 eI) y1.d4.ci,(eL 1 eI) y1.ff,.list 5 (Oa y2)]
def Oa:List A1->Fq
 |[]=>[]|c::cs=>cv c::Oa cs
end
def Hr(l:List A1):TV:=.list 5 (Oa l)
def EO(x:A1):TV:=.agg [eI x.zg,(eL 1 eI) x.n8.d4.ca,(eL 1 eI) x.n8.d4.ci,(eL 1 eI) x.n8.ff,Hr x.gl]
theorem eZ(x:A1):cv x=EO x:=by
 cases x;rfl
theorem SQ:∀l:List A1,Oa l=l.map EO
 |[]=>rfl|x::l=>by rw[Oa,eZ,SQ l];rfl
theorem cF(l:List A1):Hr l=.list 5 (l.map EO):=by rw[Hr,SQ]
structure Bi where
 l3:Int
 pq:pq
 deriving DecidableEq
def Rt(x:Bi):TV:=.agg [eI x.l3,eI x.pq.gn,(eL 1 eI) x.pq.n8.d4.ca,(eL 1 eI) x.pq.n8.d4.ci,(eL 1 eI) x.pq.n8.ff]
structure DF where
 a0:Int
 a1:Int
 deriving DecidableEq
def EC(x:DF):TV:=.agg [HF x.a0,HF x.a1]
structure I1 where
 a0:Int
 a1:Int
 a2:Int
 deriving DecidableEq
def Fx(x:I1):TV:=.agg [HF x.a0,HF x.a1,HF x.a2]
structure Gt where
 ca:Fp
 ci:List I1
 deriving DecidableEq
def Nc(x:Gt):TV:=.agg [(eL 1 HF) x.ca,(eL 3 Fx) x.ci]
structure Rj where
 a0:Int
 a1:Int
 a2:Int
 a3:Int
 deriving DecidableEq
def Qj(x:Rj):TV:=.agg [hU x.a0,hU x.a1,hU x.a2,hU x.a3]
structure Jb where
 a0:Int
 a1:Int
 deriving DecidableEq
def YB(x:Jb):TV:=.agg [eI x.a0,eI x.a1]
structure KO where
 d3:Gt
 ed:List I1
 mo:List Rj
 deriving DecidableEq
def T4(x:KO):TV:=.agg [(eL 1 HF) x.d3.ca,(eL 3 Fx) x.d3.ci,(eL 3 Fx) x.ed,(eL 4 Qj) x.mo]
structure Ur where
 a0:Int
 a1:Int
 a2:Int
 a3:Int
 deriving DecidableEq
def Z3(x:Ur):TV:=.agg [HF x.a0,HF x.a1,HF x.a2,HF x.a3]
structure E1 where
 kg:KO
 r0:Int
 ca:Fp
 ci:List I1
 ed:List I1
 Plain:Bool
 mr:Bool
 zl:Ur
 AaC:Fp
 deriving DecidableEq
def JB(x:E1):TV:=.agg [(eL 1 HF) x.kg.d3.ca,(eL 3 Fx) x.kg.d3.ci,(eL 3 Fx) x.kg.ed,(eL 4 Qj) x.kg.mo,Ig x.r0,(eL 1 HF) x.ca,(eL 3 Fx) x.ci,(eL 3 Fx) x.ed,eB x.Plain,eB x.mr,HF x.zl.a0,HF x.zl.a1,HF x.zl.a2,HF x.zl.a3,(eL 1 HF) x.AaC]
structure KM where
 ca:List DF
 ci:List I1
 deriving DecidableEq
def T3(x:KM):TV:=.agg [(eL 2 EC) x.ca,(eL 3 Fx) x.ci]
structure E2 where
 eb:List DF
 Aa9:List DF
 yq:List E1
 fl:KM
 deriving DecidableEq
def HH(x:E2):TV:=.agg [(eL 2 EC) x.eb,(eL 2 EC) x.Aa9,(eL 15 JB) x.yq,(eL 2 EC) x.fl.ca,(eL 3 Fx) x.fl.ci]
abbrev lI:Fp->TV:=eL 1 eI
abbrev lE:List Bo->TV:=eL 3 Bu
abbrev lS:List Bw->TV:=eL 4 F7
abbrev lT:List Test->TV:=eL 5 GP
abbrev lN:List BD->TV:=eL 4 Gq
abbrev lX:List CI->TV:=eL 7 IG
abbrev lA:List mh->TV:=eL 4 IF
abbrev lB:List ByteArray->TV:=eL 1 eS
theorem ke(a b:Bo):B1 (TV.cells (Bu a)) (TV.cells (Bu b))=some (decide (a=b)):=by
 rcases a with⟨a0,a1,a2⟩;rcases b with⟨b0,b1,b2⟩;simp[Bu,TV.cells,B1,eI,Bool.and_assoc,Bo.mk.injEq]
end Go.Sf.Sc
