/- The types of the program as Lean types. -/
import Derived.Test.YtfcfkigfmofniaaGreatSfK
import Derived.Test.YtfcfkigfmofniaaGreatSfStep
import Derived.Test.YtfcfkigfmofniaaGreatProg
set_option linter.all false
set_option maxRecDepth 100000
namespace Go.Sf.Sc
open Go Go.Sf Go.Proofs.Tryz
def eI(n:Int):TV:=.int .i64 n
def G9(n:Int):TV:=.int .u8 n
def IZ(n:Int):TV:=.int .u64 n
def yD(n:Int):TV:=.int .i32 n
def yF(n:Int):TV:=.int .u32 n
def gW(n:Int):TV:=.int .i8 n
def yC(n:Int):TV:=.int .i16 n
def yE(n:Int):TV:=.int .u16 n
def eB(b:Bool):TV:=.bool b
def eS(s:ByteArray):TV:=.str s
def eL{α:Type}(n:Nat)(e:α->TV)(l:List α):TV:=.list n (l.map e)
theorem Tryz_follows:Go.Proofs.Tryz.prog.follows .mixedOrders=true:=by decide +kernel
structure Bn where
 kl:Int
 kp:Int
 To:Int
 deriving DecidableEq
def Bu(x:Bn):TV:=.agg [eI x.kl,eI x.kp,eI x.To]
structure d3 where
 ca:Fp
 ci:List Bn
 deriving DecidableEq
def Ah(x:d3):TV:=.agg [(eL 1 eI) x.ca,(eL 3 Bu) x.ci]
structure jj where
 Var:Int
 Add:Int
 deriving DecidableEq
def Qy(x:jj):TV:=.agg [eI x.Var,eI x.Add]
structure Bw where
 pc:Int
 kq:Int
 jj:jj
 deriving DecidableEq
def F3(x:Bw):TV:=.agg [eI x.pc,eI x.kq,eI x.jj.Var,eI x.jj.Add]
structure Test where
 ll:Int
 j4:jj
 fl:jj
 deriving DecidableEq
def GN(x:Test):TV:=.agg [eI x.ll,eI x.j4.Var,eI x.j4.Add,eI x.fl.Var,eI x.fl.Add]
structure d7 where
 d3:d3
 ed:List Bw
 fd:Int
 mh:List Test
 deriving DecidableEq
def BB(x:d7):TV:=.agg [(eL 1 eI) x.d3.ca,(eL 3 Bu) x.d3.ci,(eL 4 F3) x.ed,eI x.fd,(eL 5 GN) x.mh]
structure BN where
 ca:Fp
 ci:Fp
 deriving DecidableEq
def Hh(x:BN):TV:=.agg [(eL 1 eI) x.ca,(eL 1 eI) x.ci]
structure d4 where
 ca:Fp
 ci:Fp
 deriving DecidableEq
def Aq(x:d4):TV:=.agg [(eL 1 eI) x.ca,(eL 1 eI) x.ci]
structure d5 where
 ll:Int
 fu:List d5
 Map:d4
 d7:d7
mutual
def VA:d5->TV
 |⟨y0,y1,y2,y3⟩=>.agg [eI y0,.list 9 (I7 y1),(eL 1 eI) y2.ca,(eL 1 eI) y2.ci,(eL 1 eI) y3.d3.ca,(eL 3 Bu) y3.d3.ci,(eL 4 F3) y3.ed,eI y3.fd,(eL 5 GN) y3.mh]
def I7:List d5->Fq
 |[]=>[]|c::cs=>VA c::I7 cs
end
def Er(l:List d5):TV:=.list 9 (I7 l)
def AI(x:d5):TV:=.agg [eI x.ll,Er x.fu,(eL 1 eI) x.Map.ca,(eL 1 eI) x.Map.ci,(eL 1 eI) x.d7.d3.ca,(eL 3 Bu) x.d7.d3.ci,(eL 4 F3) x.d7.ed,eI x.d7.fd,(eL 5 GN) x.d7.mh]
theorem XQ(x:d5):VA x=AI x:=by
 cases x;rfl
theorem LY:∀l:List d5,I7 l=l.map AI
 |[]=>rfl|x::l=>by rw[I7,XQ,LY l];rfl
theorem Qw(l:List d5):Er l=.list 9 (l.map AI):=by rw[Er,LY]
structure f0 where
 mr:ByteArray
 j4:d7
 fl:d7
 qo:BN
 o4:d4
 mo:Bool
 d5:d5
def BX(x:f0):TV:=.agg [eS x.mr,(eL 1 eI) x.j4.d3.ca,(eL 3 Bu) x.j4.d3.ci,(eL 4 F3) x.j4.ed,eI x.j4.fd,(eL 5 GN) x.j4.mh,(eL 1 eI) x.fl.d3.ca,(eL 3 Bu) x.fl.d3.ci,(eL 4 F3) x.fl.ed,eI x.fl.fd,(eL 5 GN) x.fl.mh,(eL 1 eI) x.qo.ca,(eL 1 eI) x.qo.ci,(eL 1 eI) x.o4.ca,(eL 1 eI) x.o4.ci,eB x.mo,eI x.d5.ll,Er x.d5.fu,(eL 1 eI) x.d5.Map.ca,(eL 1 eI) x.d5.Map.ci,(eL 1 eI) x.d5.d7.d3.ca,(eL 3 Bu) x.d5.d7.d3.ci,(eL 4 F3) x.d5.d7.ed,eI x.d5.d7.fd,(eL 5 GN) x.d5.d7.mh]
structure AO where
 d4:d4
 fd:Fp
 deriving DecidableEq
def Bb(x:AO):TV:=.agg [(eL 1 eI) x.d4.ca,(eL 1 eI) x.d4.ci,(eL 1 eI) x.fd]
structure ff where
 d3:d3
 ej:List Fp
 deriving DecidableEq
def Bi(x:ff):TV:=.agg [(eL 1 eI) x.d3.ca,(eL 3 Bu) x.d3.ci,(eL 1 (eL 1 eI)) x.ej]
structure Ax where
 f0:f0
 n8:AO
 yw:ff
 sc:ff
 yn:d4
 yk:d4
def NY(x:Ax):TV:=.agg [eS x.f0.mr,(eL 1 eI) x.f0.j4.d3.ca,(eL 3 Bu) x.f0.j4.d3.ci,(eL 4 F3) x.f0.j4.ed,eI x.f0.j4.fd,(eL 5 GN) x.f0.j4.mh,(eL 1 eI) x.f0.fl.d3.ca,(eL 3 Bu) x.f0.fl.d3.ci,(eL 4 F3) x.f0.fl.ed,eI x.f0.fl.fd,(eL 5 GN) x.f0.fl.mh,(eL 1 eI) x.f0.qo.ca,(eL 1 eI) x.f0.qo.ci,(eL 1 eI) x.f0.o4.ca,(eL 1 eI) x.f0.o4.ci,eB x.f0.mo,eI x.f0.d5.ll,Er x.f0.d5.fu,(eL 1 eI) x.f0.d5.Map.ca,(eL 1 eI) x.f0.d5.Map.ci,(eL 1 eI) x.f0.d5.d7.d3.ca,(eL 3 Bu) x.f0.d5.d7.d3.ci,(eL 4 F3) x.f0.d5.d7.ed,eI x.f0.d5.d7.fd,(eL 5 GN) x.f0.d5.d7.mh,(eL 1 eI) x.n8.d4.ca,(eL 1 eI) x.n8.d4.ci,(eL 1 eI) x.n8.fd,(eL 1 eI) x.yw.d3.ca,(eL 3 Bu) x.yw.d3.ci,(eL 1 (eL 1 eI)) x.yw.ej,(eL 1 eI) x.sc.d3.ca,(eL 3 Bu) x.sc.d3.ci,(eL 1 (eL 1 eI)) x.sc.ej,(eL 1 eI) x.yn.ca,(eL 1 eI) x.yn.ci,(eL 1 eI) x.yk.ca,(eL 1 eI) x.yk.ci]
def DI(x:Ax):List AR:=[⟨false,eS x.f0.mr⟩,⟨false,(eL 1 eI) x.f0.j4.d3.ca⟩,⟨false,(eL 3 Bu) x.f0.j4.d3.ci⟩,⟨false,(eL 4 F3) x.f0.j4.ed⟩,⟨false,eI x.f0.j4.fd⟩,⟨false,(eL 5 GN) x.f0.j4.mh⟩,⟨false,(eL 1 eI) x.f0.fl.d3.ca⟩,⟨false,(eL 3 Bu) x.f0.fl.d3.ci⟩,⟨false,(eL 4 F3) x.f0.fl.ed⟩,⟨false,eI x.f0.fl.fd⟩,⟨false,(eL 5 GN) x.f0.fl.mh⟩,⟨false,(eL 1 eI) x.f0.qo.ca⟩,⟨false,(eL 1 eI) x.f0.qo.ci⟩,⟨false,(eL 1 eI) x.f0.o4.ca⟩,⟨false,(eL 1 eI) x.f0.o4.ci⟩,⟨false,eB x.f0.mo⟩,⟨false,eI x.f0.d5.ll⟩,⟨false,Er x.f0.d5.fu⟩,⟨false,(eL 1 eI) x.f0.d5.Map.ca⟩,⟨false,(eL 1 eI) x.f0.d5.Map.ci⟩,⟨false,(eL 1 eI) x.f0.d5.d7.d3.ca⟩,⟨false,(eL 3 Bu) x.f0.d5.d7.d3.ci⟩,⟨false,(eL 4 F3) x.f0.d5.d7.ed⟩,⟨false,eI x.f0.d5.d7.fd⟩,⟨false,(eL 5 GN) x.f0.d5.d7.mh⟩,⟨false,(eL 1 eI) x.n8.d4.ca⟩,⟨false,(eL 1 eI) x.n8.d4.ci⟩,⟨false,(eL 1 eI) x.n8.fd⟩,⟨false,(eL 1 eI) x.yw.d3.ca⟩,⟨false,(eL 3 Bu) x.yw.d3.ci⟩,⟨false,(eL 1 (eL 1 eI)) x.yw.ej⟩,⟨true,(eL 1 eI) x.sc.d3.ca⟩,⟨true,(eL 3 Bu) x.sc.d3.ci⟩,⟨true,.xn (List.map (eL 1 eI) x.sc.ej)⟩,⟨false,(eL 1 eI) x.yn.ca⟩,⟨false,(eL 1 eI) x.yn.ci⟩,⟨false,(eL 1 eI) x.yk.ca⟩,⟨false,(eL 1 eI) x.yk.ci⟩]
structure kq where
 mr:ByteArray
 ze:Int
 yl:Int
 r0:List ByteArray
 deriving DecidableEq
def IA(x:kq):TV:=.agg [eS x.mr,eI x.ze,eI x.yl,(eL 1 eS) x.r0]
structure BD where
 mr:ByteArray
 x5:Int
 tc:Bool
 pr:List kq
 deriving DecidableEq
def Gn(x:BD):TV:=.agg [eS x.mr,eI x.x5,eB x.tc,(eL 4 IA) x.pr]
structure CI where
 mr:ByteArray
 kp:Int
 To:Int
 zF:Int
 zh:Int
 Aab:Int
 zC:Int
 deriving DecidableEq
def IB(x:CI):TV:=.agg [eS x.mr,eI x.kp,eI x.To,eI x.zF,eI x.zh,eI x.Aab,eI x.zC]
structure eb where
 ca:List BD
 ci:List CI
 deriving DecidableEq
def AJ(x:eb):TV:=.agg [(eL 4 Gn) x.ca,(eL 7 IB) x.ci]
structure Ae where
 t:eb
 p:d3
 g:d3
 gl:d4
 fq:Bool
 sx:Int
 yV:List d4
 deriving DecidableEq
def TU(x:Ae):TV:=.agg [(eL 4 Gn) x.t.ca,(eL 7 IB) x.t.ci,(eL 1 eI) x.p.ca,(eL 3 Bu) x.p.ci,(eL 1 eI) x.g.ca,(eL 3 Bu) x.g.ci,(eL 1 eI) x.gl.ca,(eL 1 eI) x.gl.ci,eB x.fq,eI x.sx,(eL 2 Aq) x.yV]
def Bo(x:Ae):List AR:=[⟨false,(eL 4 Gn) x.t.ca⟩,⟨false,(eL 7 IB) x.t.ci⟩,⟨false,(eL 1 eI) x.p.ca⟩,⟨false,(eL 3 Bu) x.p.ci⟩,⟨false,(eL 1 eI) x.g.ca⟩,⟨false,(eL 3 Bu) x.g.ci⟩,⟨false,(eL 1 eI) x.gl.ca⟩,⟨false,(eL 1 eI) x.gl.ci⟩,⟨false,eB x.fq⟩,⟨false,eI x.sx⟩,⟨true,(eL 2 Aq) x.yV⟩]
structure AM where
 p:d3
 g:d3
 is:List a6
 gl:d4
 fq:Bool
 sx:Int
 ea:Fp
 ec:Fp
 out:List d4
 deriving DecidableEq
def Ro(x:AM):TV:=.agg [(eL 1 eI) x.p.ca,(eL 3 Bu) x.p.ci,(eL 1 eI) x.g.ca,(eL 3 Bu) x.g.ci,(eL 1 (eL 1 eB)) x.is,(eL 1 eI) x.gl.ca,(eL 1 eI) x.gl.ci,eB x.fq,eI x.sx,(eL 1 eI) x.ea,(eL 1 eI) x.ec,(eL 2 Aq) x.out]
def Cm(x:AM):List AR:=[⟨false,(eL 1 eI) x.p.ca⟩,⟨false,(eL 3 Bu) x.p.ci⟩,⟨false,(eL 1 eI) x.g.ca⟩,⟨false,(eL 3 Bu) x.g.ci⟩,⟨false,(eL 1 (eL 1 eB)) x.is⟩,⟨false,(eL 1 eI) x.gl.ca⟩,⟨false,(eL 1 eI) x.gl.ci⟩,⟨false,eB x.fq⟩,⟨false,eI x.sx⟩,⟨true,.xl 1 (List.map eI x.ea)⟩,⟨true,.xl 1 (List.map eI x.ec)⟩,⟨true,(eL 2 Aq) x.out⟩]
structure po where
 f0:Int
 n8:AO
 deriving DecidableEq
def E3(x:po):TV:=.agg [eI x.f0,(eL 1 eI) x.n8.d4.ca,(eL 1 eI) x.n8.d4.ci,(eL 1 eI) x.n8.fd]
structure AS where
 hV:ff
 gn:List po
 deriving DecidableEq
def Ep(x:AS):TV:=.agg [(eL 1 eI) x.hV.d3.ca,(eL 3 Bu) x.hV.d3.ci,(eL 1 (eL 1 eI)) x.hV.ej,(eL 4 E3) x.gn]
structure AH where
 em:AS
 gp:Fp
 deriving DecidableEq
def Bk(x:AH):TV:=.agg [(eL 1 eI) x.em.hV.d3.ca,(eL 3 Bu) x.em.hV.d3.ci,(eL 1 (eL 1 eI)) x.em.hV.ej,(eL 4 E3) x.em.gn,(eL 1 eI) x.gp]
structure F2 where
 ll:Int
 AaK:ByteArray
 Line:Int
 deriving DecidableEq
def WG(x:F2):TV:=.agg [eI x.ll,eS x.AaK,eI x.Line]
structure Cb where
 l:d3
 g:d3
 fm:BN
 m:d4
 deriving DecidableEq
def IC(x:Cb):TV:=.agg [(eL 1 eI) x.l.ca,(eL 3 Bu) x.l.ci,(eL 1 eI) x.g.ca,(eL 3 Bu) x.g.ci,(eL 1 eI) x.fm.ca,(eL 1 eI) x.fm.ci,(eL 1 eI) x.m.ca,(eL 1 eI) x.m.ci]
structure IX where
 A:Int
 B:Int
 deriving DecidableEq
def Qx(x:IX):TV:=.agg [eI x.A,eI x.B]
structure BI where
 t:eb
 h:ff
 fq:Bool
 deriving DecidableEq
def CJ(x:BI):TV:=.agg [(eL 4 Gn) x.t.ca,(eL 7 IB) x.t.ci,(eL 1 eI) x.h.d3.ca,(eL 3 Bu) x.h.d3.ci,(eL 1 (eL 1 eI)) x.h.ej,eB x.fq]
structure A1 where
 yX:Int
 n8:AO
 fu:List A1
mutual
def cZ:A1->TV
 |⟨y0,y1,y2⟩=>.agg [eI y0,(eL 1 eI) y1.d4.ca,(eL 1 eI) y1.d4.ci,(eL 1 eI) y1.fd,.list 5 (OX y2)]
def OX:List A1->Fq
 |[]=>[]|c::cs=>cZ c::OX cs
end
def Hn(l:List A1):TV:=.list 5 (OX l)
def EI(x:A1):TV:=.agg [eI x.yX,(eL 1 eI) x.n8.d4.ca,(eL 1 eI) x.n8.d4.ci,(eL 1 eI) x.n8.fd,Hn x.fu]
theorem eD(x:A1):cZ x=EI x:=by
 cases x;rfl
theorem SO:∀l:List A1,OX l=l.map EI
 |[]=>rfl|x::l=>by rw[OX,eD,SO l];rfl
theorem bj(l:List A1):Hn l=.list 5 (l.map EI):=by rw[Hn,SO]
structure Bp where
 ll:Int
 po:po
 deriving DecidableEq
def Rm(x:Bp):TV:=.agg [eI x.ll,eI x.po.f0,(eL 1 eI) x.po.n8.d4.ca,(eL 1 eI) x.po.n8.d4.ci,(eL 1 eI) x.po.n8.fd]
structure EY where
 a0:Int
 a1:Int
 deriving DecidableEq
def Fo(x:EY):TV:=.agg [G9 x.a0,G9 x.a1]
structure Iw where
 a0:Int
 a1:Int
 a2:Int
 deriving DecidableEq
def Fr(x:Iw):TV:=.agg [G9 x.a0,G9 x.a1,G9 x.a2]
structure Gr where
 ca:Fp
 ci:List Iw
 deriving DecidableEq
def Na(x:Gr):TV:=.agg [(eL 1 G9) x.ca,(eL 3 Fr) x.ci]
structure Rd where
 a0:Int
 a1:Int
 a2:Int
 a3:Int
 deriving DecidableEq
def Qa(x:Rd):TV:=.agg [gW x.a0,gW x.a1,gW x.a2,gW x.a3]
structure JX where
 a0:Int
 a1:Int
 deriving DecidableEq
def X0(x:JX):TV:=.agg [eI x.a0,eI x.a1]
structure KK where
 d3:Gr
 ed:List Iw
 mh:List Rd
 deriving DecidableEq
def Tx(x:KK):TV:=.agg [(eL 1 G9) x.d3.ca,(eL 3 Fr) x.d3.ci,(eL 3 Fr) x.ed,(eL 4 Qa) x.mh]
structure Uh where
 a0:Int
 a1:Int
 a2:Int
 a3:Int
 deriving DecidableEq
def Zp(x:Uh):TV:=.agg [G9 x.a0,G9 x.a1,G9 x.a2,G9 x.a3]
structure Eu where
 j4:KK
 qo:Int
 ca:Fp
 ci:List Iw
 ed:List Iw
 Plain:Bool
 mo:Bool
 yY:Uh
 Aao:Fp
 deriving DecidableEq
def I8(x:Eu):TV:=.agg [(eL 1 G9) x.j4.d3.ca,(eL 3 Fr) x.j4.d3.ci,(eL 3 Fr) x.j4.ed,(eL 4 Qa) x.j4.mh,IZ x.qo,(eL 1 G9) x.ca,(eL 3 Fr) x.ci,(eL 3 Fr) x.ed,eB x.Plain,eB x.mo,G9 x.yY.a0,G9 x.yY.a1,G9 x.yY.a2,G9 x.yY.a3,(eL 1 G9) x.Aao]
structure KI where
 ca:List EY
 ci:List Iw
 deriving DecidableEq
def Tw(x:KI):TV:=.agg [(eL 2 Fo) x.ca,(eL 3 Fr) x.ci]
structure Ew where
 eb:List EY
 AaW:List EY
 yi:List Eu
 ff:KI
 deriving DecidableEq
def HC(x:Ew):TV:=.agg [(eL 2 Fo) x.eb,(eL 2 Fo) x.AaW,(eL 15 I8) x.yi,(eL 2 Fo) x.ff.ca,(eL 3 Fr) x.ff.ci]
abbrev lI:Fp->TV:=eL 1 eI
abbrev lE:List Bn->TV:=eL 3 Bu
abbrev lS:List Bw->TV:=eL 4 F3
abbrev lT:List Test->TV:=eL 5 GN
abbrev lN:List BD->TV:=eL 4 Gn
abbrev lX:List CI->TV:=eL 7 IB
abbrev lA:List kq->TV:=eL 4 IA
abbrev lB:List ByteArray->TV:=eL 1 eS
theorem kM(a b:Bn):B1 (TV.cells (Bu a)) (TV.cells (Bu b))=some (decide (a=b)):=by
 rcases a with⟨a0,a1,a2⟩;rcases b with⟨b0,b1,b2⟩;simp[Bu,TV.cells,B1,eI,Bool.and_assoc,Bn.mk.injEq]
end Go.Sf.Sc
