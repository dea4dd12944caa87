/- The types of the program as Lean types. -/
import Derived.Test.YtbgedoajacpdbaaGreatDoorSfK
import Derived.Test.YtbgedoajacpdbaaGreatDoorSfStep
import Derived.Test.YtbgedoajacpdbaaGreatDoorProg
set_option linter.all false
set_option maxRecDepth 100000
namespace Go.Sf.Sc
open Go Go.Sf Go.Proofs.Tryz
def eI(n:Int):TV:=.int .i64 n
def UD(n:Int):TV:=.int .u8 n
def JY(n:Int):TV:=.int .u64 n
def AAH(n:Int):TV:=.int .i32 n
def AAJ(n:Int):TV:=.int .u32 n
def eI8(n:Int):TV:=.int .i8 n
def AAG(n:Int):TV:=.int .i16 n
def AAI(n:Int):TV:=.int .u16 n
def eB(b:Bool):TV:=.bool b
def eS(s:ByteArray):TV:=.str s
def eL{α:Type}(n:Nat)(e:α->TV)(l:List α):TV:=.list n (l.map e)
theorem Tryz_follows:Go.Proofs.Tryz.prog.follows .mixedOrders=true:=by decide +kernel
structure Bj where
 kp:Int
 kq:Int
 To:Int
 deriving DecidableEq
def Bs(x:Bj):TV:=.agg [eI x.kp,eI x.kq,eI x.To]
structure d5 where
 d3:Fp
 d4:List Bj
 deriving DecidableEq
def Ak(x:d5):TV:=.agg [(eL 1 eI) x.d3,(eL 3 Bs) x.d4]
structure j0 where
 Var:Int
 Add:Int
 deriving DecidableEq
def OF(x:j0):TV:=.agg [eI x.Var,eI x.Add]
structure CT where
 sx:Int
 kl:Int
 j0:j0
 deriving DecidableEq
def FZ(x:CT):TV:=.agg [eI x.sx,eI x.kl,eI x.j0.Var,eI x.j0.Add]
structure Test where
 mo:Int
 kg:j0
 fd:j0
 deriving DecidableEq
def GM(x:Test):TV:=.agg [eI x.mo,eI x.kg.Var,eI x.kg.Add,eI x.fd.Var,eI x.fd.Add]
structure ec where
 d5:d5
 fq:List CT
 hT:Int
 pq:List Test
 deriving DecidableEq
def A7(x:ec):TV:=.agg [(eL 1 eI) x.d5.d3,(eL 3 Bs) x.d5.d4,(eL 4 FZ) x.fq,eI x.hT,(eL 5 GM) x.pq]
structure BA where
 d3:Fp
 d4:Fp
 deriving DecidableEq
def GL(x:BA):TV:=.agg [(eL 1 eI) x.d3,(eL 1 eI) x.d4]
structure d6 where
 d3:Fp
 d4:Fp
 deriving DecidableEq
def Ao(x:d6):TV:=.agg [(eL 1 eI) x.d3,(eL 1 eI) x.d4]
structure d7 where
 mo:Int
 gp:List d7
 Map:d6
 ec:ec
mutual
def S3:d7->TV
 |⟨y0,y1,y2,y3⟩=>.agg [eI y0,.list 9 (IM y1),(eL 1 eI) y2.d3,(eL 1 eI) y2.d4,(eL 1 eI) y3.d5.d3,(eL 3 Bs) y3.d5.d4,(eL 4 FZ) y3.fq,eI y3.hT,(eL 5 GM) y3.pq]
def IM:List d7->Fq
 |[]=>[]|c::cs=>S3 c::IM cs
end
def EC(l:List d7):TV:=.list 9 (IM l)
def AK(x:d7):TV:=.agg [eI x.mo,EC x.gp,(eL 1 eI) x.Map.d3,(eL 1 eI) x.Map.d4,(eL 1 eI) x.ec.d5.d3,(eL 3 Bs) x.ec.d5.d4,(eL 4 FZ) x.ec.fq,eI x.ec.hT,(eL 5 GM) x.ec.pq]
theorem U7(x:d7):S3 x=AK x:=by
 cases x;rfl
theorem Mq:∀l:List d7,IM l=l.map AK
 |[]=>rfl|x::l=>by rw[IM,U7,Mq l];rfl
theorem L4(l:List d7):EC l=.list 9 (l.map AK):=by rw[EC,Mq]
structure gt where
 o4:ByteArray
 kg:ec
 fd:ec
 x3:BA
 sc:d6
 ns:Bool
 d7:d7
def B1(x:gt):TV:=.agg [eS x.o4,(eL 1 eI) x.kg.d5.d3,(eL 3 Bs) x.kg.d5.d4,(eL 4 FZ) x.kg.fq,eI x.kg.hT,(eL 5 GM) x.kg.pq,(eL 1 eI) x.fd.d5.d3,(eL 3 Bs) x.fd.d5.d4,(eL 4 FZ) x.fd.fq,eI x.fd.hT,(eL 5 GM) x.fd.pq,(eL 1 eI) x.x3.d3,(eL 1 eI) x.x3.d4,(eL 1 eI) x.sc.d3,(eL 1 eI) x.sc.d4,eB x.ns,eI x.d7.mo,EC x.d7.gp,(eL 1 eI) x.d7.Map.d3,(eL 1 eI) x.d7.Map.d4,(eL 1 eI) x.d7.ec.d5.d3,(eL 3 Bs) x.d7.ec.d5.d4,(eL 4 FZ) x.d7.ec.fq,eI x.d7.ec.hT,(eL 5 GM) x.d7.ec.pq]
structure AL where
 d6:d6
 hT:Fp
 deriving DecidableEq
def BU(x:AL):TV:=.agg [(eL 1 eI) x.d6.d3,(eL 1 eI) x.d6.d4,(eL 1 eI) x.hT]
structure AG where
 d5:d5
 gn:List Fp
 deriving DecidableEq
def BX(x:AG):TV:=.agg [(eL 1 eI) x.d5.d3,(eL 3 Bs) x.d5.d4,(eL 1 (eL 1 eI)) x.gn]
structure A2 where
 gt:gt
 og:AL
 Aar:AG
 wi:AG
 AaA:d6
 Aal:d6
def On(x:A2):TV:=.agg [eS x.gt.o4,(eL 1 eI) x.gt.kg.d5.d3,(eL 3 Bs) x.gt.kg.d5.d4,(eL 4 FZ) x.gt.kg.fq,eI x.gt.kg.hT,(eL 5 GM) x.gt.kg.pq,(eL 1 eI) x.gt.fd.d5.d3,(eL 3 Bs) x.gt.fd.d5.d4,(eL 4 FZ) x.gt.fd.fq,eI x.gt.fd.hT,(eL 5 GM) x.gt.fd.pq,(eL 1 eI) x.gt.x3.d3,(eL 1 eI) x.gt.x3.d4,(eL 1 eI) x.gt.sc.d3,(eL 1 eI) x.gt.sc.d4,eB x.gt.ns,eI x.gt.d7.mo,EC x.gt.d7.gp,(eL 1 eI) x.gt.d7.Map.d3,(eL 1 eI) x.gt.d7.Map.d4,(eL 1 eI) x.gt.d7.ec.d5.d3,(eL 3 Bs) x.gt.d7.ec.d5.d4,(eL 4 FZ) x.gt.d7.ec.fq,eI x.gt.d7.ec.hT,(eL 5 GM) x.gt.d7.ec.pq,(eL 1 eI) x.og.d6.d3,(eL 1 eI) x.og.d6.d4,(eL 1 eI) x.og.hT,(eL 1 eI) x.Aar.d5.d3,(eL 3 Bs) x.Aar.d5.d4,(eL 1 (eL 1 eI)) x.Aar.gn,(eL 1 eI) x.wi.d5.d3,(eL 3 Bs) x.wi.d5.d4,(eL 1 (eL 1 eI)) x.wi.gn,(eL 1 eI) x.AaA.d3,(eL 1 eI) x.AaA.d4,(eL 1 eI) x.Aal.d3,(eL 1 eI) x.Aal.d4]
def DD(x:A2):List AQ:=[⟨false,eS x.gt.o4⟩,⟨false,(eL 1 eI) x.gt.kg.d5.d3⟩,⟨false,(eL 3 Bs) x.gt.kg.d5.d4⟩,⟨false,(eL 4 FZ) x.gt.kg.fq⟩,⟨false,eI x.gt.kg.hT⟩,⟨false,(eL 5 GM) x.gt.kg.pq⟩,⟨false,(eL 1 eI) x.gt.fd.d5.d3⟩,⟨false,(eL 3 Bs) x.gt.fd.d5.d4⟩,⟨false,(eL 4 FZ) x.gt.fd.fq⟩,⟨false,eI x.gt.fd.hT⟩,⟨false,(eL 5 GM) x.gt.fd.pq⟩,⟨false,(eL 1 eI) x.gt.x3.d3⟩,⟨false,(eL 1 eI) x.gt.x3.d4⟩,⟨false,(eL 1 eI) x.gt.sc.d3⟩,⟨false,(eL 1 eI) x.gt.sc.d4⟩,⟨false,eB x.gt.ns⟩,⟨false,eI x.gt.d7.mo⟩,⟨false,EC x.gt.d7.gp⟩,⟨false,(eL 1 eI) x.gt.d7.Map.d3⟩,⟨false,(eL 1 eI) x.gt.d7.Map.d4⟩,⟨false,(eL 1 eI) x.gt.d7.ec.d5.d3⟩,⟨false,(eL 3 Bs) x.gt.d7.ec.d5.d4⟩,⟨false,(eL 4 FZ) x.gt.d7.ec.fq⟩,⟨false,eI x.gt.d7.ec.hT⟩,⟨false,(eL 5 GM) x.gt.d7.ec.pq⟩,⟨false,(eL 1 eI) x.og.d6.d3⟩,⟨false,(eL 1 eI) x.og.d6.d4⟩,⟨false,(eL 1 eI) x.og.hT⟩,⟨false,(eL 1 eI) x.Aar.d5.d3⟩,⟨false,(eL 3 Bs) x.Aar.d5.d4⟩,⟨false,(eL 1 (eL 1 eI)) x.Aar.gn⟩,⟨true,(eL 1 eI) x.wi.d5.d3⟩,⟨true,(eL 3 Bs) x.wi.d5.d4⟩,⟨true,.xn (List.map (eL 1 eI) x.wi.gn)⟩,⟨false,(eL 1 eI) x.AaA.d3⟩,⟨false,(eL 1 eI) x.AaA.d4⟩,⟨false,(eL 1 eI) x.Aal.d3⟩,⟨false,(eL 1 eI) x.Aal.d4⟩]
structure kl where
 o4:ByteArray
 Low:Int
 AaD:Int
 up:List ByteArray
 deriving DecidableEq
def GK(x:kl):TV:=.agg [eS x.o4,eI x.Low,eI x.AaD,(eL 1 eS) x.up]
structure B0 where
 o4:ByteArray
 Aad:Int
 Aao:Bool
 tn:List kl
 deriving DecidableEq
def Eb(x:B0):TV:=.agg [eS x.o4,eI x.Aad,eB x.Aao,(eL 4 GK) x.tn]
structure B9 where
 o4:ByteArray
 kq:Int
 To:Int
 Abi:Int
 AaX:Int
 Abz:Int
 Abf:Int
 deriving DecidableEq
def FC(x:B9):TV:=.agg [eS x.o4,eI x.kq,eI x.To,eI x.Abi,eI x.AaX,eI x.Abz,eI x.Abf]
structure AC where
 d3:List B0
 d4:List B9
 deriving DecidableEq
def AP(x:AC):TV:=.agg [(eL 4 Eb) x.d3,(eL 7 FC) x.d4]
structure AX where
 t:AC
 p:d5
 g:d5
 fu:d6
 ej:Bool
 tc:Int
 Aax:List d6
 deriving DecidableEq
def RQ(x:AX):TV:=.agg [(eL 4 Eb) x.t.d3,(eL 7 FC) x.t.d4,(eL 1 eI) x.p.d3,(eL 3 Bs) x.p.d4,(eL 1 eI) x.g.d3,(eL 3 Bs) x.g.d4,(eL 1 eI) x.fu.d3,(eL 1 eI) x.fu.d4,eB x.ej,eI x.tc,(eL 2 Ao) x.Aax]
def Bg(x:AX):List AQ:=[⟨false,(eL 4 Eb) x.t.d3⟩,⟨false,(eL 7 FC) x.t.d4⟩,⟨false,(eL 1 eI) x.p.d3⟩,⟨false,(eL 3 Bs) x.p.d4⟩,⟨false,(eL 1 eI) x.g.d3⟩,⟨false,(eL 3 Bs) x.g.d4⟩,⟨false,(eL 1 eI) x.fu.d3⟩,⟨false,(eL 1 eI) x.fu.d4⟩,⟨false,eB x.ej⟩,⟨false,eI x.tc⟩,⟨true,(eL 2 Ao) x.Aax⟩]
structure Ka where
 d3:Option Fp
 d4:Option Fp
 deriving DecidableEq
def iu(x:Ka):TV:=.agg [(eO 1 eI) x.d3,(eO 1 eI) x.d4]
def Ka.of(m:d6):Ka:=⟨some m.d3,some m.d4⟩
instance:Coe d6 Ka:=⟨Ka.of⟩
structure AH where
 p:d5
 g:d5
 is:List a6
 fu:Ka
 ej:Bool
 tc:Int
 ei:Fp
 em:Fp
 out:List d6
 deriving DecidableEq
def P0(x:AH):TV:=.agg [(eL 1 eI) x.p.d3,(eL 3 Bs) x.p.d4,(eL 1 eI) x.g.d3,(eL 3 Bs) x.g.d4,(eL 1 (eL 1 eB)) x.is,(eO 1 eI) x.fu.d3,(eO 1 eI) x.fu.d4,eB x.ej,eI x.tc,(eL 1 eI) x.ei,(eL 1 eI) x.em,(eL 2 Ao) x.out]
def Cd(x:AH):List AQ:=[⟨false,(eL 1 eI) x.p.d3⟩,⟨false,(eL 3 Bs) x.p.d4⟩,⟨false,(eL 1 eI) x.g.d3⟩,⟨false,(eL 3 Bs) x.g.d4⟩,⟨false,(eL 1 (eL 1 eB)) x.is⟩,⟨false,(eO 1 eI) x.fu.d3⟩,⟨false,(eO 1 eI) x.fu.d4⟩,⟨false,eB x.ej⟩,⟨false,eI x.tc⟩,⟨true,.xl 1 (List.map eI x.ei)⟩,⟨true,.xl 1 (List.map eI x.em)⟩,⟨true,(eL 2 Ao) x.out⟩]
structure EL where
 mo:Int
 AbU:ByteArray
 Line:Int
 deriving DecidableEq
def UC(x:EL):TV:=.agg [eI x.mo,eS x.AbU,eI x.Line]
structure Bc where
 l:d5
 g:d5
 hV:BA
 m:d6
 deriving DecidableEq
def HV(x:Bc):TV:=.agg [(eL 1 eI) x.l.d3,(eL 3 Bs) x.l.d4,(eL 1 eI) x.g.d3,(eL 3 Bs) x.g.d4,(eL 1 eI) x.hV.d3,(eL 1 eI) x.hV.d4,(eL 1 eI) x.m.d3,(eL 1 eI) x.m.d4]
structure F7 where
 A:Int
 B:Int
 deriving DecidableEq
def PD(x:F7):TV:=.agg [eI x.A,eI x.B]
structure An where
 t:AC
 h:AG
 ej:Bool
 deriving DecidableEq
def CF(x:An):TV:=.agg [(eL 4 Eb) x.t.d3,(eL 7 FC) x.t.d4,(eL 1 eI) x.h.d5.d3,(eL 3 Bs) x.h.d5.d4,(eL 1 (eL 1 eI)) x.h.gn,eB x.ej]
structure Ay where
 AaB:Int
 og:AL
 gp:List Ay
mutual
def ZM:Ay->TV
 |⟨y0,y1,y2⟩=>.agg [eI y0,(eL 1 eI) y1.d6.d3,(eL 1 eI) y1.d6.d4,(eL 1 eI) y1.hT,.list 5 (Mr y2)]
def Mr:List Ay->Fq
 |[]=>[]|c::cs=>ZM c::Mr cs
end
def G9(l:List Ay):TV:=.list 5 (Mr l)
def ED(x:Ay):TV:=.agg [eI x.AaB,(eL 1 eI) x.og.d6.d3,(eL 1 eI) x.og.d6.d4,(eL 1 eI) x.og.hT,G9 x.gp]
theorem aP(x:Ay):ZM x=ED x:=by
 cases x;rfl
theorem Qs:∀l:List Ay,Mr l=l.map ED
 |[]=>rfl|x::l=>by rw[Mr,aP,Qs l];rfl
theorem Yo(l:List Ay):G9 l=.list 5 (l.map ED):=by rw[G9,Qs]
structure Bq where
 gt:Int
 og:AL
 deriving DecidableEq
def D4(x:Bq):TV:=.agg [eI x.gt,(eL 1 eI) x.og.d6.d3,(eL 1 eI) x.og.d6.d4,(eL 1 eI) x.og.hT]
structure AZ where
 tl:AG
 qo:List Bq
 deriving DecidableEq
def DE(x:AZ):TV:=.agg [(eL 1 eI) x.tl.d5.d3,(eL 3 Bs) x.tl.d5.d4,(eL 1 (eL 1 eI)) x.tl.gn,(eL 4 D4) x.qo]
structure He where
 T:AC
 AbB:List gt
 D:AZ
def GV(x:He):TV:=.agg [(eL 4 Eb) x.T.d3,(eL 7 FC) x.T.d4,(eL 25 B1) x.AbB,(eL 1 eI) x.D.tl.d5.d3,(eL 3 Bs) x.D.tl.d5.d4,(eL 1 (eL 1 eI)) x.D.tl.gn,(eL 4 D4) x.D.qo]
abbrev lI:Fp->TV:=eL 1 eI
abbrev lE:List Bj->TV:=eL 3 Bs
abbrev lS:List CT->TV:=eL 4 FZ
abbrev lT:List Test->TV:=eL 5 GM
abbrev lN:List B0->TV:=eL 4 Eb
abbrev lX:List B9->TV:=eL 7 FC
abbrev lA:List kl->TV:=eL 4 GK
abbrev lB:List ByteArray->TV:=eL 1 eS
theorem fD(a b:Bj):Bz (TV.cells (Bs a)) (TV.cells (Bs b))=some (decide (a=b)):=by
 rcases a with⟨a0,a1,a2⟩;rcases b with⟨b0,b1,b2⟩;simp[Bs,TV.cells,Bz,eI,Bool.and_assoc,Bj.mk.injEq]
end Go.Sf.Sc
