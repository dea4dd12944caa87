/- The types of the program as Lean types. -/
import Derived.Test.YtbgedoajacpdbaaGreatDoorSfK
import Derived.Test.YtbgedoajacpdbaaGreatDoorSfStep
import Derived.Test.YtbgedoajacpdbaaGreatDoorProg
set_option linter.all false
set_option maxRecDepth 100000
namespace Go.Sf.Sc
open Go Go.Sf Go.Proofs.Tryz
def eI(n:Int):TV:=.int .i64 n
def UD(n:Int):TV:=.int .u8 n
def JY(n:Int):TV:=.int .u64 n
def AAC(n:Int):TV:=.int .i32 n
def AAE(n:Int):TV:=.int .u32 n
def eI8(n:Int):TV:=.int .i8 n
def AAB(n:Int):TV:=.int .i16 n
def AAD(n:Int):TV:=.int .u16 n
def eB(b:Bool):TV:=.bool b
def eS(s:ByteArray):TV:=.str s
def eL{α:Type}(n:Nat)(e:α->TV)(l:List α):TV:=.list n (l.map e)
theorem Tryz_follows:Go.Proofs.Tryz.prog.follows .mixedOrders=true:=by decide +kernel
structure Bl where
 ne:Int
 ns:Int
 To:Int
 deriving DecidableEq
def Bs(x:Bl):TV:=.agg [eI x.ne,eI x.ns,eI x.To]
structure d4 where
 d3:Fp
 d5:List Bl
 deriving DecidableEq
def Am(x:d4):TV:=.agg [(eL 1 eI) x.d3,(eL 3 Bs) x.d5]
structure kg where
 Var:Int
 Add:Int
 deriving DecidableEq
def OA(x:kg):TV:=.agg [eI x.Var,eI x.Add]
structure CX where
 tg:Int
 mo:Int
 kg:kg
 deriving DecidableEq
def FT(x:CX):TV:=.agg [eI x.tg,eI x.mo,eI x.kg.Var,eI x.kg.Add]
structure Test where
 og:Int
 kq:kg
 fd:kg
 deriving DecidableEq
def GP(x:Test):TV:=.agg [eI x.og,eI x.kq.Var,eI x.kq.Add,eI x.fd.Var,eI x.fd.Add]
structure ec where
 d4:d4
 ff:List CX
 hV:Int
 sc:List Test
 deriving DecidableEq
def A9(x:ec):TV:=.agg [(eL 1 eI) x.d4.d3,(eL 3 Bs) x.d4.d5,(eL 4 FT) x.ff,eI x.hV,(eL 5 GP) x.sc]
structure BB where
 d3:Fp
 d5:Fp
 deriving DecidableEq
def GO(x:BB):TV:=.agg [(eL 1 eI) x.d3,(eL 1 eI) x.d5]
structure d6 where
 d3:Fp
 d5:Fp
 deriving DecidableEq
def Ap(x:d6):TV:=.agg [(eL 1 eI) x.d3,(eL 1 eI) x.d5]
structure d7 where
 og:Int
 hT:List d7
 Map:d6
 ec:ec
mutual
def S5:d7->TV
 |⟨y0,y1,y2,y3⟩=>.agg [eI y0,.list 9 (IN y1),(eL 1 eI) y2.d3,(eL 1 eI) y2.d5,(eL 1 eI) y3.d4.d3,(eL 3 Bs) y3.d4.d5,(eL 4 FT) y3.ff,eI y3.hV,(eL 5 GP) y3.sc]
def IN:List d7->Fq
 |[]=>[]|c::cs=>S5 c::IN cs
end
def EC(l:List d7):TV:=.list 9 (IN l)
def AK(x:d7):TV:=.agg [eI x.og,EC x.hT,(eL 1 eI) x.Map.d3,(eL 1 eI) x.Map.d5,(eL 1 eI) x.ec.d4.d3,(eL 3 Bs) x.ec.d4.d5,(eL 4 FT) x.ec.ff,eI x.ec.hV,(eL 5 GP) x.ec.sc]
theorem VB(x:d7):S5 x=AK x:=by
 cases x;rfl
theorem Mk:∀l:List d7,IN l=l.map AK
 |[]=>rfl|x::l=>by rw[IN,VB,Mk l];rfl
theorem Lx(l:List d7):EC l=.list 9 (l.map AK):=by rw[EC,Mk]
structure gp where
 po:ByteArray
 kq:ec
 fd:ec
 x4:BB
 sx:d6
 pq:Bool
 d7:d7
def Bx(x:gp):TV:=.agg [eS x.po,(eL 1 eI) x.kq.d4.d3,(eL 3 Bs) x.kq.d4.d5,(eL 4 FT) x.kq.ff,eI x.kq.hV,(eL 5 GP) x.kq.sc,(eL 1 eI) x.fd.d4.d3,(eL 3 Bs) x.fd.d4.d5,(eL 4 FT) x.fd.ff,eI x.fd.hV,(eL 5 GP) x.fd.sc,(eL 1 eI) x.x4.d3,(eL 1 eI) x.x4.d5,(eL 1 eI) x.sx.d3,(eL 1 eI) x.sx.d5,eB x.pq,eI x.d7.og,EC x.d7.hT,(eL 1 eI) x.d7.Map.d3,(eL 1 eI) x.d7.Map.d5,(eL 1 eI) x.d7.ec.d4.d3,(eL 3 Bs) x.d7.ec.d4.d5,(eL 4 FT) x.d7.ec.ff,eI x.d7.ec.hV,(eL 5 GP) x.d7.ec.sc]
structure AL where
 d6:d6
 hV:Fp
 deriving DecidableEq
def BU(x:AL):TV:=.agg [(eL 1 eI) x.d6.d3,(eL 1 eI) x.d6.d5,(eL 1 eI) x.hV]
structure AG where
 d4:d4
 fq:List Fp
 deriving DecidableEq
def Be(x:AG):TV:=.agg [(eL 1 eI) x.d4.d3,(eL 3 Bs) x.d4.d5,(eL 1 (eL 1 eI)) x.fq]
structure Ar where
 gp:gp
 o3:AL
 Aat:AG
 tn:AG
 Aan:d6
 Aal:d6
def Lw(x:Ar):TV:=.agg [eS x.gp.po,(eL 1 eI) x.gp.kq.d4.d3,(eL 3 Bs) x.gp.kq.d4.d5,(eL 4 FT) x.gp.kq.ff,eI x.gp.kq.hV,(eL 5 GP) x.gp.kq.sc,(eL 1 eI) x.gp.fd.d4.d3,(eL 3 Bs) x.gp.fd.d4.d5,(eL 4 FT) x.gp.fd.ff,eI x.gp.fd.hV,(eL 5 GP) x.gp.fd.sc,(eL 1 eI) x.gp.x4.d3,(eL 1 eI) x.gp.x4.d5,(eL 1 eI) x.gp.sx.d3,(eL 1 eI) x.gp.sx.d5,eB x.gp.pq,eI x.gp.d7.og,EC x.gp.d7.hT,(eL 1 eI) x.gp.d7.Map.d3,(eL 1 eI) x.gp.d7.Map.d5,(eL 1 eI) x.gp.d7.ec.d4.d3,(eL 3 Bs) x.gp.d7.ec.d4.d5,(eL 4 FT) x.gp.d7.ec.ff,eI x.gp.d7.ec.hV,(eL 5 GP) x.gp.d7.ec.sc,(eL 1 eI) x.o3.d6.d3,(eL 1 eI) x.o3.d6.d5,(eL 1 eI) x.o3.hV,(eL 1 eI) x.Aat.d4.d3,(eL 3 Bs) x.Aat.d4.d5,(eL 1 (eL 1 eI)) x.Aat.fq,(eL 1 eI) x.tn.d4.d3,(eL 3 Bs) x.tn.d4.d5,(eL 1 (eL 1 eI)) x.tn.fq,(eL 1 eI) x.Aan.d3,(eL 1 eI) x.Aan.d5,(eL 1 eI) x.Aal.d3,(eL 1 eI) x.Aal.d5]
def DF(x:Ar):List AR:=[⟨false,eS x.gp.po⟩,⟨false,(eL 1 eI) x.gp.kq.d4.d3⟩,⟨false,(eL 3 Bs) x.gp.kq.d4.d5⟩,⟨false,(eL 4 FT) x.gp.kq.ff⟩,⟨false,eI x.gp.kq.hV⟩,⟨false,(eL 5 GP) x.gp.kq.sc⟩,⟨false,(eL 1 eI) x.gp.fd.d4.d3⟩,⟨false,(eL 3 Bs) x.gp.fd.d4.d5⟩,⟨false,(eL 4 FT) x.gp.fd.ff⟩,⟨false,eI x.gp.fd.hV⟩,⟨false,(eL 5 GP) x.gp.fd.sc⟩,⟨false,(eL 1 eI) x.gp.x4.d3⟩,⟨false,(eL 1 eI) x.gp.x4.d5⟩,⟨false,(eL 1 eI) x.gp.sx.d3⟩,⟨false,(eL 1 eI) x.gp.sx.d5⟩,⟨false,eB x.gp.pq⟩,⟨false,eI x.gp.d7.og⟩,⟨false,EC x.gp.d7.hT⟩,⟨false,(eL 1 eI) x.gp.d7.Map.d3⟩,⟨false,(eL 1 eI) x.gp.d7.Map.d5⟩,⟨false,(eL 1 eI) x.gp.d7.ec.d4.d3⟩,⟨false,(eL 3 Bs) x.gp.d7.ec.d4.d5⟩,⟨false,(eL 4 FT) x.gp.d7.ec.ff⟩,⟨false,eI x.gp.d7.ec.hV⟩,⟨false,(eL 5 GP) x.gp.d7.ec.sc⟩,⟨false,(eL 1 eI) x.o3.d6.d3⟩,⟨false,(eL 1 eI) x.o3.d6.d5⟩,⟨false,(eL 1 eI) x.o3.hV⟩,⟨false,(eL 1 eI) x.Aat.d4.d3⟩,⟨false,(eL 3 Bs) x.Aat.d4.d5⟩,⟨false,(eL 1 (eL 1 eI)) x.Aat.fq⟩,⟨true,(eL 1 eI) x.tn.d4.d3⟩,⟨true,(eL 3 Bs) x.tn.d4.d5⟩,⟨true,.xn (List.map (eL 1 eI) x.tn.fq)⟩,⟨false,(eL 1 eI) x.Aan.d3⟩,⟨false,(eL 1 eI) x.Aan.d5⟩,⟨false,(eL 1 eI) x.Aal.d3⟩,⟨false,(eL 1 eI) x.Aal.d5⟩]
structure mo where
 po:ByteArray
 Low:Int
 AaD:Int
 wi:List ByteArray
 deriving DecidableEq
def GN(x:mo):TV:=.agg [eS x.po,eI x.Low,eI x.AaD,(eL 1 eS) x.wi]
structure B1 where
 po:ByteArray
 Aad:Int
 Aaq:Bool
 x3:List mo
 deriving DecidableEq
def Eb(x:B1):TV:=.agg [eS x.po,eI x.Aad,eB x.Aaq,(eL 4 GN) x.x3]
structure CB where
 po:ByteArray
 ns:Int
 To:Int
 Abf:Int
 AaZ:Int
 AbB:Int
 Abj:Int
 deriving DecidableEq
def E6(x:CB):TV:=.agg [eS x.po,eI x.ns,eI x.To,eI x.Abf,eI x.AaZ,eI x.AbB,eI x.Abj]
structure AC where
 d3:List B1
 d5:List CB
 deriving DecidableEq
def AQ(x:AC):TV:=.agg [(eL 4 Eb) x.d3,(eL 7 E6) x.d5]
structure AY where
 t:AC
 p:d4
 g:d4
 gt:d6
 ej:Bool
 tl:Int
 AaA:List d6
 deriving DecidableEq
def RT(x:AY):TV:=.agg [(eL 4 Eb) x.t.d3,(eL 7 E6) x.t.d5,(eL 1 eI) x.p.d3,(eL 3 Bs) x.p.d5,(eL 1 eI) x.g.d3,(eL 3 Bs) x.g.d5,(eL 1 eI) x.gt.d3,(eL 1 eI) x.gt.d5,eB x.ej,eI x.tl,(eL 2 Ap) x.AaA]
def Bf(x:AY):List AR:=[⟨false,(eL 4 Eb) x.t.d3⟩,⟨false,(eL 7 E6) x.t.d5⟩,⟨false,(eL 1 eI) x.p.d3⟩,⟨false,(eL 3 Bs) x.p.d5⟩,⟨false,(eL 1 eI) x.g.d3⟩,⟨false,(eL 3 Bs) x.g.d5⟩,⟨false,(eL 1 eI) x.gt.d3⟩,⟨false,(eL 1 eI) x.gt.d5⟩,⟨false,eB x.ej⟩,⟨false,eI x.tl⟩,⟨true,(eL 2 Ap) x.AaA⟩]
structure Mg where
 d3:Option Fp
 d5:Option Fp
 deriving DecidableEq
def iy(x:Mg):TV:=.agg [(eO 1 eI) x.d3,(eO 1 eI) x.d5]
def Mg.of(m:d6):Mg:=⟨some m.d3,some m.d5⟩
instance:Coe d6 Mg:=⟨Mg.of⟩
structure AI where
 p:d4
 g:d4
 is:List a6
 gt:Mg
 ej:Bool
 tl:Int
 ei:Fp
 em:Fp
 out:List d6
 deriving DecidableEq
def P2(x:AI):TV:=.agg [(eL 1 eI) x.p.d3,(eL 3 Bs) x.p.d5,(eL 1 eI) x.g.d3,(eL 3 Bs) x.g.d5,(eL 1 (eL 1 eB)) x.is,(eO 1 eI) x.gt.d3,(eO 1 eI) x.gt.d5,eB x.ej,eI x.tl,(eL 1 eI) x.ei,(eL 1 eI) x.em,(eL 2 Ap) x.out]
def Cg(x:AI):List AR:=[⟨false,(eL 1 eI) x.p.d3⟩,⟨false,(eL 3 Bs) x.p.d5⟩,⟨false,(eL 1 eI) x.g.d3⟩,⟨false,(eL 3 Bs) x.g.d5⟩,⟨false,(eL 1 (eL 1 eB)) x.is⟩,⟨false,(eO 1 eI) x.gt.d3⟩,⟨false,(eO 1 eI) x.gt.d5⟩,⟨false,eB x.ej⟩,⟨false,eI x.tl⟩,⟨true,.xl 1 (List.map eI x.ei)⟩,⟨true,.xl 1 (List.map eI x.em)⟩,⟨true,(eL 2 Ap) x.out⟩]
structure EK where
 og:Int
 AbV:ByteArray
 Line:Int
 deriving DecidableEq
def UC(x:EK):TV:=.agg [eI x.og,eS x.AbV,eI x.Line]
structure Ba where
 l:d4
 g:d4
 jj:BB
 m:d6
 deriving DecidableEq
def HQ(x:Ba):TV:=.agg [(eL 1 eI) x.l.d3,(eL 3 Bs) x.l.d5,(eL 1 eI) x.g.d3,(eL 3 Bs) x.g.d5,(eL 1 eI) x.jj.d3,(eL 1 eI) x.jj.d5,(eL 1 eI) x.m.d3,(eL 1 eI) x.m.d5]
structure F5 where
 A:Int
 B:Int
 deriving DecidableEq
def O7(x:F5):TV:=.agg [eI x.A,eI x.B]
structure Al where
 t:AC
 h:AG
 ej:Bool
 deriving DecidableEq
def CJ(x:Al):TV:=.agg [(eL 4 Eb) x.t.d3,(eL 7 E6) x.t.d5,(eL 1 eI) x.h.d4.d3,(eL 3 Bs) x.h.d4.d5,(eL 1 (eL 1 eI)) x.h.fq,eB x.ej]
structure Az where
 AaC:Int
 o3:AL
 hT:List Az
mutual
def ZN:Az->TV
 |⟨y0,y1,y2⟩=>.agg [eI y0,(eL 1 eI) y1.d6.d3,(eL 1 eI) y1.d6.d5,(eL 1 eI) y1.hV,.list 5 (Mm y2)]
def Mm:List Az->Fq
 |[]=>[]|c::cs=>ZN c::Mm cs
end
def G7(l:List Az):TV:=.list 5 (Mm l)
def ED(x:Az):TV:=.agg [eI x.AaC,(eL 1 eI) x.o3.d6.d3,(eL 1 eI) x.o3.d6.d5,(eL 1 eI) x.o3.hV,G7 x.hT]
theorem aS(x:Az):ZN x=ED x:=by
 cases x;rfl
theorem Qw:∀l:List Az,Mm l=l.map ED
 |[]=>rfl|x::l=>by rw[Mm,aS,Qw l];rfl
theorem Yp(l:List Az):G7 l=.list 5 (l.map ED):=by rw[G7,Qw]
structure Bq where
 gp:Int
 o3:AL
 deriving DecidableEq
def DA(x:Bq):TV:=.agg [eI x.gp,(eL 1 eI) x.o3.d6.d3,(eL 1 eI) x.o3.d6.d5,(eL 1 eI) x.o3.hV]
structure AO where
 kp:AG
 j4:List Bq
 deriving DecidableEq
def B3(x:AO):TV:=.agg [(eL 1 eI) x.kp.d4.d3,(eL 3 Bs) x.kp.d4.d5,(eL 1 (eL 1 eI)) x.kp.fq,(eL 4 DA) x.j4]
structure HZ where
 T:AC
 AbD:List gp
 D:AO
def GW(x:HZ):TV:=.agg [(eL 4 Eb) x.T.d3,(eL 7 E6) x.T.d5,(eL 25 Bx) x.AbD,(eL 1 eI) x.D.kp.d4.d3,(eL 3 Bs) x.D.kp.d4.d5,(eL 1 (eL 1 eI)) x.D.kp.fq,(eL 4 DA) x.D.j4]
abbrev lI:Fp->TV:=eL 1 eI
abbrev lE:List Bl->TV:=eL 3 Bs
abbrev lS:List CX->TV:=eL 4 FT
abbrev lT:List Test->TV:=eL 5 GP
abbrev lN:List B1->TV:=eL 4 Eb
abbrev lX:List CB->TV:=eL 7 E6
abbrev lA:List mo->TV:=eL 4 GN
abbrev lB:List ByteArray->TV:=eL 1 eS
theorem fN(a b:Bl):B0 (TV.cells (Bs a)) (TV.cells (Bs b))=some (decide (a=b)):=by
 rcases a with⟨a0,a1,a2⟩;rcases b with⟨b0,b1,b2⟩;simp[Bs,TV.cells,B0,eI,Bool.and_assoc,Bl.mk.injEq]
end Go.Sf.Sc
