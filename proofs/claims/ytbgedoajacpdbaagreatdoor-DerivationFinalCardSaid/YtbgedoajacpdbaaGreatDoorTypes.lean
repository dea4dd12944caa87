/- The types of the program as Lean types. -/
import Derived.Test.YtbgedoajacpdbaaGreatDoorSfK
import Derived.Test.YtbgedoajacpdbaaGreatDoorSfStep
import Derived.Test.YtbgedoajacpdbaaGreatDoorProg
set_option linter.all false
set_option maxRecDepth 100000
namespace Go.Sf.Sc
open Go Go.Sf Go.Proofs.Tryz
def eI(n:Int):TV:=.int .i64 n
def T3(n:Int):TV:=.int .u8 n
def JS(n:Int):TV:=.int .u64 n
def zm(n:Int):TV:=.int .i32 n
def zq(n:Int):TV:=.int .u32 n
def eI8(n:Int):TV:=.int .i8 n
def zl(n:Int):TV:=.int .i16 n
def zp(n:Int):TV:=.int .u16 n
def eB(b:Bool):TV:=.bool b
def eS(s:ByteArray):TV:=.str s
def eL{α:Type}(n:Nat)(e:α->TV)(l:List α):TV:=.list n (l.map e)
theorem Tryz_follows:Go.Proofs.Tryz.prog.follows .mixedOrders=true:=by decide +kernel
structure Bf where
 mo:Int
 ne:Int
 To:Int
 deriving DecidableEq
def Br(x:Bf):TV:=.agg [eI x.mo,eI x.ne,eI x.To]
structure d5 where
 d3:Fp
 d4:List Bf
 deriving DecidableEq
def Am(x:d5):TV:=.agg [(eL 1 eI) x.d3,(eL 3 Br) x.d4]
structure j4 where
 Var:Int
 Add:Int
 deriving DecidableEq
def N6(x:j4):TV:=.agg [eI x.Var,eI x.Add]
structure CU where
 tl:Int
 kq:Int
 j4:j4
 deriving DecidableEq
def FO(x:CU):TV:=.agg [eI x.tl,eI x.kq,eI x.j4.Var,eI x.j4.Add]
structure Test where
 ns:Int
 kp:j4
 fd:j4
 deriving DecidableEq
def GK(x:Test):TV:=.agg [eI x.ns,eI x.kp.Var,eI x.kp.Add,eI x.fd.Var,eI x.fd.Add]
structure ec where
 d5:d5
 ff:List CU
 hV:Int
 sc:List Test
 deriving DecidableEq
def A9(x:ec):TV:=.agg [(eL 1 eI) x.d5.d3,(eL 3 Br) x.d5.d4,(eL 4 FO) x.ff,eI x.hV,(eL 5 GK) x.sc]
structure BB where
 d3:Fp
 d4:Fp
 deriving DecidableEq
def GJ(x:BB):TV:=.agg [(eL 1 eI) x.d3,(eL 1 eI) x.d4]
structure d6 where
 d3:Fp
 d4:Fp
 deriving DecidableEq
def Ap(x:d6):TV:=.agg [(eL 1 eI) x.d3,(eL 1 eI) x.d4]
structure d7 where
 ns:Int
 gt:List d7
 Map:d6
 ec:ec
mutual
def St:d7->TV
 |⟨y0,y1,y2,y3⟩=>.agg [eI y0,.list 9 (IH y1),(eL 1 eI) y2.d3,(eL 1 eI) y2.d4,(eL 1 eI) y3.d5.d3,(eL 3 Br) y3.d5.d4,(eL 4 FO) y3.ff,eI y3.hV,(eL 5 GK) y3.sc]
def IH:List d7->Fq
 |[]=>[]|c::cs=>St c::IH cs
end
def D8(l:List d7):TV:=.list 9 (IH l)
def AJ(x:d7):TV:=.agg [eI x.ns,D8 x.gt,(eL 1 eI) x.Map.d3,(eL 1 eI) x.Map.d4,(eL 1 eI) x.ec.d5.d3,(eL 3 Br) x.ec.d5.d4,(eL 4 FO) x.ec.ff,eI x.ec.hV,(eL 5 GK) x.ec.sc]
theorem Uz(x:d7):St x=AJ x:=by
 cases x;rfl
theorem Mf:∀l:List d7,IH l=l.map AJ
 |[]=>rfl|x::l=>by rw[IH,Uz,Mf l];rfl
theorem Lr(l:List d7):D8 l=.list 9 (l.map AJ):=by rw[D8,Mf]
structure hT where
 po:ByteArray
 kp:ec
 fd:ec
 x4:BB
 sx:d6
 pq:Bool
 d7:d7
def B3(x:hT):TV:=.agg [eS x.po,(eL 1 eI) x.kp.d5.d3,(eL 3 Br) x.kp.d5.d4,(eL 4 FO) x.kp.ff,eI x.kp.hV,(eL 5 GK) x.kp.sc,(eL 1 eI) x.fd.d5.d3,(eL 3 Br) x.fd.d5.d4,(eL 4 FO) x.fd.ff,eI x.fd.hV,(eL 5 GK) x.fd.sc,(eL 1 eI) x.x4.d3,(eL 1 eI) x.x4.d4,(eL 1 eI) x.sx.d3,(eL 1 eI) x.sx.d4,eB x.pq,eI x.d7.ns,D8 x.d7.gt,(eL 1 eI) x.d7.Map.d3,(eL 1 eI) x.d7.Map.d4,(eL 1 eI) x.d7.ec.d5.d3,(eL 3 Br) x.d7.ec.d5.d4,(eL 4 FO) x.d7.ec.ff,eI x.d7.ec.hV,(eL 5 GK) x.d7.ec.sc]
structure AM where
 d6:d6
 hV:Fp
 deriving DecidableEq
def BW(x:AM):TV:=.agg [(eL 1 eI) x.d6.d3,(eL 1 eI) x.d6.d4,(eL 1 eI) x.hV]
structure AG where
 d5:d5
 gn:List Fp
 deriving DecidableEq
def Bc(x:AG):TV:=.agg [(eL 1 eI) x.d5.d3,(eL 3 Br) x.d5.d4,(eL 1 (eL 1 eI)) x.gn]
structure Ar where
 hT:hT
 pc:AM
 Aat:AG
 tn:AG
 Aan:d6
 Aal:d6
def Lq(x:Ar):TV:=.agg [eS x.hT.po,(eL 1 eI) x.hT.kp.d5.d3,(eL 3 Br) x.hT.kp.d5.d4,(eL 4 FO) x.hT.kp.ff,eI x.hT.kp.hV,(eL 5 GK) x.hT.kp.sc,(eL 1 eI) x.hT.fd.d5.d3,(eL 3 Br) x.hT.fd.d5.d4,(eL 4 FO) x.hT.fd.ff,eI x.hT.fd.hV,(eL 5 GK) x.hT.fd.sc,(eL 1 eI) x.hT.x4.d3,(eL 1 eI) x.hT.x4.d4,(eL 1 eI) x.hT.sx.d3,(eL 1 eI) x.hT.sx.d4,eB x.hT.pq,eI x.hT.d7.ns,D8 x.hT.d7.gt,(eL 1 eI) x.hT.d7.Map.d3,(eL 1 eI) x.hT.d7.Map.d4,(eL 1 eI) x.hT.d7.ec.d5.d3,(eL 3 Br) x.hT.d7.ec.d5.d4,(eL 4 FO) x.hT.d7.ec.ff,eI x.hT.d7.ec.hV,(eL 5 GK) x.hT.d7.ec.sc,(eL 1 eI) x.pc.d6.d3,(eL 1 eI) x.pc.d6.d4,(eL 1 eI) x.pc.hV,(eL 1 eI) x.Aat.d5.d3,(eL 3 Br) x.Aat.d5.d4,(eL 1 (eL 1 eI)) x.Aat.gn,(eL 1 eI) x.tn.d5.d3,(eL 3 Br) x.tn.d5.d4,(eL 1 (eL 1 eI)) x.tn.gn,(eL 1 eI) x.Aan.d3,(eL 1 eI) x.Aan.d4,(eL 1 eI) x.Aal.d3,(eL 1 eI) x.Aal.d4]
def DE(x:Ar):List AP:=[⟨false,eS x.hT.po⟩,⟨false,(eL 1 eI) x.hT.kp.d5.d3⟩,⟨false,(eL 3 Br) x.hT.kp.d5.d4⟩,⟨false,(eL 4 FO) x.hT.kp.ff⟩,⟨false,eI x.hT.kp.hV⟩,⟨false,(eL 5 GK) x.hT.kp.sc⟩,⟨false,(eL 1 eI) x.hT.fd.d5.d3⟩,⟨false,(eL 3 Br) x.hT.fd.d5.d4⟩,⟨false,(eL 4 FO) x.hT.fd.ff⟩,⟨false,eI x.hT.fd.hV⟩,⟨false,(eL 5 GK) x.hT.fd.sc⟩,⟨false,(eL 1 eI) x.hT.x4.d3⟩,⟨false,(eL 1 eI) x.hT.x4.d4⟩,⟨false,(eL 1 eI) x.hT.sx.d3⟩,⟨false,(eL 1 eI) x.hT.sx.d4⟩,⟨false,eB x.hT.pq⟩,⟨false,eI x.hT.d7.ns⟩,⟨false,D8 x.hT.d7.gt⟩,⟨false,(eL 1 eI) x.hT.d7.Map.d3⟩,⟨false,(eL 1 eI) x.hT.d7.Map.d4⟩,⟨false,(eL 1 eI) x.hT.d7.ec.d5.d3⟩,⟨false,(eL 3 Br) x.hT.d7.ec.d5.d4⟩,⟨false,(eL 4 FO) x.hT.d7.ec.ff⟩,⟨false,eI x.hT.d7.ec.hV⟩,⟨false,(eL 5 GK) x.hT.d7.ec.sc⟩,⟨false,(eL 1 eI) x.pc.d6.d3⟩,⟨false,(eL 1 eI) x.pc.d6.d4⟩,⟨false,(eL 1 eI) x.pc.hV⟩,⟨false,(eL 1 eI) x.Aat.d5.d3⟩,⟨false,(eL 3 Br) x.Aat.d5.d4⟩,⟨false,(eL 1 (eL 1 eI)) x.Aat.gn⟩,⟨true,(eL 1 eI) x.tn.d5.d3⟩,⟨true,(eL 3 Br) x.tn.d5.d4⟩,⟨true,.xn (List.map (eL 1 eI) x.tn.gn)⟩,⟨false,(eL 1 eI) x.Aan.d3⟩,⟨false,(eL 1 eI) x.Aan.d4⟩,⟨false,(eL 1 eI) x.Aal.d3⟩,⟨false,(eL 1 eI) x.Aal.d4⟩]
structure kq where
 po:ByteArray
 Low:Int
 AaE:Int
 wi:List ByteArray
 deriving DecidableEq
def GI(x:kq):TV:=.agg [eS x.po,eI x.Low,eI x.AaE,(eL 1 eS) x.wi]
structure Bz where
 po:ByteArray
 Aad:Int
 Aaq:Bool
 x3:List kq
 deriving DecidableEq
def EX(x:Bz):TV:=.agg [eS x.po,eI x.Aad,eB x.Aaq,(eL 4 GI) x.x3]
structure B9 where
 po:ByteArray
 ne:Int
 To:Int
 Abh:Int
 Aa0:Int
 AbB:Int
 Abi:Int
 deriving DecidableEq
def E4(x:B9):TV:=.agg [eS x.po,eI x.ne,eI x.To,eI x.Abh,eI x.Aa0,eI x.AbB,eI x.Abi]
structure AC where
 d3:List Bz
 d4:List B9
 deriving DecidableEq
def AQ(x:AC):TV:=.agg [(eL 4 EX) x.d3,(eL 7 E4) x.d4]
structure AX where
 t:AC
 p:d5
 g:d5
 gp:d6
 ej:Bool
 up:Int
 AaA:List d6
 deriving DecidableEq
def Qt(x:AX):TV:=.agg [(eL 4 EX) x.t.d3,(eL 7 E4) x.t.d4,(eL 1 eI) x.p.d3,(eL 3 Br) x.p.d4,(eL 1 eI) x.g.d3,(eL 3 Br) x.g.d4,(eL 1 eI) x.gp.d3,(eL 1 eI) x.gp.d4,eB x.ej,eI x.up,(eL 2 Ap) x.AaA]
def Be(x:AX):List AP:=[⟨false,(eL 4 EX) x.t.d3⟩,⟨false,(eL 7 E4) x.t.d4⟩,⟨false,(eL 1 eI) x.p.d3⟩,⟨false,(eL 3 Br) x.p.d4⟩,⟨false,(eL 1 eI) x.g.d3⟩,⟨false,(eL 3 Br) x.g.d4⟩,⟨false,(eL 1 eI) x.gp.d3⟩,⟨false,(eL 1 eI) x.gp.d4⟩,⟨false,eB x.ej⟩,⟨false,eI x.up⟩,⟨true,(eL 2 Ap) x.AaA⟩]
structure Mb where
 d3:Option Fp
 d4:Option Fp
 deriving DecidableEq
def iZ(x:Mb):TV:=.agg [(eO 1 eI) x.d3,(eO 1 eI) x.d4]
def Mb.of(m:d6):Mb:=⟨some m.d3,some m.d4⟩
instance:Coe d6 Mb:=⟨Mb.of⟩
structure AI where
 p:d5
 g:d5
 is:List a6
 gp:Mb
 ej:Bool
 up:Int
 ei:Fp
 em:Fp
 out:List d6
 deriving DecidableEq
def Pm(x:AI):TV:=.agg [(eL 1 eI) x.p.d3,(eL 3 Br) x.p.d4,(eL 1 eI) x.g.d3,(eL 3 Br) x.g.d4,(eL 1 (eL 1 eB)) x.is,(eO 1 eI) x.gp.d3,(eO 1 eI) x.gp.d4,eB x.ej,eI x.up,(eL 1 eI) x.ei,(eL 1 eI) x.em,(eL 2 Ap) x.out]
def Ce(x:AI):List AP:=[⟨false,(eL 1 eI) x.p.d3⟩,⟨false,(eL 3 Br) x.p.d4⟩,⟨false,(eL 1 eI) x.g.d3⟩,⟨false,(eL 3 Br) x.g.d4⟩,⟨false,(eL 1 (eL 1 eB)) x.is⟩,⟨false,(eO 1 eI) x.gp.d3⟩,⟨false,(eO 1 eI) x.gp.d4⟩,⟨false,eB x.ej⟩,⟨false,eI x.up⟩,⟨true,.xl 1 (List.map eI x.ei)⟩,⟨true,.xl 1 (List.map eI x.em)⟩,⟨true,(eL 2 Ap) x.out⟩]
structure EG where
 ns:Int
 AbV:ByteArray
 Line:Int
 deriving DecidableEq
def T1(x:EG):TV:=.agg [eI x.ns,eS x.AbV,eI x.Line]
structure Ba where
 l:d5
 g:d5
 jj:BB
 m:d6
 deriving DecidableEq
def HN(x:Ba):TV:=.agg [(eL 1 eI) x.l.d3,(eL 3 Br) x.l.d4,(eL 1 eI) x.g.d3,(eL 3 Br) x.g.d4,(eL 1 eI) x.jj.d3,(eL 1 eI) x.jj.d4,(eL 1 eI) x.m.d3,(eL 1 eI) x.m.d4]
structure F2 where
 A:Int
 B:Int
 deriving DecidableEq
def O0(x:F2):TV:=.agg [eI x.A,eI x.B]
structure Al where
 t:AC
 h:AG
 ej:Bool
 deriving DecidableEq
def CH(x:Al):TV:=.agg [(eL 4 EX) x.t.d3,(eL 7 E4) x.t.d4,(eL 1 eI) x.h.d5.d3,(eL 3 Br) x.h.d5.d4,(eL 1 (eL 1 eI)) x.h.gn,eB x.ej]
structure Az where
 AaC:Int
 pc:AM
 gt:List Az
mutual
def ZC:Az->TV
 |⟨y0,y1,y2⟩=>.agg [eI y0,(eL 1 eI) y1.d6.d3,(eL 1 eI) y1.d6.d4,(eL 1 eI) y1.hV,.list 5 (Mg y2)]
def Mg:List Az->Fq
 |[]=>[]|c::cs=>ZC c::Mg cs
end
def G3(l:List Az):TV:=.list 5 (Mg l)
def D9(x:Az):TV:=.agg [eI x.AaC,(eL 1 eI) x.pc.d6.d3,(eL 1 eI) x.pc.d6.d4,(eL 1 eI) x.pc.hV,G3 x.gt]
theorem aG(x:Az):ZC x=D9 x:=by
 cases x;rfl
theorem QK:∀l:List Az,Mg l=l.map D9
 |[]=>rfl|x::l=>by rw[Mg,aG,QK l];rfl
theorem Yf(l:List Az):G3 l=.list 5 (l.map D9):=by rw[G3,QK]
structure C4 where
 hT:Int
 pc:AM
 deriving DecidableEq
def Ft(x:C4):TV:=.agg [eI x.hT,(eL 1 eI) x.pc.d6.d3,(eL 1 eI) x.pc.d6.d4,(eL 1 eI) x.pc.hV]
structure AY where
 o3:AG
 kg:List C4
 deriving DecidableEq
def C2(x:AY):TV:=.agg [(eL 1 eI) x.o3.d5.d3,(eL 3 Br) x.o3.d5.d4,(eL 1 (eL 1 eI)) x.o3.gn,(eL 4 Ft) x.kg]
structure HT where
 T:AC
 AbC:List hT
 D:AY
def GQ(x:HT):TV:=.agg [(eL 4 EX) x.T.d3,(eL 7 E4) x.T.d4,(eL 25 B3) x.AbC,(eL 1 eI) x.D.o3.d5.d3,(eL 3 Br) x.D.o3.d5.d4,(eL 1 (eL 1 eI)) x.D.o3.gn,(eL 4 Ft) x.D.kg]
abbrev lI:Fp->TV:=eL 1 eI
abbrev lE:List Bf->TV:=eL 3 Br
abbrev lS:List CU->TV:=eL 4 FO
abbrev lT:List Test->TV:=eL 5 GK
abbrev lN:List Bz->TV:=eL 4 EX
abbrev lX:List B9->TV:=eL 7 E4
abbrev lA:List kq->TV:=eL 4 GI
abbrev lB:List ByteArray->TV:=eL 1 eS
theorem ez(a b:Bf):By (TV.cells (Br a)) (TV.cells (Br b))=some (decide (a=b)):=by
 rcases a with⟨a0,a1,a2⟩;rcases b with⟨b0,b1,b2⟩;simp[Br,TV.cells,By,eI,Bool.and_assoc,Bf.mk.injEq]
end Go.Sf.Sc
