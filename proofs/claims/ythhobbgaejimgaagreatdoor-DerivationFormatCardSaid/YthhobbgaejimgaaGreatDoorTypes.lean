/- The types of the program as Lean types. -/
import Derived.Test.YthhobbgaejimgaaGreatDoorSfK
import Derived.Test.YthhobbgaejimgaaGreatDoorSfStep
import Derived.Test.YthhobbgaejimgaaGreatDoorProg
set_option linter.all false
set_option maxRecDepth 100000
namespace Go.Sf.Sc
open Go Go.Sf Go.Proofs.Tryz
def eI(n:Int):TV:=.int .i64 n
def Ng(n:Int):TV:=.int .u8 n
def Gq(n:Int):TV:=.int .u64 n
def oh(n:Int):TV:=.int .i32 n
def oj(n:Int):TV:=.int .u32 n
def qw(n:Int):TV:=.int .i8 n
def oe(n:Int):TV:=.int .i16 n
def oi(n:Int):TV:=.int .u16 n
def eB(b:Bool):TV:=.bool b
def eS(s:ByteArray):TV:=.str s
def eL{α:Type}(n:Nat)(e:α->TV)(l:List α):TV:=.list n (l.map e)
theorem Tryz_follows:Go.Proofs.Tryz.prog.follows .mixedOrders=true:=by decide +kernel
structure AY where
 rh:Int
 sn:ByteArray
 u7:Int
 deriving DecidableEq
def Gc(x:AY):TV:=.agg [eI x.rh,eS x.sn,eI x.u7]
structure AE where
 l:List AY
 at':Int
 err:Int
 qo:Int
 deriving DecidableEq
def Nh(x:AE):TV:=.agg [(eL 3 Gc) x.l,eI x.at',eI x.err,eI x.qo]
def BZ(x:AE):List AJ:=[⟨false,(eL 3 Gc) x.l⟩,⟨false,eI x.at'⟩,⟨false,eI x.err⟩,⟨false,eI x.qo⟩]
structure A0 where
 sv:List AY
 at':Int
 e:Int
 qo:Int
 deriving DecidableEq
def RJ(x:A0):TV:=.agg [(eL 3 Gc) x.sv,eI x.at',eI x.e,eI x.qo]
def Cr(x:A0):List AJ:=[⟨false,(eL 3 Gc) x.sv⟩,⟨false,eI x.at'⟩,⟨false,eI x.e⟩,⟨false,eI x.qo⟩]
structure B0 where
 rx:Int
 rA:Int
 To:Int
 deriving DecidableEq
def Bj(x:B0):TV:=.agg [eI x.rx,eI x.rA,eI x.To]
structure hT where
 fq:Fp
 jj:List B0
 deriving DecidableEq
def BI(x:hT):TV:=.agg [(eL 1 eI) x.fq,(eL 3 Bj) x.jj]
structure rk where
 Var:Int
 Add:Int
 deriving DecidableEq
def RS(x:rk):TV:=.agg [eI x.Var,eI x.Add]
structure CO where
 rU:Int
 rc:Int
 rk:rk
 deriving DecidableEq
def Eh(x:CO):TV:=.agg [eI x.rU,eI x.rc,eI x.rk.Var,eI x.rk.Add]
structure Test where
 rh:Int
 rj:rk
 pq:rk
 deriving DecidableEq
def GM(x:Test):TV:=.agg [eI x.rh,eI x.rj.Var,eI x.rj.Add,eI x.pq.Var,eI x.pq.Add]
structure j4 where
 hT:hT
 rf:List CO
 qy:Int
 rG:List Test
 deriving DecidableEq
def C2(x:j4):TV:=.agg [(eL 1 eI) x.hT.fq,(eL 3 Bj) x.hT.jj,(eL 4 Eh) x.rf,eI x.qy,(eL 5 GM) x.rG]
structure Bw where
 fq:Fp
 jj:Fp
 deriving DecidableEq
def ON(x:Bw):TV:=.agg [(eL 1 eI) x.fq,(eL 1 eI) x.jj]
structure gt where
 fq:Fp
 jj:Fp
 deriving DecidableEq
def Ba(x:gt):TV:=.agg [(eL 1 eI) x.fq,(eL 1 eI) x.jj]
structure j0 where
 rh:Int
 rm:List j0
 Map:gt
 j4:j4
mutual
def Oi:j0->TV
 |⟨y0,y1,y2,y3⟩=>.agg [eI y0,.list 9 (Fk y1),(eL 1 eI) y2.fq,(eL 1 eI) y2.jj,(eL 1 eI) y3.hT.fq,(eL 3 Bj) y3.hT.jj,(eL 4 Eh) y3.rf,eI y3.qy,(eL 5 GM) y3.rG]
def Fk:List j0->Fq
 |[]=>[]|c::cs=>Oi c::Fk cs
end
def D5(l:List j0):TV:=.list 9 (Fk l)
def Ae(x:j0):TV:=.agg [eI x.rh,D5 x.rm,(eL 1 eI) x.Map.fq,(eL 1 eI) x.Map.jj,(eL 1 eI) x.j4.hT.fq,(eL 3 Bj) x.j4.hT.jj,(eL 4 Eh) x.j4.rf,eI x.j4.qy,(eL 5 GM) x.j4.rG]
theorem QO(x:j0):Oi x=Ae x:=by
 cases x;rfl
theorem I3:∀l:List j0,Fk l=l.map Ae
 |[]=>rfl|x::l=>by rw[Fk,QO,I3 l];rfl
theorem Pd(l:List j0):D5 l=.list 9 (l.map Ae):=by rw[D5,I3]
structure ns where
 ru:ByteArray
 rj:j4
 pq:j4
 sa:Bw
 rT:gt
 rB:Bool
 j0:j0
def Fd(x:ns):TV:=.agg [eS x.ru,(eL 1 eI) x.rj.hT.fq,(eL 3 Bj) x.rj.hT.jj,(eL 4 Eh) x.rj.rf,eI x.rj.qy,(eL 5 GM) x.rj.rG,(eL 1 eI) x.pq.hT.fq,(eL 3 Bj) x.pq.hT.jj,(eL 4 Eh) x.pq.rf,eI x.pq.qy,(eL 5 GM) x.pq.rG,(eL 1 eI) x.sa.fq,(eL 1 eI) x.sa.jj,(eL 1 eI) x.rT.fq,(eL 1 eI) x.rT.jj,eB x.rB,eI x.j0.rh,D5 x.j0.rm,(eL 1 eI) x.j0.Map.fq,(eL 1 eI) x.j0.Map.jj,(eL 1 eI) x.j0.j4.hT.fq,(eL 3 Bj) x.j0.j4.hT.jj,(eL 4 Eh) x.j0.j4.rf,eI x.j0.j4.qy,(eL 5 GM) x.j0.j4.rG]
structure AP where
 gt:gt
 qy:Fp
 deriving DecidableEq
def Bk(x:AP):TV:=.agg [(eL 1 eI) x.gt.fq,(eL 1 eI) x.gt.jj,(eL 1 eI) x.qy]
structure AM where
 hT:hT
 og:List Fp
 deriving DecidableEq
def CM(x:AM):TV:=.agg [(eL 1 eI) x.hT.fq,(eL 3 Bj) x.hT.jj,(eL 1 (eL 1 eI)) x.og]
structure BB where
 ns:ns
 kx:AP
 sj:AM
 rr:AM
 sB:gt
 r6:gt
def Nf(x:BB):TV:=.agg [eS x.ns.ru,(eL 1 eI) x.ns.rj.hT.fq,(eL 3 Bj) x.ns.rj.hT.jj,(eL 4 Eh) x.ns.rj.rf,eI x.ns.rj.qy,(eL 5 GM) x.ns.rj.rG,(eL 1 eI) x.ns.pq.hT.fq,(eL 3 Bj) x.ns.pq.hT.jj,(eL 4 Eh) x.ns.pq.rf,eI x.ns.pq.qy,(eL 5 GM) x.ns.pq.rG,(eL 1 eI) x.ns.sa.fq,(eL 1 eI) x.ns.sa.jj,(eL 1 eI) x.ns.rT.fq,(eL 1 eI) x.ns.rT.jj,eB x.ns.rB,eI x.ns.j0.rh,D5 x.ns.j0.rm,(eL 1 eI) x.ns.j0.Map.fq,(eL 1 eI) x.ns.j0.Map.jj,(eL 1 eI) x.ns.j0.j4.hT.fq,(eL 3 Bj) x.ns.j0.j4.hT.jj,(eL 4 Eh) x.ns.j0.j4.rf,eI x.ns.j0.j4.qy,(eL 5 GM) x.ns.j0.j4.rG,(eL 1 eI) x.kx.gt.fq,(eL 1 eI) x.kx.gt.jj,(eL 1 eI) x.kx.qy,(eL 1 eI) x.sj.hT.fq,(eL 3 Bj) x.sj.hT.jj,(eL 1 (eL 1 eI)) x.sj.og,(eL 1 eI) x.rr.hT.fq,(eL 3 Bj) x.rr.hT.jj,(eL 1 (eL 1 eI)) x.rr.og,(eL 1 eI) x.sB.fq,(eL 1 eI) x.sB.jj,(eL 1 eI) x.r6.fq,(eL 1 eI) x.r6.jj]
def CW(x:BB):List AJ:=[⟨false,eS x.ns.ru⟩,⟨false,(eL 1 eI) x.ns.rj.hT.fq⟩,⟨false,(eL 3 Bj) x.ns.rj.hT.jj⟩,⟨false,(eL 4 Eh) x.ns.rj.rf⟩,⟨false,eI x.ns.rj.qy⟩,⟨false,(eL 5 GM) x.ns.rj.rG⟩,⟨false,(eL 1 eI) x.ns.pq.hT.fq⟩,⟨false,(eL 3 Bj) x.ns.pq.hT.jj⟩,⟨false,(eL 4 Eh) x.ns.pq.rf⟩,⟨false,eI x.ns.pq.qy⟩,⟨false,(eL 5 GM) x.ns.pq.rG⟩,⟨false,(eL 1 eI) x.ns.sa.fq⟩,⟨false,(eL 1 eI) x.ns.sa.jj⟩,⟨false,(eL 1 eI) x.ns.rT.fq⟩,⟨false,(eL 1 eI) x.ns.rT.jj⟩,⟨false,eB x.ns.rB⟩,⟨false,eI x.ns.j0.rh⟩,⟨false,D5 x.ns.j0.rm⟩,⟨false,(eL 1 eI) x.ns.j0.Map.fq⟩,⟨false,(eL 1 eI) x.ns.j0.Map.jj⟩,⟨false,(eL 1 eI) x.ns.j0.j4.hT.fq⟩,⟨false,(eL 3 Bj) x.ns.j0.j4.hT.jj⟩,⟨false,(eL 4 Eh) x.ns.j0.j4.rf⟩,⟨false,eI x.ns.j0.j4.qy⟩,⟨false,(eL 5 GM) x.ns.j0.j4.rG⟩,⟨false,(eL 1 eI) x.kx.gt.fq⟩,⟨false,(eL 1 eI) x.kx.gt.jj⟩,⟨false,(eL 1 eI) x.kx.qy⟩,⟨false,(eL 1 eI) x.sj.hT.fq⟩,⟨false,(eL 3 Bj) x.sj.hT.jj⟩,⟨false,(eL 1 (eL 1 eI)) x.sj.og⟩,⟨true,(eL 1 eI) x.rr.hT.fq⟩,⟨true,(eL 3 Bj) x.rr.hT.jj⟩,⟨true,.xn (List.map (eL 1 eI) x.rr.og)⟩,⟨false,(eL 1 eI) x.sB.fq⟩,⟨false,(eL 1 eI) x.sB.jj⟩,⟨false,(eL 1 eI) x.r6.fq⟩,⟨false,(eL 1 eI) x.r6.jj⟩]
structure Iz where
 fq:Option Fp
 jj:Option Fp
 deriving DecidableEq
def Ze(x:Iz):TV:=.agg [(eO 1 eI) x.fq,(eO 1 eI) x.jj]
def Iz.of(m:gt):Iz:=⟨some m.fq,some m.jj⟩
instance:Coe gt Iz:=⟨Iz.of⟩
structure AT where
 p:hT
 g:hT
 is:List ae
 rd:Iz
 pc:Bool
 rJ:Int
 qz:Fp
 rg:Fp
 out:List gt
 deriving DecidableEq
def Ln(x:AT):TV:=.agg [(eL 1 eI) x.p.fq,(eL 3 Bj) x.p.jj,(eL 1 eI) x.g.fq,(eL 3 Bj) x.g.jj,(eL 1 (eL 1 eB)) x.is,(eO 1 eI) x.rd.fq,(eO 1 eI) x.rd.jj,eB x.pc,eI x.rJ,(eL 1 eI) x.qz,(eL 1 eI) x.rg,(eL 2 Ba) x.out]
def B7(x:AT):List AJ:=[⟨false,(eL 1 eI) x.p.fq⟩,⟨false,(eL 3 Bj) x.p.jj⟩,⟨false,(eL 1 eI) x.g.fq⟩,⟨false,(eL 3 Bj) x.g.jj⟩,⟨false,(eL 1 (eL 1 eB)) x.is⟩,⟨false,(eO 1 eI) x.rd.fq⟩,⟨false,(eO 1 eI) x.rd.jj⟩,⟨false,eB x.pc⟩,⟨false,eI x.rJ⟩,⟨true,.xl 1 (List.map eI x.qz)⟩,⟨true,.xl 1 (List.map eI x.rg)⟩,⟨true,(eL 2 Ba) x.out⟩]
structure rc where
 ru:ByteArray
 tU:Int
 sO:Int
 se:List ByteArray
 deriving DecidableEq
def GL(x:rc):TV:=.agg [eS x.ru,eI x.tU,eI x.sO,(eL 1 eS) x.se]
structure BO where
 ru:ByteArray
 sw:Int
 sL:Bool
 sc:List rc
 deriving DecidableEq
def HC(x:BO):TV:=.agg [eS x.ru,eI x.sw,eB x.sL,(eL 4 GL) x.sc]
structure Bg where
 ru:ByteArray
 rA:Int
 To:Int
 ug:Int
 tI:Int
 uG:Int
 ud:Int
 deriving DecidableEq
def G9(x:Bg):TV:=.agg [eS x.ru,eI x.rA,eI x.To,eI x.ug,eI x.tI,eI x.uG,eI x.ud]
structure AB where
 fq:List BO
 jj:List Bg
 deriving DecidableEq
def AU(x:AB):TV:=.agg [(eL 4 HC) x.fq,(eL 7 G9) x.jj]
structure BV where
 l:hT
 g:hT
 pr:Bw
 m:gt
 deriving DecidableEq
def FK(x:BV):TV:=.agg [(eL 1 eI) x.l.fq,(eL 3 Bj) x.l.jj,(eL 1 eI) x.g.fq,(eL 3 Bj) x.g.jj,(eL 1 eI) x.pr.fq,(eL 1 eI) x.pr.jj,(eL 1 eI) x.m.fq,(eL 1 eI) x.m.jj]
structure L4 where
 A:Int
 B:Int
 deriving DecidableEq
def Pe(x:L4):TV:=.agg [eI x.A,eI x.B]
structure An where
 t:AB
 h:AM
 pc:Bool
 deriving DecidableEq
def Bl(x:An):TV:=.agg [(eL 4 HC) x.t.fq,(eL 7 G9) x.t.jj,(eL 1 eI) x.h.hT.fq,(eL 3 Bj) x.h.hT.jj,(eL 1 (eL 1 eI)) x.h.og,eB x.pc]
structure Be where
 tc:Int
 kx:AP
 rm:List Be
mutual
def Tv:Be->TV
 |⟨y0,y1,y2⟩=>.agg [eI y0,(eL 1 eI) y1.gt.fq,(eL 1 eI) y1.gt.jj,(eL 1 eI) y1.qy,.list 5 (I4 y2)]
def I4:List Be->Fq
 |[]=>[]|c::cs=>Tv c::I4 cs
end
def ID(l:List Be):TV:=.list 5 (I4 l)
def EB(x:Be):TV:=.agg [eI x.tc,(eL 1 eI) x.kx.gt.fq,(eL 1 eI) x.kx.gt.jj,(eL 1 eI) x.kx.qy,ID x.rm]
theorem Uo(x:Be):Tv x=EB x:=by
 cases x;rfl
theorem Me:∀l:List Be,I4 l=l.map EB
 |[]=>rfl|x::l=>by rw[I4,Uo,Me l];rfl
theorem TQ(l:List Be):ID l=.list 5 (l.map EB):=by rw[ID,Me]
structure BW where
 ns:Int
 kx:AP
 deriving DecidableEq
def Dp(x:BW):TV:=.agg [eI x.ns,(eL 1 eI) x.kx.gt.fq,(eL 1 eI) x.kx.gt.jj,(eL 1 eI) x.kx.qy]
structure AL where
 rn:AM
 po:List BW
 deriving DecidableEq
def BF(x:AL):TV:=.agg [(eL 1 eI) x.rn.hT.fq,(eL 3 Bj) x.rn.hT.jj,(eL 1 (eL 1 eI)) x.rn.og,(eL 4 Dp) x.po]
abbrev lI:Fp->TV:=eL 1 eI
abbrev lE:List B0->TV:=eL 3 Bj
abbrev lS:List CO->TV:=eL 4 Eh
abbrev lT:List Test->TV:=eL 5 GM
abbrev lN:List BO->TV:=eL 4 HC
abbrev lX:List Bg->TV:=eL 7 G9
abbrev lA:List rc->TV:=eL 4 GL
abbrev lB:List ByteArray->TV:=eL 1 eS
theorem Xs(a b:B0):BX (TV.cells (Bj a)) (TV.cells (Bj b))=some (decide (a=b)):=by
 rcases a with⟨a0,a1,a2⟩;rcases b with⟨b0,b1,b2⟩;simp[Bj,TV.cells,BX,eI,Bool.and_assoc,B0.mk.injEq]
end Go.Sf.Sc
