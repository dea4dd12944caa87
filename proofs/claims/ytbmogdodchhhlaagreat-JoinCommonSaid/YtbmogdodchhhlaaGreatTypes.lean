/- The types of the program as Lean types. -/
import Derived.Test.YtbmogdodchhhlaaGreatSfK
import Derived.Test.YtbmogdodchhhlaaGreatSfStep
import Derived.Test.YtbmogdodchhhlaaGreatProg
set_option linter.all false
set_option maxRecDepth 100000
namespace Go.Sf.Sc
open Go Go.Sf Go.Proofs.Tryz
def eI(n:Int):TV:=.int .i64 n
def Pp(n:Int):TV:=.int .u8 n
def HP(n:Int):TV:=.int .u64 n
def pN(n:Int):TV:=.int .i32 n
def pP(n:Int):TV:=.int .u32 n
def rc(n:Int):TV:=.int .i8 n
def pM(n:Int):TV:=.int .i16 n
def pO(n:Int):TV:=.int .u16 n
def eB(b:Bool):TV:=.bool b
def eS(s:ByteArray):TV:=.str s
def eL{α:Type}(n:Nat)(e:α->TV)(l:List α):TV:=.list n (l.map e)
theorem Tryz_follows:Go.Proofs.Tryz.prog.follows .mixedOrders=true:=by decide +kernel
structure Bh where
 rz:Int
 r9:Int
 To:Int
 deriving DecidableEq
def BN(x:Bh):TV:=.agg [eI x.rz,eI x.r9,eI x.To]
structure fq where
 ff:Fp
 gt:List Bh
 deriving DecidableEq
def Am(x:fq):TV:=.agg [(eL 1 eI) x.ff,(eL 3 BN) x.gt]
structure AF where
 fq:fq
 ne:List Fp
 deriving DecidableEq
def BH(x:AF):TV:=.agg [(eL 1 eI) x.fq.ff,(eL 3 BN) x.fq.gt,(eL 1 (eL 1 eI)) x.ne]
structure hT where
 ff:Fp
 gt:Fp
 deriving DecidableEq
def An(x:hT):TV:=.agg [(eL 1 eI) x.ff,(eL 1 eI) x.gt]
structure A6 where
 a:AF
 b:AF
 rf:Fp
 rr:Fp
 m:hT
 deriving DecidableEq
def Ub(x:A6):TV:=.agg [(eL 1 eI) x.a.fq.ff,(eL 3 BN) x.a.fq.gt,(eL 1 (eL 1 eI)) x.a.ne,(eL 1 eI) x.b.fq.ff,(eL 3 BN) x.b.fq.gt,(eL 1 (eL 1 eI)) x.b.ne,(eL 1 eI) x.rf,(eL 1 eI) x.rr,(eL 1 eI) x.m.ff,(eL 1 eI) x.m.gt]
def Br(x:A6):List AI:=[⟨false,(eL 1 eI) x.a.fq.ff⟩,⟨false,(eL 3 BN) x.a.fq.gt⟩,⟨false,(eL 1 (eL 1 eI)) x.a.ne⟩,⟨false,(eL 1 eI) x.b.fq.ff⟩,⟨false,(eL 3 BN) x.b.fq.gt⟩,⟨false,(eL 1 (eL 1 eI)) x.b.ne⟩,⟨false,(eL 1 eI) x.rf⟩,⟨false,(eL 1 eI) x.rr⟩,⟨true,.xl 1 (List.map eI x.m.ff)⟩,⟨true,.xl 1 (List.map eI x.m.gt)⟩]
structure ri where
 sb:ByteArray
 uk:Int
 tl:Int
 s7:List ByteArray
 deriving DecidableEq
def Fw(x:ri):TV:=.agg [eS x.sb,eI x.uk,eI x.tl,(eL 1 eS) x.s7]
structure Bn where
 sb:ByteArray
 sU:Int
 tf:Bool
 sY:List ri
 deriving DecidableEq
def FT(x:Bn):TV:=.agg [eS x.sb,eI x.sU,eB x.tf,(eL 4 Fw) x.sY]
structure Bv where
 sb:ByteArray
 r9:Int
 To:Int
 uG:Int
 ul:Int
 vc:Int
 uH:Int
 deriving DecidableEq
def FR(x:Bv):TV:=.agg [eS x.sb,eI x.r9,eI x.To,eI x.uG,eI x.ul,eI x.vc,eI x.uH]
structure AB where
 ff:List Bn
 gt:List Bv
 deriving DecidableEq
def AO(x:AB):TV:=.agg [(eL 4 FT) x.ff,(eL 7 FR) x.gt]
structure Aq where
 t:AB
 p:fq
 g:fq
 pr:hT
 kq:Bool
 sN:Int
 t8:List hT
 deriving DecidableEq
def Nc(x:Aq):TV:=.agg [(eL 4 FT) x.t.ff,(eL 7 FR) x.t.gt,(eL 1 eI) x.p.ff,(eL 3 BN) x.p.gt,(eL 1 eI) x.g.ff,(eL 3 BN) x.g.gt,(eL 1 eI) x.pr.ff,(eL 1 eI) x.pr.gt,eB x.kq,eI x.sN,(eL 2 An) x.t8]
def BQ(x:Aq):List AI:=[⟨false,(eL 4 FT) x.t.ff⟩,⟨false,(eL 7 FR) x.t.gt⟩,⟨false,(eL 1 eI) x.p.ff⟩,⟨false,(eL 3 BN) x.p.gt⟩,⟨false,(eL 1 eI) x.g.ff⟩,⟨false,(eL 3 BN) x.g.gt⟩,⟨false,(eL 1 eI) x.pr.ff⟩,⟨false,(eL 1 eI) x.pr.gt⟩,⟨false,eB x.kq⟩,⟨false,eI x.sN⟩,⟨true,(eL 2 An) x.t8⟩]
structure rg where
 Var:Int
 Add:Int
 deriving DecidableEq
def K8(x:rg):TV:=.agg [eI x.Var,eI x.Add]
structure Bw where
 sr:Int
 ri:Int
 rg:rg
 deriving DecidableEq
def DI(x:Bw):TV:=.agg [eI x.sr,eI x.ri,eI x.rg.Var,eI x.rg.Add]
structure Test where
 rt:Int
 rh:rg
 o3:rg
 deriving DecidableEq
def Dh(x:Test):TV:=.agg [eI x.rt,eI x.rh.Var,eI x.rh.Add,eI x.o3.Var,eI x.o3.Add]
structure j0 where
 fq:fq
 pq:List Bw
 q0:Int
 r8:List Test
 deriving DecidableEq
def BI(x:j0):TV:=.agg [(eL 1 eI) x.fq.ff,(eL 3 BN) x.fq.gt,(eL 4 DI) x.pq,eI x.q0,(eL 5 Dh) x.r8]
structure At where
 ff:Fp
 gt:Fp
 deriving DecidableEq
def Dw(x:At):TV:=.agg [(eL 1 eI) x.ff,(eL 1 eI) x.gt]
structure hV where
 rt:Int
 rq:List hV
 Map:hT
 j0:j0
mutual
def Oo:hV->TV
 |⟨y0,y1,y2,y3⟩=>.agg [eI y0,.list 9 (F6 y1),(eL 1 eI) y2.ff,(eL 1 eI) y2.gt,(eL 1 eI) y3.fq.ff,(eL 3 BN) y3.fq.gt,(eL 4 DI) y3.pq,eI y3.q0,(eL 5 Dh) y3.r8]
def F6:List hV->Fq
 |[]=>[]|c::cs=>Oo c::F6 cs
end
def Ce(l:List hV):TV:=.list 9 (F6 l)
def AL(x:hV):TV:=.agg [eI x.rt,Ce x.rq,(eL 1 eI) x.Map.ff,(eL 1 eI) x.Map.gt,(eL 1 eI) x.j0.fq.ff,(eL 3 BN) x.j0.fq.gt,(eL 4 DI) x.j0.pq,eI x.j0.q0,(eL 5 Dh) x.j0.r8]
theorem Qa(x:hV):Oo x=AL x:=by
 cases x;rfl
theorem J5:∀l:List hV,F6 l=l.map AL
 |[]=>rfl|x::l=>by rw[F6,Qa,J5 l];rfl
theorem L3(l:List hV):Ce l=.list 9 (l.map AL):=by rw[Ce,J5]
structure o4 where
 sb:ByteArray
 rh:j0
 o3:j0
 sA:At
 sn:hT
 r7:Bool
 hV:hV
def CH(x:o4):TV:=.agg [eS x.sb,(eL 1 eI) x.rh.fq.ff,(eL 3 BN) x.rh.fq.gt,(eL 4 DI) x.rh.pq,eI x.rh.q0,(eL 5 Dh) x.rh.r8,(eL 1 eI) x.o3.fq.ff,(eL 3 BN) x.o3.fq.gt,(eL 4 DI) x.o3.pq,eI x.o3.q0,(eL 5 Dh) x.o3.r8,(eL 1 eI) x.sA.ff,(eL 1 eI) x.sA.gt,(eL 1 eI) x.sn.ff,(eL 1 eI) x.sn.gt,eB x.r7,eI x.hV.rt,Ce x.hV.rq,(eL 1 eI) x.hV.Map.ff,(eL 1 eI) x.hV.Map.gt,(eL 1 eI) x.hV.j0.fq.ff,(eL 3 BN) x.hV.j0.fq.gt,(eL 4 DI) x.hV.j0.pq,eI x.hV.j0.q0,(eL 5 Dh) x.hV.j0.r8]
structure AM where
 hT:hT
 q0:Fp
 deriving DecidableEq
def BC(x:AM):TV:=.agg [(eL 1 eI) x.hT.ff,(eL 1 eI) x.hT.gt,(eL 1 eI) x.q0]
structure AT where
 o4:o4
 ru:AM
 rn:AF
 r6:AF
 rx:hT
 sC:hT
def Bp(x:AT):TV:=.agg [eS x.o4.sb,(eL 1 eI) x.o4.rh.fq.ff,(eL 3 BN) x.o4.rh.fq.gt,(eL 4 DI) x.o4.rh.pq,eI x.o4.rh.q0,(eL 5 Dh) x.o4.rh.r8,(eL 1 eI) x.o4.o3.fq.ff,(eL 3 BN) x.o4.o3.fq.gt,(eL 4 DI) x.o4.o3.pq,eI x.o4.o3.q0,(eL 5 Dh) x.o4.o3.r8,(eL 1 eI) x.o4.sA.ff,(eL 1 eI) x.o4.sA.gt,(eL 1 eI) x.o4.sn.ff,(eL 1 eI) x.o4.sn.gt,eB x.o4.r7,eI x.o4.hV.rt,Ce x.o4.hV.rq,(eL 1 eI) x.o4.hV.Map.ff,(eL 1 eI) x.o4.hV.Map.gt,(eL 1 eI) x.o4.hV.j0.fq.ff,(eL 3 BN) x.o4.hV.j0.fq.gt,(eL 4 DI) x.o4.hV.j0.pq,eI x.o4.hV.j0.q0,(eL 5 Dh) x.o4.hV.j0.r8,(eL 1 eI) x.ru.hT.ff,(eL 1 eI) x.ru.hT.gt,(eL 1 eI) x.ru.q0,(eL 1 eI) x.rn.fq.ff,(eL 3 BN) x.rn.fq.gt,(eL 1 (eL 1 eI)) x.rn.ne,(eL 1 eI) x.r6.fq.ff,(eL 3 BN) x.r6.fq.gt,(eL 1 (eL 1 eI)) x.r6.ne,(eL 1 eI) x.rx.ff,(eL 1 eI) x.rx.gt,(eL 1 eI) x.sC.ff,(eL 1 eI) x.sC.gt]
def Cd(x:AT):List AI:=[⟨false,eS x.o4.sb⟩,⟨false,(eL 1 eI) x.o4.rh.fq.ff⟩,⟨false,(eL 3 BN) x.o4.rh.fq.gt⟩,⟨false,(eL 4 DI) x.o4.rh.pq⟩,⟨false,eI x.o4.rh.q0⟩,⟨false,(eL 5 Dh) x.o4.rh.r8⟩,⟨false,(eL 1 eI) x.o4.o3.fq.ff⟩,⟨false,(eL 3 BN) x.o4.o3.fq.gt⟩,⟨false,(eL 4 DI) x.o4.o3.pq⟩,⟨false,eI x.o4.o3.q0⟩,⟨false,(eL 5 Dh) x.o4.o3.r8⟩,⟨false,(eL 1 eI) x.o4.sA.ff⟩,⟨false,(eL 1 eI) x.o4.sA.gt⟩,⟨false,(eL 1 eI) x.o4.sn.ff⟩,⟨false,(eL 1 eI) x.o4.sn.gt⟩,⟨false,eB x.o4.r7⟩,⟨false,eI x.o4.hV.rt⟩,⟨false,Ce x.o4.hV.rq⟩,⟨false,(eL 1 eI) x.o4.hV.Map.ff⟩,⟨false,(eL 1 eI) x.o4.hV.Map.gt⟩,⟨false,(eL 1 eI) x.o4.hV.j0.fq.ff⟩,⟨false,(eL 3 BN) x.o4.hV.j0.fq.gt⟩,⟨false,(eL 4 DI) x.o4.hV.j0.pq⟩,⟨false,eI x.o4.hV.j0.q0⟩,⟨false,(eL 5 Dh) x.o4.hV.j0.r8⟩,⟨false,(eL 1 eI) x.ru.hT.ff⟩,⟨false,(eL 1 eI) x.ru.hT.gt⟩,⟨false,(eL 1 eI) x.ru.q0⟩,⟨false,(eL 1 eI) x.rn.fq.ff⟩,⟨false,(eL 3 BN) x.rn.fq.gt⟩,⟨false,(eL 1 (eL 1 eI)) x.rn.ne⟩,⟨true,(eL 1 eI) x.r6.fq.ff⟩,⟨true,(eL 3 BN) x.r6.fq.gt⟩,⟨true,.xn (List.map (eL 1 eI) x.r6.ne)⟩,⟨false,(eL 1 eI) x.rx.ff⟩,⟨false,(eL 1 eI) x.rx.gt⟩,⟨false,(eL 1 eI) x.sC.ff⟩,⟨false,(eL 1 eI) x.sC.gt⟩]
structure J2 where
 ff:Option Fp
 gt:Option Fp
 deriving DecidableEq
def Y2(x:J2):TV:=.agg [(eO 1 eI) x.ff,(eO 1 eI) x.gt]
def J2.of(m:hT):J2:=⟨some m.ff,some m.gt⟩
instance:Coe hT J2:=⟨J2.of⟩
structure AV where
 p:fq
 g:fq
 is:List a5
 pr:J2
 kq:Bool
 sN:Int
 rf:Fp
 rr:Fp
 out:List hT
 deriving DecidableEq
def Mi(x:AV):TV:=.agg [(eL 1 eI) x.p.ff,(eL 3 BN) x.p.gt,(eL 1 eI) x.g.ff,(eL 3 BN) x.g.gt,(eL 1 (eL 1 eB)) x.is,(eO 1 eI) x.pr.ff,(eO 1 eI) x.pr.gt,eB x.kq,eI x.sN,(eL 1 eI) x.rf,(eL 1 eI) x.rr,(eL 2 An) x.out]
def CB(x:AV):List AI:=[⟨false,(eL 1 eI) x.p.ff⟩,⟨false,(eL 3 BN) x.p.gt⟩,⟨false,(eL 1 eI) x.g.ff⟩,⟨false,(eL 3 BN) x.g.gt⟩,⟨false,(eL 1 (eL 1 eB)) x.is⟩,⟨false,(eO 1 eI) x.pr.ff⟩,⟨false,(eO 1 eI) x.pr.gt⟩,⟨false,eB x.kq⟩,⟨false,eI x.sN⟩,⟨true,.xl 1 (List.map eI x.rf)⟩,⟨true,.xl 1 (List.map eI x.rr)⟩,⟨true,(eL 2 An) x.out⟩]
structure Db where
 rt:Int
 vl:ByteArray
 Line:Int
 deriving DecidableEq
def Po(x:Db):TV:=.agg [eI x.rt,eS x.vl,eI x.Line]
structure I2 where
 A:Int
 B:Int
 deriving DecidableEq
def L4(x:I2):TV:=.agg [eI x.A,eI x.B]
structure BE where
 ta:Int
 ru:AM
 rq:List BE
mutual
def Ts:BE->TV
 |⟨y0,y1,y2⟩=>.agg [eI y0,(eL 1 eI) y1.hT.ff,(eL 1 eI) y1.hT.gt,(eL 1 eI) y1.q0,.list 5 (J6 y2)]
def J6:List BE->Fq
 |[]=>[]|c::cs=>Ts c::J6 cs
end
def FG(l:List BE):TV:=.list 5 (J6 l)
def DA(x:BE):TV:=.agg [eI x.ta,(eL 1 eI) x.ru.hT.ff,(eL 1 eI) x.ru.hT.gt,(eL 1 eI) x.ru.q0,FG x.rq]
theorem Ua(x:BE):Ts x=DA x:=by
 cases x;rfl
theorem M5:∀l:List BE,J6 l=l.map DA
 |[]=>rfl|x::l=>by rw[J6,Ua,M5 l];rfl
theorem TR(l:List BE):FG l=.list 5 (l.map DA):=by rw[FG,M5]
structure Bb where
 l:fq
 g:fq
 po:At
 m:hT
 deriving DecidableEq
def FU(x:Bb):TV:=.agg [(eL 1 eI) x.l.ff,(eL 3 BN) x.l.gt,(eL 1 eI) x.g.ff,(eL 3 BN) x.g.gt,(eL 1 eI) x.po.ff,(eL 1 eI) x.po.gt,(eL 1 eI) x.m.ff,(eL 1 eI) x.m.gt]
structure Ax where
 t:AB
 h:AF
 kq:Bool
 deriving DecidableEq
def Bs(x:Ax):TV:=.agg [(eL 4 FT) x.t.ff,(eL 7 FR) x.t.gt,(eL 1 eI) x.h.fq.ff,(eL 3 BN) x.h.fq.gt,(eL 1 (eL 1 eI)) x.h.ne,eB x.kq]
structure JO where
 o4:Int
 ru:AM
 deriving DecidableEq
def H3(x:JO):TV:=.agg [eI x.o4,(eL 1 eI) x.ru.hT.ff,(eL 1 eI) x.ru.hT.gt,(eL 1 eI) x.ru.q0]
structure B8 where
 sa:AF
 sK:List JO
 deriving DecidableEq
def Oq(x:B8):TV:=.agg [(eL 1 eI) x.sa.fq.ff,(eL 3 BN) x.sa.fq.gt,(eL 1 (eL 1 eI)) x.sa.ne,(eL 4 H3) x.sK]
structure AU where
 d:B8
 uu:AF
 rk:hT
 deriving DecidableEq
def Bc(x:AU):TV:=.agg [(eL 1 eI) x.d.sa.fq.ff,(eL 3 BN) x.d.sa.fq.gt,(eL 1 (eL 1 eI)) x.d.sa.ne,(eL 4 H3) x.d.sK,(eL 1 eI) x.uu.fq.ff,(eL 3 BN) x.uu.fq.gt,(eL 1 (eL 1 eI)) x.uu.ne,(eL 1 eI) x.rk.ff,(eL 1 eI) x.rk.gt]
structure s8 where
 rh:B8
 o3:B8
 vr:hT
 deriving DecidableEq
def UZ(x:s8):TV:=.agg [(eL 1 eI) x.rh.sa.fq.ff,(eL 3 BN) x.rh.sa.fq.gt,(eL 1 (eL 1 eI)) x.rh.sa.ne,(eL 4 H3) x.rh.sK,(eL 1 eI) x.o3.sa.fq.ff,(eL 3 BN) x.o3.sa.fq.gt,(eL 1 (eL 1 eI)) x.o3.sa.ne,(eL 4 H3) x.o3.sK,(eL 1 eI) x.vr.ff,(eL 1 eI) x.vr.gt]
abbrev lI:Fp->TV:=eL 1 eI
abbrev lE:List Bh->TV:=eL 3 BN
abbrev lS:List Bw->TV:=eL 4 DI
abbrev lT:List Test->TV:=eL 5 Dh
abbrev lN:List Bn->TV:=eL 4 FT
abbrev lX:List Bv->TV:=eL 7 FR
abbrev lA:List ri->TV:=eL 4 Fw
abbrev lB:List ByteArray->TV:=eL 1 eS
theorem XL(a b:Bh):BT (TV.cells (BN a)) (TV.cells (BN b))=some (decide (a=b)):=by
 rcases a with⟨a0,a1,a2⟩;rcases b with⟨b0,b1,b2⟩;simp[BN,TV.cells,BT,eI,Bool.and_assoc,Bh.mk.injEq]
theorem XM(a b:Bw):BT (TV.cells (DI a)) (TV.cells (DI b))=some (decide (a=b)):=by
 rcases a with⟨a0,a1,⟨a20,a21⟩⟩;rcases b with⟨b0,b1,⟨b20,b21⟩⟩;simp[DI,TV.cells,BT,eI,Bool.and_assoc,Bw.mk.injEq,rg.mk.injEq]
theorem XN(a b:Test):BT (TV.cells (Dh a)) (TV.cells (Dh b))=some (decide (a=b)):=by
 rcases a with⟨a0,⟨a10,a11⟩,⟨a20,a21⟩⟩;rcases b with⟨b0,⟨b10,b11⟩,⟨b20,b21⟩⟩;simp[Dh,TV.cells,BT,eI,Bool.and_assoc,rg.mk.injEq,Test.mk.injEq]
end Go.Sf.Sc
