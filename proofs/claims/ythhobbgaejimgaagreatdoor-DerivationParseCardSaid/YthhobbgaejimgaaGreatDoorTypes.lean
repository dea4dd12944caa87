/- The types of the program as Lean types. -/
import Derived.Test.YthhobbgaejimgaaGreatDoorSfK
import Derived.Test.YthhobbgaejimgaaGreatDoorSfStep
import Derived.Test.YthhobbgaejimgaaGreatDoorProg
set_option linter.all false
set_option maxRecDepth 100000
namespace Go.Sf.Sc
open Go Go.Sf Go.Proofs.Tryz
def eI(n:Int):TV:=.int .i64 n
def Ni(n:Int):TV:=.int .u8 n
def G8(n:Int):TV:=.int .u64 n
def oZ(n:Int):TV:=.int .i32 n
def ob(n:Int):TV:=.int .u32 n
def qc(n:Int):TV:=.int .i8 n
def oY(n:Int):TV:=.int .i16 n
def oa(n:Int):TV:=.int .u16 n
def eB(b:Bool):TV:=.bool b
def eS(s:ByteArray):TV:=.str s
def eL{α:Type}(n:Nat)(e:α->TV)(l:List α):TV:=.list n (l.map e)
theorem Tryz_follows:Go.Proofs.Tryz.prog.follows .mixedOrders=true:=by decide +kernel
structure Ap where
 qh:Int
 r7:ByteArray
 uz:Int
 deriving DecidableEq
def Gr(x:Ap):TV:=.agg [eI x.qh,eS x.r7,eI x.uz]
structure AE where
 l:List Ap
 at':Int
 err:Int
 qw:Int
 deriving DecidableEq
def Nj(x:AE):TV:=.agg [(eL 3 Gr) x.l,eI x.at',eI x.err,eI x.qw]
def Bb(x:AE):List AJ:=[⟨false,(eL 3 Gr) x.l⟩,⟨false,eI x.at'⟩,⟨false,eI x.err⟩,⟨false,eI x.qw⟩]
structure AX where
 rL:List Ap
 at':Int
 e:Int
 qw:Int
 deriving DecidableEq
def RN(x:AX):TV:=.agg [(eL 3 Gr) x.rL,eI x.at',eI x.e,eI x.qw]
def Cw(x:AX):List AJ:=[⟨false,(eL 3 Gr) x.rL⟩,⟨false,eI x.at'⟩,⟨false,eI x.e⟩,⟨false,eI x.qw⟩]
structure Bv where
 qz:Int
 qx:Int
 To:Int
 deriving DecidableEq
def Bp(x:Bv):TV:=.agg [eI x.qz,eI x.qx,eI x.To]
structure d3 where
 ci:D1
 d6:List Bv
 deriving DecidableEq
def BO(x:d3):TV:=.agg [(eL 1 eI) x.ci,(eL 3 Bp) x.d6]
structure qp where
 Var:Int
 Add:Int
 deriving DecidableEq
def RY(x:qp):TV:=.agg [eI x.Var,eI x.Add]
structure CT where
 rD:Int
 o3:Int
 qp:qp
 deriving DecidableEq
def Ef(x:CT):TV:=.agg [eI x.rD,eI x.o3,eI x.qp.Var,eI x.qp.Add]
structure Test where
 qh:Int
 ql:qp
 j4:qp
 deriving DecidableEq
def GY(x:Test):TV:=.agg [eI x.qh,eI x.ql.Var,eI x.ql.Add,eI x.j4.Var,eI x.j4.Add]
structure ff where
 d3:d3
 pr:List CT
 k8:Int
 ri:List Test
 deriving DecidableEq
def C3(x:ff):TV:=.agg [(eL 1 eI) x.d3.ci,(eL 3 Bp) x.d3.d6,(eL 4 Ef) x.pr,eI x.k8,(eL 5 GY) x.ri]
structure B3 where
 ci:D1
 d6:D1
 deriving DecidableEq
def ON(x:B3):TV:=.agg [(eL 1 eI) x.ci,(eL 1 eI) x.d6]
structure ec where
 ci:D1
 d6:D1
 deriving DecidableEq
def Br(x:ec):TV:=.agg [(eL 1 eI) x.ci,(eL 1 eI) x.d6]
structure fd where
 qh:Int
 qt:List fd
 Map:ec
 ff:ff
mutual
def Ok:fd->TV
 |⟨y0,y1,y2,y3⟩=>.agg [eI y0,.list 9 (F7 y1),(eL 1 eI) y2.ci,(eL 1 eI) y2.d6,(eL 1 eI) y3.d3.ci,(eL 3 Bp) y3.d3.d6,(eL 4 Ef) y3.pr,eI y3.k8,(eL 5 GY) y3.ri]
def F7:List fd->D2
 |[]=>[]|c::cs=>Ok c::F7 cs
end
def D8(l:List fd):TV:=.list 9 (F7 l)
def Af(x:fd):TV:=.agg [eI x.qh,D8 x.qt,(eL 1 eI) x.Map.ci,(eL 1 eI) x.Map.d6,(eL 1 eI) x.ff.d3.ci,(eL 3 Bp) x.ff.d3.d6,(eL 4 Ef) x.ff.pr,eI x.ff.k8,(eL 5 GY) x.ff.ri]
theorem QW(x:fd):Ok x=Af x:=by
 cases x;rfl
theorem JQ:∀l:List fd,F7 l=l.map Af
 |[]=>rfl|x::l=>by rw[F7,QW,JQ l];rfl
theorem Pl(l:List fd):D8 l=.list 9 (l.map Af):=by rw[D8,JQ]
structure jj where
 og:ByteArray
 ql:ff
 j4:ff
 rN:B3
 rA:ec
 rd:Bool
 fd:fd
def Fx(x:jj):TV:=.agg [eS x.og,(eL 1 eI) x.ql.d3.ci,(eL 3 Bp) x.ql.d3.d6,(eL 4 Ef) x.ql.pr,eI x.ql.k8,(eL 5 GY) x.ql.ri,(eL 1 eI) x.j4.d3.ci,(eL 3 Bp) x.j4.d3.d6,(eL 4 Ef) x.j4.pr,eI x.j4.k8,(eL 5 GY) x.j4.ri,(eL 1 eI) x.rN.ci,(eL 1 eI) x.rN.d6,(eL 1 eI) x.rA.ci,(eL 1 eI) x.rA.d6,eB x.rd,eI x.fd.qh,D8 x.fd.qt,(eL 1 eI) x.fd.Map.ci,(eL 1 eI) x.fd.Map.d6,(eL 1 eI) x.fd.ff.d3.ci,(eL 3 Bp) x.fd.ff.d3.d6,(eL 4 Ef) x.fd.ff.pr,eI x.fd.ff.k8,(eL 5 GY) x.fd.ff.ri]
structure AR where
 ec:ec
 k8:D1
 deriving DecidableEq
def B7(x:AR):TV:=.agg [(eL 1 eI) x.ec.ci,(eL 1 eI) x.ec.d6,(eL 1 eI) x.k8]
structure AL where
 d3:d3
 hT:List D1
 deriving DecidableEq
def CL(x:AL):TV:=.agg [(eL 1 eI) x.d3.ci,(eL 3 Bp) x.d3.d6,(eL 1 (eL 1 eI)) x.hT]
structure BD where
 jj:jj
 qj:AR
 rQ:AL
 q9:AL
 rZ:ec
 rI:ec
def Nh(x:BD):TV:=.agg [eS x.jj.og,(eL 1 eI) x.jj.ql.d3.ci,(eL 3 Bp) x.jj.ql.d3.d6,(eL 4 Ef) x.jj.ql.pr,eI x.jj.ql.k8,(eL 5 GY) x.jj.ql.ri,(eL 1 eI) x.jj.j4.d3.ci,(eL 3 Bp) x.jj.j4.d3.d6,(eL 4 Ef) x.jj.j4.pr,eI x.jj.j4.k8,(eL 5 GY) x.jj.j4.ri,(eL 1 eI) x.jj.rN.ci,(eL 1 eI) x.jj.rN.d6,(eL 1 eI) x.jj.rA.ci,(eL 1 eI) x.jj.rA.d6,eB x.jj.rd,eI x.jj.fd.qh,D8 x.jj.fd.qt,(eL 1 eI) x.jj.fd.Map.ci,(eL 1 eI) x.jj.fd.Map.d6,(eL 1 eI) x.jj.fd.ff.d3.ci,(eL 3 Bp) x.jj.fd.ff.d3.d6,(eL 4 Ef) x.jj.fd.ff.pr,eI x.jj.fd.ff.k8,(eL 5 GY) x.jj.fd.ff.ri,(eL 1 eI) x.qj.ec.ci,(eL 1 eI) x.qj.ec.d6,(eL 1 eI) x.qj.k8,(eL 1 eI) x.rQ.d3.ci,(eL 3 Bp) x.rQ.d3.d6,(eL 1 (eL 1 eI)) x.rQ.hT,(eL 1 eI) x.q9.d3.ci,(eL 3 Bp) x.q9.d3.d6,(eL 1 (eL 1 eI)) x.q9.hT,(eL 1 eI) x.rZ.ci,(eL 1 eI) x.rZ.d6,(eL 1 eI) x.rI.ci,(eL 1 eI) x.rI.d6]
def Ca(x:BD):List AJ:=[⟨false,eS x.jj.og⟩,⟨false,(eL 1 eI) x.jj.ql.d3.ci⟩,⟨false,(eL 3 Bp) x.jj.ql.d3.d6⟩,⟨false,(eL 4 Ef) x.jj.ql.pr⟩,⟨false,eI x.jj.ql.k8⟩,⟨false,(eL 5 GY) x.jj.ql.ri⟩,⟨false,(eL 1 eI) x.jj.j4.d3.ci⟩,⟨false,(eL 3 Bp) x.jj.j4.d3.d6⟩,⟨false,(eL 4 Ef) x.jj.j4.pr⟩,⟨false,eI x.jj.j4.k8⟩,⟨false,(eL 5 GY) x.jj.j4.ri⟩,⟨false,(eL 1 eI) x.jj.rN.ci⟩,⟨false,(eL 1 eI) x.jj.rN.d6⟩,⟨false,(eL 1 eI) x.jj.rA.ci⟩,⟨false,(eL 1 eI) x.jj.rA.d6⟩,⟨false,eB x.jj.rd⟩,⟨false,eI x.jj.fd.qh⟩,⟨false,D8 x.jj.fd.qt⟩,⟨false,(eL 1 eI) x.jj.fd.Map.ci⟩,⟨false,(eL 1 eI) x.jj.fd.Map.d6⟩,⟨false,(eL 1 eI) x.jj.fd.ff.d3.ci⟩,⟨false,(eL 3 Bp) x.jj.fd.ff.d3.d6⟩,⟨false,(eL 4 Ef) x.jj.fd.ff.pr⟩,⟨false,eI x.jj.fd.ff.k8⟩,⟨false,(eL 5 GY) x.jj.fd.ff.ri⟩,⟨false,(eL 1 eI) x.qj.ec.ci⟩,⟨false,(eL 1 eI) x.qj.ec.d6⟩,⟨false,(eL 1 eI) x.qj.k8⟩,⟨false,(eL 1 eI) x.rQ.d3.ci⟩,⟨false,(eL 3 Bp) x.rQ.d3.d6⟩,⟨false,(eL 1 (eL 1 eI)) x.rQ.hT⟩,⟨true,(eL 1 eI) x.q9.d3.ci⟩,⟨true,(eL 3 Bp) x.q9.d3.d6⟩,⟨true,.xn (List.map (eL 1 eI) x.q9.hT)⟩,⟨false,(eL 1 eI) x.rZ.ci⟩,⟨false,(eL 1 eI) x.rZ.d6⟩,⟨false,(eL 1 eI) x.rI.ci⟩,⟨false,(eL 1 eI) x.rI.d6⟩]
structure JM where
 ci:Option D1
 d6:Option D1
 deriving DecidableEq
def ZA(x:JM):TV:=.agg [(eO 1 eI) x.ci,(eO 1 eI) x.d6]
def JM.of(m:ec):JM:=⟨some m.ci,some m.d6⟩
instance:Coe ec JM:=⟨JM.of⟩
structure AU where
 p:d3
 g:d3
 is:List Ne
 qf:JM
 j0:Bool
 qn:Int
 k7:D1
 qr:D1
 out:List ec
 deriving DecidableEq
def Ll(x:AU):TV:=.agg [(eL 1 eI) x.p.ci,(eL 3 Bp) x.p.d6,(eL 1 eI) x.g.ci,(eL 3 Bp) x.g.d6,(eL 1 (eL 1 eB)) x.is,(eO 1 eI) x.qf.ci,(eO 1 eI) x.qf.d6,eB x.j0,eI x.qn,(eL 1 eI) x.k7,(eL 1 eI) x.qr,(eL 2 Br) x.out]
def B9(x:AU):List AJ:=[⟨false,(eL 1 eI) x.p.ci⟩,⟨false,(eL 3 Bp) x.p.d6⟩,⟨false,(eL 1 eI) x.g.ci⟩,⟨false,(eL 3 Bp) x.g.d6⟩,⟨false,(eL 1 (eL 1 eB)) x.is⟩,⟨false,(eO 1 eI) x.qf.ci⟩,⟨false,(eO 1 eI) x.qf.d6⟩,⟨false,eB x.j0⟩,⟨false,eI x.qn⟩,⟨true,.xl 1 (List.map eI x.k7)⟩,⟨true,.xl 1 (List.map eI x.qr)⟩,⟨true,(eL 2 Br) x.out⟩]
structure o3 where
 og:ByteArray
 s7:Int
 sb:Int
 qu:List ByteArray
 deriving DecidableEq
def FD(x:o3):TV:=.agg [eS x.og,eI x.s7,eI x.sb,(eL 1 eS) x.qu]
structure Ba where
 og:ByteArray
 ru:Int
 se:Bool
 qv:List o3
 deriving DecidableEq
def Ej(x:Ba):TV:=.agg [eS x.og,eI x.ru,eB x.se,(eL 4 FD) x.qv]
structure Bl where
 og:ByteArray
 qx:Int
 To:Int
 sX:Int
 sB:Int
 tL:Int
 sZ:Int
 deriving DecidableEq
def FQ(x:Bl):TV:=.agg [eS x.og,eI x.qx,eI x.To,eI x.sX,eI x.sB,eI x.tL,eI x.sZ]
structure AB where
 ci:List Ba
 d6:List Bl
 deriving DecidableEq
def AS(x:AB):TV:=.agg [(eL 4 Ej) x.ci,(eL 7 FQ) x.d6]
structure BX where
 l:d3
 g:d3
 kq:B3
 m:ec
 deriving DecidableEq
def FR(x:BX):TV:=.agg [(eL 1 eI) x.l.ci,(eL 3 Bp) x.l.d6,(eL 1 eI) x.g.ci,(eL 3 Bp) x.g.d6,(eL 1 eI) x.kq.ci,(eL 1 eI) x.kq.d6,(eL 1 eI) x.m.ci,(eL 1 eI) x.m.d6]
structure L0 where
 A:Int
 B:Int
 deriving DecidableEq
def Pm(x:L0):TV:=.agg [eI x.A,eI x.B]
structure Ar where
 t:AB
 h:AL
 j0:Bool
 deriving DecidableEq
def Bq(x:Ar):TV:=.agg [(eL 4 Ej) x.t.ci,(eL 7 FQ) x.t.d6,(eL 1 eI) x.h.d3.ci,(eL 3 Bp) x.h.d3.d6,(eL 1 (eL 1 eI)) x.h.hT,eB x.j0]
structure Bh where
 sL:Int
 qj:AR
 qt:List Bh
mutual
def Tc:Bh->TV
 |⟨y0,y1,y2⟩=>.agg [eI y0,(eL 1 eI) y1.ec.ci,(eL 1 eI) y1.ec.d6,(eL 1 eI) y1.k8,.list 5 (JR y2)]
def JR:List Bh->D2
 |[]=>[]|c::cs=>Tc c::JR cs
end
def IR(l:List Bh):TV:=.list 5 (JR l)
def EC(x:Bh):TV:=.agg [eI x.sL,(eL 1 eI) x.qj.ec.ci,(eL 1 eI) x.qj.ec.d6,(eL 1 eI) x.qj.k8,IR x.qt]
theorem UY(x:Bh):Tc x=EC x:=by
 cases x;rfl
theorem MI:∀l:List Bh,JR l=l.map EC
 |[]=>rfl|x::l=>by rw[JR,UY,MI l];rfl
theorem S8(l:List Bh):IR l=.list 5 (l.map EC):=by rw[IR,MI]
structure CQ where
 jj:Int
 qj:AR
 deriving DecidableEq
def GX(x:CQ):TV:=.agg [eI x.jj,(eL 1 eI) x.qj.ec.ci,(eL 1 eI) x.qj.ec.d6,(eL 1 eI) x.qj.k8]
structure AN where
 qy:AL
 o4:List CQ
 deriving DecidableEq
def Cu(x:AN):TV:=.agg [(eL 1 eI) x.qy.d3.ci,(eL 3 Bp) x.qy.d3.d6,(eL 1 (eL 1 eI)) x.qy.hT,(eL 4 GX) x.o4]
abbrev lI:D1->TV:=eL 1 eI
abbrev lE:List Bv->TV:=eL 3 Bp
abbrev lS:List CT->TV:=eL 4 Ef
abbrev lT:List Test->TV:=eL 5 GY
abbrev lN:List Ba->TV:=eL 4 Ej
abbrev lX:List Bl->TV:=eL 7 FQ
abbrev lA:List o3->TV:=eL 4 FD
abbrev lB:List ByteArray->TV:=eL 1 eS
theorem XT(a b:Bv):BZ (TV.cells (Bp a)) (TV.cells (Bp b))=some (decide (a=b)):=by
 rcases a with⟨a0,a1,a2⟩;rcases b with⟨b0,b1,b2⟩;simp[Bp,TV.cells,BZ,eI,Bool.and_assoc,Bv.mk.injEq]
end Go.Sf.Sc
