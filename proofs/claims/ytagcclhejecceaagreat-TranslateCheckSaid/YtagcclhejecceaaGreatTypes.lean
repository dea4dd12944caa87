/- The types of the program as Lean types. -/
import Derived.Test.YtagcclhejecceaaGreatSfK
import Derived.Test.YtagcclhejecceaaGreatSfStep
import Derived.Test.YtagcclhejecceaaGreatProg
set_option linter.all false
set_option maxRecDepth 100000
namespace Go.Sf.Sc
open Go Go.Sf Go.Proofs.Tryz
def eI(n:Int):TV:=.int .i64 n
def Pc(n:Int):TV:=.int .u8 n
def Jz(n:Int):TV:=.int .u64 n
def ve(n:Int):TV:=.int .i32 n
def vg(n:Int):TV:=.int .u32 n
def wF(n:Int):TV:=.int .i8 n
def vd(n:Int):TV:=.int .i16 n
def vf(n:Int):TV:=.int .u16 n
def eB(b:Bool):TV:=.bool b
def eS(s:ByteArray):TV:=.str s
def eL{α:Type}(n:Nat)(e:α->TV)(l:List α):TV:=.list n (l.map e)
theorem Tryz_follows:Go.Proofs.Tryz.prog.follows .mixedOrders=true:=by decide +kernel
structure kl where
 l4:ByteArray
 xt:Int
 wM:Int
 sg:List ByteArray
 deriving DecidableEq
def Fu(x:kl):TV:=.agg [eS x.l4,eI x.xt,eI x.wM,(eL 1 eS) x.sg]
structure Bb where
 l4:ByteArray
 pq:Int
 wH:Bool
 po:List kl
 deriving DecidableEq
def Cj(x:Bb):TV:=.agg [eS x.l4,eI x.pq,eB x.wH,(eL 4 Fu) x.po]
structure CZ where
 l4:ByteArray
 kg:Int
 To:Int
 xH:Int
 xf:Int
 yo:Int
 xI:Int
 deriving DecidableEq
def C4(x:CZ):TV:=.agg [eS x.l4,eI x.kg,eI x.To,eI x.xH,eI x.xf,eI x.yo,eI x.xI]
structure AC where
 ca:List Bb
 ci:List CZ
 deriving DecidableEq
def AM(x:AC):TV:=.agg [(eL 4 Cj) x.ca,(eL 7 C4) x.ci]
structure B3 where
 ca:Fp
 ci:Fp
 deriving DecidableEq
def EO(x:B3):TV:=.agg [(eL 1 eI) x.ca,(eL 1 eI) x.ci]
structure Bw where
 j4:Int
 kg:Int
 To:Int
 deriving DecidableEq
def Bp(x:Bw):TV:=.agg [eI x.j4,eI x.kg,eI x.To]
structure c9 where
 ca:Fp
 ci:List Bw
 deriving DecidableEq
def Al(x:c9):TV:=.agg [(eL 1 eI) x.ca,(eL 3 Bp) x.ci]
structure hV where
 Var:Int
 Add:Int
 deriving DecidableEq
def N0(x:hV):TV:=.agg [eI x.Var,eI x.Add]
structure Cx where
 r0:Int
 kl:Int
 hV:hV
 deriving DecidableEq
def E8(x:Cx):TV:=.agg [eI x.r0,eI x.kl,eI x.hV.Var,eI x.hV.Add]
structure Test where
 kp:Int
 gt:hV
 ec:hV
 deriving DecidableEq
def Fv(x:Test):TV:=.agg [eI x.kp,eI x.gt.Var,eI x.gt.Add,eI x.ec.Var,eI x.ec.Add]
structure d6 where
 c9:c9
 ej:List Cx
 fd:Int
 mo:List Test
 deriving DecidableEq
def Bo(x:d6):TV:=.agg [(eL 1 eI) x.c9.ca,(eL 3 Bp) x.c9.ci,(eL 4 E8) x.ej,eI x.fd,(eL 5 Fv) x.mo]
structure Bh where
 ca:Fp
 ci:Fp
 deriving DecidableEq
def GM(x:Bh):TV:=.agg [(eL 1 eI) x.ca,(eL 1 eI) x.ci]
structure d3 where
 ca:Fp
 ci:Fp
 deriving DecidableEq
def As(x:d3):TV:=.agg [(eL 1 eI) x.ca,(eL 1 eI) x.ci]
structure d5 where
 kp:Int
 gn:List d5
 Map:d3
 d6:d6
mutual
def Uf:d5->TV
 |⟨y0,y1,y2,y3⟩=>.agg [eI y0,.list 9 (Ij y1),(eL 1 eI) y2.ca,(eL 1 eI) y2.ci,(eL 1 eI) y3.c9.ca,(eL 3 Bp) y3.c9.ci,(eL 4 E8) y3.ej,eI y3.fd,(eL 5 Fv) y3.mo]
def Ij:List d5->Fq
 |[]=>[]|c::cs=>Uf c::Ij cs
end
def DW(l:List d5):TV:=.list 9 (Ij l)
def AP(x:d5):TV:=.agg [eI x.kp,DW x.gn,(eL 1 eI) x.Map.ca,(eL 1 eI) x.Map.ci,(eL 1 eI) x.d6.c9.ca,(eL 3 Bp) x.d6.c9.ci,(eL 4 E8) x.d6.ej,eI x.d6.fd,(eL 5 Fv) x.d6.mo]
theorem Wo(x:d5):Uf x=AP x:=by
 cases x;rfl
theorem Nf:∀l:List d5,Ij l=l.map AP
 |[]=>rfl|x::l=>by rw[Ij,Wo,Nf l];rfl
theorem J3(l:List d5):DW l=.list 9 (l.map AP):=by rw[DW,Nf]
structure gp where
 l4:ByteArray
 gt:d6
 ec:d6
 sr:Bh
 pc:d3
 l3:Bool
 d5:d5
def Bg(x:gp):TV:=.agg [eS x.l4,(eL 1 eI) x.gt.c9.ca,(eL 3 Bp) x.gt.c9.ci,(eL 4 E8) x.gt.ej,eI x.gt.fd,(eL 5 Fv) x.gt.mo,(eL 1 eI) x.ec.c9.ca,(eL 3 Bp) x.ec.c9.ci,(eL 4 E8) x.ec.ej,eI x.ec.fd,(eL 5 Fv) x.ec.mo,(eL 1 eI) x.sr.ca,(eL 1 eI) x.sr.ci,(eL 1 eI) x.pc.ca,(eL 1 eI) x.pc.ci,eB x.l3,eI x.d5.kp,DW x.d5.gn,(eL 1 eI) x.d5.Map.ca,(eL 1 eI) x.d5.Map.ci,(eL 1 eI) x.d5.d6.c9.ca,(eL 3 Bp) x.d5.d6.c9.ci,(eL 4 E8) x.d5.d6.ej,eI x.d5.d6.fd,(eL 5 Fv) x.d5.d6.mo]
structure Cl where
 t:AC
 s:B3
 j0:List gp
def F8(x:Cl):TV:=.agg [(eL 4 Cj) x.t.ca,(eL 7 C4) x.t.ci,(eL 1 eI) x.s.ca,(eL 1 eI) x.s.ci,(eL 25 Bg) x.j0]
structure AH where
 c9:c9
 eo:List Fp
 deriving DecidableEq
def CE(x:AH):TV:=.agg [(eL 1 eI) x.c9.ca,(eL 3 Bp) x.c9.ci,(eL 1 (eL 1 eI)) x.eo]
structure AU where
 d3:d3
 fd:Fp
 deriving DecidableEq
def B7(x:AU):TV:=.agg [(eL 1 eI) x.d3.ca,(eL 1 eI) x.d3.ci,(eL 1 eI) x.fd]
structure D8 where
 gp:Int
 o3:AU
 deriving DecidableEq
def E7(x:D8):TV:=.agg [eI x.gp,(eL 1 eI) x.o3.d3.ca,(eL 1 eI) x.o3.d3.ci,(eL 1 eI) x.o3.fd]
structure Cd where
 wt:AH
 xx:List D8
 y7:d3
 deriving DecidableEq
def F7(x:Cd):TV:=.agg [(eL 1 eI) x.wt.c9.ca,(eL 3 Bp) x.wt.c9.ci,(eL 1 (eL 1 eI)) x.wt.eo,(eL 4 E7) x.xx,(eL 1 eI) x.y7.ca,(eL 1 eI) x.y7.ci]
structure Ag where
 wb:Cl
 xU:Fp
 xb:Int
 wY:Cd
 e:Int
def UV(x:Ag):TV:=.agg [(eL 4 Cj) x.wb.t.ca,(eL 7 C4) x.wb.t.ci,(eL 1 eI) x.wb.s.ca,(eL 1 eI) x.wb.s.ci,(eL 25 Bg) x.wb.j0,(eL 1 eI) x.xU,eI x.xb,(eL 1 eI) x.wY.wt.c9.ca,(eL 3 Bp) x.wY.wt.c9.ci,(eL 1 (eL 1 eI)) x.wY.wt.eo,(eL 4 E7) x.wY.xx,(eL 1 eI) x.wY.y7.ca,(eL 1 eI) x.wY.y7.ci,eI x.e]
def Ar(x:Ag):List AN:=[⟨false,(eL 4 Cj) x.wb.t.ca⟩,⟨false,(eL 7 C4) x.wb.t.ci⟩,⟨false,(eL 1 eI) x.wb.s.ca⟩,⟨false,(eL 1 eI) x.wb.s.ci⟩,⟨false,(eL 25 Bg) x.wb.j0⟩,⟨false,(eL 1 eI) x.xU⟩,⟨false,eI x.xb⟩,⟨false,(eL 1 eI) x.wY.wt.c9.ca⟩,⟨false,(eL 3 Bp) x.wY.wt.c9.ci⟩,⟨false,(eL 1 (eL 1 eI)) x.wY.wt.eo⟩,⟨false,(eL 4 E7) x.wY.xx⟩,⟨false,(eL 1 eI) x.wY.y7.ca⟩,⟨false,(eL 1 eI) x.wY.y7.ci⟩,⟨false,eI x.e⟩]
structure BS where
 gp:gp
 o3:AU
 wK:AH
 sx:AH
 w5:d3
 wz:d3
def Y7(x:BS):TV:=.agg [eS x.gp.l4,(eL 1 eI) x.gp.gt.c9.ca,(eL 3 Bp) x.gp.gt.c9.ci,(eL 4 E8) x.gp.gt.ej,eI x.gp.gt.fd,(eL 5 Fv) x.gp.gt.mo,(eL 1 eI) x.gp.ec.c9.ca,(eL 3 Bp) x.gp.ec.c9.ci,(eL 4 E8) x.gp.ec.ej,eI x.gp.ec.fd,(eL 5 Fv) x.gp.ec.mo,(eL 1 eI) x.gp.sr.ca,(eL 1 eI) x.gp.sr.ci,(eL 1 eI) x.gp.pc.ca,(eL 1 eI) x.gp.pc.ci,eB x.gp.l3,eI x.gp.d5.kp,DW x.gp.d5.gn,(eL 1 eI) x.gp.d5.Map.ca,(eL 1 eI) x.gp.d5.Map.ci,(eL 1 eI) x.gp.d5.d6.c9.ca,(eL 3 Bp) x.gp.d5.d6.c9.ci,(eL 4 E8) x.gp.d5.d6.ej,eI x.gp.d5.d6.fd,(eL 5 Fv) x.gp.d5.d6.mo,(eL 1 eI) x.o3.d3.ca,(eL 1 eI) x.o3.d3.ci,(eL 1 eI) x.o3.fd,(eL 1 eI) x.wK.c9.ca,(eL 3 Bp) x.wK.c9.ci,(eL 1 (eL 1 eI)) x.wK.eo,(eL 1 eI) x.sx.c9.ca,(eL 3 Bp) x.sx.c9.ci,(eL 1 (eL 1 eI)) x.sx.eo,(eL 1 eI) x.w5.ca,(eL 1 eI) x.w5.ci,(eL 1 eI) x.wz.ca,(eL 1 eI) x.wz.ci]
def DV(x:BS):List AN:=[⟨false,eS x.gp.l4⟩,⟨false,(eL 1 eI) x.gp.gt.c9.ca⟩,⟨false,(eL 3 Bp) x.gp.gt.c9.ci⟩,⟨false,(eL 4 E8) x.gp.gt.ej⟩,⟨false,eI x.gp.gt.fd⟩,⟨false,(eL 5 Fv) x.gp.gt.mo⟩,⟨false,(eL 1 eI) x.gp.ec.c9.ca⟩,⟨false,(eL 3 Bp) x.gp.ec.c9.ci⟩,⟨false,(eL 4 E8) x.gp.ec.ej⟩,⟨false,eI x.gp.ec.fd⟩,⟨false,(eL 5 Fv) x.gp.ec.mo⟩,⟨false,(eL 1 eI) x.gp.sr.ca⟩,⟨false,(eL 1 eI) x.gp.sr.ci⟩,⟨false,(eL 1 eI) x.gp.pc.ca⟩,⟨false,(eL 1 eI) x.gp.pc.ci⟩,⟨false,eB x.gp.l3⟩,⟨false,eI x.gp.d5.kp⟩,⟨false,DW x.gp.d5.gn⟩,⟨false,(eL 1 eI) x.gp.d5.Map.ca⟩,⟨false,(eL 1 eI) x.gp.d5.Map.ci⟩,⟨false,(eL 1 eI) x.gp.d5.d6.c9.ca⟩,⟨false,(eL 3 Bp) x.gp.d5.d6.c9.ci⟩,⟨false,(eL 4 E8) x.gp.d5.d6.ej⟩,⟨false,eI x.gp.d5.d6.fd⟩,⟨false,(eL 5 Fv) x.gp.d5.d6.mo⟩,⟨false,(eL 1 eI) x.o3.d3.ca⟩,⟨false,(eL 1 eI) x.o3.d3.ci⟩,⟨false,(eL 1 eI) x.o3.fd⟩,⟨false,(eL 1 eI) x.wK.c9.ca⟩,⟨false,(eL 3 Bp) x.wK.c9.ci⟩,⟨false,(eL 1 (eL 1 eI)) x.wK.eo⟩,⟨true,(eL 1 eI) x.sx.c9.ca⟩,⟨true,(eL 3 Bp) x.sx.c9.ci⟩,⟨true,.xn (List.map (eL 1 eI) x.sx.eo)⟩,⟨false,(eL 1 eI) x.w5.ca⟩,⟨false,(eL 1 eI) x.w5.ci⟩,⟨false,(eL 1 eI) x.wz.ca⟩,⟨false,(eL 1 eI) x.wz.ci⟩]
structure Q1 where
 ca:Option Fp
 ci:Option Fp
 deriving DecidableEq
def ky(x:Q1):TV:=.agg [(eO 1 eI) x.ca,(eO 1 eI) x.ci]
def Q1.of(m:d3):Q1:=⟨some m.ca,some m.ci⟩
instance:Coe d3 Q1:=⟨Q1.of⟩
structure AL where
 p:c9
 g:c9
 is:List a5
 fq:Q1
 em:Bool
 tc:Int
 d7:Fp
 ei:Fp
 out:List d3
 deriving DecidableEq
def Qf(x:AL):TV:=.agg [(eL 1 eI) x.p.ca,(eL 3 Bp) x.p.ci,(eL 1 eI) x.g.ca,(eL 3 Bp) x.g.ci,(eL 1 (eL 1 eB)) x.is,(eO 1 eI) x.fq.ca,(eO 1 eI) x.fq.ci,eB x.em,eI x.tc,(eL 1 eI) x.d7,(eL 1 eI) x.ei,(eL 2 As) x.out]
def Cv(x:AL):List AN:=[⟨false,(eL 1 eI) x.p.ca⟩,⟨false,(eL 3 Bp) x.p.ci⟩,⟨false,(eL 1 eI) x.g.ca⟩,⟨false,(eL 3 Bp) x.g.ci⟩,⟨false,(eL 1 (eL 1 eB)) x.is⟩,⟨false,(eO 1 eI) x.fq.ca⟩,⟨false,(eO 1 eI) x.fq.ci⟩,⟨false,eB x.em⟩,⟨false,eI x.tc⟩,⟨true,.xl 1 (List.map eI x.d7)⟩,⟨true,.xl 1 (List.map eI x.ei)⟩,⟨true,(eL 2 As) x.out⟩]
structure AZ where
 t:AC
 p:c9
 g:c9
 fq:d3
 em:Bool
 tc:Int
 wW:List d3
 deriving DecidableEq
def Rx(x:AZ):TV:=.agg [(eL 4 Cj) x.t.ca,(eL 7 C4) x.t.ci,(eL 1 eI) x.p.ca,(eL 3 Bp) x.p.ci,(eL 1 eI) x.g.ca,(eL 3 Bp) x.g.ci,(eL 1 eI) x.fq.ca,(eL 1 eI) x.fq.ci,eB x.em,eI x.tc,(eL 2 As) x.wW]
def Br(x:AZ):List AN:=[⟨false,(eL 4 Cj) x.t.ca⟩,⟨false,(eL 7 C4) x.t.ci⟩,⟨false,(eL 1 eI) x.p.ca⟩,⟨false,(eL 3 Bp) x.p.ci⟩,⟨false,(eL 1 eI) x.g.ca⟩,⟨false,(eL 3 Bp) x.g.ci⟩,⟨false,(eL 1 eI) x.fq.ca⟩,⟨false,(eL 1 eI) x.fq.ci⟩,⟨false,eB x.em⟩,⟨false,eI x.tc⟩,⟨true,(eL 2 As) x.wW⟩]
structure Ft where
 kp:Int
 y6:ByteArray
 Line:Int
 deriving DecidableEq
def Vo(x:Ft):TV:=.agg [eI x.kp,eS x.y6,eI x.Line]
structure Ck where
 l:c9
 g:c9
 ff:Bh
 m:d3
 deriving DecidableEq
def H0(x:Ck):TV:=.agg [(eL 1 eI) x.l.ca,(eL 3 Bp) x.l.ci,(eL 1 eI) x.g.ca,(eL 3 Bp) x.g.ci,(eL 1 eI) x.ff.ca,(eL 1 eI) x.ff.ci,(eL 1 eI) x.m.ca,(eL 1 eI) x.m.ci]
structure IH where
 A:Int
 B:Int
 deriving DecidableEq
def Pw(x:IH):TV:=.agg [eI x.A,eI x.B]
structure BU where
 t:AC
 h:AH
 em:Bool
 deriving DecidableEq
def CU(x:BU):TV:=.agg [(eL 4 Cj) x.t.ca,(eL 7 C4) x.t.ci,(eL 1 eI) x.h.c9.ca,(eL 3 Bp) x.h.c9.ci,(eL 1 (eL 1 eI)) x.h.eo,eB x.em]
structure A6 where
 w2:Int
 o3:AU
 gn:List A6
mutual
def bM:A6->TV
 |⟨y0,y1,y2⟩=>.agg [eI y0,(eL 1 eI) y1.d3.ca,(eL 1 eI) y1.d3.ci,(eL 1 eI) y1.fd,.list 5 (Ng y2)]
def Ng:List A6->Fq
 |[]=>[]|c::cs=>bM c::Ng cs
end
def Hj(l:List A6):TV:=.list 5 (Ng l)
def EN(x:A6):TV:=.agg [eI x.w2,(eL 1 eI) x.o3.d3.ca,(eL 1 eI) x.o3.d3.ci,(eL 1 eI) x.o3.fd,Hj x.gn]
theorem ct(x:A6):bM x=EN x:=by
 cases x;rfl
theorem RD:∀l:List A6,Ng l=l.map EN
 |[]=>rfl|x::l=>by rw[Ng,ct,RD l];rfl
theorem aX(l:List A6):Hj l=.list 5 (l.map EN):=by rw[Hj,RD]
structure A5 where
 wu:c9
 d7:a5
 ei:a5
 xG:List D8
 yC:d3
 deriving DecidableEq
def CG(x:A5):TV:=.agg [(eL 1 eI) x.wu.ca,(eL 3 Bp) x.wu.ci,(eL 1 eB) x.d7,(eL 1 eB) x.ei,(eL 4 E7) x.xG,(eL 1 eI) x.yC.ca,(eL 1 eI) x.yC.ci]
structure Cm where
 wy:c9
 d7:Fp
 ei:Fp
 deriving DecidableEq
def SS(x:Cm):TV:=.agg [(eL 1 eI) x.wy.ca,(eL 3 Bp) x.wy.ci,(eL 1 eI) x.d7,(eL 1 eI) x.ei]
structure PG where
 a0:Int
 a1:Int
 deriving DecidableEq
def Y6(x:PG):TV:=.agg [Pc x.a0,Pc x.a1]
structure Hi where
 a0:Int
 a1:Int
 a2:Int
 deriving DecidableEq
def U3(x:Hi):TV:=.agg [Pc x.a0,Pc x.a1,Pc x.a2]
structure Jp where
 ca:List PG
 ci:List Hi
 deriving DecidableEq
def Y8(x:Jp):TV:=.agg [(eL 2 Y6) x.ca,(eL 3 U3) x.ci]
structure OE where
 gt:Jp
 ca:Fp
 ci:List Hi
 deriving DecidableEq
def Y9(x:OE):TV:=.agg [(eL 2 Y6) x.gt.ca,(eL 3 U3) x.gt.ci,(eL 1 Pc) x.ca,(eL 3 U3) x.ci]
structure FN where
 T:AC
 S:B3
 xX:List gp
def DB(x:FN):TV:=.agg [(eL 4 Cj) x.T.ca,(eL 7 C4) x.T.ci,(eL 1 eI) x.S.ca,(eL 1 eI) x.S.ci,(eL 25 Bg) x.xX]
abbrev lI:Fp->TV:=eL 1 eI
abbrev lE:List Bw->TV:=eL 3 Bp
abbrev lS:List Cx->TV:=eL 4 E8
abbrev lT:List Test->TV:=eL 5 Fv
abbrev lN:List Bb->TV:=eL 4 Cj
abbrev lX:List CZ->TV:=eL 7 C4
abbrev lA:List kl->TV:=eL 4 Fu
abbrev lB:List ByteArray->TV:=eL 1 eS
theorem iE(a b:Bw):CA (TV.cells (Bp a)) (TV.cells (Bp b))=some (decide (a=b)):=by
 rcases a with⟨a0,a1,a2⟩;rcases b with⟨b0,b1,b2⟩;simp[Bp,TV.cells,CA,eI,Bool.and_assoc,Bw.mk.injEq]
end Go.Sf.Sc
