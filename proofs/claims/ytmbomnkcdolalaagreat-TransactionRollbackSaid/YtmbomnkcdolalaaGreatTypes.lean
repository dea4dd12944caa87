/- The types of the program as Lean types. -/
import Derived.Test.YtmbomnkcdolalaaGreatSfK
import Derived.Test.YtmbomnkcdolalaaGreatSfStep
import Derived.Test.YtmbomnkcdolalaaGreatProg
set_option linter.all false
set_option maxRecDepth 100000
namespace Go.Sf.Sc
open Go Go.Sf Go.Proofs.Tryz
def eI(n:Int):TV:=.int .i64 n
def WL(n:Int):TV:=.int .u8 n
def J3(n:Int):TV:=.int .u64 n
def AB0(n:Int):TV:=.int .i32 n
def AB2(n:Int):TV:=.int .u32 n
def eI8(n:Int):TV:=.int .i8 n
def ABz(n:Int):TV:=.int .i16 n
def AB1(n:Int):TV:=.int .u16 n
def eB(b:Bool):TV:=.bool b
def eS(s:ByteArray):TV:=.str s
def eL{α:Type}(n:Nat)(e:α->TV)(l:List α):TV:=.list n (l.map e)
theorem Tryz_follows:Go.Proofs.Tryz.prog.follows .mixedOrders=true:=by decide +kernel
structure Bo where
 og:Int
 o4:Int
 To:Int
 deriving DecidableEq
def Bm(x:Bo):TV:=.agg [eI x.og,eI x.o4,eI x.To]
structure d4 where
 d3:Fp
 d5:List Bo
 deriving DecidableEq
def At(x:d4):TV:=.agg [(eL 1 eI) x.d3,(eL 3 Bm) x.d5]
structure kp where
 Var:Int
 Add:Int
 deriving DecidableEq
def MU(x:kp):TV:=.agg [eI x.Var,eI x.Add]
structure Cf where
 t5:Int
 ns:Int
 kp:kp
 deriving DecidableEq
def Eg(x:Cf):TV:=.agg [eI x.t5,eI x.ns,eI x.kp.Var,eI x.kp.Add]
structure Test where
 mo:Int
 ne:kp
 fq:kp
 deriving DecidableEq
def FJ(x:Test):TV:=.agg [eI x.mo,eI x.ne.Var,eI x.ne.Add,eI x.fq.Var,eI x.fq.Add]
structure ec where
 d4:d4
 gn:List Cf
 hV:Int
 sx:List Test
 deriving DecidableEq
def BF(x:ec):TV:=.agg [(eL 1 eI) x.d4.d3,(eL 3 Bm) x.d4.d5,(eL 4 Eg) x.gn,eI x.hV,(eL 5 FJ) x.sx]
structure BH where
 d3:Fp
 d5:Fp
 deriving DecidableEq
def Fr(x:BH):TV:=.agg [(eL 1 eI) x.d3,(eL 1 eI) x.d5]
structure d6 where
 d3:Fp
 d5:Fp
 deriving DecidableEq
def Aq(x:d6):TV:=.agg [(eL 1 eI) x.d3,(eL 1 eI) x.d5]
structure d7 where
 mo:Int
 hT:List d7
 Map:d6
 ec:ec
mutual
def VB:d7->TV
 |⟨y0,y1,y2,y3⟩=>.agg [eI y0,.list 9 (Ip y1),(eL 1 eI) y2.d3,(eL 1 eI) y2.d5,(eL 1 eI) y3.d4.d3,(eL 3 Bm) y3.d4.d5,(eL 4 Eg) y3.gn,eI y3.hV,(eL 5 FJ) y3.sx]
def Ip:List d7->Fq
 |[]=>[]|c::cs=>VB c::Ip cs
end
def Cy(l:List d7):TV:=.list 9 (Ip l)
def AK(x:d7):TV:=.agg [eI x.mo,Cy x.hT,(eL 1 eI) x.Map.d3,(eL 1 eI) x.Map.d5,(eL 1 eI) x.ec.d4.d3,(eL 3 Bm) x.ec.d4.d5,(eL 4 Eg) x.ec.gn,eI x.ec.hV,(eL 5 FJ) x.ec.sx]
theorem XY(x:d7):VB x=AK x:=by
 cases x;rfl
theorem NN:∀l:List d7,Ip l=l.map AK
 |[]=>rfl|x::l=>by rw[Ip,XY,NN l];rfl
theorem Hu(l:List d7):Cy l=.list 9 (l.map AK):=by rw[Cy,NN]
structure f0 where
 qo:ByteArray
 ne:ec
 fq:ec
 x5:BH
 tl:d6
 sr:Bool
 d7:d7
def Bc(x:f0):TV:=.agg [eS x.qo,(eL 1 eI) x.ne.d4.d3,(eL 3 Bm) x.ne.d4.d5,(eL 4 Eg) x.ne.gn,eI x.ne.hV,(eL 5 FJ) x.ne.sx,(eL 1 eI) x.fq.d4.d3,(eL 3 Bm) x.fq.d4.d5,(eL 4 Eg) x.fq.gn,eI x.fq.hV,(eL 5 FJ) x.fq.sx,(eL 1 eI) x.x5.d3,(eL 1 eI) x.x5.d5,(eL 1 eI) x.tl.d3,(eL 1 eI) x.tl.d5,eB x.sr,eI x.d7.mo,Cy x.d7.hT,(eL 1 eI) x.d7.Map.d3,(eL 1 eI) x.d7.Map.d5,(eL 1 eI) x.d7.ec.d4.d3,(eL 3 Bm) x.d7.ec.d4.d5,(eL 4 Eg) x.d7.ec.gn,eI x.d7.ec.hV,(eL 5 FJ) x.d7.ec.sx]
structure AO where
 d6:d6
 hV:Fp
 deriving DecidableEq
def Bf(x:AO):TV:=.agg [(eL 1 eI) x.d6.d3,(eL 1 eI) x.d6.d5,(eL 1 eI) x.hV]
structure AH where
 d4:d4
 fd:List Fp
 deriving DecidableEq
def Bn(x:AH):TV:=.agg [(eL 1 eI) x.d4.d3,(eL 3 Bm) x.d4.d5,(eL 1 (eL 1 eI)) x.fd]
structure Ax where
 f0:f0
 o3:AO
 Aar:AH
 wi:AH
 Aam:d6
 Aal:d6
def MT(x:Ax):TV:=.agg [eS x.f0.qo,(eL 1 eI) x.f0.ne.d4.d3,(eL 3 Bm) x.f0.ne.d4.d5,(eL 4 Eg) x.f0.ne.gn,eI x.f0.ne.hV,(eL 5 FJ) x.f0.ne.sx,(eL 1 eI) x.f0.fq.d4.d3,(eL 3 Bm) x.f0.fq.d4.d5,(eL 4 Eg) x.f0.fq.gn,eI x.f0.fq.hV,(eL 5 FJ) x.f0.fq.sx,(eL 1 eI) x.f0.x5.d3,(eL 1 eI) x.f0.x5.d5,(eL 1 eI) x.f0.tl.d3,(eL 1 eI) x.f0.tl.d5,eB x.f0.sr,eI x.f0.d7.mo,Cy x.f0.d7.hT,(eL 1 eI) x.f0.d7.Map.d3,(eL 1 eI) x.f0.d7.Map.d5,(eL 1 eI) x.f0.d7.ec.d4.d3,(eL 3 Bm) x.f0.d7.ec.d4.d5,(eL 4 Eg) x.f0.d7.ec.gn,eI x.f0.d7.ec.hV,(eL 5 FJ) x.f0.d7.ec.sx,(eL 1 eI) x.o3.d6.d3,(eL 1 eI) x.o3.d6.d5,(eL 1 eI) x.o3.hV,(eL 1 eI) x.Aar.d4.d3,(eL 3 Bm) x.Aar.d4.d5,(eL 1 (eL 1 eI)) x.Aar.fd,(eL 1 eI) x.wi.d4.d3,(eL 3 Bm) x.wi.d4.d5,(eL 1 (eL 1 eI)) x.wi.fd,(eL 1 eI) x.Aam.d3,(eL 1 eI) x.Aam.d5,(eL 1 eI) x.Aal.d3,(eL 1 eI) x.Aal.d5]
def DT(x:Ax):List AS:=[⟨false,eS x.f0.qo⟩,⟨false,(eL 1 eI) x.f0.ne.d4.d3⟩,⟨false,(eL 3 Bm) x.f0.ne.d4.d5⟩,⟨false,(eL 4 Eg) x.f0.ne.gn⟩,⟨false,eI x.f0.ne.hV⟩,⟨false,(eL 5 FJ) x.f0.ne.sx⟩,⟨false,(eL 1 eI) x.f0.fq.d4.d3⟩,⟨false,(eL 3 Bm) x.f0.fq.d4.d5⟩,⟨false,(eL 4 Eg) x.f0.fq.gn⟩,⟨false,eI x.f0.fq.hV⟩,⟨false,(eL 5 FJ) x.f0.fq.sx⟩,⟨false,(eL 1 eI) x.f0.x5.d3⟩,⟨false,(eL 1 eI) x.f0.x5.d5⟩,⟨false,(eL 1 eI) x.f0.tl.d3⟩,⟨false,(eL 1 eI) x.f0.tl.d5⟩,⟨false,eB x.f0.sr⟩,⟨false,eI x.f0.d7.mo⟩,⟨false,Cy x.f0.d7.hT⟩,⟨false,(eL 1 eI) x.f0.d7.Map.d3⟩,⟨false,(eL 1 eI) x.f0.d7.Map.d5⟩,⟨false,(eL 1 eI) x.f0.d7.ec.d4.d3⟩,⟨false,(eL 3 Bm) x.f0.d7.ec.d4.d5⟩,⟨false,(eL 4 Eg) x.f0.d7.ec.gn⟩,⟨false,eI x.f0.d7.ec.hV⟩,⟨false,(eL 5 FJ) x.f0.d7.ec.sx⟩,⟨false,(eL 1 eI) x.o3.d6.d3⟩,⟨false,(eL 1 eI) x.o3.d6.d5⟩,⟨false,(eL 1 eI) x.o3.hV⟩,⟨false,(eL 1 eI) x.Aar.d4.d3⟩,⟨false,(eL 3 Bm) x.Aar.d4.d5⟩,⟨false,(eL 1 (eL 1 eI)) x.Aar.fd⟩,⟨true,(eL 1 eI) x.wi.d4.d3⟩,⟨true,(eL 3 Bm) x.wi.d4.d5⟩,⟨true,.xn (List.map (eL 1 eI) x.wi.fd)⟩,⟨false,(eL 1 eI) x.Aam.d3⟩,⟨false,(eL 1 eI) x.Aam.d5⟩,⟨false,(eL 1 eI) x.Aal.d3⟩,⟨false,(eL 1 eI) x.Aal.d5⟩]
structure ns where
 qo:ByteArray
 Low:Int
 AaD:Int
 x3:List ByteArray
 deriving DecidableEq
def FI(x:ns):TV:=.agg [eS x.qo,eI x.Low,eI x.AaD,(eL 1 eS) x.x3]
structure B8 where
 qo:ByteArray
 Aac:Int
 Aap:Bool
 x4:List ns
 deriving DecidableEq
def DK(x:B8):TV:=.agg [eS x.qo,eI x.Aac,eB x.Aap,(eL 4 FI) x.x4]
structure CG where
 qo:ByteArray
 o4:Int
 To:Int
 Abg:Int
 Aa0:Int
 AbC:Int
 Abh:Int
 deriving DecidableEq
def DZ(x:CG):TV:=.agg [eS x.qo,eI x.o4,eI x.To,eI x.Abg,eI x.Aa0,eI x.AbC,eI x.Abh]
structure AC where
 d3:List B8
 d5:List CG
 deriving DecidableEq
def AQ(x:AC):TV:=.agg [(eL 4 DK) x.d3,(eL 7 DZ) x.d5]
structure Ag where
 t:AC
 p:d4
 g:d4
 gt:d6
 ej:Bool
 up:Int
 Aaz:List d6
 deriving DecidableEq
def SN(x:Ag):TV:=.agg [(eL 4 DK) x.t.d3,(eL 7 DZ) x.t.d5,(eL 1 eI) x.p.d3,(eL 3 Bm) x.p.d5,(eL 1 eI) x.g.d3,(eL 3 Bm) x.g.d5,(eL 1 eI) x.gt.d3,(eL 1 eI) x.gt.d5,eB x.ej,eI x.up,(eL 2 Aq) x.Aaz]
def Bl(x:Ag):List AS:=[⟨false,(eL 4 DK) x.t.d3⟩,⟨false,(eL 7 DZ) x.t.d5⟩,⟨false,(eL 1 eI) x.p.d3⟩,⟨false,(eL 3 Bm) x.p.d5⟩,⟨false,(eL 1 eI) x.g.d3⟩,⟨false,(eL 3 Bm) x.g.d5⟩,⟨false,(eL 1 eI) x.gt.d3⟩,⟨false,(eL 1 eI) x.gt.d5⟩,⟨false,eB x.ej⟩,⟨false,eI x.up⟩,⟨true,(eL 2 Aq) x.Aaz⟩]
structure AL where
 p:d4
 g:d4
 is:List a5
 gt:d6
 ej:Bool
 up:Int
 ei:Fp
 ek:Fp
 out:List d6
 deriving DecidableEq
def RD(x:AL):TV:=.agg [(eL 1 eI) x.p.d3,(eL 3 Bm) x.p.d5,(eL 1 eI) x.g.d3,(eL 3 Bm) x.g.d5,(eL 1 (eL 1 eB)) x.is,(eL 1 eI) x.gt.d3,(eL 1 eI) x.gt.d5,eB x.ej,eI x.up,(eL 1 eI) x.ei,(eL 1 eI) x.ek,(eL 2 Aq) x.out]
def Cr(x:AL):List AS:=[⟨false,(eL 1 eI) x.p.d3⟩,⟨false,(eL 3 Bm) x.p.d5⟩,⟨false,(eL 1 eI) x.g.d3⟩,⟨false,(eL 3 Bm) x.g.d5⟩,⟨false,(eL 1 (eL 1 eB)) x.is⟩,⟨false,(eL 1 eI) x.gt.d3⟩,⟨false,(eL 1 eI) x.gt.d5⟩,⟨false,eB x.ej⟩,⟨false,eI x.up⟩,⟨true,.xl 1 (List.map eI x.ei)⟩,⟨true,.xl 1 (List.map eI x.ek)⟩,⟨true,(eL 2 Aq) x.out⟩]
structure Ee where
 mo:Int
 AbU:ByteArray
 Line:Int
 deriving DecidableEq
def WK(x:Ee):TV:=.agg [eI x.mo,eS x.AbU,eI x.Line]
structure tg where
 f0:Int
 o3:AO
 deriving DecidableEq
def CZ(x:tg):TV:=.agg [eI x.f0,(eL 1 eI) x.o3.d6.d3,(eL 1 eI) x.o3.d6.d5,(eL 1 eI) x.o3.hV]
structure AR where
 kg:AH
 j4:List tg
 deriving DecidableEq
def Ch(x:AR):TV:=.agg [(eL 1 eI) x.kg.d4.d3,(eL 3 Bm) x.kg.d4.d5,(eL 1 (eL 1 eI)) x.kg.fd,(eL 4 CZ) x.j4]
structure AI where
 ff:AR
 kl:Fp
 deriving DecidableEq
def BL(x:AI):TV:=.agg [(eL 1 eI) x.ff.kg.d4.d3,(eL 3 Bm) x.ff.kg.d4.d5,(eL 1 (eL 1 eI)) x.ff.kg.fd,(eL 4 CZ) x.ff.j4,(eL 1 eI) x.kl]
structure Bj where
 l:d4
 g:d4
 jj:BH
 m:d6
 deriving DecidableEq
def Hv(x:Bj):TV:=.agg [(eL 1 eI) x.l.d3,(eL 3 Bm) x.l.d5,(eL 1 eI) x.g.d3,(eL 3 Bm) x.g.d5,(eL 1 eI) x.jj.d3,(eL 1 eI) x.jj.d5,(eL 1 eI) x.m.d3,(eL 1 eI) x.m.d5]
structure GP where
 A:Int
 B:Int
 deriving DecidableEq
def QT(x:GP):TV:=.agg [eI x.A,eI x.B]
structure As where
 t:AC
 h:AH
 ej:Bool
 deriving DecidableEq
def CQ(x:As):TV:=.agg [(eL 4 DK) x.t.d3,(eL 7 DZ) x.t.d5,(eL 1 eI) x.h.d4.d3,(eL 3 Bm) x.h.d4.d5,(eL 1 (eL 1 eI)) x.h.fd,eB x.ej]
structure A6 where
 AaB:Int
 o3:AO
 hT:List A6
mutual
def ce:A6->TV
 |⟨y0,y1,y2⟩=>.agg [eI y0,(eL 1 eI) y1.d6.d3,(eL 1 eI) y1.d6.d5,(eL 1 eI) y1.hV,.list 5 (NO y2)]
def NO:List A6->Fq
 |[]=>[]|c::cs=>ce c::NO cs
end
def Ha(l:List A6):TV:=.list 5 (NO l)
def EX(x:A6):TV:=.agg [eI x.AaB,(eL 1 eI) x.o3.d6.d3,(eL 1 eI) x.o3.d6.d5,(eL 1 eI) x.o3.hV,Ha x.hT]
theorem eH(x:A6):ce x=EX x:=by
 cases x;rfl
theorem Rh:∀l:List A6,NO l=l.map EX
 |[]=>rfl|x::l=>by rw[NO,eH,Rh l];rfl
theorem bu(l:List A6):Ha l=.list 5 (l.map EX):=by rw[Ha,Rh]
structure BJ where
 mo:Int
 tg:tg
 deriving DecidableEq
def Dk(x:BJ):TV:=.agg [eI x.mo,eI x.tg.f0,(eL 1 eI) x.tg.o3.d6.d3,(eL 1 eI) x.tg.o3.d6.d5,(eL 1 eI) x.tg.o3.hV]
structure DM where
 T:AC
 AaH:List f0
 S:AI
def CP(x:DM):TV:=.agg [(eL 4 DK) x.T.d3,(eL 7 DZ) x.T.d5,(eL 25 Bc) x.AaH,(eL 1 eI) x.S.ff.kg.d4.d3,(eL 3 Bm) x.S.ff.kg.d4.d5,(eL 1 (eL 1 eI)) x.S.ff.kg.fd,(eL 4 CZ) x.S.ff.j4,(eL 1 eI) x.S.kl]
abbrev lI:Fp->TV:=eL 1 eI
abbrev lE:List Bo->TV:=eL 3 Bm
abbrev lS:List Cf->TV:=eL 4 Eg
abbrev lT:List Test->TV:=eL 5 FJ
abbrev lN:List B8->TV:=eL 4 DK
abbrev lX:List CG->TV:=eL 7 DZ
abbrev lA:List ns->TV:=eL 4 FI
abbrev lB:List ByteArray->TV:=eL 1 eS
theorem ju(a b:Bo):B7 (TV.cells (Bm a)) (TV.cells (Bm b))=some (decide (a=b)):=by
 rcases a with⟨a0,a1,a2⟩;rcases b with⟨b0,b1,b2⟩;simp[Bm,TV.cells,B7,eI,Bool.and_assoc,Bo.mk.injEq]
end Go.Sf.Sc
