/- The types of the program as Lean types. -/
import Derived.Test.YthgbaecihlidaaaGreatDoorSfK
import Derived.Test.YthgbaecihlidaaaGreatDoorSfStep
import Derived.Test.YthgbaecihlidaaaGreatDoorProg
set_option linter.all false
set_option maxRecDepth 100000
namespace Go.Sf.Sc
open Go Go.Sf Go.Proofs.Tryz
def eI(n:Int):TV:=.int .i64 n
def Gt(n:Int):TV:=.int .u8 n
def Hx(n:Int):TV:=.int .u64 n
def AA2(n:Int):TV:=.int .i32 n
def AA4(n:Int):TV:=.int .u32 n
def Ua(n:Int):TV:=.int .i8 n
def AA1(n:Int):TV:=.int .i16 n
def AA3(n:Int):TV:=.int .u16 n
def eB(b:Bool):TV:=.bool b
def eS(s:ByteArray):TV:=.str s
def eL{α:Type}(n:Nat)(e:α->TV)(l:List α):TV:=.list n (l.map e)
theorem Tryz_follows:Go.Proofs.Tryz.prog.follows .mixedOrders=true:=by decide +kernel
structure Bc where
 mt:Int
 nd:Int
 To:Int
 deriving DecidableEq
def CG(x:Bc):TV:=.agg [eI x.mt,eI x.nd,eI x.To]
structure d6 where
 d5:Fp
 d7:List Bc
 deriving DecidableEq
def A8(x:d6):TV:=.agg [(eL 1 eI) x.d5,(eL 3 CG) x.d7]
structure kg where
 Var:Int
 Add:Int
 deriving DecidableEq
def Uc(x:kg):TV:=.agg [eI x.Var,eI x.Add]
structure Bv where
 p0:Int
 mh:Int
 kg:kg
 deriving DecidableEq
def Fu(x:Bv):TV:=.agg [eI x.p0,eI x.mh,eI x.kg.Var,eI x.kg.Add]
structure Test where
 o3:Int
 kl:kg
 fu:kg
 deriving DecidableEq
def GZ(x:Test):TV:=.agg [eI x.o3,eI x.kl.Var,eI x.kl.Add,eI x.fu.Var,eI x.fu.Add]
structure ed where
 d6:d6
 ff:List Bv
 fq:Int
 ns:List Test
 deriving DecidableEq
def BP(x:ed):TV:=.agg [(eL 1 eI) x.d6.d5,(eL 3 CG) x.d6.d7,(eL 4 Fu) x.ff,eI x.fq,(eL 5 GZ) x.ns]
structure Bo where
 d5:Fp
 d7:Fp
 deriving DecidableEq
def MB(x:Bo):TV:=.agg [(eL 1 eI) x.d5,(eL 1 eI) x.d7]
structure eb where
 d5:Fp
 d7:Fp
 deriving DecidableEq
def Bm(x:eb):TV:=.agg [(eL 1 eI) x.d5,(eL 1 eI) x.d7]
structure ea where
 o3:Int
 hV:List ea
 Map:eb
 ed:ed
mutual
def TU:ea->TV
 |⟨y0,y1,y2,y3⟩=>.agg [eI y0,.list 9 (IM y1),(eL 1 eI) y2.d5,(eL 1 eI) y2.d7,(eL 1 eI) y3.d6.d5,(eL 3 CG) y3.d6.d7,(eL 4 Fu) y3.ff,eI y3.fq,(eL 5 GZ) y3.ns]
def IM:List ea->Fq
 |[]=>[]|c::cs=>TU c::IM cs
end
def El(l:List ea):TV:=.list 9 (IM l)
def AI(x:ea):TV:=.agg [eI x.o3,El x.hV,(eL 1 eI) x.Map.d5,(eL 1 eI) x.Map.d7,(eL 1 eI) x.ed.d6.d5,(eL 3 CG) x.ed.d6.d7,(eL 4 Fu) x.ed.ff,eI x.ed.fq,(eL 5 GZ) x.ed.ns]
theorem Va(x:ea):TU x=AI x:=by
 cases x;rfl
theorem KT:∀l:List ea,IM l=l.map AI
 |[]=>rfl|x::l=>by rw[IM,Va,KT l];rfl
theorem PY(l:List ea):El l=.list 9 (l.map AI):=by rw[El,KT]
structure hO where
 mr:ByteArray
 kl:ed
 fu:ed
 tl:Bo
 sr:eb
 po:Bool
 ea:ea
def CP(x:hO):TV:=.agg [eS x.mr,(eL 1 eI) x.kl.d6.d5,(eL 3 CG) x.kl.d6.d7,(eL 4 Fu) x.kl.ff,eI x.kl.fq,(eL 5 GZ) x.kl.ns,(eL 1 eI) x.fu.d6.d5,(eL 3 CG) x.fu.d6.d7,(eL 4 Fu) x.fu.ff,eI x.fu.fq,(eL 5 GZ) x.fu.ns,(eL 1 eI) x.tl.d5,(eL 1 eI) x.tl.d7,(eL 1 eI) x.sr.d5,(eL 1 eI) x.sr.d7,eB x.po,eI x.ea.o3,El x.ea.hV,(eL 1 eI) x.ea.Map.d5,(eL 1 eI) x.ea.Map.d7,(eL 1 eI) x.ea.ed.d6.d5,(eL 3 CG) x.ea.ed.d6.d7,(eL 4 Fu) x.ea.ed.ff,eI x.ea.ed.fq,(eL 5 GZ) x.ea.ed.ns]
structure AS where
 eb:eb
 fq:Fp
 deriving DecidableEq
def CX(x:AS):TV:=.agg [(eL 1 eI) x.eb.d5,(eL 1 eI) x.eb.d7,(eL 1 eI) x.fq]
structure gt where
 d6:d6
 gp:List Fp
 deriving DecidableEq
def Cw(x:gt):TV:=.agg [(eL 1 eI) x.d6.d5,(eL 3 CG) x.d6.d7,(eL 1 (eL 1 eI)) x.gp]
structure A9 where
 hO:hO
 pr:AS
 Aat:gt
 tc:gt
 Aao:eb
 Aai:eb
def SD(x:A9):TV:=.agg [eS x.hO.mr,(eL 1 eI) x.hO.kl.d6.d5,(eL 3 CG) x.hO.kl.d6.d7,(eL 4 Fu) x.hO.kl.ff,eI x.hO.kl.fq,(eL 5 GZ) x.hO.kl.ns,(eL 1 eI) x.hO.fu.d6.d5,(eL 3 CG) x.hO.fu.d6.d7,(eL 4 Fu) x.hO.fu.ff,eI x.hO.fu.fq,(eL 5 GZ) x.hO.fu.ns,(eL 1 eI) x.hO.tl.d5,(eL 1 eI) x.hO.tl.d7,(eL 1 eI) x.hO.sr.d5,(eL 1 eI) x.hO.sr.d7,eB x.hO.po,eI x.hO.ea.o3,El x.hO.ea.hV,(eL 1 eI) x.hO.ea.Map.d5,(eL 1 eI) x.hO.ea.Map.d7,(eL 1 eI) x.hO.ea.ed.d6.d5,(eL 3 CG) x.hO.ea.ed.d6.d7,(eL 4 Fu) x.hO.ea.ed.ff,eI x.hO.ea.ed.fq,(eL 5 GZ) x.hO.ea.ed.ns,(eL 1 eI) x.pr.eb.d5,(eL 1 eI) x.pr.eb.d7,(eL 1 eI) x.pr.fq,(eL 1 eI) x.Aat.d6.d5,(eL 3 CG) x.Aat.d6.d7,(eL 1 (eL 1 eI)) x.Aat.gp,(eL 1 eI) x.tc.d6.d5,(eL 3 CG) x.tc.d6.d7,(eL 1 (eL 1 eI)) x.tc.gp,(eL 1 eI) x.Aao.d5,(eL 1 eI) x.Aao.d7,(eL 1 eI) x.Aai.d5,(eL 1 eI) x.Aai.d7]
def DF(x:A9):List AN:=[⟨false,eS x.hO.mr⟩,⟨false,(eL 1 eI) x.hO.kl.d6.d5⟩,⟨false,(eL 3 CG) x.hO.kl.d6.d7⟩,⟨false,(eL 4 Fu) x.hO.kl.ff⟩,⟨false,eI x.hO.kl.fq⟩,⟨false,(eL 5 GZ) x.hO.kl.ns⟩,⟨false,(eL 1 eI) x.hO.fu.d6.d5⟩,⟨false,(eL 3 CG) x.hO.fu.d6.d7⟩,⟨false,(eL 4 Fu) x.hO.fu.ff⟩,⟨false,eI x.hO.fu.fq⟩,⟨false,(eL 5 GZ) x.hO.fu.ns⟩,⟨false,(eL 1 eI) x.hO.tl.d5⟩,⟨false,(eL 1 eI) x.hO.tl.d7⟩,⟨false,(eL 1 eI) x.hO.sr.d5⟩,⟨false,(eL 1 eI) x.hO.sr.d7⟩,⟨false,eB x.hO.po⟩,⟨false,eI x.hO.ea.o3⟩,⟨false,El x.hO.ea.hV⟩,⟨false,(eL 1 eI) x.hO.ea.Map.d5⟩,⟨false,(eL 1 eI) x.hO.ea.Map.d7⟩,⟨false,(eL 1 eI) x.hO.ea.ed.d6.d5⟩,⟨false,(eL 3 CG) x.hO.ea.ed.d6.d7⟩,⟨false,(eL 4 Fu) x.hO.ea.ed.ff⟩,⟨false,eI x.hO.ea.ed.fq⟩,⟨false,(eL 5 GZ) x.hO.ea.ed.ns⟩,⟨false,(eL 1 eI) x.pr.eb.d5⟩,⟨false,(eL 1 eI) x.pr.eb.d7⟩,⟨false,(eL 1 eI) x.pr.fq⟩,⟨false,(eL 1 eI) x.Aat.d6.d5⟩,⟨false,(eL 3 CG) x.Aat.d6.d7⟩,⟨false,(eL 1 (eL 1 eI)) x.Aat.gp⟩,⟨true,(eL 1 eI) x.tc.d6.d5⟩,⟨true,(eL 3 CG) x.tc.d6.d7⟩,⟨true,.xn (List.map (eL 1 eI) x.tc.gp)⟩,⟨false,(eL 1 eI) x.Aao.d5⟩,⟨false,(eL 1 eI) x.Aao.d7⟩,⟨false,(eL 1 eI) x.Aai.d5⟩,⟨false,(eL 1 eI) x.Aai.d7⟩]
structure Lz where
 d5:Option Fp
 d7:Option Fp
 deriving DecidableEq
def lP(x:Lz):TV:=.agg [(eO 1 eI) x.d5,(eO 1 eI) x.d7]
def Lz.of(m:eb):Lz:=⟨some m.d5,some m.d7⟩
instance:Coe eb Lz:=⟨Lz.of⟩
structure AH where
 p:d6
 g:d6
 is:List ae
 mo:Lz
 jj:Bool
 Aad:Int
 ek:Fp
 em:Fp
 out:List eb
 deriving DecidableEq
def Qk(x:AH):TV:=.agg [(eL 1 eI) x.p.d5,(eL 3 CG) x.p.d7,(eL 1 eI) x.g.d5,(eL 3 CG) x.g.d7,(eL 1 (eL 1 eB)) x.is,(eO 1 eI) x.mo.d5,(eO 1 eI) x.mo.d7,eB x.jj,eI x.Aad,(eL 1 eI) x.ek,(eL 1 eI) x.em,(eL 2 Bm) x.out]
def Ch(x:AH):List AN:=[⟨false,(eL 1 eI) x.p.d5⟩,⟨false,(eL 3 CG) x.p.d7⟩,⟨false,(eL 1 eI) x.g.d5⟩,⟨false,(eL 3 CG) x.g.d7⟩,⟨false,(eL 1 (eL 1 eB)) x.is⟩,⟨false,(eO 1 eI) x.mo.d5⟩,⟨false,(eO 1 eI) x.mo.d7⟩,⟨false,eB x.jj⟩,⟨false,eI x.Aad⟩,⟨true,.xl 1 (List.map eI x.ek)⟩,⟨true,.xl 1 (List.map eI x.em)⟩,⟨true,(eL 2 Bm) x.out⟩]
structure Eh where
 o3:Int
 AbV:ByteArray
 Line:Int
 deriving DecidableEq
def Ud(x:Eh):TV:=.agg [eI x.o3,eS x.AbV,eI x.Line]
structure mh where
 mr:ByteArray
 Low:Int
 Aam:Int
 sx:List ByteArray
 deriving DecidableEq
def HV(x:mh):TV:=.agg [eS x.mr,eI x.Low,eI x.Aam,(eL 1 eS) x.sx]
structure BL where
 mr:ByteArray
 x8:Int
 qo:Bool
 r0:List mh
 deriving DecidableEq
def Ic(x:BL):TV:=.agg [eS x.mr,eI x.x8,eB x.qo,(eL 4 HV) x.r0]
structure CB where
 mr:ByteArray
 nd:Int
 To:Int
 Aa5:Int
 AaO:Int
 Abv:Int
 Aa4:Int
 deriving DecidableEq
def Jy(x:CB):TV:=.agg [eS x.mr,eI x.nd,eI x.To,eI x.Aa5,eI x.AaO,eI x.Abv,eI x.Aa4]
structure ej where
 d5:List BL
 d7:List CB
 deriving DecidableEq
def AP(x:ej):TV:=.agg [(eL 4 Ic) x.d5,(eL 7 Jy) x.d7]
structure Bt where
 l:d6
 g:d6
 gn:Bo
 m:eb
 deriving DecidableEq
def Ha(x:Bt):TV:=.agg [(eL 1 eI) x.l.d5,(eL 3 CG) x.l.d7,(eL 1 eI) x.g.d5,(eL 3 CG) x.g.d7,(eL 1 eI) x.gn.d5,(eL 1 eI) x.gn.d7,(eL 1 eI) x.m.d5,(eL 1 eI) x.m.d7]
structure Je where
 A:Int
 B:Int
 deriving DecidableEq
def Ub(x:Je):TV:=.agg [eI x.A,eI x.B]
structure BE where
 t:ej
 h:gt
 jj:Bool
 deriving DecidableEq
def CL(x:BE):TV:=.agg [(eL 4 Ic) x.t.d5,(eL 7 Jy) x.t.d7,(eL 1 eI) x.h.d6.d5,(eL 3 CG) x.h.d6.d7,(eL 1 (eL 1 eI)) x.h.gp,eB x.jj]
structure B1 where
 Aa3:Int
 pr:AS
 hV:List B1
mutual
def Z6:B1->TV
 |⟨y0,y1,y2⟩=>.agg [eI y0,(eL 1 eI) y1.eb.d5,(eL 1 eI) y1.eb.d7,(eL 1 eI) y1.fq,.list 5 (M6 y2)]
def M6:List B1->Fq
 |[]=>[]|c::cs=>Z6 c::M6 cs
end
def Lp(l:List B1):TV:=.list 5 (M6 l)
def F4(x:B1):TV:=.agg [eI x.Aa3,(eL 1 eI) x.pr.eb.d5,(eL 1 eI) x.pr.eb.d7,(eL 1 eI) x.pr.fq,Lp x.hV]
theorem ba(x:B1):Z6 x=F4 x:=by
 cases x;rfl
theorem RF:∀l:List B1,M6 l=l.map F4
 |[]=>rfl|x::l=>by rw[M6,ba,RF l];rfl
theorem ZV(l:List B1):Lp l=.list 5 (l.map F4):=by rw[Lp,RF]
structure By where
 hO:Int
 pr:AS
 deriving DecidableEq
def HZ(x:By):TV:=.agg [eI x.hO,(eL 1 eI) x.pr.eb.d5,(eL 1 eI) x.pr.eb.d7,(eL 1 eI) x.pr.fq]
structure AQ where
 kp:gt
 j4:List By
 deriving DecidableEq
def DG(x:AQ):TV:=.agg [(eL 1 eI) x.kp.d6.d5,(eL 3 CG) x.kp.d6.d7,(eL 1 (eL 1 eI)) x.kp.gp,(eL 4 HZ) x.j4]
structure HD where
 a0:Int
 a1:Int
 deriving DecidableEq
def Ir(x:HD):TV:=.agg [Gt x.a0,Gt x.a1]
structure HE where
 a0:Int
 a1:Int
 a2:Int
 deriving DecidableEq
def Ff(x:HE):TV:=.agg [Gt x.a0,Gt x.a1,Gt x.a2]
structure Ep where
 d5:Fp
 d7:List HE
 deriving DecidableEq
def MD(x:Ep):TV:=.agg [(eL 1 Gt) x.d5,(eL 3 Ff) x.d7]
structure Oj where
 a0:Int
 a1:Int
 a2:Int
 a3:Int
 deriving DecidableEq
def O2(x:Oj):TV:=.agg [Ua x.a0,Ua x.a1,Ua x.a2,Ua x.a3]
structure Hw where
 a0:Int
 a1:Int
 deriving DecidableEq
def V8(x:Hw):TV:=.agg [eI x.a0,eI x.a1]
structure H4 where
 d6:Ep
 ff:List HE
 ns:List Oj
 deriving DecidableEq
def SF(x:H4):TV:=.agg [(eL 1 Gt) x.d6.d5,(eL 3 Ff) x.d6.d7,(eL 3 Ff) x.ff,(eL 4 O2) x.ns]
structure QF where
 a0:Int
 a1:Int
 a2:Int
 a3:Int
 deriving DecidableEq
def Xv(x:QF):TV:=.agg [Gt x.a0,Gt x.a1,Gt x.a2,Gt x.a3]
structure Dp where
 kl:H4
 tl:Int
 d5:Fp
 d7:List HE
 ff:List HE
 Plain:Bool
 po:Bool
 AaC:QF
 AbD:Fp
 deriving DecidableEq
def IN(x:Dp):TV:=.agg [(eL 1 Gt) x.kl.d6.d5,(eL 3 Ff) x.kl.d6.d7,(eL 3 Ff) x.kl.ff,(eL 4 O2) x.kl.ns,Hx x.tl,(eL 1 Gt) x.d5,(eL 3 Ff) x.d7,(eL 3 Ff) x.ff,eB x.Plain,eB x.po,Gt x.AaC.a0,Gt x.AaC.a1,Gt x.AaC.a2,Gt x.AaC.a3,(eL 1 Gt) x.AbD]
structure H3 where
 d5:List HD
 d7:List HE
 deriving DecidableEq
def SE(x:H3):TV:=.agg [(eL 2 Ir) x.d5,(eL 3 Ff) x.d7]
structure F1 where
 ej:List HD
 Ab8:List HD
 Aak:List Dp
 gt:H3
 deriving DecidableEq
def IP(x:F1):TV:=.agg [(eL 2 Ir) x.ej,(eL 2 Ir) x.Ab8,(eL 15 IN) x.Aak,(eL 2 Ir) x.gt.d5,(eL 3 Ff) x.gt.d7]
abbrev lI:Fp->TV:=eL 1 eI
abbrev lE:List Bc->TV:=eL 3 CG
abbrev lS:List Bv->TV:=eL 4 Fu
abbrev lT:List Test->TV:=eL 5 GZ
abbrev lN:List BL->TV:=eL 4 Ic
abbrev lX:List CB->TV:=eL 7 Jy
abbrev lA:List mh->TV:=eL 4 HV
abbrev lB:List ByteArray->TV:=eL 1 eS
theorem iH(a b:Bc):B5 (TV.cells (CG a)) (TV.cells (CG b))=some (decide (a=b)):=by
 rcases a with⟨a0,a1,a2⟩;rcases b with⟨b0,b1,b2⟩;simp[CG,TV.cells,B5,eI,Bool.and_assoc,Bc.mk.injEq]
end Go.Sf.Sc
