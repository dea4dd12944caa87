/- The types of the program as Lean types. -/
import Derived.Test.YthgbaecihlidaaaGreatDoorSfK
import Derived.Test.YthgbaecihlidaaaGreatDoorSfStep
import Derived.Test.YthgbaecihlidaaaGreatDoorProg
set_option linter.all false
set_option maxRecDepth 100000
namespace Go.Sf.Sc
open Go Go.Sf Go.Proofs.Tryz
def eI(n:Int):TV:=.int .i64 n
def Gr(n:Int):TV:=.int .u8 n
def Hu(n:Int):TV:=.int .u64 n
def y7(n:Int):TV:=.int .i32 n
def y9(n:Int):TV:=.int .u32 n
def UW(n:Int):TV:=.int .i8 n
def y6(n:Int):TV:=.int .i16 n
def y8(n:Int):TV:=.int .u16 n
def eB(b:Bool):TV:=.bool b
def eS(s:ByteArray):TV:=.str s
def eL{α:Type}(n:Nat)(e:α->TV)(l:List α):TV:=.list n (l.map e)
theorem Tryz_follows:Go.Proofs.Tryz.prog.follows .mixedOrders=true:=by decide +kernel
structure Bc where
 mt:Int
 nd:Int
 To:Int
 deriving DecidableEq
def CF(x:Bc):TV:=.agg [eI x.mt,eI x.nd,eI x.To]
structure d6 where
 d5:Fp
 d7:List Bc
 deriving DecidableEq
def A8(x:d6):TV:=.agg [(eL 1 eI) x.d5,(eL 3 CF) x.d7]
structure kg where
 Var:Int
 Add:Int
 deriving DecidableEq
def UY(x:kg):TV:=.agg [eI x.Var,eI x.Add]
structure Bv where
 p0:Int
 mh:Int
 kg:kg
 deriving DecidableEq
def Fr(x:Bv):TV:=.agg [eI x.p0,eI x.mh,eI x.kg.Var,eI x.kg.Add]
structure Test where
 o3:Int
 kl:kg
 gn:kg
 deriving DecidableEq
def GY(x:Test):TV:=.agg [eI x.o3,eI x.kl.Var,eI x.kl.Add,eI x.gn.Var,eI x.gn.Add]
structure ed where
 d6:d6
 ff:List Bv
 fq:Int
 ns:List Test
 deriving DecidableEq
def BO(x:ed):TV:=.agg [(eL 1 eI) x.d6.d5,(eL 3 CF) x.d6.d7,(eL 4 Fr) x.ff,eI x.fq,(eL 5 GY) x.ns]
structure Bo where
 d5:Fp
 d7:Fp
 deriving DecidableEq
def MA(x:Bo):TV:=.agg [(eL 1 eI) x.d5,(eL 1 eI) x.d7]
structure eb where
 d5:Fp
 d7:Fp
 deriving DecidableEq
def Bm(x:eb):TV:=.agg [(eL 1 eI) x.d5,(eL 1 eI) x.d7]
structure ea where
 o3:Int
 hT:List ea
 Map:eb
 ed:ed
mutual
def TR:ea->TV
 |⟨y0,y1,y2,y3⟩=>.agg [eI y0,.list 9 (IJ y1),(eL 1 eI) y2.d5,(eL 1 eI) y2.d7,(eL 1 eI) y3.d6.d5,(eL 3 CF) y3.d6.d7,(eL 4 Fr) y3.ff,eI y3.fq,(eL 5 GY) y3.ns]
def IJ:List ea->Fq
 |[]=>[]|c::cs=>TR c::IJ cs
end
def Ek(l:List ea):TV:=.list 9 (IJ l)
def AI(x:ea):TV:=.agg [eI x.o3,Ek x.hT,(eL 1 eI) x.Map.d5,(eL 1 eI) x.Map.d7,(eL 1 eI) x.ed.d6.d5,(eL 3 CF) x.ed.d6.d7,(eL 4 Fr) x.ed.ff,eI x.ed.fq,(eL 5 GY) x.ed.ns]
theorem VX(x:ea):TR x=AI x:=by
 cases x;rfl
theorem KS:∀l:List ea,IJ l=l.map AI
 |[]=>rfl|x::l=>by rw[IJ,VX,KS l];rfl
theorem PV(l:List ea):Ek l=.list 9 (l.map AI):=by rw[Ek,KS]
structure hO where
 mr:ByteArray
 kl:ed
 gn:ed
 tl:Bo
 sr:eb
 po:Bool
 ea:ea
def CP(x:hO):TV:=.agg [eS x.mr,(eL 1 eI) x.kl.d6.d5,(eL 3 CF) x.kl.d6.d7,(eL 4 Fr) x.kl.ff,eI x.kl.fq,(eL 5 GY) x.kl.ns,(eL 1 eI) x.gn.d6.d5,(eL 3 CF) x.gn.d6.d7,(eL 4 Fr) x.gn.ff,eI x.gn.fq,(eL 5 GY) x.gn.ns,(eL 1 eI) x.tl.d5,(eL 1 eI) x.tl.d7,(eL 1 eI) x.sr.d5,(eL 1 eI) x.sr.d7,eB x.po,eI x.ea.o3,Ek x.ea.hT,(eL 1 eI) x.ea.Map.d5,(eL 1 eI) x.ea.Map.d7,(eL 1 eI) x.ea.ed.d6.d5,(eL 3 CF) x.ea.ed.d6.d7,(eL 4 Fr) x.ea.ed.ff,eI x.ea.ed.fq,(eL 5 GY) x.ea.ed.ns]
structure AS where
 eb:eb
 fq:Fp
 deriving DecidableEq
def CX(x:AS):TV:=.agg [(eL 1 eI) x.eb.d5,(eL 1 eI) x.eb.d7,(eL 1 eI) x.fq]
structure gt where
 d6:d6
 gp:List Fp
 deriving DecidableEq
def Cw(x:gt):TV:=.agg [(eL 1 eI) x.d6.d5,(eL 3 CF) x.d6.d7,(eL 1 (eL 1 eI)) x.gp]
structure A9 where
 hO:hO
 pr:AS
 Aar:gt
 tc:gt
 Aao:eb
 Aai:eb
def SA(x:A9):TV:=.agg [eS x.hO.mr,(eL 1 eI) x.hO.kl.d6.d5,(eL 3 CF) x.hO.kl.d6.d7,(eL 4 Fr) x.hO.kl.ff,eI x.hO.kl.fq,(eL 5 GY) x.hO.kl.ns,(eL 1 eI) x.hO.gn.d6.d5,(eL 3 CF) x.hO.gn.d6.d7,(eL 4 Fr) x.hO.gn.ff,eI x.hO.gn.fq,(eL 5 GY) x.hO.gn.ns,(eL 1 eI) x.hO.tl.d5,(eL 1 eI) x.hO.tl.d7,(eL 1 eI) x.hO.sr.d5,(eL 1 eI) x.hO.sr.d7,eB x.hO.po,eI x.hO.ea.o3,Ek x.hO.ea.hT,(eL 1 eI) x.hO.ea.Map.d5,(eL 1 eI) x.hO.ea.Map.d7,(eL 1 eI) x.hO.ea.ed.d6.d5,(eL 3 CF) x.hO.ea.ed.d6.d7,(eL 4 Fr) x.hO.ea.ed.ff,eI x.hO.ea.ed.fq,(eL 5 GY) x.hO.ea.ed.ns,(eL 1 eI) x.pr.eb.d5,(eL 1 eI) x.pr.eb.d7,(eL 1 eI) x.pr.fq,(eL 1 eI) x.Aar.d6.d5,(eL 3 CF) x.Aar.d6.d7,(eL 1 (eL 1 eI)) x.Aar.gp,(eL 1 eI) x.tc.d6.d5,(eL 3 CF) x.tc.d6.d7,(eL 1 (eL 1 eI)) x.tc.gp,(eL 1 eI) x.Aao.d5,(eL 1 eI) x.Aao.d7,(eL 1 eI) x.Aai.d5,(eL 1 eI) x.Aai.d7]
def DF(x:A9):List AQ:=[⟨false,eS x.hO.mr⟩,⟨false,(eL 1 eI) x.hO.kl.d6.d5⟩,⟨false,(eL 3 CF) x.hO.kl.d6.d7⟩,⟨false,(eL 4 Fr) x.hO.kl.ff⟩,⟨false,eI x.hO.kl.fq⟩,⟨false,(eL 5 GY) x.hO.kl.ns⟩,⟨false,(eL 1 eI) x.hO.gn.d6.d5⟩,⟨false,(eL 3 CF) x.hO.gn.d6.d7⟩,⟨false,(eL 4 Fr) x.hO.gn.ff⟩,⟨false,eI x.hO.gn.fq⟩,⟨false,(eL 5 GY) x.hO.gn.ns⟩,⟨false,(eL 1 eI) x.hO.tl.d5⟩,⟨false,(eL 1 eI) x.hO.tl.d7⟩,⟨false,(eL 1 eI) x.hO.sr.d5⟩,⟨false,(eL 1 eI) x.hO.sr.d7⟩,⟨false,eB x.hO.po⟩,⟨false,eI x.hO.ea.o3⟩,⟨false,Ek x.hO.ea.hT⟩,⟨false,(eL 1 eI) x.hO.ea.Map.d5⟩,⟨false,(eL 1 eI) x.hO.ea.Map.d7⟩,⟨false,(eL 1 eI) x.hO.ea.ed.d6.d5⟩,⟨false,(eL 3 CF) x.hO.ea.ed.d6.d7⟩,⟨false,(eL 4 Fr) x.hO.ea.ed.ff⟩,⟨false,eI x.hO.ea.ed.fq⟩,⟨false,(eL 5 GY) x.hO.ea.ed.ns⟩,⟨false,(eL 1 eI) x.pr.eb.d5⟩,⟨false,(eL 1 eI) x.pr.eb.d7⟩,⟨false,(eL 1 eI) x.pr.fq⟩,⟨false,(eL 1 eI) x.Aar.d6.d5⟩,⟨false,(eL 3 CF) x.Aar.d6.d7⟩,⟨false,(eL 1 (eL 1 eI)) x.Aar.gp⟩,⟨true,(eL 1 eI) x.tc.d6.d5⟩,⟨true,(eL 3 CF) x.tc.d6.d7⟩,⟨true,.xn (List.map (eL 1 eI) x.tc.gp)⟩,⟨false,(eL 1 eI) x.Aao.d5⟩,⟨false,(eL 1 eI) x.Aao.d7⟩,⟨false,(eL 1 eI) x.Aai.d5⟩,⟨false,(eL 1 eI) x.Aai.d7⟩]
structure Ly where
 d5:Option Fp
 d7:Option Fp
 deriving DecidableEq
def kv(x:Ly):TV:=.agg [(eO 1 eI) x.d5,(eO 1 eI) x.d7]
def Ly.of(m:eb):Ly:=⟨some m.d5,some m.d7⟩
instance:Coe eb Ly:=⟨Ly.of⟩
structure AH where
 p:d6
 g:d6
 is:List ae
 mo:Ly
 hV:Bool
 Aab:Int
 ek:Fp
 em:Fp
 out:List eb
 deriving DecidableEq
def Qi(x:AH):TV:=.agg [(eL 1 eI) x.p.d5,(eL 3 CF) x.p.d7,(eL 1 eI) x.g.d5,(eL 3 CF) x.g.d7,(eL 1 (eL 1 eB)) x.is,(eO 1 eI) x.mo.d5,(eO 1 eI) x.mo.d7,eB x.hV,eI x.Aab,(eL 1 eI) x.ek,(eL 1 eI) x.em,(eL 2 Bm) x.out]
def Ch(x:AH):List AQ:=[⟨false,(eL 1 eI) x.p.d5⟩,⟨false,(eL 3 CF) x.p.d7⟩,⟨false,(eL 1 eI) x.g.d5⟩,⟨false,(eL 3 CF) x.g.d7⟩,⟨false,(eL 1 (eL 1 eB)) x.is⟩,⟨false,(eO 1 eI) x.mo.d5⟩,⟨false,(eO 1 eI) x.mo.d7⟩,⟨false,eB x.hV⟩,⟨false,eI x.Aab⟩,⟨true,.xl 1 (List.map eI x.ek)⟩,⟨true,.xl 1 (List.map eI x.em)⟩,⟨true,(eL 2 Bm) x.out⟩]
structure Eg where
 o3:Int
 AbU:ByteArray
 Line:Int
 deriving DecidableEq
def UZ(x:Eg):TV:=.agg [eI x.o3,eS x.AbU,eI x.Line]
structure mh where
 mr:ByteArray
 Low:Int
 Aam:Int
 sx:List ByteArray
 deriving DecidableEq
def HT(x:mh):TV:=.agg [eS x.mr,eI x.Low,eI x.Aam,(eL 1 eS) x.sx]
structure BL where
 mr:ByteArray
 x9:Int
 qo:Bool
 r0:List mh
 deriving DecidableEq
def Ia(x:BL):TV:=.agg [eS x.mr,eI x.x9,eB x.qo,(eL 4 HT) x.r0]
structure CA where
 mr:ByteArray
 nd:Int
 To:Int
 AaX:Int
 AaK:Int
 Abs:Int
 AaY:Int
 deriving DecidableEq
def Jv(x:CA):TV:=.agg [eS x.mr,eI x.nd,eI x.To,eI x.AaX,eI x.AaK,eI x.Abs,eI x.AaY]
structure ej where
 d5:List BL
 d7:List CA
 deriving DecidableEq
def AN(x:ej):TV:=.agg [(eL 4 Ia) x.d5,(eL 7 Jv) x.d7]
structure Bt where
 l:d6
 g:d6
 fu:Bo
 m:eb
 deriving DecidableEq
def HV(x:Bt):TV:=.agg [(eL 1 eI) x.l.d5,(eL 3 CF) x.l.d7,(eL 1 eI) x.g.d5,(eL 3 CF) x.g.d7,(eL 1 eI) x.fu.d5,(eL 1 eI) x.fu.d7,(eL 1 eI) x.m.d5,(eL 1 eI) x.m.d7]
structure Jb where
 A:Int
 B:Int
 deriving DecidableEq
def UX(x:Jb):TV:=.agg [eI x.A,eI x.B]
structure BE where
 t:ej
 h:gt
 hV:Bool
 deriving DecidableEq
def CL(x:BE):TV:=.agg [(eL 4 Ia) x.t.d5,(eL 7 Jv) x.t.d7,(eL 1 eI) x.h.d6.d5,(eL 3 CF) x.h.d6.d7,(eL 1 (eL 1 eI)) x.h.gp,eB x.hV]
structure B1 where
 Aa0:Int
 pr:AS
 hT:List B1
mutual
def Z3:B1->TV
 |⟨y0,y1,y2⟩=>.agg [eI y0,(eL 1 eI) y1.eb.d5,(eL 1 eI) y1.eb.d7,(eL 1 eI) y1.fq,.list 5 (M5 y2)]
def M5:List B1->Fq
 |[]=>[]|c::cs=>Z3 c::M5 cs
end
def Ln(l:List B1):TV:=.list 5 (M5 l)
def F2(x:B1):TV:=.agg [eI x.Aa0,(eL 1 eI) x.pr.eb.d5,(eL 1 eI) x.pr.eb.d7,(eL 1 eI) x.pr.fq,Ln x.hT]
theorem bX(x:B1):Z3 x=F2 x:=by
 cases x;rfl
theorem RD:∀l:List B1,M5 l=l.map F2
 |[]=>rfl|x::l=>by rw[M5,bX,RD l];rfl
theorem ZT(l:List B1):Ln l=.list 5 (l.map F2):=by rw[Ln,RD]
structure By where
 hO:Int
 pr:AS
 deriving DecidableEq
def HU(x:By):TV:=.agg [eI x.hO,(eL 1 eI) x.pr.eb.d5,(eL 1 eI) x.pr.eb.d7,(eL 1 eI) x.pr.fq]
structure AP where
 kp:gt
 j4:List By
 deriving DecidableEq
def DG(x:AP):TV:=.agg [(eL 1 eI) x.kp.d6.d5,(eL 3 CF) x.kp.d6.d7,(eL 1 (eL 1 eI)) x.kp.gp,(eL 4 HU) x.j4]
structure G8 where
 a0:Int
 a1:Int
 deriving DecidableEq
def Ip(x:G8):TV:=.agg [Gr x.a0,Gr x.a1]
structure G9 where
 a0:Int
 a1:Int
 a2:Int
 deriving DecidableEq
def Fd(x:G9):TV:=.agg [Gr x.a0,Gr x.a1,Gr x.a2]
structure Eo where
 d5:Fp
 d7:List G9
 deriving DecidableEq
def MC(x:Eo):TV:=.agg [(eL 1 Gr) x.d5,(eL 3 Fd) x.d7]
structure Og where
 a0:Int
 a1:Int
 a2:Int
 a3:Int
 deriving DecidableEq
def Oz(x:Og):TV:=.agg [UW x.a0,UW x.a1,UW x.a2,UW x.a3]
structure Ht where
 a0:Int
 a1:Int
 deriving DecidableEq
def V5(x:Ht):TV:=.agg [eI x.a0,eI x.a1]
structure H1 where
 d6:Eo
 ff:List G9
 ns:List Og
 deriving DecidableEq
def SC(x:H1):TV:=.agg [(eL 1 Gr) x.d6.d5,(eL 3 Fd) x.d6.d7,(eL 3 Fd) x.ff,(eL 4 Oz) x.ns]
structure QD where
 a0:Int
 a1:Int
 a2:Int
 a3:Int
 deriving DecidableEq
def Xt(x:QD):TV:=.agg [Gr x.a0,Gr x.a1,Gr x.a2,Gr x.a3]
structure Do where
 kl:H1
 tl:Int
 d5:Fp
 d7:List G9
 ff:List G9
 Plain:Bool
 po:Bool
 AaA:QD
 AbB:Fp
 deriving DecidableEq
def IK(x:Do):TV:=.agg [(eL 1 Gr) x.kl.d6.d5,(eL 3 Fd) x.kl.d6.d7,(eL 3 Fd) x.kl.ff,(eL 4 Oz) x.kl.ns,Hu x.tl,(eL 1 Gr) x.d5,(eL 3 Fd) x.d7,(eL 3 Fd) x.ff,eB x.Plain,eB x.po,Gr x.AaA.a0,Gr x.AaA.a1,Gr x.AaA.a2,Gr x.AaA.a3,(eL 1 Gr) x.AbB]
structure H0 where
 d5:List G8
 d7:List G9
 deriving DecidableEq
def SB(x:H0):TV:=.agg [(eL 2 Ip) x.d5,(eL 3 Fd) x.d7]
structure Fx where
 ej:List G8
 Ab8:List G8
 Aaj:List Do
 gt:H0
 deriving DecidableEq
def IL(x:Fx):TV:=.agg [(eL 2 Ip) x.ej,(eL 2 Ip) x.Ab8,(eL 15 IK) x.Aaj,(eL 2 Ip) x.gt.d5,(eL 3 Fd) x.gt.d7]
abbrev lI:Fp->TV:=eL 1 eI
abbrev lE:List Bc->TV:=eL 3 CF
abbrev lS:List Bv->TV:=eL 4 Fr
abbrev lT:List Test->TV:=eL 5 GY
abbrev lN:List BL->TV:=eL 4 Ia
abbrev lX:List CA->TV:=eL 7 Jv
abbrev lA:List mh->TV:=eL 4 HT
abbrev lB:List ByteArray->TV:=eL 1 eS
theorem gv(a b:Bc):B5 (TV.cells (CF a)) (TV.cells (CF b))=some (decide (a=b)):=by
 rcases a with⟨a0,a1,a2⟩;rcases b with⟨b0,b1,b2⟩;simp[CF,TV.cells,B5,eI,Bool.and_assoc,Bc.mk.injEq]
end Go.Sf.Sc
