/- The types of the program as Lean types. -/
import Derived.Test.YtbmgmpeimdomoaaGreatSfK
import Derived.Test.YtbmgmpeimdomoaaGreatSfStep
import Derived.Test.YtbmgmpeimdomoaaGreatProg
set_option linter.all false
set_option maxRecDepth 100000
open Bool renaming false->T
namespace Go.Sf.Sc
open Go Go.Sf Go.Proofs.Tryz
def eI(n:Int):TV:=.int .i64 n
def M8(n:Int):TV:=.int .u8 n
def LV(n:Int):TV:=.int .u64 n
def ABr(n:Int):TV:=.int .i32 n
def ABt(n:Int):TV:=.int .u32 n
def eI8(n:Int):TV:=.int .i8 n
def ABq(n:Int):TV:=.int .i16 n
def ABs(n:Int):TV:=.int .u16 n
def eB(b:Bool):TV:=.bool b
def eS(s:ByteArray):TV:=.str s
def eL{α:Type}(n:Nat)(e:α->TV)(l:List α):TV:=.list n (l.map e)
theorem Tryz_follows:Go.Proofs.Tryz.prog.follows .mixedOrders=true:=b!
structure ff where
 gi:ByteArray
 Low:Int
 Aab:Int
 l3:List ByteArray
 deriving DecidableEq
def JL(x:ff):TV:=.agg [eS x.gi,eI x.Low,eI x.Aab,(eL 1 eS) x.l3]
structure B2 where
 gi:ByteArray
 kg:Int
 pq:Bool
 iN:List ff
 deriving DecidableEq
def D9(x:B2):TV:=.agg [eS x.gi,eI x.kg,eB x.pq,(eL 4 JL) x.iN]
structure Cy where
 gi:ByteArray
 fb:Int
 To:Int
 Aa1:Int
 AaG:Int
 Abq:Int
 Aa0:Int
 deriving DecidableEq
def E9(x:Cy):TV:=.agg [eS x.gi,eI x.fb,eI x.To,eI x.Aa1,eI x.AaG,eI x.Abq,eI x.Aa0]
structure AC where
 az:List B2
 bi:List Cy
 deriving DecidableEq
def AN(x:AC):TV:=.agg [(eL 4 D9) x.az,(eL 7 E9) x.bi]
structure Ak where
 az:Fp
 bi:Fp
 deriving DecidableEq
def ER(x:Ak):TV:=.agg [(eL 1 eI) x.az,(eL 1 eI) x.bi]
structure B1 where
 em:Int
 fb:Int
 To:Int
 deriving DecidableEq
def CC(x:B1):TV:=.agg [eI x.em,eI x.fb,eI x.To]
structure bk where
 az:Fp
 bi:List B1
 deriving DecidableEq
def Au(x:bk):TV:=.agg [(eL 1 eI) x.az,(eL 3 CC) x.bi]
structure ez where
 Var:Int
 Add:Int
 deriving DecidableEq
def Ry(x:ez):TV:=.agg [eI x.Var,eI x.Add]
structure DW where
 ln:Int
 ff:Int
 ez:ez
 deriving DecidableEq
def G8(x:DW):TV:=.agg [eI x.ln,eI x.ff,eI x.ez.Var,eI x.ez.Add]
structure Test where
 fu:Int
 ea:ez
 ci:ez
 deriving DecidableEq
def H4(x:Test):TV:=.agg [eI x.fu,eI x.ea.Var,eI x.ea.Add,eI x.ci.Var,eI x.ci.Add]
structure c7 where
 bk:bk
 d5:List DW
 ei:Int
 f0:List Test
 deriving DecidableEq
def B9(x:c7):TV:=.agg [(eL 1 eI) x.bk.az,(eL 3 CC) x.bk.bi,(eL 4 G8) x.d5,eI x.ei,(eL 5 H4) x.f0]
structure BN where
 az:Fp
 bi:Fp
 deriving DecidableEq
def G7(x:BN):TV:=.agg [(eL 1 eI) x.az,(eL 1 eI) x.bi]
structure bn where
 az:Fp
 bi:Fp
 deriving DecidableEq
def A4(x:bn):TV:=.agg [(eL 1 eI) x.az,(eL 1 eI) x.bi]
structure ca where
 fu:Int
 ew:List ca
 Map:bn
 c7:c7
mutual
def XJ:ca->TV
 |⟨y0,y1,y2,y3⟩=>.agg [eI y0,.list 9 (KF y1),(eL 1 eI) y2.az,(eL 1 eI) y2.bi,(eL 1 eI) y3.bk.az,(eL 3 CC) y3.bk.bi,(eL 4 G8) y3.d5,eI y3.ei,(eL 5 H4) y3.f0]
def KF:List ca->Fq
 |[]=>[]|c::cs=>XJ c::KF cs
end
def F6(l:List ca):TV:=.list 9 (KF l)
def AQ(x:ca):TV:=.agg [eI x.fu,F6 x.ew,(eL 1 eI) x.Map.az,(eL 1 eI) x.Map.bi,(eL 1 eI) x.c7.bk.az,(eL 3 CC) x.c7.bk.bi,(eL 4 G8) x.c7.d5,eI x.c7.ei,(eL 5 H4) x.c7.f0]
theorem Zh(x:ca):XJ x=AQ x:=by
 cases x;rfl
theorem Me:∀l:List ca,KF l=l.map AQ
 |[]=>rfl|x::l=>by rw[KF,Zh,Me l];rfl
theorem Rw(l:List ca):F6 l=.list 9 (l.map AQ):=by rw[F6,Me]
structure d4 where
 gi:ByteArray
 ea:c7
 ci:c7
 kx:BN
 ed:bn
 fd:Bool
 ca:ca
def Bp(x:d4):TV:=.agg [eS x.gi,(eL 1 eI) x.ea.bk.az,(eL 3 CC) x.ea.bk.bi,(eL 4 G8) x.ea.d5,eI x.ea.ei,(eL 5 H4) x.ea.f0,(eL 1 eI) x.ci.bk.az,(eL 3 CC) x.ci.bk.bi,(eL 4 G8) x.ci.d5,eI x.ci.ei,(eL 5 H4) x.ci.f0,(eL 1 eI) x.kx.az,(eL 1 eI) x.kx.bi,(eL 1 eI) x.ed.az,(eL 1 eI) x.ed.bi,eB x.fd,eI x.ca.fu,F6 x.ca.ew,(eL 1 eI) x.ca.Map.az,(eL 1 eI) x.ca.Map.bi,(eL 1 eI) x.ca.c7.bk.az,(eL 3 CC) x.ca.c7.bk.bi,(eL 4 G8) x.ca.c7.d5,eI x.ca.c7.ei,(eL 5 H4) x.ca.c7.f0]
structure CG where
 t:AC
 s:Ak
 c8:List d4
def HO(x:CG):TV:=.agg [(eL 4 D9) x.t.az,(eL 7 E9) x.t.bi,(eL 1 eI) x.s.az,(eL 1 eI) x.s.bi,(eL 25 Bp) x.c8]
structure AH where
 bk:bk
 d6:List Fp
 deriving DecidableEq
def B4(x:AH):TV:=.agg [(eL 1 eI) x.bk.az,(eL 3 CC) x.bk.bi,(eL 1 (eL 1 eI)) x.d6]
structure AU where
 bn:bn
 ei:Fp
 deriving DecidableEq
def CH(x:AU):TV:=.agg [(eL 1 eI) x.bn.az,(eL 1 eI) x.bn.bi,(eL 1 eI) x.ei]
structure DC where
 d4:Int
 gN:AU
 deriving DecidableEq
def J2(x:DC):TV:=.agg [eI x.d4,(eL 1 eI) x.gN.bn.az,(eL 1 eI) x.gN.bn.bi,(eL 1 eI) x.gN.ei]
structure BU where
 jj:AH
 Aao:List DC
 Iso:bn
 deriving DecidableEq
def Lw(x:BU):TV:=.agg [(eL 1 eI) x.jj.bk.az,(eL 3 CC) x.jj.bk.bi,(eL 1 (eL 1 eI)) x.jj.d6,(eL 4 J2) x.Aao,(eL 1 eI) x.Iso.az,(eL 1 eI) x.Iso.bi]
structure Ai where
 kp:CG
 Aan:Fp
 Aap:Int
 Aac:BU
 e:Int
def W9(x:Ai):TV:=.agg [(eL 4 D9) x.kp.t.az,(eL 7 E9) x.kp.t.bi,(eL 1 eI) x.kp.s.az,(eL 1 eI) x.kp.s.bi,(eL 25 Bp) x.kp.c8,(eL 1 eI) x.Aan,eI x.Aap,(eL 1 eI) x.Aac.jj.bk.az,(eL 3 CC) x.Aac.jj.bk.bi,(eL 1 (eL 1 eI)) x.Aac.jj.d6,(eL 4 J2) x.Aac.Aao,(eL 1 eI) x.Aac.Iso.az,(eL 1 eI) x.Aac.Iso.bi,eI x.e]
def Ax(x:Ai):List AO:=[⟨T,(eL 4 D9) x.kp.t.az⟩,⟨T,(eL 7 E9) x.kp.t.bi⟩,⟨T,(eL 1 eI) x.kp.s.az⟩,⟨T,(eL 1 eI) x.kp.s.bi⟩,⟨T,(eL 25 Bp) x.kp.c8⟩,⟨T,(eL 1 eI) x.Aan⟩,⟨T,eI x.Aap⟩,⟨T,(eL 1 eI) x.Aac.jj.bk.az⟩,⟨T,(eL 3 CC) x.Aac.jj.bk.bi⟩,⟨T,(eL 1 (eL 1 eI)) x.Aac.jj.d6⟩,⟨T,(eL 4 J2) x.Aac.Aao⟩,⟨T,(eL 1 eI) x.Aac.Iso.az⟩,⟨T,(eL 1 eI) x.Aac.Iso.bi⟩,⟨T,eI x.e⟩]
structure BH where
 d4:d4
 gN:AU
 zt:AH
 l4:AH
 Aaq:bn
 up:bn
def RQ(x:BH):TV:=.agg [eS x.d4.gi,(eL 1 eI) x.d4.ea.bk.az,(eL 3 CC) x.d4.ea.bk.bi,(eL 4 G8) x.d4.ea.d5,eI x.d4.ea.ei,(eL 5 H4) x.d4.ea.f0,(eL 1 eI) x.d4.ci.bk.az,(eL 3 CC) x.d4.ci.bk.bi,(eL 4 G8) x.d4.ci.d5,eI x.d4.ci.ei,(eL 5 H4) x.d4.ci.f0,(eL 1 eI) x.d4.kx.az,(eL 1 eI) x.d4.kx.bi,(eL 1 eI) x.d4.ed.az,(eL 1 eI) x.d4.ed.bi,eB x.d4.fd,eI x.d4.ca.fu,F6 x.d4.ca.ew,(eL 1 eI) x.d4.ca.Map.az,(eL 1 eI) x.d4.ca.Map.bi,(eL 1 eI) x.d4.ca.c7.bk.az,(eL 3 CC) x.d4.ca.c7.bk.bi,(eL 4 G8) x.d4.ca.c7.d5,eI x.d4.ca.c7.ei,(eL 5 H4) x.d4.ca.c7.f0,(eL 1 eI) x.gN.bn.az,(eL 1 eI) x.gN.bn.bi,(eL 1 eI) x.gN.ei,(eL 1 eI) x.zt.bk.az,(eL 3 CC) x.zt.bk.bi,(eL 1 (eL 1 eI)) x.zt.d6,(eL 1 eI) x.l4.bk.az,(eL 3 CC) x.l4.bk.bi,(eL 1 (eL 1 eI)) x.l4.d6,(eL 1 eI) x.Aaq.az,(eL 1 eI) x.Aaq.bi,(eL 1 eI) x.up.az,(eL 1 eI) x.up.bi]
def D6(x:BH):List AO:=[⟨T,eS x.d4.gi⟩,⟨T,(eL 1 eI) x.d4.ea.bk.az⟩,⟨T,(eL 3 CC) x.d4.ea.bk.bi⟩,⟨T,(eL 4 G8) x.d4.ea.d5⟩,⟨T,eI x.d4.ea.ei⟩,⟨T,(eL 5 H4) x.d4.ea.f0⟩,⟨T,(eL 1 eI) x.d4.ci.bk.az⟩,⟨T,(eL 3 CC) x.d4.ci.bk.bi⟩,⟨T,(eL 4 G8) x.d4.ci.d5⟩,⟨T,eI x.d4.ci.ei⟩,⟨T,(eL 5 H4) x.d4.ci.f0⟩,⟨T,(eL 1 eI) x.d4.kx.az⟩,⟨T,(eL 1 eI) x.d4.kx.bi⟩,⟨T,(eL 1 eI) x.d4.ed.az⟩,⟨T,(eL 1 eI) x.d4.ed.bi⟩,⟨T,eB x.d4.fd⟩,⟨T,eI x.d4.ca.fu⟩,⟨T,F6 x.d4.ca.ew⟩,⟨T,(eL 1 eI) x.d4.ca.Map.az⟩,⟨T,(eL 1 eI) x.d4.ca.Map.bi⟩,⟨T,(eL 1 eI) x.d4.ca.c7.bk.az⟩,⟨T,(eL 3 CC) x.d4.ca.c7.bk.bi⟩,⟨T,(eL 4 G8) x.d4.ca.c7.d5⟩,⟨T,eI x.d4.ca.c7.ei⟩,⟨T,(eL 5 H4) x.d4.ca.c7.f0⟩,⟨T,(eL 1 eI) x.gN.bn.az⟩,⟨T,(eL 1 eI) x.gN.bn.bi⟩,⟨T,(eL 1 eI) x.gN.ei⟩,⟨T,(eL 1 eI) x.zt.bk.az⟩,⟨T,(eL 3 CC) x.zt.bk.bi⟩,⟨T,(eL 1 (eL 1 eI)) x.zt.d6⟩,⟨true,(eL 1 eI) x.l4.bk.az⟩,⟨true,(eL 3 CC) x.l4.bk.bi⟩,⟨true,.xn (List.map (eL 1 eI) x.l4.d6)⟩,⟨T,(eL 1 eI) x.Aaq.az⟩,⟨T,(eL 1 eI) x.Aaq.bi⟩,⟨T,(eL 1 eI) x.up.az⟩,⟨T,(eL 1 eI) x.up.bi⟩]
structure An where
 t:AC
 p:bk
 g:bk
 eg:bn
 ec:Bool
 mo:Int
 Aaj:List bn
 deriving DecidableEq
def US(x:An):TV:=.agg [(eL 4 D9) x.t.az,(eL 7 E9) x.t.bi,(eL 1 eI) x.p.az,(eL 3 CC) x.p.bi,(eL 1 eI) x.g.az,(eL 3 CC) x.g.bi,(eL 1 eI) x.eg.az,(eL 1 eI) x.eg.bi,eB x.ec,eI x.mo,(eL 2 A4) x.Aaj]
def B7(x:An):List AO:=[⟨T,(eL 4 D9) x.t.az⟩,⟨T,(eL 7 E9) x.t.bi⟩,⟨T,(eL 1 eI) x.p.az⟩,⟨T,(eL 3 CC) x.p.bi⟩,⟨T,(eL 1 eI) x.g.az⟩,⟨T,(eL 3 CC) x.g.bi⟩,⟨T,(eL 1 eI) x.eg.az⟩,⟨T,(eL 1 eI) x.eg.bi⟩,⟨T,eB x.ec⟩,⟨T,eI x.mo⟩,⟨true,(eL 2 A4) x.Aaj⟩]
structure PJ where
 az:Option Fp
 bi:Option Fp
 deriving DecidableEq
def sJ(x:PJ):TV:=.agg [(eO 1 eI) x.az,(eO 1 eI) x.bi]
def PJ.of(m:bn):PJ:=⟨some m.az,some m.bi⟩
instance:Coe bn PJ:=⟨PJ.of⟩
structure AL where
 p:bk
 g:bk
 is:List MV
 eg:PJ
 ec:Bool
 mo:Int
 cE:Fp
 c9:Fp
 out:List bn
 deriving DecidableEq
def S3(x:AL):TV:=.agg [(eL 1 eI) x.p.az,(eL 3 CC) x.p.bi,(eL 1 eI) x.g.az,(eL 3 CC) x.g.bi,(eL 1 (eL 1 eB)) x.is,(eO 1 eI) x.eg.az,(eO 1 eI) x.eg.bi,eB x.ec,eI x.mo,(eL 1 eI) x.cE,(eL 1 eI) x.c9,(eL 2 A4) x.out]
def DK(x:AL):List AO:=[⟨T,(eL 1 eI) x.p.az⟩,⟨T,(eL 3 CC) x.p.bi⟩,⟨T,(eL 1 eI) x.g.az⟩,⟨T,(eL 3 CC) x.g.bi⟩,⟨T,(eL 1 (eL 1 eB)) x.is⟩,⟨T,(eO 1 eI) x.eg.az⟩,⟨T,(eO 1 eI) x.eg.bi⟩,⟨T,eB x.ec⟩,⟨T,eI x.mo⟩,⟨true,.xl 1 (List.map eI x.cE)⟩,⟨true,.xl 1 (List.map eI x.c9)⟩,⟨true,(eL 2 A4) x.out⟩]
structure G6 where
 fu:Int
 AbL:ByteArray
 Line:Int
 deriving DecidableEq
def Yd(x:G6):TV:=.agg [eI x.fu,eS x.AbL,eI x.Line]
structure DE where
 l:bk
 g:bk
 ek:BN
 m:bn
 deriving DecidableEq
def JM(x:DE):TV:=.agg [(eL 1 eI) x.l.az,(eL 3 CC) x.l.bi,(eL 1 eI) x.g.az,(eL 3 CC) x.g.bi,(eL 1 eI) x.ek.az,(eL 1 eI) x.ek.bi,(eL 1 eI) x.m.az,(eL 1 eI) x.m.bi]
structure Jg where
 A:Int
 B:Int
 deriving DecidableEq
def Rx(x:Jg):TV:=.agg [eI x.A,eI x.B]
structure Bf where
 t:AC
 h:AH
 ec:Bool
 deriving DecidableEq
def Cv(x:Bf):TV:=.agg [(eL 4 D9) x.t.az,(eL 7 E9) x.t.bi,(eL 1 eI) x.h.bk.az,(eL 3 CC) x.h.bk.bi,(eL 1 (eL 1 eI)) x.h.d6,eB x.ec]
structure BD where
 Aal:Int
 gN:AU
 ew:List BD
mutual
def iE:BD->TV
 |⟨y0,y1,y2⟩=>.agg [eI y0,(eL 1 eI) y1.bn.az,(eL 1 eI) y1.bn.bi,(eL 1 eI) y1.ei,.list 5 (PT y2)]
def PT:List BD->Fq
 |[]=>[]|c::cs=>iE c::PT cs
end
def Iy(l:List BD):TV:=.list 5 (PT l)
def FJ(x:BD):TV:=.agg [eI x.Aal,(eL 1 eI) x.gN.bn.az,(eL 1 eI) x.gN.bn.bi,(eL 1 eI) x.gN.ei,Iy x.ew]
theorem j6(x:BD):iE x=FJ x:=by
 cases x;rfl
theorem Tc:∀l:List BD,PT l=l.map FJ
 |[]=>rfl|x::l=>by rw[PT,j6,Tc l];rfl
theorem gC(l:List BD):Iy l=.list 5 (l.map FJ):=by rw[Iy,Tc]
structure AI where
 d7:bk
 cE:MV
 c9:MV
 mN:List DC
 l6:bn
 deriving DecidableEq
def Cb(x:AI):TV:=.agg [(eL 1 eI) x.d7.az,(eL 3 CC) x.d7.bi,(eL 1 eB) x.cE,(eL 1 eB) x.c9,(eL 4 J2) x.mN,(eL 1 eI) x.l6.az,(eL 1 eI) x.l6.bi]
structure Cg where
 t5:bk
 cE:Fp
 c9:Fp
 deriving DecidableEq
def Uw(x:Cg):TV:=.agg [(eL 1 eI) x.t5.az,(eL 3 CC) x.t5.bi,(eL 1 eI) x.cE,(eL 1 eI) x.c9]
structure Q6 where
 a0:Int
 a1:Int
 deriving DecidableEq
def PS(x:Q6):TV:=.agg [M8 x.a0,M8 x.a1]
structure Ix where
 a0:Int
 a1:Int
 a2:Int
 deriving DecidableEq
def Nz(x:Ix):TV:=.agg [M8 x.a0,M8 x.a1,M8 x.a2]
structure II where
 az:List Q6
 bi:List Ix
 deriving DecidableEq
def RR(x:II):TV:=.agg [(eL 2 PS) x.az,(eL 3 Nz) x.bi]
structure F9 where
 ea:II
 az:Fp
 bi:List Ix
 deriving DecidableEq
def Ib(x:F9):TV:=.agg [(eL 2 PS) x.ea.az,(eL 3 Nz) x.ea.bi,(eL 1 M8) x.az,(eL 3 Nz) x.bi]
structure Ce where
 θ:AC
 S:Ak
 kl:List d4
def S1(x:Ce):TV:=.agg [(eL 4 D9) x.θ.az,(eL 7 E9) x.θ.bi,(eL 1 eI) x.S.az,(eL 1 eI) x.S.bi,(eL 25 Bp) x.kl]
structure F7 where
 kl:List F9
 Aat:Fp
 deriving DecidableEq
def D1(x:F7):TV:=.agg [(eL 4 Ib) x.kl,(eL 1 M8) x.Aat]
abbrev lI:Fp->TV:=eL 1 eI
abbrev lE:List B1->TV:=eL 3 CC
abbrev lS:List DW->TV:=eL 4 G8
abbrev lT:List Test->TV:=eL 5 H4
abbrev lN:List B2->TV:=eL 4 D9
abbrev lX:List Cy->TV:=eL 7 E9
abbrev lA:List ff->TV:=eL 4 JL
abbrev lB:List ByteArray->TV:=eL 1 eS
theorem pB(a b:B1):CO (TV.cells (CC a)) (TV.cells (CC b))=some (decide (a=b)):=by
 rcases a with⟨a0,a1,a2⟩;rcases b with⟨b0,b1,b2⟩;simp[CC,TV.cells,CO,eI,Bool.and_assoc,B1.mk.injEq]
end Go.Sf.Sc
