/- The types of the program as Lean types. -/
import Derived.Test.YtiaddfklojalbaaGreatSfK
import Derived.Test.YtiaddfklojalbaaGreatSfStep
import Derived.Test.YtiaddfklojalbaaGreatProg
set_option linter.all false
set_option maxRecDepth 100000
open Bool renaming true->X,false->T
namespace Go.Sf.Sc
open Go Go.Sf Go.Proofs.Tryz
def eI(n:Int):TV:=.int .i64 n
def QF(n:Int):TV:=.int .u8 n
def Kl(n:Int):TV:=.int .u64 n
def AAa(n:Int):TV:=.int .i32 n
def AAc(n:Int):TV:=.int .u32 n
def eI8(n:Int):TV:=.int .i8 n
def AAZ(n:Int):TV:=.int .i16 n
def AAb(n:Int):TV:=.int .u16 n
def eB(b:Bool):TV:=.bool b
def eS(s:ByteArray):TV:=.str s
def eL{α:Type}(n:Nat)(e:α->TV)(l:List α):TV:=.list n (l.map e)
theorem Tryz_follows:Go.Proofs.Tryz.prog.follows .mixedOrders=X:=b!
structure gi where
 gp:ByteArray
 Low:Int
 Aag:Int
 mo:List ByteArray
 deriving DecidableEq
def F4(x:gi):TV:=.agg [eS x.gp,eI x.Low,eI x.Aag,(eL 1 eS) x.mo]
structure B6 where
 gp:ByteArray
 k7:Int
 tn:Bool
 kl:List gi
 deriving DecidableEq
def CZ(x:B6):TV:=.agg [eS x.gp,eI x.k7,eB x.tn,(eL 4 F4) x.kl]
structure Cy where
 gp:ByteArray
 fu:Int
 To:Int
 Aa0:Int
 AaF:Int
 Abq:Int
 AaZ:Int
 deriving DecidableEq
def Cu(x:Cy):TV:=.agg [eS x.gp,eI x.fu,eI x.To,eI x.Aa0,eI x.AaF,eI x.Abq,eI x.AaZ]
structure AC where
 bq:List B6
 ca:List Cy
 deriving DecidableEq
def AS(x:AC):TV:=.agg [(eL 4 CZ) x.bq,(eL 7 Cu) x.ca]
structure Ap where
 bq:Fp
 ca:Fp
 deriving DecidableEq
def DE(x:Ap):TV:=.agg [(eL 1 eI) x.bq,(eL 1 eI) x.ca]
structure B3 where
 fd:Int
 fu:Int
 To:Int
 deriving DecidableEq
def Bx(x:B3):TV:=.agg [eI x.fd,eI x.fu,eI x.To]
structure ci where
 bq:Fp
 ca:List B3
 deriving DecidableEq
def BD(x:ci):TV:=.agg [(eL 1 eI) x.bq,(eL 3 Bx) x.ca]
structure f0 where
 Var:Int
 Add:Int
 deriving DecidableEq
def Qu(x:f0):TV:=.agg [eI x.Var,eI x.Add]
structure Dj where
 nd:Int
 gi:Int
 f0:f0
 deriving DecidableEq
def FI(x:Dj):TV:=.agg [eI x.nd,eI x.gi,eI x.f0.Var,eI x.f0.Add]
structure Test where
 gN:Int
 ec:f0
 d4:f0
 deriving DecidableEq
def GT(x:Test):TV:=.agg [eI x.gN,eI x.ec.Var,eI x.ec.Add,eI x.d4.Var,eI x.d4.Add]
structure d5 where
 ci:ci
 em:List Dj
 eT:Int
 j4:List Test
 deriving DecidableEq
def CG(x:d5):TV:=.agg [(eL 1 eI) x.ci.bq,(eL 3 Bx) x.ci.ca,(eL 4 FI) x.em,eI x.eT,(eL 5 GT) x.j4]
structure B7 where
 bq:Fp
 ca:Fp
 deriving DecidableEq
def If(x:B7):TV:=.agg [(eL 1 eI) x.bq,(eL 1 eI) x.ca]
structure cE where
 bq:Fp
 ca:Fp
 deriving DecidableEq
def BR(x:cE):TV:=.agg [(eL 1 eI) x.bq,(eL 1 eI) x.ca]
structure c8 where
 gN:Int
 ff:List c8
 Map:cE
 d5:d5
mutual
def WL:c8->TV
 |⟨y0,y1,y2,y3⟩=>.agg [eI y0,.list 9 (JU y1),(eL 1 eI) y2.bq,(eL 1 eI) y2.ca,(eL 1 eI) y3.ci.bq,(eL 3 Bx) y3.ci.ca,(eL 4 FI) y3.em,eI y3.eT,(eL 5 GT) y3.j4]
def JU:List c8->Fq
 |[]=>[]|c::cs=>WL c::JU cs
end
def DM(l:List c8):TV:=.list 9 (JU l)
def AR(x:c8):TV:=.agg [eI x.gN,DM x.ff,(eL 1 eI) x.Map.bq,(eL 1 eI) x.Map.ca,(eL 1 eI) x.d5.ci.bq,(eL 3 Bx) x.d5.ci.ca,(eL 4 FI) x.d5.em,eI x.d5.eT,(eL 5 GT) x.d5.j4]
theorem Yk(x:c8):WL x=AR x:=by
 cases x;rfl
theorem OL:∀l:List c8,JU l=l.map AR
 |[]=>rfl|x::l=>by rw[JU,Yk,OL l];rfl
theorem Ie(l:List c8):DM l=.list 9 (l.map AR):=by rw[DM,OL]
structure ei where
 gp:ByteArray
 ec:d5
 d4:d5
 ne:B7
 ed:cE
 jj:Bool
 c8:c8
def Bb(x:ei):TV:=.agg [eS x.gp,(eL 1 eI) x.ec.ci.bq,(eL 3 Bx) x.ec.ci.ca,(eL 4 FI) x.ec.em,eI x.ec.eT,(eL 5 GT) x.ec.j4,(eL 1 eI) x.d4.ci.bq,(eL 3 Bx) x.d4.ci.ca,(eL 4 FI) x.d4.em,eI x.d4.eT,(eL 5 GT) x.d4.j4,(eL 1 eI) x.ne.bq,(eL 1 eI) x.ne.ca,(eL 1 eI) x.ed.bq,(eL 1 eI) x.ed.ca,eB x.jj,eI x.c8.gN,DM x.c8.ff,(eL 1 eI) x.c8.Map.bq,(eL 1 eI) x.c8.Map.ca,(eL 1 eI) x.c8.d5.ci.bq,(eL 3 Bx) x.c8.d5.ci.ca,(eL 4 FI) x.c8.d5.em,eI x.c8.d5.eT,(eL 5 GT) x.c8.d5.j4]
structure CE where
 t:AC
 s:Ap
 d3:List ei
def Gw(x:CE):TV:=.agg [(eL 4 CZ) x.t.bq,(eL 7 Cu) x.t.ca,(eL 1 eI) x.s.bq,(eL 1 eI) x.s.ca,(eL 25 Bb) x.d3]
structure AJ where
 ci:ci
 eo:List Fp
 deriving DecidableEq
def CM(x:AJ):TV:=.agg [(eL 1 eI) x.ci.bq,(eL 3 Bx) x.ci.ca,(eL 1 (eL 1 eI)) x.eo]
structure Ar where
 cE:cE
 eT:Fp
 deriving DecidableEq
def Dv(x:Ar):TV:=.agg [(eL 1 eI) x.cE.bq,(eL 1 eI) x.cE.ca,(eL 1 eI) x.eT]
structure NI where
 ei:Int
 ns:Ar
 deriving DecidableEq
def JC(x:NI):TV:=.agg [eI x.ei,(eL 1 eI) x.ns.cE.bq,(eL 1 eI) x.ns.cE.ca,(eL 1 eI) x.ns.eT]
structure Al where
 hV:AJ
 Aan:List NI
 Iso:cE
 deriving DecidableEq
def EL(x:Al):TV:=.agg [(eL 1 eI) x.hV.ci.bq,(eL 3 Bx) x.hV.ci.ca,(eL 1 (eL 1 eI)) x.hV.eo,(eL 4 JC) x.Aan,(eL 1 eI) x.Iso.bq,(eL 1 eI) x.Iso.ca]
structure AZ where
 l3:CE
 Aao:Fp
 r0:Int
 Aad:Al
 e:Int
def WE(x:AZ):TV:=.agg [(eL 4 CZ) x.l3.t.bq,(eL 7 Cu) x.l3.t.ca,(eL 1 eI) x.l3.s.bq,(eL 1 eI) x.l3.s.ca,(eL 25 Bb) x.l3.d3,(eL 1 eI) x.Aao,eI x.r0,(eL 1 eI) x.Aad.hV.ci.bq,(eL 3 Bx) x.Aad.hV.ci.ca,(eL 1 (eL 1 eI)) x.Aad.hV.eo,(eL 4 JC) x.Aad.Aan,(eL 1 eI) x.Aad.Iso.bq,(eL 1 eI) x.Aad.Iso.ca,eI x.e]
def A3(x:AZ):List AQ:=[⟨T,(eL 4 CZ) x.l3.t.bq⟩,⟨T,(eL 7 Cu) x.l3.t.ca⟩,⟨T,(eL 1 eI) x.l3.s.bq⟩,⟨T,(eL 1 eI) x.l3.s.ca⟩,⟨T,(eL 25 Bb) x.l3.d3⟩,⟨T,(eL 1 eI) x.Aao⟩,⟨T,eI x.r0⟩,⟨T,(eL 1 eI) x.Aad.hV.ci.bq⟩,⟨T,(eL 3 Bx) x.Aad.hV.ci.ca⟩,⟨T,(eL 1 (eL 1 eI)) x.Aad.hV.eo⟩,⟨T,(eL 4 JC) x.Aad.Aan⟩,⟨T,(eL 1 eI) x.Aad.Iso.bq⟩,⟨T,(eL 1 eI) x.Aad.Iso.ca⟩,⟨T,eI x.e⟩]
structure CS where
 d7:ci
 c9:Fp
 d6:Fp
 deriving DecidableEq
def Lc(x:CS):TV:=.agg [(eL 1 eI) x.d7.bq,(eL 3 Bx) x.d7.ca,(eL 1 eI) x.c9,(eL 1 eI) x.d6]
structure BP where
 t:AC
 d3:List ei
 v5:List CS
 r0:Int
def tC(x:BP):TV:=.agg [(eL 4 CZ) x.t.bq,(eL 7 Cu) x.t.ca,(eL 25 Bb) x.d3,(eL 4 Lc) x.v5,eI x.r0]
def Da(x:BP):List AQ:=[⟨T,(eL 4 CZ) x.t.bq⟩,⟨T,(eL 7 Cu) x.t.ca⟩,⟨T,(eL 25 Bb) x.d3⟩,⟨X,(eL 4 Lc) x.v5⟩,⟨T,eI x.r0⟩]
structure Bn where
 ei:ei
 ns:Ar
 y4:AJ
 og:AJ
 Aaq:cE
 wm:cE
def kY(x:Bn):TV:=.agg [eS x.ei.gp,(eL 1 eI) x.ei.ec.ci.bq,(eL 3 Bx) x.ei.ec.ci.ca,(eL 4 FI) x.ei.ec.em,eI x.ei.ec.eT,(eL 5 GT) x.ei.ec.j4,(eL 1 eI) x.ei.d4.ci.bq,(eL 3 Bx) x.ei.d4.ci.ca,(eL 4 FI) x.ei.d4.em,eI x.ei.d4.eT,(eL 5 GT) x.ei.d4.j4,(eL 1 eI) x.ei.ne.bq,(eL 1 eI) x.ei.ne.ca,(eL 1 eI) x.ei.ed.bq,(eL 1 eI) x.ei.ed.ca,eB x.ei.jj,eI x.ei.c8.gN,DM x.ei.c8.ff,(eL 1 eI) x.ei.c8.Map.bq,(eL 1 eI) x.ei.c8.Map.ca,(eL 1 eI) x.ei.c8.d5.ci.bq,(eL 3 Bx) x.ei.c8.d5.ci.ca,(eL 4 FI) x.ei.c8.d5.em,eI x.ei.c8.d5.eT,(eL 5 GT) x.ei.c8.d5.j4,(eL 1 eI) x.ns.cE.bq,(eL 1 eI) x.ns.cE.ca,(eL 1 eI) x.ns.eT,(eL 1 eI) x.y4.ci.bq,(eL 3 Bx) x.y4.ci.ca,(eL 1 (eL 1 eI)) x.y4.eo,(eL 1 eI) x.og.ci.bq,(eL 3 Bx) x.og.ci.ca,(eL 1 (eL 1 eI)) x.og.eo,(eL 1 eI) x.Aaq.bq,(eL 1 eI) x.Aaq.ca,(eL 1 eI) x.wm.bq,(eL 1 eI) x.wm.ca]
def Du(x:Bn):List AQ:=[⟨T,eS x.ei.gp⟩,⟨T,(eL 1 eI) x.ei.ec.ci.bq⟩,⟨T,(eL 3 Bx) x.ei.ec.ci.ca⟩,⟨T,(eL 4 FI) x.ei.ec.em⟩,⟨T,eI x.ei.ec.eT⟩,⟨T,(eL 5 GT) x.ei.ec.j4⟩,⟨T,(eL 1 eI) x.ei.d4.ci.bq⟩,⟨T,(eL 3 Bx) x.ei.d4.ci.ca⟩,⟨T,(eL 4 FI) x.ei.d4.em⟩,⟨T,eI x.ei.d4.eT⟩,⟨T,(eL 5 GT) x.ei.d4.j4⟩,⟨T,(eL 1 eI) x.ei.ne.bq⟩,⟨T,(eL 1 eI) x.ei.ne.ca⟩,⟨T,(eL 1 eI) x.ei.ed.bq⟩,⟨T,(eL 1 eI) x.ei.ed.ca⟩,⟨T,eB x.ei.jj⟩,⟨T,eI x.ei.c8.gN⟩,⟨T,DM x.ei.c8.ff⟩,⟨T,(eL 1 eI) x.ei.c8.Map.bq⟩,⟨T,(eL 1 eI) x.ei.c8.Map.ca⟩,⟨T,(eL 1 eI) x.ei.c8.d5.ci.bq⟩,⟨T,(eL 3 Bx) x.ei.c8.d5.ci.ca⟩,⟨T,(eL 4 FI) x.ei.c8.d5.em⟩,⟨T,eI x.ei.c8.d5.eT⟩,⟨T,(eL 5 GT) x.ei.c8.d5.j4⟩,⟨T,(eL 1 eI) x.ns.cE.bq⟩,⟨T,(eL 1 eI) x.ns.cE.ca⟩,⟨T,(eL 1 eI) x.ns.eT⟩,⟨T,(eL 1 eI) x.y4.ci.bq⟩,⟨T,(eL 3 Bx) x.y4.ci.ca⟩,⟨T,(eL 1 (eL 1 eI)) x.y4.eo⟩,⟨X,(eL 1 eI) x.og.ci.bq⟩,⟨X,(eL 3 Bx) x.og.ci.ca⟩,⟨X,.xn (List.map (eL 1 eI) x.og.eo)⟩,⟨T,(eL 1 eI) x.Aaq.bq⟩,⟨T,(eL 1 eI) x.Aaq.ca⟩,⟨T,(eL 1 eI) x.wm.bq⟩,⟨T,(eL 1 eI) x.wm.ca⟩]
structure Aq where
 t:AC
 p:ci
 g:ci
 ek:cE
 ej:Bool
 o3:Int
 Aak:List cE
 deriving DecidableEq
def Ue(x:Aq):TV:=.agg [(eL 4 CZ) x.t.bq,(eL 7 Cu) x.t.ca,(eL 1 eI) x.p.bq,(eL 3 Bx) x.p.ca,(eL 1 eI) x.g.bq,(eL 3 Bx) x.g.ca,(eL 1 eI) x.ek.bq,(eL 1 eI) x.ek.ca,eB x.ej,eI x.o3,(eL 2 BR) x.Aak]
def CA(x:Aq):List AQ:=[⟨T,(eL 4 CZ) x.t.bq⟩,⟨T,(eL 7 Cu) x.t.ca⟩,⟨T,(eL 1 eI) x.p.bq⟩,⟨T,(eL 3 Bx) x.p.ca⟩,⟨T,(eL 1 eI) x.g.bq⟩,⟨T,(eL 3 Bx) x.g.ca⟩,⟨T,(eL 1 eI) x.ek.bq⟩,⟨T,(eL 1 eI) x.ek.ca⟩,⟨T,eB x.ej⟩,⟨T,eI x.o3⟩,⟨X,(eL 2 BR) x.Aak⟩]
structure OE where
 bq:Option Fp
 ca:Option Fp
 deriving DecidableEq
def qM(x:OE):TV:=.agg [(eO 1 eI) x.bq,(eO 1 eI) x.ca]
def OE.of(m:cE):OE:=⟨some m.bq,some m.ca⟩
instance:Coe cE OE:=⟨OE.of⟩
structure AL where
 p:ci
 g:ci
 is:List QQ
 ek:OE
 ej:Bool
 o3:Int
 c9:Fp
 d6:Fp
 out:List cE
 deriving DecidableEq
def SJ(x:AL):TV:=.agg [(eL 1 eI) x.p.bq,(eL 3 Bx) x.p.ca,(eL 1 eI) x.g.bq,(eL 3 Bx) x.g.ca,(eL 1 (eL 1 eB)) x.is,(eO 1 eI) x.ek.bq,(eO 1 eI) x.ek.ca,eB x.ej,eI x.o3,(eL 1 eI) x.c9,(eL 1 eI) x.d6,(eL 2 BR) x.out]
def DH(x:AL):List AQ:=[⟨T,(eL 1 eI) x.p.bq⟩,⟨T,(eL 3 Bx) x.p.ca⟩,⟨T,(eL 1 eI) x.g.bq⟩,⟨T,(eL 3 Bx) x.g.ca⟩,⟨T,(eL 1 (eL 1 eB)) x.is⟩,⟨T,(eO 1 eI) x.ek.bq⟩,⟨T,(eO 1 eI) x.ek.ca⟩,⟨T,eB x.ej⟩,⟨T,eI x.o3⟩,⟨X,.xl 1 (List.map eI x.c9)⟩,⟨X,.xl 1 (List.map eI x.d6)⟩,⟨X,(eL 2 BR) x.out⟩]
structure Gn where
 gN:Int
 AbJ:ByteArray
 Line:Int
 deriving DecidableEq
def Xe(x:Gn):TV:=.agg [eI x.gN,eS x.AbJ,eI x.Line]
structure DC where
 l:ci
 g:ci
 eE:B7
 m:cE
 deriving DecidableEq
def Ig(x:DC):TV:=.agg [(eL 1 eI) x.l.bq,(eL 3 Bx) x.l.ca,(eL 1 eI) x.g.bq,(eL 3 Bx) x.g.ca,(eL 1 eI) x.eE.bq,(eL 1 eI) x.eE.ca,(eL 1 eI) x.m.bq,(eL 1 eI) x.m.ca]
structure L5 where
 A:Int
 B:Int
 deriving DecidableEq
def Xd(x:L5):TV:=.agg [eI x.A,eI x.B]
structure Be where
 t:AC
 h:AJ
 ej:Bool
 deriving DecidableEq
def Cs(x:Be):TV:=.agg [(eL 4 CZ) x.t.bq,(eL 7 Cu) x.t.ca,(eL 1 eI) x.h.ci.bq,(eL 3 Bx) x.h.ci.ca,(eL 1 (eL 1 eI)) x.h.eo,eB x.ej]
structure CL where
 AaL:Int
 ns:Ar
 ff:List CL
mutual
def fh:CL->TV
 |⟨y0,y1,y2⟩=>.agg [eI y0,(eL 1 eI) y1.cE.bq,(eL 1 eI) y1.cE.ca,(eL 1 eI) y1.eT,.list 5 (OM y2)]
def OM:List CL->Fq
 |[]=>[]|c::cs=>fh c::OM cs
end
def M1(l:List CL):TV:=.list 5 (OM l)
def Gv(x:CL):TV:=.agg [eI x.AaL,(eL 1 eI) x.ns.cE.bq,(eL 1 eI) x.ns.cE.ca,(eL 1 eI) x.ns.eT,M1 x.ff]
theorem ia(x:CL):fh x=Gv x:=by
 cases x;rfl
theorem TQ:∀l:List CL,OM l=l.map Gv
 |[]=>rfl|x::l=>by rw[OM,ia,TQ l];rfl
theorem eb(l:List CL):M1 l=.list 5 (l.map Gv):=by rw[M1,TQ]
structure AH where
 d7:ci
 c9:QQ
 d6:QQ
 kg:List NI
 l4:cE
 deriving DecidableEq
def Cc(x:AH):TV:=.agg [(eL 1 eI) x.d7.bq,(eL 3 Bx) x.d7.ca,(eL 1 eB) x.c9,(eL 1 eB) x.d6,(eL 4 JC) x.kg,(eL 1 eI) x.l4.bq,(eL 1 eI) x.l4.ca]
structure Cg where
 x3:ci
 c9:Fp
 d6:Fp
 deriving DecidableEq
def Us(x:Cg):TV:=.agg [(eL 1 eI) x.x3.bq,(eL 3 Bx) x.x3.ca,(eL 1 eI) x.c9,(eL 1 eI) x.d6]
structure SB where
 a0:Int
 a1:Int
 deriving DecidableEq
def bc(x:SB):TV:=.agg [QF x.a0,QF x.a1]
structure JL where
 a0:Int
 a1:Int
 a2:Int
 deriving DecidableEq
def Wp(x:JL):TV:=.agg [QF x.a0,QF x.a1,QF x.a2]
structure Ke where
 bq:List SB
 ca:List JL
 deriving DecidableEq
def bf(x:Ke):TV:=.agg [(eL 2 bc) x.bq,(eL 3 Wp) x.ca]
structure Oo where
 ec:Ke
 bq:Fp
 ca:List JL
 deriving DecidableEq
def bg(x:Oo):TV:=.agg [(eL 2 bc) x.ec.bq,(eL 3 Wp) x.ec.ca,(eL 1 QF) x.bq,(eL 3 Wp) x.ca]
structure Ay where
 d7:ci
 c9:Fp
 d6:Fp
 AaM:Int
 x9:Int
 kg:List NI
 deriving DecidableEq
def EN(x:Ay):TV:=.agg [(eL 1 eI) x.d7.bq,(eL 3 Bx) x.d7.ca,(eL 1 eI) x.c9,(eL 1 eI) x.d6,eI x.AaM,eI x.x9,(eL 4 JC) x.kg]
structure Ds where
 θ:AC
 S:Ap
 tc:List ei
def CQ(x:Ds):TV:=.agg [(eL 4 CZ) x.θ.bq,(eL 7 Cu) x.θ.ca,(eL 1 eI) x.S.bq,(eL 1 eI) x.S.ca,(eL 25 Bb) x.tc]
abbrev lI:Fp->TV:=eL 1 eI
abbrev lE:List B3->TV:=eL 3 Bx
abbrev lS:List Dj->TV:=eL 4 FI
abbrev lT:List Test->TV:=eL 5 GT
abbrev lN:List B6->TV:=eL 4 CZ
abbrev lX:List Cy->TV:=eL 7 Cu
abbrev lA:List gi->TV:=eL 4 F4
abbrev lB:List ByteArray->TV:=eL 1 eS
theorem nV(a b:B3):CR (TV.cells (Bx a)) (TV.cells (Bx b))=some (decide (a=b)):=by
 rcases a with⟨a0,a1,a2⟩;rcases b with⟨b0,b1,b2⟩;simp[Bx,TV.cells,CR,eI,Bool.and_assoc,B3.mk.injEq]
end Go.Sf.Sc
