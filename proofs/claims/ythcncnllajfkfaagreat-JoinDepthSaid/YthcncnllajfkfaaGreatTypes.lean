/- The types of the program as Lean types. -/
import Derived.Test.YthcncnllajfkfaaGreatSfK
import Derived.Test.YthcncnllajfkfaaGreatSfStep
import Derived.Test.YthcncnllajfkfaaGreatProg
set_option linter.all false
set_option maxRecDepth 100000
open Bool renaming true->X,false->T
namespace Go.Sf.Sc
open Go Go.Sf Go.Proofs.Tryz
def eI(n:Int):TV:=.int .i64 n
def Eb(n:Int):TV:=.int .u8 n
def IU(n:Int):TV:=.int .u64 n
def ACl(n:Int):TV:=.int .i32 n
def ACn(n:Int):TV:=.int .u32 n
def mW(n:Int):TV:=.int .i8 n
def ACk(n:Int):TV:=.int .i16 n
def ACm(n:Int):TV:=.int .u16 n
def eB(b:Bool):TV:=.bool b
def eS(s:ByteArray):TV:=.str s
def eL{α:Type}(n:Nat)(e:α->TV)(l:List α):TV:=.list n (l.map e)
theorem Tryz_follows:Go.Proofs.Tryz.prog.follows .mixedOrders=X:=c!
structure Bk where
 kg:Int
 ke:Int
 To:Int
 deriving DecidableEq
def Bt(x:Bk):TV:=.agg [eI x.kg,eI x.ke,eI x.To]
structure d5 where
 d3:Fp
 d4:List Bk
 deriving DecidableEq
def Aq(x:d5):TV:=.agg [(eL 1 eI) x.d3,(eL 3 Bt) x.d4]
structure AG where
 d5:d5
 ej:List Fp
 deriving DecidableEq
def BT(x:AG):TV:=.agg [(eL 1 eI) x.d5.d3,(eL 3 Bt) x.d5.d4,(eL 1 (eL 1 eI)) x.ej]
structure d6 where
 d3:Fp
 d4:Fp
 deriving DecidableEq
def Au(x:d6):TV:=.agg [(eL 1 eI) x.d3,(eL 1 eI) x.d4]
structure BQ where
 a:AG
 b:AG
 ec:Fp
 eh:Fp
 m:d6
 deriving DecidableEq
def kI(x:BQ):TV:=.agg [(eL 1 eI) x.a.d5.d3,(eL 3 Bt) x.a.d5.d4,(eL 1 (eL 1 eI)) x.a.ej,(eL 1 eI) x.b.d5.d3,(eL 3 Bt) x.b.d5.d4,(eL 1 (eL 1 eI)) x.b.ej,(eL 1 eI) x.ec,(eL 1 eI) x.eh,(eL 1 eI) x.m.d3,(eL 1 eI) x.m.d4]
def Ce(x:BQ):List AR:=[⟨T,(eL 1 eI) x.a.d5.d3⟩,⟨T,(eL 3 Bt) x.a.d5.d4⟩,⟨T,(eL 1 (eL 1 eI)) x.a.ej⟩,⟨T,(eL 1 eI) x.b.d5.d3⟩,⟨T,(eL 3 Bt) x.b.d5.d4⟩,⟨T,(eL 1 (eL 1 eI)) x.b.ej⟩,⟨T,(eL 1 eI) x.ec⟩,⟨T,(eL 1 eI) x.eh⟩,⟨X,.xl 1 (List.map eI x.m.d3)⟩,⟨X,.xl 1 (List.map eI x.m.d4)⟩]
structure gt where
 Var:Int
 Add:Int
 deriving DecidableEq
def Se(x:gt):TV:=.agg [eI x.Var,eI x.Add]
structure By where
 po:Int
 kp:Int
 gt:gt
 deriving DecidableEq
def E8(x:By):TV:=.agg [eI x.po,eI x.kp,eI x.gt.Var,eI x.gt.Add]
structure Test where
 kq:Int
 gp:gt
 ei:gt
 deriving DecidableEq
def Ff(x:Test):TV:=.agg [eI x.kq,eI x.gp.Var,eI x.gp.Add,eI x.ei.Var,eI x.ei.Add]
structure ea where
 d5:d5
 ek:List By
 fd:Int
 kl:List Test
 deriving DecidableEq
def BD(x:ea):TV:=.agg [(eL 1 eI) x.d5.d3,(eL 3 Bt) x.d5.d4,(eL 4 E8) x.ek,eI x.fd,(eL 5 Ff) x.kl]
structure BE where
 d3:Fp
 d4:Fp
 deriving DecidableEq
def HL(x:BE):TV:=.agg [(eL 1 eI) x.d3,(eL 1 eI) x.d4]
structure d7 where
 kq:Int
 fu:List d7
 Map:d6
 ea:ea
mutual
def Wc:d7->TV
 |⟨y0,y1,y2,y3⟩=>.agg [eI y0,.list 9 (KI y1),(eL 1 eI) y2.d3,(eL 1 eI) y2.d4,(eL 1 eI) y3.d5.d3,(eL 3 Bt) y3.d5.d4,(eL 4 E8) y3.ek,eI y3.fd,(eL 5 Ff) y3.kl]
def KI:List d7->Fq
 |[]=>[]|c::cs=>Wc c::KI cs
end
def EQ(l:List d7):TV:=.list 9 (KI l)
def AI(x:d7):TV:=.agg [eI x.kq,EQ x.fu,(eL 1 eI) x.Map.d3,(eL 1 eI) x.Map.d4,(eL 1 eI) x.ea.d5.d3,(eL 3 Bt) x.ea.d5.d4,(eL 4 E8) x.ea.ek,eI x.ea.fd,(eL 5 Ff) x.ea.kl]
theorem Y9(x:d7):Wc x=AI x:=by
 cases x;rfl
theorem M6:∀l:List d7,KI l=l.map AI
 |[]=>rfl|x::l=>by rw[KI,Y9,M6 l];rfl
theorem Sb(l:List d7):EQ l=.list 9 (l.map AI):=by rw[EQ,M6]
structure ff where
 ln:ByteArray
 gp:ea
 ei:ea
 pr:BE
 pf:d6
 kh:Bool
 d7:d7
def Bz(x:ff):TV:=.agg [eS x.ln,(eL 1 eI) x.gp.d5.d3,(eL 3 Bt) x.gp.d5.d4,(eL 4 E8) x.gp.ek,eI x.gp.fd,(eL 5 Ff) x.gp.kl,(eL 1 eI) x.ei.d5.d3,(eL 3 Bt) x.ei.d5.d4,(eL 4 E8) x.ei.ek,eI x.ei.fd,(eL 5 Ff) x.ei.kl,(eL 1 eI) x.pr.d3,(eL 1 eI) x.pr.d4,(eL 1 eI) x.pf.d3,(eL 1 eI) x.pf.d4,eB x.kh,eI x.d7.kq,EQ x.d7.fu,(eL 1 eI) x.d7.Map.d3,(eL 1 eI) x.d7.Map.d4,(eL 1 eI) x.d7.ea.d5.d3,(eL 3 Bt) x.d7.ea.d5.d4,(eL 4 E8) x.d7.ea.ek,eI x.d7.ea.fd,(eL 5 Ff) x.d7.ea.kl]
structure AP where
 d6:d6
 fd:Fp
 deriving DecidableEq
def Ba(x:AP):TV:=.agg [(eL 1 eI) x.d6.d3,(eL 1 eI) x.d6.d4,(eL 1 eI) x.fd]
structure AU where
 ff:ff
 og:AP
 j4:AG
 hV:AG
 p0:d6
 wl:d6
def DJ(x:AU):TV:=.agg [eS x.ff.ln,(eL 1 eI) x.ff.gp.d5.d3,(eL 3 Bt) x.ff.gp.d5.d4,(eL 4 E8) x.ff.gp.ek,eI x.ff.gp.fd,(eL 5 Ff) x.ff.gp.kl,(eL 1 eI) x.ff.ei.d5.d3,(eL 3 Bt) x.ff.ei.d5.d4,(eL 4 E8) x.ff.ei.ek,eI x.ff.ei.fd,(eL 5 Ff) x.ff.ei.kl,(eL 1 eI) x.ff.pr.d3,(eL 1 eI) x.ff.pr.d4,(eL 1 eI) x.ff.pf.d3,(eL 1 eI) x.ff.pf.d4,eB x.ff.kh,eI x.ff.d7.kq,EQ x.ff.d7.fu,(eL 1 eI) x.ff.d7.Map.d3,(eL 1 eI) x.ff.d7.Map.d4,(eL 1 eI) x.ff.d7.ea.d5.d3,(eL 3 Bt) x.ff.d7.ea.d5.d4,(eL 4 E8) x.ff.d7.ea.ek,eI x.ff.d7.ea.fd,(eL 5 Ff) x.ff.d7.ea.kl,(eL 1 eI) x.og.d6.d3,(eL 1 eI) x.og.d6.d4,(eL 1 eI) x.og.fd,(eL 1 eI) x.j4.d5.d3,(eL 3 Bt) x.j4.d5.d4,(eL 1 (eL 1 eI)) x.j4.ej,(eL 1 eI) x.hV.d5.d3,(eL 3 Bt) x.hV.d5.d4,(eL 1 (eL 1 eI)) x.hV.ej,(eL 1 eI) x.p0.d3,(eL 1 eI) x.p0.d4,(eL 1 eI) x.wl.d3,(eL 1 eI) x.wl.d4]
def Dt(x:AU):List AR:=[⟨T,eS x.ff.ln⟩,⟨T,(eL 1 eI) x.ff.gp.d5.d3⟩,⟨T,(eL 3 Bt) x.ff.gp.d5.d4⟩,⟨T,(eL 4 E8) x.ff.gp.ek⟩,⟨T,eI x.ff.gp.fd⟩,⟨T,(eL 5 Ff) x.ff.gp.kl⟩,⟨T,(eL 1 eI) x.ff.ei.d5.d3⟩,⟨T,(eL 3 Bt) x.ff.ei.d5.d4⟩,⟨T,(eL 4 E8) x.ff.ei.ek⟩,⟨T,eI x.ff.ei.fd⟩,⟨T,(eL 5 Ff) x.ff.ei.kl⟩,⟨T,(eL 1 eI) x.ff.pr.d3⟩,⟨T,(eL 1 eI) x.ff.pr.d4⟩,⟨T,(eL 1 eI) x.ff.pf.d3⟩,⟨T,(eL 1 eI) x.ff.pf.d4⟩,⟨T,eB x.ff.kh⟩,⟨T,eI x.ff.d7.kq⟩,⟨T,EQ x.ff.d7.fu⟩,⟨T,(eL 1 eI) x.ff.d7.Map.d3⟩,⟨T,(eL 1 eI) x.ff.d7.Map.d4⟩,⟨T,(eL 1 eI) x.ff.d7.ea.d5.d3⟩,⟨T,(eL 3 Bt) x.ff.d7.ea.d5.d4⟩,⟨T,(eL 4 E8) x.ff.d7.ea.ek⟩,⟨T,eI x.ff.d7.ea.fd⟩,⟨T,(eL 5 Ff) x.ff.d7.ea.kl⟩,⟨T,(eL 1 eI) x.og.d6.d3⟩,⟨T,(eL 1 eI) x.og.d6.d4⟩,⟨T,(eL 1 eI) x.og.fd⟩,⟨T,(eL 1 eI) x.j4.d5.d3⟩,⟨T,(eL 3 Bt) x.j4.d5.d4⟩,⟨T,(eL 1 (eL 1 eI)) x.j4.ej⟩,⟨X,(eL 1 eI) x.hV.d5.d3⟩,⟨X,(eL 3 Bt) x.hV.d5.d4⟩,⟨X,.xn (List.map (eL 1 eI) x.hV.ej)⟩,⟨T,(eL 1 eI) x.p0.d3⟩,⟨T,(eL 1 eI) x.p0.d4⟩,⟨T,(eL 1 eI) x.wl.d3⟩,⟨T,(eL 1 eI) x.wl.d4⟩]
structure kp where
 ln:ByteArray
 Low:Int
 Aaf:Int
 sr:List ByteArray
 deriving DecidableEq
def JI(x:kp):TV:=.agg [eS x.ln,eI x.Low,eI x.Aaf,(eL 1 eS) x.sr]
structure BO where
 ln:ByteArray
 wm:Int
 qo:Bool
 r0:List kp
 deriving DecidableEq
def H5(x:BO):TV:=.agg [eS x.ln,eI x.wm,eB x.qo,(eL 4 JI) x.r0]
structure Cf where
 ln:ByteArray
 ke:Int
 To:Int
 AaU:Int
 AaD:Int
 Abj:Int
 AaV:Int
 deriving DecidableEq
def JJ(x:Cf):TV:=.agg [eS x.ln,eI x.ke,eI x.To,eI x.AaU,eI x.AaD,eI x.Abj,eI x.AaV]
structure AC where
 d3:List BO
 d4:List Cf
 deriving DecidableEq
def AL(x:AC):TV:=.agg [(eL 4 H5) x.d3,(eL 7 JJ) x.d4]
structure An where
 t:AC
 p:d5
 g:d5
 gl:d6
 fq:Bool
 sx:Int
 Aav:List d6
 deriving DecidableEq
def Uo(x:An):TV:=.agg [(eL 4 H5) x.t.d3,(eL 7 JJ) x.t.d4,(eL 1 eI) x.p.d3,(eL 3 Bt) x.p.d4,(eL 1 eI) x.g.d3,(eL 3 Bt) x.g.d4,(eL 1 eI) x.gl.d3,(eL 1 eI) x.gl.d4,eB x.fq,eI x.sx,(eL 2 Au) x.Aav]
def B4(x:An):List AR:=[⟨T,(eL 4 H5) x.t.d3⟩,⟨T,(eL 7 JJ) x.t.d4⟩,⟨T,(eL 1 eI) x.p.d3⟩,⟨T,(eL 3 Bt) x.p.d4⟩,⟨T,(eL 1 eI) x.g.d3⟩,⟨T,(eL 3 Bt) x.g.d4⟩,⟨T,(eL 1 eI) x.gl.d3⟩,⟨T,(eL 1 eI) x.gl.d4⟩,⟨T,eB x.fq⟩,⟨T,eI x.sx⟩,⟨X,(eL 2 Au) x.Aav⟩]
structure Pu where
 d3:Option Fp
 d4:Option Fp
 deriving DecidableEq
def sg(x:Pu):TV:=.agg [(eO 1 eI) x.d3,(eO 1 eI) x.d4]
def Pu.of(m:d6):Pu:=⟨some m.d3,some m.d4⟩
instance:Coe d6 Pu:=⟨Pu.of⟩
structure AM where
 p:d5
 g:d5
 is:List a6
 gl:Pu
 fq:Bool
 sx:Int
 ec:Fp
 eh:Fp
 out:List d6
 deriving DecidableEq
def TX(x:AM):TV:=.agg [(eL 1 eI) x.p.d3,(eL 3 Bt) x.p.d4,(eL 1 eI) x.g.d3,(eL 3 Bt) x.g.d4,(eL 1 (eL 1 eB)) x.is,(eO 1 eI) x.gl.d3,(eO 1 eI) x.gl.d4,eB x.fq,eI x.sx,(eL 1 eI) x.ec,(eL 1 eI) x.eh,(eL 2 Au) x.out]
def C4(x:AM):List AR:=[⟨T,(eL 1 eI) x.p.d3⟩,⟨T,(eL 3 Bt) x.p.d4⟩,⟨T,(eL 1 eI) x.g.d3⟩,⟨T,(eL 3 Bt) x.g.d4⟩,⟨T,(eL 1 (eL 1 eB)) x.is⟩,⟨T,(eO 1 eI) x.gl.d3⟩,⟨T,(eO 1 eI) x.gl.d4⟩,⟨T,eB x.fq⟩,⟨T,eI x.sx⟩,⟨X,.xl 1 (List.map eI x.ec)⟩,⟨X,.xl 1 (List.map eI x.eh)⟩,⟨X,(eL 2 Au) x.out⟩]
structure Gq where
 kq:Int
 AbQ:ByteArray
 Line:Int
 deriving DecidableEq
def X3(x:Gq):TV:=.agg [eI x.kq,eS x.AbQ,eI x.Line]
structure Cx where
 l:d5
 g:d5
 fl:BE
 m:d6
 deriving DecidableEq
def JK(x:Cx):TV:=.agg [(eL 1 eI) x.l.d3,(eL 3 Bt) x.l.d4,(eL 1 eI) x.g.d3,(eL 3 Bt) x.g.d4,(eL 1 eI) x.fl.d3,(eL 1 eI) x.fl.d4,(eL 1 eI) x.m.d3,(eL 1 eI) x.m.d4]
structure Jk where
 A:Int
 B:Int
 deriving DecidableEq
def Sd(x:Jk):TV:=.agg [eI x.A,eI x.B]
structure BY where
 t:AC
 h:AG
 fq:Bool
 deriving DecidableEq
def Ch(x:BY):TV:=.agg [(eL 4 H5) x.t.d3,(eL 7 JJ) x.t.d4,(eL 1 eI) x.h.d5.d3,(eL 3 Bt) x.h.d5.d4,(eL 1 (eL 1 eI)) x.h.ej,eB x.fq]
structure BA where
 Aaw:Int
 og:AP
 fu:List BA
mutual
def iU:BA->TV
 |⟨y0,y1,y2⟩=>.agg [eI y0,(eL 1 eI) y1.d6.d3,(eL 1 eI) y1.d6.d4,(eL 1 eI) y1.fd,.list 5 (P1 y2)]
def P1:List BA->Fq
 |[]=>[]|c::cs=>iU c::P1 cs
end
def Iw(l:List BA):TV:=.list 5 (P1 l)
def Ez(x:BA):TV:=.agg [eI x.Aaw,(eL 1 eI) x.og.d6.d3,(eL 1 eI) x.og.d6.d4,(eL 1 eI) x.og.fd,Iw x.fu]
theorem kG(x:BA):iU x=Ez x:=by
 cases x;rfl
theorem T4:∀l:List BA,P1 l=l.map Ez
 |[]=>rfl|x::l=>by rw[P1,kG,T4 l];rfl
theorem gc(l:List BA):Iw l=.list 5 (l.map Ez):=by rw[Iw,T4]
structure Ft where
 ff:Int
 og:AP
 deriving DecidableEq
def M7(x:Ft):TV:=.agg [eI x.ff,(eL 1 eI) x.og.d6.d3,(eL 1 eI) x.og.d6.d4,(eL 1 eI) x.og.fd]
structure CA where
 l4:AG
 mo:List Ft
 deriving DecidableEq
def QO(x:CA):TV:=.agg [(eL 1 eI) x.l4.d5.d3,(eL 3 Bt) x.l4.d5.d4,(eL 1 (eL 1 eI)) x.l4.ej,(eL 4 M7) x.mo]
structure Aw where
 d:CA
 AaK:AG
 f0:d6
 deriving DecidableEq
def CJ(x:Aw):TV:=.agg [(eL 1 eI) x.d.l4.d5.d3,(eL 3 Bt) x.d.l4.d5.d4,(eL 1 (eL 1 eI)) x.d.l4.ej,(eL 4 M7) x.d.mo,(eL 1 eI) x.AaK.d5.d3,(eL 3 Bt) x.AaK.d5.d4,(eL 1 (eL 1 eI)) x.AaK.ej,(eL 1 eI) x.f0.d3,(eL 1 eI) x.f0.d4]
structure Aaa where
 gp:CA
 ei:CA
 Iso:d6
 deriving DecidableEq
def V7(x:Aaa):TV:=.agg [(eL 1 eI) x.gp.l4.d5.d3,(eL 3 Bt) x.gp.l4.d5.d4,(eL 1 (eL 1 eI)) x.gp.l4.ej,(eL 4 M7) x.gp.mo,(eL 1 eI) x.ei.l4.d5.d3,(eL 3 Bt) x.ei.l4.d5.d4,(eL 1 (eL 1 eI)) x.ei.l4.ej,(eL 4 M7) x.ei.mo,(eL 1 eI) x.Iso.d3,(eL 1 eI) x.Iso.d4]
structure Lj where
 a0:Int
 a1:Int
 deriving DecidableEq
def Kx(x:Lj):TV:=.agg [Eb x.a0,Eb x.a1]
structure KC where
 a0:Int
 a1:Int
 a2:Int
 deriving DecidableEq
def DB(x:KC):TV:=.agg [Eb x.a0,Eb x.a1,Eb x.a2]
structure Nv where
 d3:Fp
 d4:List KC
 deriving DecidableEq
def VD(x:Nv):TV:=.agg [(eL 1 Eb) x.d3,(eL 3 DB) x.d4]
structure TN where
 a0:Int
 a1:Int
 a2:Int
 a3:Int
 deriving DecidableEq
def OV(x:TN):TV:=.agg [mW x.a0,mW x.a1,mW x.a2,mW x.a3]
structure Kl where
 a0:Int
 a1:Int
 deriving DecidableEq
def Zv(x:Kl):TV:=.agg [eI x.a0,eI x.a1]
structure Nz where
 d5:Nv
 ek:List KC
 kl:List TN
 deriving DecidableEq
def VF(x:Nz):TV:=.agg [(eL 1 Eb) x.d5.d3,(eL 3 DB) x.d5.d4,(eL 3 DB) x.ek,(eL 4 OV) x.kl]
structure V1 where
 a0:Int
 a1:Int
 a2:Int
 a3:Int
 deriving DecidableEq
def dZ(x:V1):TV:=.agg [Eb x.a0,Eb x.a1,Eb x.a2,Eb x.a3]
structure Fo where
 gp:Nz
 pr:Int
 d3:Fp
 d4:List KC
 ek:List KC
 Plain:Bool
 kh:Bool
 Aah:V1
 Abv:Fp
 deriving DecidableEq
def KJ(x:Fo):TV:=.agg [(eL 1 Eb) x.gp.d5.d3,(eL 3 DB) x.gp.d5.d4,(eL 3 DB) x.gp.ek,(eL 4 OV) x.gp.kl,IU x.pr,(eL 1 Eb) x.d3,(eL 3 DB) x.d4,(eL 3 DB) x.ek,eB x.Plain,eB x.kh,Eb x.Aah.a0,Eb x.Aah.a1,Eb x.Aah.a2,Eb x.Aah.a3,(eL 1 Eb) x.Abv]
structure Nx where
 d3:List Lj
 d4:List KC
 deriving DecidableEq
def VE(x:Nx):TV:=.agg [(eL 2 Kx) x.d3,(eL 3 DB) x.d4]
structure G6 where
 d3:List Lj
 d4:List Lj
 A:Fo
 B:Fo
 H:Nx
 deriving DecidableEq
def Ix(x:G6):TV:=.agg [(eL 2 Kx) x.d3,(eL 2 Kx) x.d4,(eL 1 Eb) x.A.gp.d5.d3,(eL 3 DB) x.A.gp.d5.d4,(eL 3 DB) x.A.gp.ek,(eL 4 OV) x.A.gp.kl,IU x.A.pr,(eL 1 Eb) x.A.d3,(eL 3 DB) x.A.d4,(eL 3 DB) x.A.ek,eB x.A.Plain,eB x.A.kh,Eb x.A.Aah.a0,Eb x.A.Aah.a1,Eb x.A.Aah.a2,Eb x.A.Aah.a3,(eL 1 Eb) x.A.Abv,(eL 1 Eb) x.B.gp.d5.d3,(eL 3 DB) x.B.gp.d5.d4,(eL 3 DB) x.B.gp.ek,(eL 4 OV) x.B.gp.kl,IU x.B.pr,(eL 1 Eb) x.B.d3,(eL 3 DB) x.B.d4,(eL 3 DB) x.B.ek,eB x.B.Plain,eB x.B.kh,Eb x.B.Aah.a0,Eb x.B.Aah.a1,Eb x.B.Aah.a2,Eb x.B.Aah.a3,(eL 1 Eb) x.B.Abv,(eL 2 Kx) x.H.d3,(eL 3 DB) x.H.d4]
abbrev lI:Fp->TV:=eL 1 eI
abbrev lE:List Bk->TV:=eL 3 Bt
abbrev lS:List By->TV:=eL 4 E8
abbrev lT:List Test->TV:=eL 5 Ff
abbrev lN:List BO->TV:=eL 4 H5
abbrev lX:List Cf->TV:=eL 7 JJ
abbrev lA:List kp->TV:=eL 4 JI
abbrev lB:List ByteArray->TV:=eL 1 eS
theorem pY(a b:Bk):B7 (TV.cells (Bt a)) (TV.cells (Bt b))=some (decide (a=b)):=by
 rcases a with⟨a0,a1,a2⟩;rcases b with⟨b0,b1,b2⟩;simp[Bt,TV.cells,B7,eI,Bool.and_assoc,Bk.mk.injEq]
theorem pZ(a b:By):B7 (TV.cells (E8 a)) (TV.cells (E8 b))=some (decide (a=b)):=by
 rcases a with⟨a0,a1,⟨a20,a21⟩⟩;rcases b with⟨b0,b1,⟨b20,b21⟩⟩;simp[E8,TV.cells,B7,eI,Bool.and_assoc,By.mk.injEq,gt.mk.injEq]
theorem ph(a b:Test):B7 (TV.cells (Ff a)) (TV.cells (Ff b))=some (decide (a=b)):=by
 rcases a with⟨a0,⟨a10,a11⟩,⟨a20,a21⟩⟩;rcases b with⟨b0,⟨b10,b11⟩,⟨b20,b21⟩⟩;simp[Ff,TV.cells,B7,eI,Bool.and_assoc,gt.mk.injEq,Test.mk.injEq]
end Go.Sf.Sc
