/- The types of the program as Lean types. -/
import Derived.Test.YthcncnllajfkfaaGreatSfK
import Derived.Test.YthcncnllajfkfaaGreatSfStep
import Derived.Test.YthcncnllajfkfaaGreatProg
set_option linter.all false
set_option maxRecDepth 100000
open Bool renaming true->X,false->T
namespace Go.Sf.Sc
open Go Go.Sf Go.Proofs.Tryz
def eI(n:Int):TV:=.int .i64 n
def Eo(n:Int):TV:=.int .u8 n
def Ih(n:Int):TV:=.int .u64 n
def ACy(n:Int):TV:=.int .i32 n
def AC0(n:Int):TV:=.int .u32 n
def mr(n:Int):TV:=.int .i8 n
def ACx(n:Int):TV:=.int .i16 n
def ACz(n:Int):TV:=.int .u16 n
def eB(b:Bool):TV:=.bool b
def eS(s:ByteArray):TV:=.str s
def eL{α:Type}(n:Nat)(e:α->TV)(l:List α):TV:=.list n (l.map e)
theorem Tryz_follows:Go.Proofs.Tryz.prog.follows .mixedOrders=X:=c!
structure Bx where
 kg:Int
 ke:Int
 To:Int
 deriving DecidableEq
def B5(x:Bx):TV:=.agg [eI x.kg,eI x.ke,eI x.To]
structure d5 where
 d3:Fp
 d4:List Bx
 deriving DecidableEq
def A2(x:d5):TV:=.agg [(eL 1 eI) x.d3,(eL 3 B5) x.d4]
structure AG where
 d5:d5
 ej:List Fp
 deriving DecidableEq
def Bg(x:AG):TV:=.agg [(eL 1 eI) x.d5.d3,(eL 3 B5) x.d5.d4,(eL 1 (eL 1 eI)) x.ej]
structure d6 where
 d3:Fp
 d4:Fp
 deriving DecidableEq
def A6(x:d6):TV:=.agg [(eL 1 eI) x.d3,(eL 1 eI) x.d4]
structure Bc where
 a:AG
 b:AG
 ec:Fp
 eh:Fp
 m:d6
 deriving DecidableEq
def kU(x:Bc):TV:=.agg [(eL 1 eI) x.a.d5.d3,(eL 3 B5) x.a.d5.d4,(eL 1 (eL 1 eI)) x.a.ej,(eL 1 eI) x.b.d5.d3,(eL 3 B5) x.b.d5.d4,(eL 1 (eL 1 eI)) x.b.ej,(eL 1 eI) x.ec,(eL 1 eI) x.eh,(eL 1 eI) x.m.d3,(eL 1 eI) x.m.d4]
def Cr(x:Bc):List AR:=[⟨T,(eL 1 eI) x.a.d5.d3⟩,⟨T,(eL 3 B5) x.a.d5.d4⟩,⟨T,(eL 1 (eL 1 eI)) x.a.ej⟩,⟨T,(eL 1 eI) x.b.d5.d3⟩,⟨T,(eL 3 B5) x.b.d5.d4⟩,⟨T,(eL 1 (eL 1 eI)) x.b.ej⟩,⟨T,(eL 1 eI) x.ec⟩,⟨T,(eL 1 eI) x.eh⟩,⟨X,.xl 1 (List.map eI x.m.d3)⟩,⟨X,.xl 1 (List.map eI x.m.d4)⟩]
structure gt where
 Var:Int
 Add:Int
 deriving DecidableEq
def Su(x:gt):TV:=.agg [eI x.Var,eI x.Add]
structure CA where
 po:Int
 kp:Int
 gt:gt
 deriving DecidableEq
def FL(x:CA):TV:=.agg [eI x.po,eI x.kp,eI x.gt.Var,eI x.gt.Add]
structure Test where
 kq:Int
 gp:gt
 ei:gt
 deriving DecidableEq
def F1(x:Test):TV:=.agg [eI x.kq,eI x.gp.Var,eI x.gp.Add,eI x.ei.Var,eI x.ei.Add]
structure ea where
 d5:d5
 ek:List CA
 fd:Int
 kl:List Test
 deriving DecidableEq
def BQ(x:ea):TV:=.agg [(eL 1 eI) x.d5.d3,(eL 3 B5) x.d5.d4,(eL 4 FL) x.ek,eI x.fd,(eL 5 F1) x.kl]
structure BR where
 d3:Fp
 d4:Fp
 deriving DecidableEq
def Hc(x:BR):TV:=.agg [(eL 1 eI) x.d3,(eL 1 eI) x.d4]
structure d7 where
 kq:Int
 fu:List d7
 Map:d6
 ea:ea
mutual
def Wp:d7->TV
 |⟨y0,y1,y2,y3⟩=>.agg [eI y0,.list 9 (KV y1),(eL 1 eI) y2.d3,(eL 1 eI) y2.d4,(eL 1 eI) y3.d5.d3,(eL 3 B5) y3.d5.d4,(eL 4 FL) y3.ek,eI y3.fd,(eL 5 F1) y3.kl]
def KV:List d7->Fq
 |[]=>[]|c::cs=>Wp c::KV cs
end
def Ed(l:List d7):TV:=.list 9 (KV l)
def AI(x:d7):TV:=.agg [eI x.kq,Ed x.fu,(eL 1 eI) x.Map.d3,(eL 1 eI) x.Map.d4,(eL 1 eI) x.ea.d5.d3,(eL 3 B5) x.ea.d5.d4,(eL 4 FL) x.ea.ek,eI x.ea.fd,(eL 5 F1) x.ea.kl]
theorem ZM(x:d7):Wp x=AI x:=by
 cases x;rfl
theorem NJ:∀l:List d7,KV l=l.map AI
 |[]=>rfl|x::l=>by rw[KV,ZM,NJ l];rfl
theorem Ss(l:List d7):Ed l=.list 9 (l.map AI):=by rw[Ed,NJ]
structure ff where
 ln:ByteArray
 gp:ea
 ei:ea
 pr:BR
 pf:d6
 kh:Bool
 d7:d7
def CB(x:ff):TV:=.agg [eS x.ln,(eL 1 eI) x.gp.d5.d3,(eL 3 B5) x.gp.d5.d4,(eL 4 FL) x.gp.ek,eI x.gp.fd,(eL 5 F1) x.gp.kl,(eL 1 eI) x.ei.d5.d3,(eL 3 B5) x.ei.d5.d4,(eL 4 FL) x.ei.ek,eI x.ei.fd,(eL 5 F1) x.ei.kl,(eL 1 eI) x.pr.d3,(eL 1 eI) x.pr.d4,(eL 1 eI) x.pf.d3,(eL 1 eI) x.pf.d4,eB x.kh,eI x.d7.kq,Ed x.d7.fu,(eL 1 eI) x.d7.Map.d3,(eL 1 eI) x.d7.Map.d4,(eL 1 eI) x.d7.ea.d5.d3,(eL 3 B5) x.d7.ea.d5.d4,(eL 4 FL) x.d7.ea.ek,eI x.d7.ea.fd,(eL 5 F1) x.d7.ea.kl]
structure AP where
 d6:d6
 fd:Fp
 deriving DecidableEq
def Bo(x:AP):TV:=.agg [(eL 1 eI) x.d6.d3,(eL 1 eI) x.d6.d4,(eL 1 eI) x.fd]
structure AU where
 ff:ff
 og:AP
 j4:AG
 hV:AG
 p0:d6
 wm:d6
def DW(x:AU):TV:=.agg [eS x.ff.ln,(eL 1 eI) x.ff.gp.d5.d3,(eL 3 B5) x.ff.gp.d5.d4,(eL 4 FL) x.ff.gp.ek,eI x.ff.gp.fd,(eL 5 F1) x.ff.gp.kl,(eL 1 eI) x.ff.ei.d5.d3,(eL 3 B5) x.ff.ei.d5.d4,(eL 4 FL) x.ff.ei.ek,eI x.ff.ei.fd,(eL 5 F1) x.ff.ei.kl,(eL 1 eI) x.ff.pr.d3,(eL 1 eI) x.ff.pr.d4,(eL 1 eI) x.ff.pf.d3,(eL 1 eI) x.ff.pf.d4,eB x.ff.kh,eI x.ff.d7.kq,Ed x.ff.d7.fu,(eL 1 eI) x.ff.d7.Map.d3,(eL 1 eI) x.ff.d7.Map.d4,(eL 1 eI) x.ff.d7.ea.d5.d3,(eL 3 B5) x.ff.d7.ea.d5.d4,(eL 4 FL) x.ff.d7.ea.ek,eI x.ff.d7.ea.fd,(eL 5 F1) x.ff.d7.ea.kl,(eL 1 eI) x.og.d6.d3,(eL 1 eI) x.og.d6.d4,(eL 1 eI) x.og.fd,(eL 1 eI) x.j4.d5.d3,(eL 3 B5) x.j4.d5.d4,(eL 1 (eL 1 eI)) x.j4.ej,(eL 1 eI) x.hV.d5.d3,(eL 3 B5) x.hV.d5.d4,(eL 1 (eL 1 eI)) x.hV.ej,(eL 1 eI) x.p0.d3,(eL 1 eI) x.p0.d4,(eL 1 eI) x.wm.d3,(eL 1 eI) x.wm.d4]
def D5(x:AU):List AR:=[⟨T,eS x.ff.ln⟩,⟨T,(eL 1 eI) x.ff.gp.d5.d3⟩,⟨T,(eL 3 B5) x.ff.gp.d5.d4⟩,⟨T,(eL 4 FL) x.ff.gp.ek⟩,⟨T,eI x.ff.gp.fd⟩,⟨T,(eL 5 F1) x.ff.gp.kl⟩,⟨T,(eL 1 eI) x.ff.ei.d5.d3⟩,⟨T,(eL 3 B5) x.ff.ei.d5.d4⟩,⟨T,(eL 4 FL) x.ff.ei.ek⟩,⟨T,eI x.ff.ei.fd⟩,⟨T,(eL 5 F1) x.ff.ei.kl⟩,⟨T,(eL 1 eI) x.ff.pr.d3⟩,⟨T,(eL 1 eI) x.ff.pr.d4⟩,⟨T,(eL 1 eI) x.ff.pf.d3⟩,⟨T,(eL 1 eI) x.ff.pf.d4⟩,⟨T,eB x.ff.kh⟩,⟨T,eI x.ff.d7.kq⟩,⟨T,Ed x.ff.d7.fu⟩,⟨T,(eL 1 eI) x.ff.d7.Map.d3⟩,⟨T,(eL 1 eI) x.ff.d7.Map.d4⟩,⟨T,(eL 1 eI) x.ff.d7.ea.d5.d3⟩,⟨T,(eL 3 B5) x.ff.d7.ea.d5.d4⟩,⟨T,(eL 4 FL) x.ff.d7.ea.ek⟩,⟨T,eI x.ff.d7.ea.fd⟩,⟨T,(eL 5 F1) x.ff.d7.ea.kl⟩,⟨T,(eL 1 eI) x.og.d6.d3⟩,⟨T,(eL 1 eI) x.og.d6.d4⟩,⟨T,(eL 1 eI) x.og.fd⟩,⟨T,(eL 1 eI) x.j4.d5.d3⟩,⟨T,(eL 3 B5) x.j4.d5.d4⟩,⟨T,(eL 1 (eL 1 eI)) x.j4.ej⟩,⟨X,(eL 1 eI) x.hV.d5.d3⟩,⟨X,(eL 3 B5) x.hV.d5.d4⟩,⟨X,.xn (List.map (eL 1 eI) x.hV.ej)⟩,⟨T,(eL 1 eI) x.p0.d3⟩,⟨T,(eL 1 eI) x.p0.d4⟩,⟨T,(eL 1 eI) x.wm.d3⟩,⟨T,(eL 1 eI) x.wm.d4⟩]
structure kp where
 ln:ByteArray
 Low:Int
 Aaf:Int
 sr:List ByteArray
 deriving DecidableEq
def JU(x:kp):TV:=.agg [eS x.ln,eI x.Low,eI x.Aaf,(eL 1 eS) x.sr]
structure Ba where
 ln:ByteArray
 wl:Int
 sc:Bool
 qo:List kp
 deriving DecidableEq
def IH(x:Ba):TV:=.agg [eS x.ln,eI x.wl,eB x.sc,(eL 4 JU) x.qo]
structure Cs where
 ln:ByteArray
 ke:Int
 To:Int
 AaS:Int
 AaD:Int
 Abn:Int
 AaU:Int
 deriving DecidableEq
def JV(x:Cs):TV:=.agg [eS x.ln,eI x.ke,eI x.To,eI x.AaS,eI x.AaD,eI x.Abn,eI x.AaU]
structure AC where
 d3:List Ba
 d4:List Cs
 deriving DecidableEq
def AL(x:AC):TV:=.agg [(eL 4 IH) x.d3,(eL 7 JV) x.d4]
structure Az where
 t:AC
 p:d5
 g:d5
 gl:d6
 fq:Bool
 sx:Int
 Aau:List d6
 deriving DecidableEq
def U0(x:Az):TV:=.agg [(eL 4 IH) x.t.d3,(eL 7 JV) x.t.d4,(eL 1 eI) x.p.d3,(eL 3 B5) x.p.d4,(eL 1 eI) x.g.d3,(eL 3 B5) x.g.d4,(eL 1 eI) x.gl.d3,(eL 1 eI) x.gl.d4,eB x.fq,eI x.sx,(eL 2 A6) x.Aau]
def CG(x:Az):List AR:=[⟨T,(eL 4 IH) x.t.d3⟩,⟨T,(eL 7 JV) x.t.d4⟩,⟨T,(eL 1 eI) x.p.d3⟩,⟨T,(eL 3 B5) x.p.d4⟩,⟨T,(eL 1 eI) x.g.d3⟩,⟨T,(eL 3 B5) x.g.d4⟩,⟨T,(eL 1 eI) x.gl.d3⟩,⟨T,(eL 1 eI) x.gl.d4⟩,⟨T,eB x.fq⟩,⟨T,eI x.sx⟩,⟨X,(eL 2 A6) x.Aau⟩]
structure P6 where
 d3:Option Fp
 d4:Option Fp
 deriving DecidableEq
def tB(x:P6):TV:=.agg [(eO 1 eI) x.d3,(eO 1 eI) x.d4]
def P6.of(m:d6):P6:=⟨some m.d3,some m.d4⟩
instance:Coe d6 P6:=⟨P6.of⟩
structure AM where
 p:d5
 g:d5
 is:List a6
 gl:P6
 fq:Bool
 sx:Int
 ec:Fp
 eh:Fp
 out:List d6
 deriving DecidableEq
def Tj(x:AM):TV:=.agg [(eL 1 eI) x.p.d3,(eL 3 B5) x.p.d4,(eL 1 eI) x.g.d3,(eL 3 B5) x.g.d4,(eL 1 (eL 1 eB)) x.is,(eO 1 eI) x.gl.d3,(eO 1 eI) x.gl.d4,eB x.fq,eI x.sx,(eL 1 eI) x.ec,(eL 1 eI) x.eh,(eL 2 A6) x.out]
def DG(x:AM):List AR:=[⟨T,(eL 1 eI) x.p.d3⟩,⟨T,(eL 3 B5) x.p.d4⟩,⟨T,(eL 1 eI) x.g.d3⟩,⟨T,(eL 3 B5) x.g.d4⟩,⟨T,(eL 1 (eL 1 eB)) x.is⟩,⟨T,(eO 1 eI) x.gl.d3⟩,⟨T,(eO 1 eI) x.gl.d4⟩,⟨T,eB x.fq⟩,⟨T,eI x.sx⟩,⟨X,.xl 1 (List.map eI x.ec)⟩,⟨X,.xl 1 (List.map eI x.eh)⟩,⟨X,(eL 2 A6) x.out⟩]
structure G3 where
 kq:Int
 AbR:ByteArray
 Line:Int
 deriving DecidableEq
def YF(x:G3):TV:=.agg [eI x.kq,eS x.AbR,eI x.Line]
structure C9 where
 l:d5
 g:d5
 fl:BR
 m:d6
 deriving DecidableEq
def JW(x:C9):TV:=.agg [(eL 1 eI) x.l.d3,(eL 3 B5) x.l.d4,(eL 1 eI) x.g.d3,(eL 3 B5) x.g.d4,(eL 1 eI) x.fl.d3,(eL 1 eI) x.fl.d4,(eL 1 eI) x.m.d3,(eL 1 eI) x.m.d4]
structure Jw where
 A:Int
 B:Int
 deriving DecidableEq
def St(x:Jw):TV:=.agg [eI x.A,eI x.B]
structure Bm where
 t:AC
 h:AG
 fq:Bool
 deriving DecidableEq
def Cv(x:Bm):TV:=.agg [(eL 4 IH) x.t.d3,(eL 7 JV) x.t.d4,(eL 1 eI) x.h.d5.d3,(eL 3 B5) x.h.d5.d4,(eL 1 (eL 1 eI)) x.h.ej,eB x.fq]
structure BN where
 Aaw:Int
 og:AP
 fu:List BN
mutual
def im:BN->TV
 |⟨y0,y1,y2⟩=>.agg [eI y0,(eL 1 eI) y1.d6.d3,(eL 1 eI) y1.d6.d4,(eL 1 eI) y1.fd,.list 5 (QD y2)]
def QD:List BN->Fq
 |[]=>[]|c::cs=>im c::QD cs
end
def I8(l:List BN):TV:=.list 5 (QD l)
def FB(x:BN):TV:=.agg [eI x.Aaw,(eL 1 eI) x.og.d6.d3,(eL 1 eI) x.og.d6.d4,(eL 1 eI) x.og.fd,I8 x.fu]
theorem kS(x:BN):im x=FB x:=by
 cases x;rfl
theorem UG:∀l:List BN,QD l=l.map FB
 |[]=>rfl|x::l=>by rw[QD,kS,UG l];rfl
theorem g6(l:List BN):I8 l=.list 5 (l.map FB):=by rw[I8,UG]
structure F7 where
 ff:Int
 og:AP
 deriving DecidableEq
def NM(x:F7):TV:=.agg [eI x.ff,(eL 1 eI) x.og.d6.d3,(eL 1 eI) x.og.d6.d4,(eL 1 eI) x.og.fd]
structure CN where
 l4:AG
 mo:List F7
 deriving DecidableEq
def Qb(x:CN):TV:=.agg [(eL 1 eI) x.l4.d5.d3,(eL 3 B5) x.l4.d5.d4,(eL 1 (eL 1 eI)) x.l4.ej,(eL 4 NM) x.mo]
structure A8 where
 d:CN
 AaJ:AG
 f0:d6
 deriving DecidableEq
def CY(x:A8):TV:=.agg [(eL 1 eI) x.d.l4.d5.d3,(eL 3 B5) x.d.l4.d5.d4,(eL 1 (eL 1 eI)) x.d.l4.ej,(eL 4 NM) x.d.mo,(eL 1 eI) x.AaJ.d5.d3,(eL 3 B5) x.AaJ.d5.d4,(eL 1 (eL 1 eI)) x.AaJ.ej,(eL 1 eI) x.f0.d3,(eL 1 eI) x.f0.d4]
structure Aaa where
 gp:CN
 ei:CN
 Iso:d6
 deriving DecidableEq
def WK(x:Aaa):TV:=.agg [(eL 1 eI) x.gp.l4.d5.d3,(eL 3 B5) x.gp.l4.d5.d4,(eL 1 (eL 1 eI)) x.gp.l4.ej,(eL 4 NM) x.gp.mo,(eL 1 eI) x.ei.l4.d5.d3,(eL 3 B5) x.ei.l4.d5.d4,(eL 1 (eL 1 eI)) x.ei.l4.ej,(eL 4 NM) x.ei.mo,(eL 1 eI) x.Iso.d3,(eL 1 eI) x.Iso.d4]
structure Lx where
 a0:Int
 a1:Int
 deriving DecidableEq
def LB(x:Lx):TV:=.agg [Eo x.a0,Eo x.a1]
structure KO where
 a0:Int
 a1:Int
 a2:Int
 deriving DecidableEq
def DN(x:KO):TV:=.agg [Eo x.a0,Eo x.a1,Eo x.a2]
structure N7 where
 d3:Fp
 d4:List KO
 deriving DecidableEq
def VQ(x:N7):TV:=.agg [(eL 1 Eo) x.d3,(eL 3 DN) x.d4]
structure Ta where
 a0:Int
 a1:Int
 a2:Int
 a3:Int
 deriving DecidableEq
def Oh(x:Ta):TV:=.agg [mr x.a0,mr x.a1,mr x.a2,mr x.a3]
structure Ky where
 a0:Int
 a1:Int
 deriving DecidableEq
def Z7(x:Ky):TV:=.agg [eI x.a0,eI x.a1]
structure OB where
 d5:N7
 ek:List KO
 kl:List Ta
 deriving DecidableEq
def VS(x:OB):TV:=.agg [(eL 1 Eo) x.d5.d3,(eL 3 DN) x.d5.d4,(eL 3 DN) x.ek,(eL 4 Oh) x.kl]
structure WD where
 a0:Int
 a1:Int
 a2:Int
 a3:Int
 deriving DecidableEq
def dm(x:WD):TV:=.agg [Eo x.a0,Eo x.a1,Eo x.a2,Eo x.a3]
structure F5 where
 gp:OB
 pr:Int
 d3:Fp
 d4:List KO
 ek:List KO
 Plain:Bool
 kh:Bool
 Aag:WD
 Abw:Fp
 deriving DecidableEq
def KW(x:F5):TV:=.agg [(eL 1 Eo) x.gp.d5.d3,(eL 3 DN) x.gp.d5.d4,(eL 3 DN) x.gp.ek,(eL 4 Oh) x.gp.kl,Ih x.pr,(eL 1 Eo) x.d3,(eL 3 DN) x.d4,(eL 3 DN) x.ek,eB x.Plain,eB x.kh,Eo x.Aag.a0,Eo x.Aag.a1,Eo x.Aag.a2,Eo x.Aag.a3,(eL 1 Eo) x.Abw]
structure N9 where
 d3:List Lx
 d4:List KO
 deriving DecidableEq
def VR(x:N9):TV:=.agg [(eL 2 LB) x.d3,(eL 3 DN) x.d4]
structure HM where
 d3:List Lx
 d4:List Lx
 A:F5
 B:F5
 H:N9
 deriving DecidableEq
def I9(x:HM):TV:=.agg [(eL 2 LB) x.d3,(eL 2 LB) x.d4,(eL 1 Eo) x.A.gp.d5.d3,(eL 3 DN) x.A.gp.d5.d4,(eL 3 DN) x.A.gp.ek,(eL 4 Oh) x.A.gp.kl,Ih x.A.pr,(eL 1 Eo) x.A.d3,(eL 3 DN) x.A.d4,(eL 3 DN) x.A.ek,eB x.A.Plain,eB x.A.kh,Eo x.A.Aag.a0,Eo x.A.Aag.a1,Eo x.A.Aag.a2,Eo x.A.Aag.a3,(eL 1 Eo) x.A.Abw,(eL 1 Eo) x.B.gp.d5.d3,(eL 3 DN) x.B.gp.d5.d4,(eL 3 DN) x.B.gp.ek,(eL 4 Oh) x.B.gp.kl,Ih x.B.pr,(eL 1 Eo) x.B.d3,(eL 3 DN) x.B.d4,(eL 3 DN) x.B.ek,eB x.B.Plain,eB x.B.kh,Eo x.B.Aag.a0,Eo x.B.Aag.a1,Eo x.B.Aag.a2,Eo x.B.Aag.a3,(eL 1 Eo) x.B.Abw,(eL 2 LB) x.H.d3,(eL 3 DN) x.H.d4]
abbrev lI:Fp->TV:=eL 1 eI
abbrev lE:List Bx->TV:=eL 3 B5
abbrev lS:List CA->TV:=eL 4 FL
abbrev lT:List Test->TV:=eL 5 F1
abbrev lN:List Ba->TV:=eL 4 IH
abbrev lX:List Cs->TV:=eL 7 JV
abbrev lA:List kp->TV:=eL 4 JU
abbrev lB:List ByteArray->TV:=eL 1 eS
theorem p5(a b:Bx):CJ (TV.cells (B5 a)) (TV.cells (B5 b))=some (decide (a=b)):=by
 rcases a with⟨a0,a1,a2⟩;rcases b with⟨b0,b1,b2⟩;simp[B5,TV.cells,CJ,eI,Bool.and_assoc,Bx.mk.injEq]
theorem p6(a b:CA):CJ (TV.cells (FL a)) (TV.cells (FL b))=some (decide (a=b)):=by
 rcases a with⟨a0,a1,⟨a20,a21⟩⟩;rcases b with⟨b0,b1,⟨b20,b21⟩⟩;simp[FL,TV.cells,CJ,eI,Bool.and_assoc,CA.mk.injEq,gt.mk.injEq]
theorem p7(a b:Test):CJ (TV.cells (F1 a)) (TV.cells (F1 b))=some (decide (a=b)):=by
 rcases a with⟨a0,⟨a10,a11⟩,⟨a20,a21⟩⟩;rcases b with⟨b0,⟨b10,b11⟩,⟨b20,b21⟩⟩;simp[F1,TV.cells,CJ,eI,Bool.and_assoc,gt.mk.injEq,Test.mk.injEq]
end Go.Sf.Sc
